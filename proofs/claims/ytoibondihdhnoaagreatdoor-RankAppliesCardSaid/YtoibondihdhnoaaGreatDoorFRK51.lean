/- Texts in one: Walks: a state is copied. -/
import Derived.Test.YtoibondihdhnoaaGreatDoorFRK9
import Derived.Test.YtoibondihdhnoaaGreatDoorFRK48
import Derived.Test.YtoibondihdhnoaaGreatDoorFRK50
import Derived.Test.YtoibondihdhnoaaGreatDoorFRK21
import Derived.Test.YtoibondihdhnoaaGreatDoorFRK26
namespace Go.Proofs.YtoibondihdhnoaaGreatDoor
open Go.RowKit
set_option maxRecDepth 100000
set_option maxHeartbeats 4000000
def cpT (es:List (List AV)) (tm:Int) (M:Nat→Nat→Prop) (w:World) (i:Nat) (v:Value) (w':World) : Prop:=
 if i=2 then ∃ b,v = .slice (some b) 0 0
 else if i=5 then OwnRow w w' M 148 3 (decide (es=[])) es v
 else if i=6 then ∃ v5,v = .agg #[.slice none 0 0,v5,.int .i64 tm]∧OwnRow w w' M 148 3 (decide (es=[])) es v5
 else ∃ b,v = .pointer (some ⟨b,0,none⟩)∧w.heap.size≤b∧w'.heap[b]? = some (.cells #[.slice none 0 0,.slice none 0 0,.int .i64 0] 32 (0,0))
theorem GV (es:List (List AV)) (tm:Int) (M:Nat→Nat→Prop) (w:World) (i:Nat) (v:Value) (w1 w2:World) (h:cpT es tm M w i v w1) (hb:Below w1.heap.size w1 w2) : cpT es tm M w i v w2:=by
 unfold cpT at h ⊢;split
 ·rename_i h2;rwa [if_pos h2] at h
 rename_i h2;rw [if_neg h2] at h;split
 ·rename_i h5;rw [if_pos h5] at h;exact h.later hb
 rename_i h5;rw [if_neg h5] at h;split
 ·rename_i h6;rw [if_pos h6] at h;obtain ⟨v5,e,h⟩:=h;exact ⟨v5,e,h.later hb⟩
 ·rename_i h6;rw [if_neg h6] at h;obtain ⟨b,e,h1,h3⟩:=h;exact ⟨b,e,h1,(hb.block b (Array.getElem?_eq_some_iff.1 h3).1).trans h3⟩
theorem OwnRow.lits {w w':World} {M M':Nat→Nat→Prop} {e sz:Nat} {nl:Bool} {α:Type} {F:α→List AV} {l:List α} {v:Value} (h:OwnRow w w' M e sz nl (l.map F) v) (hF:∀ x,(F x).length=sz∧∀ c∈F x,∃ u,c = .lit u∧u.oneCell'=true)
  (hM:∀ g cur j,w.heap.size≤g→w'.heap[g]? = some (.cells cur e (0,0))→¬M' g j) : V0 w' M' (.sl sz (l.map F)) v:=by
 unfold OwnRow at h;split at h
 ·obtain ⟨⟨A,rfl⟩,he⟩:=h;rw [he];exact .slNil _ _ _
 ·obtain ⟨g,cap,cur,rfl,h2,h3,h4,h5,h6,h7⟩:=h;by_cases au:l.map F=[]
  ·rw [au];exact .slNil _ _ _
  ·refine .sl sz _ cap g 0 (fun k j=>cur.getD (k*sz+j) undef) au (Array.getElem?_eq_some_iff.1 h3).1 (fun k j _ _=>hM g cur _ h2 h3) h5 (fun k x hk=>?_) (fun k x j c hk hj=>?_) (fun k j hk hj=>?_) fun k x j c hk hj=>?_
   ·obtain ⟨y,hy,rfl⟩:=dT hk;exact (hF y).1
   ·obtain ⟨y,hy,rfl⟩:=dT hk;obtain ⟨u,rfl,hu⟩:=(hF y).2 c (List.mem_of_getElem? hj);exact hu
   ·rw [cell_of_row w' g _ cur e (0,0) h3,Nat.zero_add];have:(k+1)*sz≤cap*sz:=Nat.mul_le_mul_right _ (by omega);rw [Nat.add_mul] at this;have:k*sz+j < cur.size:=by omega
    simp [this]
   ·obtain ⟨u,hu,hv⟩:=h7 k x j c hk hj;obtain ⟨y,hy,rfl⟩:=dT hk;obtain ⟨u',rfl,_⟩:=(hF y).2 c (List.mem_of_getElem? hj);have:cur.getD (k*sz+j) undef=u:=by simp [hu]
    rw [this,hv.lit_inv];exact .lit _
theorem GW (x:Tk) : (Tk.av x).length=3∧∀ c∈Tk.av x,∃ u,c = .lit u∧u.oneCell'=true:=by
 refine ⟨rfl,fun c hc=>?_⟩;simp only [Tk.av,List.mem_cons,List.not_mem_nil,or_false] at hc;rcases hc with rfl|rfl|rfl<;>exact ⟨_,rfl,rfl⟩
theorem Cx:(n0 31).has 3:=⟨by decide,by decide⟩
def mL (s:St) (k:Nat) : List (List AV):=(bo (s.q.take k)).map fun l=>[AV.sl 1 l]
theorem NH {s:St} {k:Nat} (h:k < s.q.length) : mL s (k+1)=mL s k++[[.sl 1 ((qat s.q k).map bU)]]:=by
 unfold mL bo;rw [lA h,List.map_append,List.map_append,eM h];rfl
theorem NI {s:St} {k:Nat} (h:k≤s.q.length) : (mL s k).length=k:=by
 unfold mL bo;rw [List.length_map,List.length_map,List.length_take];omega
@[go_sem] theorem QG (s:St) : mL s 0=[]:=rfl
theorem NJ (s:St) : mL s s.q.length=(bo s.q).map fun l=>[AV.sl 1 l]:=by
 unfold mL;rw [List.take_length]
theorem NK (s:St) (h:SmallS s) : VC Tryz.prog 53 [da s] (da s):=by
 refine aQ Tryz.func53 rfl (by kernel_rfl) rfl fun M0 w0=>?_;simp only [Tryz.ntmps53,Tryz.results53,aB];repeat' with_reducible apply af
 refine ah [] ?_;repeat' with_reducible first|apply af|apply ae|apply aa|(apply ab;intro X Y;go_simp;apply Y;clear Y X)
 refine GD 8 [] (fun i=>i == 2 || i == 5 || i == 6 || i == 7) ⟨[(11,.agg [aW,.sl 3 (s.tk.map Tk.av),I s.time]),(3,.ref 1 0),(2,.ref 0 0),(1,.vp [hJ s.q,.sl 3 (s.tk.map Tk.av),I s.time]),(0,da s)],[some (.box [aW,aW,I 0]),some (.box [aW,aW,I 0])]⟩ (fun p a w i v w'=>cpT (s.tk.map Tk.av) s.time (Mof M0 [some (.box [aW,aW,I 0])] p) w i v w') (by kernel_rfl) (by kernel_rfl) (fun p a w i v w1 w2 hv hb=>GV _ _ _ _ _ _ _ _ hv hb) ?_;simp only [ax];repeat (first|(refine fb rfl ?_)|((with_reducible refine fc rfl fun X Y=>?_);go_simp;refine Y _ (by go_simp) ?_;clear Y X)|(with_reducible apply fe))
 refine ⟨?_,?_,?_⟩
 ·intro p a w R i o hi hc ho;have x_:i=2∨i=5∨i=6∨i=7:=by simpa [or_assoc] using hc
  rcases x_ with rfl|rfl|rfl|rfl
  all_goals
   simp only [List.getElem?_cons_zero,List.getElem?_cons_succ,Option.some.injEq] at ho;subst ho;refine ⟨rfl,fun a' w' hb cn hold kk=>?_⟩
  ·obtain ⟨us,aC,_⟩:=vJ (P:=Tryz.prog) (w:=w') (M:=fun _ _=>False) (h:=[]) (p:=p) (t:=30) (n:=0) (parts:=[]) (vals:=#[]) (cs:=[]) (ti:=⟨1,1,24,148,3,0,.i64,[],[.slice none 0 0]⟩) rfl (fun i a v h=>by simp at h) (by kernel_rfl);unfold gives;simp only [execOp,Sem.run_bind,List.map_toArray,List.map_nil,aC,Result.andThen_ok,Sem.run_pure];exact ⟨⟨_,rfl⟩,lr _ _⟩
  ·have h7:=kk 2 _ 7 (by decide) rfl rfl rfl (by kernel_rfl);unfold cpT at h7;rw [if_pos rfl] at h7;obtain ⟨b7,e7⟩:=h7;have hy:V1 w' (Mof M0 [some (.box [aW,aW,I 0])] p) [some (.box [aW,aW,I 0])] p (.sl 3 (s.tk.map Tk.av)) (a'.eval (.tmp 9)):=cn 9 (by simp [Oper.looksAt,Op.operands,Call.operands]);have ex:a'.eval (.tmp 7) = .slice (some b7) 0 0:=e7;obtain ⟨d,i0,z,hd,hi,hz,fp,aY⟩:=eS xy;injection aY with q1 q2 q3 q4 q5 q6 q7 q8 q9
   have eT:z.cells.size=3:=by
    rw [←Array.length_toList,←q9];rfl
   obtain ⟨v',w2,hr,de,ho⟩:=GU (P:=Tryz.prog) (ty:=30) (a0:=b7) Tryz.underlying30 hi hz q2.symm eT (by rw [←q3];decide) (by decide) hy.sl_inv (by have:=h.nt;rw [List.length_map];omega);rw [←ex] at hr;unfold gives;simp only [execOp,resolve,invoke,builtin,Sem.run_bind,Sem.run_pure,Result.andThen_ok,List.map_toArray,List.map_cons,List.map_nil,hr];refine ⟨?_,de⟩;unfold cpT;rw [if_neg (by decide),if_pos rfl];exact ho.base hb.size
  ·have h5:=kk 5 _ 10 (by decide) rfl rfl rfl (by kernel_rfl);unfold cpT at h5;rw [if_neg (by decide),if_pos rfl] at h5;have hy:V1 w' (Mof M0 [some (.box [aW,aW,I 0])] p) [some (.box [aW,aW,I 0])] p (I s.time) (a'.eval (.tmp 6)):=cn 6 (by simp [Oper.looksAt,Op.operands]);have e6:a'.eval (.tmp 6) = .int .i64 s.time:=hy.lit_inv;obtain ⟨A,m,c,qX⟩ : ∃ A m c,a'.eval (.tmp 10) = .slice A m c:=by
    unfold OwnRow at h5;split at h5
    ·obtain ⟨⟨A,h5⟩,_⟩:=h5;exact ⟨A,0,0,h5⟩
    ·obtain ⟨g,cap,cur,h5,_⟩:=h5;exact ⟨_,_,_,h5⟩
   have Cy:OwnRow w w' (Mof M0 [some (.box [aW,aW,I 0])] p) 148 3 (decide (s.tk.map Tk.av=[])) (s.tk.map Tk.av) (.slice A m c):=by
    rw [←qX];exact h5
   obtain ⟨u,aC,hu⟩:=BC (P:=Tryz.prog) (w:=w') (M:=fun _ _=>False) (h:=[]) (p:=p) (t:=32) (parts:=[(2,I s.time),(1,.lit (.slice A m c))]) (vals:=#[(2,.int .i64 s.time),(1,.slice A m c)]) (r:=.agg [aW,.lit (.slice A m c),I s.time]) rfl (fun i a v h1 h2=>by
    rcases i with _|_|i
    ·simp at h1 h2;subst h1;subst h2;exact .base _ _ (.lit _)
    ·simp at h1 h2;subst h1;subst h2;exact .base _ _ (.lit _)
    ·simp at h1) (by go_simp)
   have vH:u = .agg #[.slice none 0 0,.slice A m c,.int .i64 s.time]:=by
    have h0:=hu;cases h0 with
    | base _ _ h0=>
     cases h0 with
     | agg _ us hl h1 h2=>
      rcases us with _|⟨u0,_|⟨u1,_|⟨u2,_|⟨_,_⟩⟩⟩⟩
      ·simp at hl
      ·simp at hl
      ·simp at hl
      ·have k0:=(h2 0 _ u0 rfl rfl).lit_inv;have k1:=(h2 1 _ u1 rfl rfl).lit_inv;have k2:=(h2 2 _ u2 rfl rfl).lit_inv;subst k0;subst k1;subst k2;rfl
      ·simp at hl
    | agg _ us hl h1 h2=>
     rcases us with _|⟨u0,_|⟨u1,_|⟨u2,_|⟨_,_⟩⟩⟩⟩
     ·simp at hl
     ·simp at hl
     ·simp at hl
     ·have k0:=(h2 0 _ u0 rfl rfl).lit_inv;have k1:=(h2 1 _ u1 rfl rfl).lit_inv;have k2:=(h2 2 _ u2 rfl rfl).lit_inv;subst k0;subst k1;subst k2;rfl
     ·simp at hl
   unfold gives;simp only [execOp,Sem.run_bind,List.map_toArray,List.map_cons,List.map_nil,e6,qX,aC,Result.andThen_ok,Sem.run_pure];refine ⟨?_,Below.refl _ _⟩;unfold cpT;rw [if_neg (by decide),if_neg (by decide),if_pos rfl,vH];exact ⟨_,rfl,Cy⟩
  ·obtain ⟨z,hz,gM,jF⟩:=oI GX;have Cz:z.cells=#[.slice none 0 0,.slice none 0 0,.int .i64 0]:=by
    apply Array.toList_inj.1;exact hz
   unfold gives;simp only [execOp,Instr.alloc,Sem.run_bind,jF,Result.andThen_ok];simp only [newVar,newRow];refine ⟨?_,lr w' _⟩;unfold cpT;rw [if_neg (by decide),if_neg (by decide),if_neg (by decide)];exact ⟨_,rfl,hb.size,by simp [Cz,-World.alloc_eq]⟩
 ·intro p a w a' w' R hb R' hold hT;have h6:=hT 6 _ 11 (by decide) rfl rfl rfl;have h7:=hT 7 _ 3 (by decide) rfl rfl rfl;unfold cpT at h6 h7;rw [if_neg (by decide),if_neg (by decide),if_pos rfl] at h6;rw [if_neg (by decide),if_neg (by decide),if_neg (by decide)] at h7;obtain ⟨v5,e6,ho⟩:=h6;obtain ⟨b,e7,zg,qn⟩:=h7;have jY:=(kP p 1 b).1;have R1:=R.grow (ob:=.box [aW,aW,I 0]) (b:=b) (d:=3) (av:=.ref 1 0) (v:=.pointer (some ⟨b,0,none⟩)) hb Cx (fun _=>zg) (fun _ _ _ _ _ h=>by cases h)
   ⟨rJ (Nat.le_trans R.below.size zg),_,32,by simp only [List.length_cons,List.length_nil,Nat.zero_add];rw [jY];exact qn,rfl,fun c hc=>by
    simp only [List.mem_cons,List.not_mem_nil,or_false] at hc;rcases hc with rfl|rfl|rfl<;>rfl,fun j c hj=>by
    rcases j with _|_|_|j
    ·simp only [List.getElem?_cons_zero,Option.some.injEq] at hj;subst hj;exact ⟨_,rfl,.base _ _ (.lit _)⟩
    ·simp only [List.getElem?_cons_zero,List.getElem?_cons_succ,Option.some.injEq] at hj;subst hj;exact ⟨_,rfl,.base _ _ (.lit _)⟩
    ·simp only [List.getElem?_cons_zero,List.getElem?_cons_succ,Option.some.injEq] at hj;subst hj;exact ⟨_,rfl,.base _ _ (.lit _)⟩
    ·simp at hj⟩
   (by
    have:=V1.ref (w:=w') (M:=Mof M0 [some (.box [aW,aW,I 0]),some (.box [aW,aW,I 0])] (cM p 1 b)) (h:=[some (.box [aW,aW,I 0]),some (.box [aW,aW,I 0])]) (p:=cM p 1 b) 1 0 (by simp);rwa [jY] at this)
  have R2:=R1.reframe (a':=a') R'.defers R'.size fun i hi=>by
   by_cases h3:i=3
   ·subst h3;rw [lu a 3 _ 3 (R.size.lt Cx),if_pos rfl];exact e7
   ·rw [lu a 3 _ i (R.size.lt Cx),if_neg (Ne.symm h3)];have bV:i=2∨i=1∨i=0:=by
     apply Classical.byContradiction;intro hn;apply hi;simp only [lkp];rw [if_neg (Ne.symm h3),if_neg (by omega),if_neg (by omega),if_neg (by omega)]
    refine hold i fun j q hj hq he=>?_;have CA:j=0∨j=1∨j=2∨j=3∨j=4∨j=5∨j=6∨j=7:=by omega
    rcases CA with rfl|rfl|rfl|rfl|rfl|rfl|rfl|rfl
    all_goals
     simp only [List.getElem?_cons_zero,List.getElem?_cons_succ,Option.some.injEq] at hq;subst hq;simp only [Option.some.injEq] at he;omega
  refine ⟨_,R2.know (d:=11) (r:=.agg [aW,.sl 3 (s.tk.map Tk.av),I s.time]) ?_⟩;rw [e6];refine .base _ _ (.agg _ [.slice none 0 0,v5,.int .i64 s.time] rfl (fun c hc=>?_) fun j c u hc hu=>?_)
  ·simp only [List.mem_cons,List.not_mem_nil,or_false] at hc;rcases hc with rfl|rfl|rfl<;>rfl
  ·rcases j with _|_|_|j
   ·simp only [List.getElem?_cons_zero,Option.some.injEq] at hc hu;subst hc;subst hu;exact .lit _
   ·simp only [List.getElem?_cons_zero,List.getElem?_cons_succ,Option.some.injEq] at hc hu;subst hc;subst hu;refine ho.lits GW fun g cur j hg nX hm=>?_;rcases hm with hm|⟨id,ob,hid,hl,hO⟩
    ·exact R.h0 _ _ hm (.inl (Nat.le_trans R.below.size hg))
    ·rcases id with _|_|id
     ·simp only [List.cons_append,List.nil_append,List.getElem?_cons_zero,Option.some.injEq] at hid;subst hid;have:=((R.objs 0 _ rfl).own hl g j ((jl (show (0:Nat)≠1 by decide)).1 hO)).2;omega
     ·have:=lU hO;subst this;rw [qn] at nX;injection nX with nX
      injection nX with q1 q2 q3
      exact absurd q2 (by decide)
     ·simp at hid
   ·simp only [List.getElem?_cons_zero,List.getElem?_cons_succ,Option.some.injEq] at hc hu;subst hc;subst hu;exact .lit _
   ·simp at hc
 ·have hq:=h.q1;have tS:=h.nq;have HQ:=Lib.hid hq;clear hq h;repeat' with_reducible first|apply af|apply ae|apply aa|(apply ab;intro X Y;go_simp;apply Y;clear Y X)
  refine ah [] ?_;repeat' with_reducible first|apply ae|apply aA|apply aa|(apply ab;intro X Y;go_simp;apply Y;clear Y X)
  refine ir (fun p a w R=>⟨_,R.nilCell (bi:=1) (j:=0) (e:=62) (sz:=1) rfl rfl (by decide)⟩) ?_;go_simp;apply mu [1,2,3] (fun k=>[(4,I k)]) (fun k=>([some (.box [aW,aW,I 0]),some (.box [.osl 2,.sl 3 (s.tk.map Tk.av),I s.time]),some (.arr 62 1 (decide (mL s k=[])) (mL s k))] : Hp))  (s.q.length)
  ·go_simp<;>exact rfl
  ·go_simp
  ·intro k hk K hK;obtain ⟨w1,w2,w3,w4,w5,w6⟩:=ixs (m:=k) (by omega);have g:=B0 (qat s.q k) (by rw [eM hk];have:=(HQ.out _ (List.getElem_mem hk)).1;omega);have hs:=NH hk;have hl:=NI (s:=s) (k:=k) (by omega);have hb:(mL s k).length+1≤1000000000:=by omega
   rw [hs] at hK;clear hs hl;generalize mL s k=RV at *;repeat' with_reducible apply af
   refine ah [] ?_;repeat' with_reducible first|apply af|apply ae|apply ar|apply aA|apply aa|(apply aw;·go_simp)|(apply ab;intro X Y;go_simp;apply Y;clear Y X)
   refine qv 9 [] 2 [] (by kernel_rfl) (by kernel_rfl) (by kernel_rfl) (by kernel_rfl) rfl ⟨rfl,rfl⟩ rfl ?_;simp only [ax];repeat' with_reducible first|apply aR|(apply aS;intro X Y;go_simp;(first|(refine ⟨_,g,?_⟩)|skip);apply Y;clear Y X)
   refine ⟨_,by go_simp,by go_simp;exact rfl,?_,?_⟩
   ·intro t ht;simp at ht
   go_simp;repeat' with_reducible first|apply ae|apply bf|apply aa|(apply ab;intro X Y;go_simp;apply Y;clear Y X)
   refine ah [] ?_;repeat' with_reducible first|apply ae|apply aa|(apply ab;intro X Y;go_simp;apply Y;clear Y X)
   refine hK _ ?_;go_simp
  ·intro K;rw [NJ];repeat' with_reducible apply af
   refine ah [] ?_;repeat' with_reducible first|apply af|apply ae|apply bP|apply bQ|apply bT|apply aa|(apply ak;·go_simp)|(apply ab;intro X Y;go_simp;apply Y;clear Y X)
   refine gA 1 0 2 rfl rfl rfl ?_;repeat' with_reducible first|apply ae|apply az|apply aa|refine ah [] ?_|(apply ab;intro X Y;go_simp;apply Y;clear Y X)
   go_simp
def woN (l:List ByteArray) (s:ByteArray) (k:Nat) : List ByteArray:=woT (l.take k) s
theorem NL {l:List ByteArray} {s:ByteArray} {k:Nat} (h:k < l.length) : woN l s (k+1)=if l[k]=s then woN l s k else woN l s k++[l[k]]:=by
 unfold woN woT;rw [lA h,List.filter_append];by_cases e:l[k]=s
 ·simp [e]
 ·simp [e]
theorem NM (l:List ByteArray) (s:ByteArray) (k:Nat) : (woN l s k).length≤k:=by
 unfold woN woT;exact Nat.le_trans (List.length_filter_le _ _) (by simp;omega)
theorem NN (l:List ByteArray) (s:ByteArray) : woN l s l.length=woT l s:=by
 unfold woN;rw [List.take_length]
def wkN (l:List Tk) (s:ByteArray) (k:Nat) : List Tk:=woK (l.take k) s
theorem NO {l:List Tk} {s:ByteArray} {k:Nat} (h:k < l.length) : wkN l s (k+1)=if (aI l k).car=s then wkN l s k else wkN l s k++[aI l k]:=by
 rw [gb h];unfold wkN woK;rw [lA h,List.filter_append];by_cases e:l[k].car=s
 ·simp [e]
 ·simp [e]
theorem NP (l:List Tk) (s:ByteArray) (k:Nat) : (wkN l s k).length≤k:=by
 unfold wkN woK;exact Nat.le_trans (List.length_filter_le _ _) (by simp;omega)
theorem NQ (l:List Tk) (s:ByteArray) : wkN l s l.length=woK l s:=by
 unfold wkN;rw [List.take_length]
theorem NR (l:List ByteArray) : ∀ (k:Nat) (x:List AV),(l.map bU)[k]? = some x→x.length=1∧∀ c∈x,cV c=true:=fun k x hx=>by
 obtain ⟨y,hy,rfl⟩:=dT hx;exact ⟨rfl,by simp [bU,cV,Value.oneCell']⟩
theorem NS (l:List Tk) : ∀ (k:Nat) (x:List AV),(l.map Tk.av)[k]? = some x→x.length=3∧∀ c∈x,cV c=true:=fun k x hx=>by
 obtain ⟨y,hy,rfl⟩:=dT hx;exact ⟨rfl,by simp [Tk.av,cV,Value.oneCell']⟩
theorem NT (l:List ByteArray) (s:ByteArray) (hl:l.length≤1000000) : VCo Tryz.prog 132 [iP l,S s] 9 1 (decide (woT l s=[])) ((woT l s).map bU):=by
 rw [←NN];have e0:woN l s 0=[]:=rfl;refine xw Tryz.func132 rfl (by kernel_rfl) (by kernel_rfl) rfl Tryz.results132 (by decide) (NR _) fun M0 w0=>?_;simp only [Tryz.ntmps132,aB];repeat' with_reducible first|apply af|apply ae|apply aA|apply aa|refine ah [5] ?_|(apply ab;intro X Y;go_simp;apply Y;clear Y X)
 apply mu [0,1] (fun k=>[(6,I k),(5,.osl 0)]) (fun k=>([some (.arr 9 1 (decide (woN l s k=[])) ((woN l s k).map bU))] : Hp))  (l.length)
 ·go_simp<;>exact rfl
 ·go_simp
 ·intro k hk K hK;obtain ⟨w1,w2,w3,w4,w5,w6⟩:=ixs (m:=k) (by omega);have hs:=NL (s:=s) hk;have hb:(woN l s k).length+1≤1000000000:=by have:=NM l s k;omega
  clear e0;by_cases e:l[k]=s
  ·rw [if_pos e] at hs;have HS:=Lib.hid hs;clear hs;repeat' with_reducible first|apply af|apply ae|apply ar|apply aA|apply bf|apply aa|refine ah [] ?_|(apply aw;·go_simp)|(apply ak;·go_simp)|(apply ab;intro X Y;go_simp;apply Y;clear Y X)
   refine hK _ ?_;rw [HS.out];go_simp
  ·rw [if_neg e] at hs;have HS:=Lib.hid hs;clear hs;repeat' with_reducible first|apply af|apply ae|apply ar|apply aA|apply bf|apply aa|refine ah [] ?_|(apply aw;·go_simp)|(apply ab;intro X Y;go_simp;apply Y;clear Y X)
   refine hK _ ?_;rw [HS.out];go_simp
 ·intro K;clear e0;repeat' with_reducible first|apply af|apply ae|apply bP|apply az|apply bQ|apply bT|apply aa|refine ah [] ?_|(apply ak;·go_simp)|(apply ab;intro X Y;go_simp;apply Y;clear Y X)
  exact ⟨0,rfl,rfl⟩
theorem NU (l:List Tk) (s:ByteArray) (hl:l.length≤1000000) : VCo Tryz.prog 131 [.sl 3 (l.map Tk.av),S s] 148 3 (decide (woK l s=[])) ((woK l s).map Tk.av):=by
 rw [←NQ];have e0:wkN l s 0=[]:=rfl;refine xw Tryz.func131 rfl (by kernel_rfl) (by kernel_rfl) rfl Tryz.results131 (by decide) (NS _) fun M0 w0=>?_;simp only [Tryz.ntmps131,aB];repeat' with_reducible first|apply af|apply ae|apply aA|apply aa|refine ah [5] ?_|(apply ab;intro X Y;go_simp;apply Y;clear Y X)
 apply mu [0,1] (fun k=>[(6,I k),(5,.osl 0)]) (fun k=>([some (.arr 148 3 (decide (wkN l s k=[])) ((wkN l s k).map Tk.av))] : Hp))  (l.length)
 ·go_simp<;>exact rfl
 ·go_simp
 ·intro k hk K hK;obtain ⟨w1,w2,w3,w4,w5,w6⟩:=ixs (m:=k) (by omega);have hs:=NO (s:=s) hk;have hb:(wkN l s k).length+1≤1000000000:=by have:=NP l s k;omega
  clear e0;by_cases e:(aI l k).car=s
  ·rw [if_pos e] at hs;have HS:=Lib.hid hs;clear hs;repeat' with_reducible first|apply af|apply ae|apply ar|apply aA|apply bf|apply aa|refine ah [] ?_|(apply aw;·go_simp)|(apply ak;·go_simp)|(apply ab;intro X Y;go_simp;apply Y;clear Y X)
   refine hK _ ?_;rw [HS.out];go_simp
  ·rw [if_neg e] at hs;have HS:=Lib.hid hs;clear hs;repeat' with_reducible first|apply af|apply ae|apply ar|apply aA|apply bf|apply aa|refine ah [] ?_|(apply aw;·go_simp)|(apply ab;intro X Y;go_simp;apply Y;clear Y X)
   refine hK _ ?_;rw [HS.out];go_simp
 ·intro K;clear e0;repeat' with_reducible first|apply af|apply ae|apply bP|apply az|apply bQ|apply bT|apply aa|refine ah [] ?_|(apply ak;·go_simp)|(apply ab;intro X Y;go_simp;apply Y;clear Y X)
  exact ⟨0,rfl,rfl⟩
theorem CB (l:List ByteArray) (s:ByteArray) (hl:l.length≤1000000) : VC Tryz.prog 132 [iP l,S s] (iP (woT l s)):=B1 (NT l s hl)
theorem GY (l:List Tk) (s:ByteArray) (hl:l.length≤1000000) : VC Tryz.prog 131 [.sl 3 (l.map Tk.av),S s] (.sl 3 ((woK l s).map Tk.av)):=B1 (NU l s hl)
theorem NV (r:Ru) (s:St) (tm:Int) (k:Nat) (car:ByteArray) (hk:k < s.q.length) (hr:r.ranks.length=s.q.length) (hf:jO r s.q.length) (iK:s.q.length≤1000000) (dL:∀ k,k < s.q.length→(qat s.q k).length≤1000000) (_htl:s.tk.length≤1000000) : VC Tryz.prog 67 [b8 r,da s,.agg [I 0,I tm,I (k:Int),S car]] (I (fst [unl (decide (s.time≤tm)) 9,doE r s ⟨0,tm,(k:Int),car⟩ k])):=by
 have cN:k < r.ranks.length:=by omega
 have fT:=hf k hk;clear hf;by_cases ht:s.time≤tm
 ·have jn:¬tm < s.time:=by omega
  have g:=MW s car iK dL;by_cases gh:0≤eh s.q car
  ·rw [show fst [unl (decide (s.time≤tm)) 9,doE r s ⟨0,tm,(k:Int),car⟩ k]=5 by simp [doE,iT,fst,unl,gh,ht]];generalize eh s.q car=SK at *;generalize oX s.q car=FP at *;refine aQ Tryz.func67 rfl (by kernel_rfl) rfl fun M0 w0=>?_;simp only [Tryz.ntmps67,Tryz.results67,aB];repeat' with_reducible first|apply af|apply ae|apply ar|apply aa|refine ah [] ?_|(apply ak;·go_simp)|(apply ab;intro X Y;go_simp;apply Y;clear Y X)
   refine fR 14 [] [⟨12,8,[.string ⟨#[]⟩,.int .i64 0,.int .i64 0,.bool false],none,[]⟩] (by kernel_rfl) (by go_simp) ?_;simp only [ax];repeat (first|(refine fb rfl ?_)|((with_reducible refine fc rfl fun X Y=>?_);go_simp;refine Y _ (by go_simp) ?_;clear Y X)|(with_reducible apply fe))
   refine ⟨by go_simp,?_⟩;simp only [d_,ez,Slot.end_,List.cons_append,List.nil_append];repeat' with_reducible first|apply af|apply ae|apply aT|apply az|apply aA|apply cG|apply aa|refine ah [] ?_|(apply aw;·go_simp)|(apply ab;intro X Y;go_simp;(first|(refine ⟨_,g,?_⟩)|skip);apply Y;clear Y X)
   go_simp
  by_cases h1:(rat r.ranks k).feeder = -1
  ·clear fT;by_cases ba:((qat s.q k).length:Int) < (rat r.ranks k).places
   ·have sK:¬(rat r.ranks k).places≤(qat s.q k).length:=by omega
    rw [show fst [unl (decide (s.time≤tm)) 9,doE r s ⟨0,tm,(k:Int),car⟩ k]=0 by simp [doE,iT,iH,cm,feedN,fst,unl,gh,h1,ba,ht]];generalize eh s.q car=SK at *;generalize oX s.q car=FP at *;refine aQ Tryz.func67 rfl (by kernel_rfl) rfl fun M0 w0=>?_;simp only [Tryz.ntmps67,Tryz.results67,aB];repeat' with_reducible first|apply af|apply ae|apply ar|apply aa|refine ah [] ?_|(apply ak;·go_simp)|(apply ab;intro X Y;go_simp;apply Y;clear Y X)
    refine fR 14 [] [⟨12,8,[.string ⟨#[]⟩,.int .i64 0,.int .i64 0,.bool false],none,[]⟩] (by kernel_rfl) (by go_simp) ?_;simp only [ax];repeat (first|(refine fb rfl ?_)|((with_reducible refine fc rfl fun X Y=>?_);go_simp;refine Y _ (by go_simp) ?_;clear Y X)|(with_reducible apply fe))
    refine ⟨by go_simp,?_⟩;simp only [d_,ez,Slot.end_,List.cons_append,List.nil_append];repeat' with_reducible first|apply af|apply ae|apply az|apply ar|apply aA|apply bf|apply aa|refine ah [] ?_|(apply aw;·go_simp)|(apply ak;·go_simp)|(apply ab;intro X Y;go_simp;(first|(refine ⟨_,g,?_⟩)|skip);apply Y;clear Y X)
    go_simp
   ·have sK:(rat r.ranks k).places≤(qat s.q k).length:=by omega
    rw [show fst [unl (decide (s.time≤tm)) 9,doE r s ⟨0,tm,(k:Int),car⟩ k]=16 by simp [doE,iT,iH,cm,feedN,fst,unl,gh,h1,ba,ht]];generalize eh s.q car=SK at *;generalize oX s.q car=FP at *;refine aQ Tryz.func67 rfl (by kernel_rfl) rfl fun M0 w0=>?_;simp only [Tryz.ntmps67,Tryz.results67,aB];repeat' with_reducible first|apply af|apply ae|apply ar|apply aa|refine ah [] ?_|(apply ak;·go_simp)|(apply ab;intro X Y;go_simp;apply Y;clear Y X)
    refine fR 14 [] [⟨12,8,[.string ⟨#[]⟩,.int .i64 0,.int .i64 0,.bool false],none,[]⟩] (by kernel_rfl) (by go_simp) ?_;simp only [ax];repeat (first|(refine fb rfl ?_)|((with_reducible refine fc rfl fun X Y=>?_);go_simp;refine Y _ (by go_simp) ?_;clear Y X)|(with_reducible apply fe))
    refine ⟨by go_simp,?_⟩;simp only [d_,ez,Slot.end_,List.cons_append,List.nil_append];repeat' with_reducible first|apply af|apply ae|apply aT|apply az|apply ar|apply aA|apply cG|apply aa|refine ah [] ?_|(apply aw;·go_simp)|(apply ak;·go_simp)|(apply ab;intro X Y;go_simp;(first|(refine ⟨_,g,?_⟩)|skip);apply Y;clear Y X)
    go_simp
  obtain ⟨f0,fl⟩:=fT h1;clear fT;obtain ⟨f,iw⟩ : ∃ f:Nat,(rat r.ranks k).feeder=f:=⟨(rat r.ranks k).feeder.toNat,by omega⟩
  rw [iw] at fl h1;simp only [Int.toNat_natCast] at fl;clear f0;by_cases h4:0 < (qat s.q f).length
  ·have h5:¬qat s.q f=[]:=fun h=>by rw [h] at h4;simp at h4
   rw [show fst [unl (decide (s.time≤tm)) 9,doE r s ⟨0,tm,(k:Int),car⟩ k]=13 by simp [doE,iT,iH,feedN,fst,unl,gh,h1,iw,h4,ht]];generalize eh s.q car=SK at *;generalize oX s.q car=FP at *;refine aQ Tryz.func67 rfl (by kernel_rfl) rfl fun M0 w0=>?_;simp only [Tryz.ntmps67,Tryz.results67,aB];repeat' with_reducible first|apply af|apply ae|apply ar|apply aa|refine ah [] ?_|(apply ak;·go_simp)|(apply ab;intro X Y;go_simp;apply Y;clear Y X)
   refine fR 14 [] [⟨12,8,[.string ⟨#[]⟩,.int .i64 0,.int .i64 0,.bool false],none,[]⟩] (by kernel_rfl) (by go_simp) ?_;simp only [ax];repeat (first|(refine fb rfl ?_)|((with_reducible refine fc rfl fun X Y=>?_);go_simp;refine Y _ (by go_simp) ?_;clear Y X)|(with_reducible apply fe))
   refine ⟨by go_simp,?_⟩;simp only [d_,ez,Slot.end_,List.cons_append,List.nil_append];repeat' with_reducible first|apply af|apply ae|apply aT|apply az|apply ar|apply aA|apply cG|apply aa|refine ah [] ?_|(apply aw;·go_simp)|(apply ak;·go_simp)|(apply ab;intro X Y;go_simp;(first|(refine ⟨_,g,?_⟩)|skip);apply Y;clear Y X)
   go_simp
  ·have h5:qat s.q f=[]:=List.eq_nil_of_length_eq_zero (by omega);by_cases ba:((qat s.q k).length:Int) < (rat r.ranks k).places
   ·have sK:¬(rat r.ranks k).places≤(qat s.q k).length:=by omega
    rw [show fst [unl (decide (s.time≤tm)) 9,doE r s ⟨0,tm,(k:Int),car⟩ k]=0 by simp [doE,iT,iH,cm,feedN,fst,unl,gh,h1,iw,h5,ba,ht]];generalize eh s.q car=SK at *;generalize oX s.q car=FP at *;refine aQ Tryz.func67 rfl (by kernel_rfl) rfl fun M0 w0=>?_;simp only [Tryz.ntmps67,Tryz.results67,aB];repeat' with_reducible first|apply af|apply ae|apply ar|apply aa|refine ah [] ?_|(apply ak;·go_simp)|(apply ab;intro X Y;go_simp;apply Y;clear Y X)
    refine fR 14 [] [⟨12,8,[.string ⟨#[]⟩,.int .i64 0,.int .i64 0,.bool false],none,[]⟩] (by kernel_rfl) (by go_simp) ?_;simp only [ax];repeat (first|(refine fb rfl ?_)|((with_reducible refine fc rfl fun X Y=>?_);go_simp;refine Y _ (by go_simp) ?_;clear Y X)|(with_reducible apply fe))
    refine ⟨by go_simp,?_⟩;simp only [d_,ez,Slot.end_,List.cons_append,List.nil_append];repeat' with_reducible first|apply af|apply ae|apply az|apply ar|apply aA|apply bf|apply aa|refine ah [] ?_|(apply aw;·go_simp)|(apply ak;·go_simp)|(apply ab;intro X Y;go_simp;(first|(refine ⟨_,g,?_⟩)|skip);apply Y;clear Y X)
    go_simp
   ·have sK:(rat r.ranks k).places≤(qat s.q k).length:=by omega
    rw [show fst [unl (decide (s.time≤tm)) 9,doE r s ⟨0,tm,(k:Int),car⟩ k]=16 by simp [doE,iT,iH,cm,feedN,fst,unl,gh,h1,iw,h5,ba,ht]];generalize eh s.q car=SK at *;generalize oX s.q car=FP at *;refine aQ Tryz.func67 rfl (by kernel_rfl) rfl fun M0 w0=>?_;simp only [Tryz.ntmps67,Tryz.results67,aB];repeat' with_reducible first|apply af|apply ae|apply ar|apply aa|refine ah [] ?_|(apply ak;·go_simp)|(apply ab;intro X Y;go_simp;apply Y;clear Y X)
    refine fR 14 [] [⟨12,8,[.string ⟨#[]⟩,.int .i64 0,.int .i64 0,.bool false],none,[]⟩] (by kernel_rfl) (by go_simp) ?_;simp only [ax];repeat (first|(refine fb rfl ?_)|((with_reducible refine fc rfl fun X Y=>?_);go_simp;refine Y _ (by go_simp) ?_;clear Y X)|(with_reducible apply fe))
    refine ⟨by go_simp,?_⟩;simp only [d_,ez,Slot.end_,List.cons_append,List.nil_append];repeat' with_reducible first|apply af|apply ae|apply aT|apply az|apply ar|apply aA|apply cG|apply aa|refine ah [] ?_|(apply aw;·go_simp)|(apply ak;·go_simp)|(apply ab;intro X Y;go_simp;(first|(refine ⟨_,g,?_⟩)|skip);apply Y;clear Y X)
    go_simp
 ·have jn:tm < s.time:=by omega
  rw [show fst [unl (decide (s.time≤tm)) 9,doE r s ⟨0,tm,(k:Int),car⟩ k]=9 by simp [fst,unl,ht]];refine aQ Tryz.func67 rfl (by kernel_rfl) rfl fun M0 w0=>?_;simp only [Tryz.ntmps67,Tryz.results67,aB];repeat' with_reducible first|apply af|apply ae|apply aT|apply az|apply aa|refine ah [] ?_|(apply aw;·go_simp)|(apply ab;intro X Y;go_simp;apply Y;clear Y X)
  go_simp
theorem NW (r:Ru) (s:St) (tm:Int) (k:Nat) (car:ByteArray) (hk:k < s.q.length) (hr:r.ranks.length=s.q.length) (hf:jO r s.q.length) (_hql:s.q.length≤1000000) (_hqs:∀ k,k < s.q.length→(qat s.q k).length≤1000000) (r8:s.tk.length≤1000000) : VC Tryz.prog 67 [b8 r,da s,.agg [I 1,I tm,I (k:Int),S car]] (I (fst [unl (decide (s.time≤tm)) 9,doE r s ⟨1,tm,(k:Int),car⟩ k])):=by
 have cN:k < r.ranks.length:=by omega
 have fT:=hf k hk;clear hf;by_cases ht:s.time≤tm
 ·have jn:¬tm < s.time:=by omega
  clear fT;by_cases kV:(qat s.q k).length=0
  ·have oZ:qat s.q k=[]:=List.eq_nil_of_length_eq_zero kV;rw [show fst [unl (decide (s.time≤tm)) 9,doE r s ⟨1,tm,(k:Int),car⟩ k]=12 by simp [doE,kC,gQ,fst,unl,oZ,ht]];refine aQ Tryz.func67 rfl (by kernel_rfl) rfl fun M0 w0=>?_;simp only [Tryz.ntmps67,Tryz.results67,aB];repeat' with_reducible first|apply af|apply ae|apply ar|apply aa|refine ah [] ?_|(apply ak;·go_simp)|(apply ab;intro X Y;go_simp;apply Y;clear Y X)
   refine fR 14 [] [⟨12,8,[.string ⟨#[]⟩,.int .i64 0,.int .i64 0,.bool false],none,[]⟩] (by kernel_rfl) (by go_simp) ?_;simp only [ax];repeat (first|(refine fb rfl ?_)|((with_reducible refine fc rfl fun X Y=>?_);go_simp;refine Y _ (by go_simp) ?_;clear Y X)|(with_reducible apply fe))
   refine ⟨by go_simp,?_⟩;simp only [d_,ez,Slot.end_,List.cons_append,List.nil_append];repeat' with_reducible first|apply af|apply ae|apply aT|apply az|apply ar|apply aA|apply cG|apply aa|refine ah [] ?_|(apply aw;·go_simp)|(apply ak;·go_simp)|(apply ab;intro X Y;go_simp;apply Y;clear Y X)
   go_simp
  have oZ:¬qat s.q k=[]:=fun h=>by rw [h] at kV;simp at kV
  have CC:0 < (qat s.q k).length:=by omega
  have e0:(qat s.q k)[0]=tat (qat s.q k) 0:=(dE CC).symm;by_cases hh:tat (qat s.q k) 0=car
  ·by_cases qx:(s.tk.length:Int) < 40
   ·have NY:¬40≤(s.tk.length:Int):=by omega
    rw [show fst [unl (decide (s.time≤tm)) 9,doE r s ⟨1,tm,(k:Int),car⟩ k]=0 by simp [doE,kC,gQ,fst,unl,kV,hh,qx,ht]];refine aQ Tryz.func67 rfl (by kernel_rfl) rfl fun M0 w0=>?_;simp only [Tryz.ntmps67,Tryz.results67,aB];repeat' with_reducible first|apply af|apply ae|apply ar|apply aa|refine ah [] ?_|(apply ak;·go_simp)|(apply ab;intro X Y;go_simp;apply Y;clear Y X)
    refine fR 14 [] [⟨12,8,[.string ⟨#[]⟩,.int .i64 0,.int .i64 0,.bool false],none,[]⟩] (by kernel_rfl) (by go_simp) ?_;simp only [ax];repeat (first|(refine fb rfl ?_)|((with_reducible refine fc rfl fun X Y=>?_);go_simp;refine Y _ (by go_simp) ?_;clear Y X)|(with_reducible apply fe))
    refine ⟨by go_simp,?_⟩;simp only [d_,ez,Slot.end_,List.cons_append,List.nil_append];repeat' first|(with_reducible first|apply af|apply ae|apply az|apply ar|apply aA|apply bf|apply aa|refine ah [] ?_|apply aR|(apply aw;·go_simp)|(apply ak;·go_simp)|((first|apply ab|apply aS);intro X Y;go_simp;apply Y;clear Y X))|((refine bg 6 6 [] rfl (by kernel_rfl) ?_);simp only [ax])
    go_simp
   ·have NY:40≤(s.tk.length:Int):=by omega
    rw [show fst [unl (decide (s.time≤tm)) 9,doE r s ⟨1,tm,(k:Int),car⟩ k]=8 by simp [doE,kC,gQ,fst,unl,kV,hh,qx,ht]];refine aQ Tryz.func67 rfl (by kernel_rfl) rfl fun M0 w0=>?_;simp only [Tryz.ntmps67,Tryz.results67,aB];repeat' with_reducible first|apply af|apply ae|apply ar|apply aa|refine ah [] ?_|(apply ak;·go_simp)|(apply ab;intro X Y;go_simp;apply Y;clear Y X)
    refine fR 14 [] [⟨12,8,[.string ⟨#[]⟩,.int .i64 0,.int .i64 0,.bool false],none,[]⟩] (by kernel_rfl) (by go_simp) ?_;simp only [ax];repeat (first|(refine fb rfl ?_)|((with_reducible refine fc rfl fun X Y=>?_);go_simp;refine Y _ (by go_simp) ?_;clear Y X)|(with_reducible apply fe))
    refine ⟨by go_simp,?_⟩;simp only [d_,ez,Slot.end_,List.cons_append,List.nil_append];repeat' first|(with_reducible first|apply af|apply ae|apply aT|apply az|apply ar|apply aA|apply cG|apply aa|refine ah [] ?_|apply aR|(apply aw;·go_simp)|(apply ak;·go_simp)|((first|apply ab|apply aS);intro X Y;go_simp;apply Y;clear Y X))|((refine bg 6 6 [] rfl (by kernel_rfl) ?_);simp only [ax])
    go_simp
  ·rw [show fst [unl (decide (s.time≤tm)) 9,doE r s ⟨1,tm,(k:Int),car⟩ k]=13 by simp [doE,kC,gQ,fst,unl,kV,hh,ht]];refine aQ Tryz.func67 rfl (by kernel_rfl) rfl fun M0 w0=>?_;simp only [Tryz.ntmps67,Tryz.results67,aB];repeat' with_reducible first|apply af|apply ae|apply ar|apply aa|refine ah [] ?_|(apply ak;·go_simp)|(apply ab;intro X Y;go_simp;apply Y;clear Y X)
   refine fR 14 [] [⟨12,8,[.string ⟨#[]⟩,.int .i64 0,.int .i64 0,.bool false],none,[]⟩] (by kernel_rfl) (by go_simp) ?_;simp only [ax];repeat (first|(refine fb rfl ?_)|((with_reducible refine fc rfl fun X Y=>?_);go_simp;refine Y _ (by go_simp) ?_;clear Y X)|(with_reducible apply fe))
   refine ⟨by go_simp,?_⟩;simp only [d_,ez,Slot.end_,List.cons_append,List.nil_append];repeat' first|(with_reducible first|apply af|apply ae|apply aT|apply az|apply ar|apply aA|apply cG|apply aa|refine ah [] ?_|apply aR|(apply aw;·go_simp)|(apply ak;·go_simp)|((first|apply ab|apply aS);intro X Y;go_simp;apply Y;clear Y X))|((refine bg 6 6 [] rfl (by kernel_rfl) ?_);simp only [ax])
   go_simp
 ·have jn:tm < s.time:=by omega
  rw [show fst [unl (decide (s.time≤tm)) 9,doE r s ⟨1,tm,(k:Int),car⟩ k]=9 by simp [fst,unl,ht]];refine aQ Tryz.func67 rfl (by kernel_rfl) rfl fun M0 w0=>?_;simp only [Tryz.ntmps67,Tryz.results67,aB];repeat' with_reducible first|apply af|apply ae|apply aT|apply az|apply aa|refine ah [] ?_|(apply aw;·go_simp)|(apply ab;intro X Y;go_simp;apply Y;clear Y X)
  go_simp
theorem NZ (r:Ru) (s:St) (tm:Int) (k:Nat) (car:ByteArray) (hk:k < s.q.length) (hr:r.ranks.length=s.q.length) (hf:jO r s.q.length) (_hql:s.q.length≤1000000) (_hqs:∀ k,k < s.q.length→(qat s.q k).length≤1000000) (_htl:s.tk.length≤1000000) : VC Tryz.prog 67 [b8 r,da s,.agg [I 2,I tm,I (k:Int),S car]] (I (fst [unl (decide (s.time≤tm)) 9,doE r s ⟨2,tm,(k:Int),car⟩ k])):=by
 have cN:k < r.ranks.length:=by omega
 have fT:=hf k hk;clear hf;by_cases ht:s.time≤tm
 ·have jn:¬tm < s.time:=by omega
  clear fT;by_cases kV:(qat s.q k).length=0
  ·have oZ:qat s.q k=[]:=List.eq_nil_of_length_eq_zero kV;rw [show fst [unl (decide (s.time≤tm)) 9,doE r s ⟨2,tm,(k:Int),car⟩ k]=12 by simp [doE,gQ,fst,unl,oZ,ht]];refine aQ Tryz.func67 rfl (by kernel_rfl) rfl fun M0 w0=>?_;simp only [Tryz.ntmps67,Tryz.results67,aB];repeat' with_reducible first|apply af|apply ae|apply ar|apply aa|refine ah [] ?_|(apply ak;·go_simp)|(apply ab;intro X Y;go_simp;apply Y;clear Y X)
   refine fR 14 [] [⟨12,8,[.string ⟨#[]⟩,.int .i64 0,.int .i64 0,.bool false],none,[]⟩] (by kernel_rfl) (by go_simp) ?_;simp only [ax];repeat (first|(refine fb rfl ?_)|((with_reducible refine fc rfl fun X Y=>?_);go_simp;refine Y _ (by go_simp) ?_;clear Y X)|(with_reducible apply fe))
   refine ⟨by go_simp,?_⟩;simp only [d_,ez,Slot.end_,List.cons_append,List.nil_append];repeat' with_reducible first|apply af|apply ae|apply aT|apply az|apply aA|apply cG|apply aa|refine ah [] ?_|(apply aw;·go_simp)|(apply ak;·go_simp)|(apply ab;intro X Y;go_simp;apply Y;clear Y X)
   go_simp
  have oZ:¬qat s.q k=[]:=fun h=>by rw [h] at kV;simp at kV
  have CC:0 < (qat s.q k).length:=by omega
  have e0:(qat s.q k)[0]=tat (qat s.q k) 0:=(dE CC).symm;by_cases hh:tat (qat s.q k) 0=car
  ·rw [show fst [unl (decide (s.time≤tm)) 9,doE r s ⟨2,tm,(k:Int),car⟩ k]=0 by simp [doE,gQ,fst,unl,kV,hh,ht]];refine aQ Tryz.func67 rfl (by kernel_rfl) rfl fun M0 w0=>?_;simp only [Tryz.ntmps67,Tryz.results67,aB];repeat' with_reducible first|apply af|apply ae|apply ar|apply aa|refine ah [] ?_|(apply ak;·go_simp)|(apply ab;intro X Y;go_simp;apply Y;clear Y X)
   refine fR 14 [] [⟨12,8,[.string ⟨#[]⟩,.int .i64 0,.int .i64 0,.bool false],none,[]⟩] (by kernel_rfl) (by go_simp) ?_;simp only [ax];repeat (first|(refine fb rfl ?_)|((with_reducible refine fc rfl fun X Y=>?_);go_simp;refine Y _ (by go_simp) ?_;clear Y X)|(with_reducible apply fe))
   refine ⟨by go_simp,?_⟩;simp only [d_,ez,Slot.end_,List.cons_append,List.nil_append];repeat' first|(with_reducible first|apply af|apply ae|apply az|apply ar|apply aA|apply bf|apply aa|refine ah [] ?_|apply aR|(apply aw;·go_simp)|(apply ak;·go_simp)|((first|apply ab|apply aS);intro X Y;go_simp;apply Y;clear Y X))|((refine bg 6 6 [] rfl (by kernel_rfl) ?_);simp only [ax])
   go_simp
  ·rw [show fst [unl (decide (s.time≤tm)) 9,doE r s ⟨2,tm,(k:Int),car⟩ k]=13 by simp [doE,gQ,fst,unl,kV,hh,ht]];refine aQ Tryz.func67 rfl (by kernel_rfl) rfl fun M0 w0=>?_;simp only [Tryz.ntmps67,Tryz.results67,aB];repeat' with_reducible first|apply af|apply ae|apply ar|apply aa|refine ah [] ?_|(apply ak;·go_simp)|(apply ab;intro X Y;go_simp;apply Y;clear Y X)
   refine fR 14 [] [⟨12,8,[.string ⟨#[]⟩,.int .i64 0,.int .i64 0,.bool false],none,[]⟩] (by kernel_rfl) (by go_simp) ?_;simp only [ax];repeat (first|(refine fb rfl ?_)|((with_reducible refine fc rfl fun X Y=>?_);go_simp;refine Y _ (by go_simp) ?_;clear Y X)|(with_reducible apply fe))
   refine ⟨by go_simp,?_⟩;simp only [d_,ez,Slot.end_,List.cons_append,List.nil_append];repeat' first|(with_reducible first|apply af|apply ae|apply aT|apply az|apply ar|apply aA|apply cG|apply aa|refine ah [] ?_|apply aR|(apply aw;·go_simp)|(apply ak;·go_simp)|((first|apply ab|apply aS);intro X Y;go_simp;apply Y;clear Y X))|((refine bg 6 6 [] rfl (by kernel_rfl) ?_);simp only [ax])
   go_simp
 ·have jn:tm < s.time:=by omega
  rw [show fst [unl (decide (s.time≤tm)) 9,doE r s ⟨2,tm,(k:Int),car⟩ k]=9 by simp [fst,unl,ht]];refine aQ Tryz.func67 rfl (by kernel_rfl) rfl fun M0 w0=>?_;simp only [Tryz.ntmps67,Tryz.results67,aB];repeat' with_reducible first|apply af|apply ae|apply aT|apply az|apply aa|refine ah [] ?_|(apply aw;·go_simp)|(apply ab;intro X Y;go_simp;apply Y;clear Y X)
  go_simp
theorem N0 (r:Ru) (s:St) (tm:Int) (k:Nat) (car:ByteArray) (hk:k < s.q.length) (hr:r.ranks.length=s.q.length) (hf:jO r s.q.length) (_hql:s.q.length≤1000000) (dL:∀ k,k < s.q.length→(qat s.q k).length≤1000000) (_htl:s.tk.length≤1000000) : VC Tryz.prog 67 [b8 r,da s,.agg [I 3,I tm,I (k:Int),S car]] (I (fst [unl (decide (s.time≤tm)) 9,doE r s ⟨3,tm,(k:Int),car⟩ k])):=by
 have cN:k < r.ranks.length:=by omega
 have fT:=hf k hk;clear hf;by_cases ht:s.time≤tm
 ·have jn:¬tm < s.time:=by omega
  clear fT;have g:=tW (qat s.q k) car (dL k hk);have iF:gg (isT (qat s.q k) car) 0 (qat s.q k).length=decide (0≤fx (qat s.q k) car):=(yh _ _).symm;rw [iF] at g;by_cases hi:fx (qat s.q k) car < 0
  ·have bV:¬0≤fx (qat s.q k) car:=by omega
   rw [decide_eq_false bV] at g;rw [show fst [unl (decide (s.time≤tm)) 9,doE r s ⟨3,tm,(k:Int),car⟩ k]=6 by simp [doE,rQ,fst,unl,hi,ht]];refine aQ Tryz.func67 rfl (by kernel_rfl) rfl fun M0 w0=>?_;simp only [Tryz.ntmps67,Tryz.results67,aB];repeat' with_reducible first|apply af|apply ae|apply ar|apply aa|refine ah [] ?_|(apply ak;·go_simp)|(apply ab;intro X Y;go_simp;apply Y;clear Y X)
   refine fR 14 [] [⟨12,8,[.string ⟨#[]⟩,.int .i64 0,.int .i64 0,.bool false],none,[]⟩] (by kernel_rfl) (by go_simp) ?_;simp only [ax];repeat (first|(refine fb rfl ?_)|((with_reducible refine fc rfl fun X Y=>?_);go_simp;refine Y _ (by go_simp) ?_;clear Y X)|(with_reducible apply fe))
   refine ⟨by go_simp,?_⟩;simp only [d_,ez,Slot.end_,List.cons_append,List.nil_append];repeat' with_reducible first|apply af|apply ae|apply aT|apply az|apply aA|apply cG|apply aa|refine ah [] ?_|(apply aw;·go_simp)|(apply ak;·go_simp)|(apply ab;intro X Y;go_simp;(first|(refine ⟨_,g,?_⟩)|skip);apply Y;clear Y X)
   go_simp
  ·have bV:0≤fx (qat s.q k) car:=by omega
   rw [decide_eq_true bV] at g;rw [show fst [unl (decide (s.time≤tm)) 9,doE r s ⟨3,tm,(k:Int),car⟩ k]=0 by simp [doE,rQ,fst,unl,hi,ht]];refine aQ Tryz.func67 rfl (by kernel_rfl) rfl fun M0 w0=>?_;simp only [Tryz.ntmps67,Tryz.results67,aB];repeat' with_reducible first|apply af|apply ae|apply ar|apply aa|refine ah [] ?_|(apply ak;·go_simp)|(apply ab;intro X Y;go_simp;apply Y;clear Y X)
   refine fR 14 [] [⟨12,8,[.string ⟨#[]⟩,.int .i64 0,.int .i64 0,.bool false],none,[]⟩] (by kernel_rfl) (by go_simp) ?_;simp only [ax];repeat (first|(refine fb rfl ?_)|((with_reducible refine fc rfl fun X Y=>?_);go_simp;refine Y _ (by go_simp) ?_;clear Y X)|(with_reducible apply fe))
   refine ⟨by go_simp,?_⟩;simp only [d_,ez,Slot.end_,List.cons_append,List.nil_append];repeat' with_reducible first|apply af|apply ae|apply az|apply ar|apply aA|apply bf|apply aa|refine ah [] ?_|(apply aw;·go_simp)|(apply ak;·go_simp)|(apply ab;intro X Y;go_simp;(first|(refine ⟨_,g,?_⟩)|skip);apply Y;clear Y X)
   go_simp
 ·have jn:tm < s.time:=by omega
  rw [show fst [unl (decide (s.time≤tm)) 9,doE r s ⟨3,tm,(k:Int),car⟩ k]=9 by simp [fst,unl,ht]];refine aQ Tryz.func67 rfl (by kernel_rfl) rfl fun M0 w0=>?_;simp only [Tryz.ntmps67,Tryz.results67,aB];repeat' with_reducible first|apply af|apply ae|apply aT|apply az|apply aa|refine ah [] ?_|(apply aw;·go_simp)|(apply ab;intro X Y;go_simp;apply Y;clear Y X)
  go_simp
theorem N3 (r:Ru) (s:St) (tm:Int) (k:Nat) (car:ByteArray) (hk:k < s.q.length) (hr:r.ranks.length=s.q.length) (hf:jO r s.q.length) (_hql:s.q.length≤1000000) (_hqs:∀ k,k < s.q.length→(qat s.q k).length≤1000000) (_htl:s.tk.length≤1000000) : VC Tryz.prog 67 [b8 r,da s,.agg [I 4,I tm,I (k:Int),S car]] (I (fst [unl (decide (s.time≤tm)) 9,doE r s ⟨4,tm,(k:Int),car⟩ k])):=by
 have cN:k < r.ranks.length:=by omega
 have fT:=hf k hk;clear hf;by_cases ht:s.time≤tm
 ·have jn:¬tm < s.time:=by omega
  by_cases h1:(rat r.ranks k).feeder = -1
  ·clear fT;rw [show fst [unl (decide (s.time≤tm)) 9,doE r s ⟨4,tm,(k:Int),car⟩ k]=6 by simp [doE,jG,fst,unl,h1,ht]];refine aQ Tryz.func67 rfl (by kernel_rfl) rfl fun M0 w0=>?_;simp only [Tryz.ntmps67,Tryz.results67,aB];repeat' with_reducible first|apply af|apply ae|apply ar|apply aa|refine ah [] ?_|(apply ak;·go_simp)|(apply ab;intro X Y;go_simp;apply Y;clear Y X)
   refine fR 14 [] [⟨12,8,[.string ⟨#[]⟩,.int .i64 0,.int .i64 0,.bool false],none,[]⟩] (by kernel_rfl) (by go_simp) ?_;simp only [ax];repeat (first|(refine fb rfl ?_)|((with_reducible refine fc rfl fun X Y=>?_);go_simp;refine Y _ (by go_simp) ?_;clear Y X)|(with_reducible apply fe))
   refine ⟨by go_simp,?_⟩;simp only [d_,ez,Slot.end_,List.cons_append,List.nil_append];repeat' with_reducible first|apply af|apply ae|apply aT|apply az|apply aA|apply cG|apply aa|refine ah [] ?_|(apply aw;·go_simp)|(apply ak;·go_simp)|(apply ab;intro X Y;go_simp;apply Y;clear Y X)
   go_simp
  obtain ⟨f0,fl⟩:=fT h1;clear fT;obtain ⟨f,iw⟩ : ∃ f:Nat,(rat r.ranks k).feeder=f:=⟨(rat r.ranks k).feeder.toNat,by omega⟩
  rw [iw] at fl h1;simp only [Int.toNat_natCast] at fl;clear f0;cases h2:(rat r.ranks k).called
  ·rw [show fst [unl (decide (s.time≤tm)) 9,doE r s ⟨4,tm,(k:Int),car⟩ k]=22 by simp [doE,jG,fst,unl,h1,h2,iw,ht]];refine aQ Tryz.func67 rfl (by kernel_rfl) rfl fun M0 w0=>?_;simp only [Tryz.ntmps67,Tryz.results67,aB];repeat' with_reducible first|apply af|apply ae|apply ar|apply aa|refine ah [] ?_|(apply ak;·go_simp)|(apply ab;intro X Y;go_simp;apply Y;clear Y X)
   refine fR 14 [] [⟨12,8,[.string ⟨#[]⟩,.int .i64 0,.int .i64 0,.bool false],none,[]⟩] (by kernel_rfl) (by go_simp) ?_;simp only [ax];repeat (first|(refine fb rfl ?_)|((with_reducible refine fc rfl fun X Y=>?_);go_simp;refine Y _ (by go_simp) ?_;clear Y X)|(with_reducible apply fe))
   refine ⟨by go_simp,?_⟩;simp only [d_,ez,Slot.end_,List.cons_append,List.nil_append];repeat' with_reducible first|apply af|apply ae|apply aT|apply az|apply ar|apply aA|apply cG|apply aa|refine ah [] ?_|(apply aw;·go_simp)|(apply ak;·go_simp)|(apply ab;intro X Y;go_simp;apply Y;clear Y X)
   go_simp
  by_cases h4:0 < (qat s.q f).length
  ·have h5:¬qat s.q f=[]:=fun h=>by rw [h] at h4;simp at h4
   by_cases ba:((qat s.q k).length:Int) < (rat r.ranks k).places
   ·have sK:¬(rat r.ranks k).places≤(qat s.q k).length:=by omega
    rw [show fst [unl (decide (s.time≤tm)) 9,doE r s ⟨4,tm,(k:Int),car⟩ k]=0 by simp [doE,jG,cm,feedN,fst,unl,h1,h2,iw,h4,ba,ht]];refine aQ Tryz.func67 rfl (by kernel_rfl) rfl fun M0 w0=>?_;simp only [Tryz.ntmps67,Tryz.results67,aB];repeat' with_reducible first|apply af|apply ae|apply ar|apply aa|refine ah [] ?_|(apply ak;·go_simp)|(apply ab;intro X Y;go_simp;apply Y;clear Y X)
    refine fR 14 [] [⟨12,8,[.string ⟨#[]⟩,.int .i64 0,.int .i64 0,.bool false],none,[]⟩] (by kernel_rfl) (by go_simp) ?_;simp only [ax];repeat (first|(refine fb rfl ?_)|((with_reducible refine fc rfl fun X Y=>?_);go_simp;refine Y _ (by go_simp) ?_;clear Y X)|(with_reducible apply fe))
    refine ⟨by go_simp,?_⟩;simp only [d_,ez,Slot.end_,List.cons_append,List.nil_append];repeat' with_reducible first|apply af|apply ae|apply az|apply ar|apply aA|apply bf|apply aa|refine ah [] ?_|(apply aw;·go_simp)|(apply ak;·go_simp)|(apply ab;intro X Y;go_simp;apply Y;clear Y X)
    go_simp
   ·have sK:(rat r.ranks k).places≤(qat s.q k).length:=by omega
    rw [show fst [unl (decide (s.time≤tm)) 9,doE r s ⟨4,tm,(k:Int),car⟩ k]=16 by simp [doE,jG,cm,feedN,fst,unl,h1,h2,iw,h4,ba,ht]];refine aQ Tryz.func67 rfl (by kernel_rfl) rfl fun M0 w0=>?_;simp only [Tryz.ntmps67,Tryz.results67,aB];repeat' with_reducible first|apply af|apply ae|apply ar|apply aa|refine ah [] ?_|(apply ak;·go_simp)|(apply ab;intro X Y;go_simp;apply Y;clear Y X)
    refine fR 14 [] [⟨12,8,[.string ⟨#[]⟩,.int .i64 0,.int .i64 0,.bool false],none,[]⟩] (by kernel_rfl) (by go_simp) ?_;simp only [ax];repeat (first|(refine fb rfl ?_)|((with_reducible refine fc rfl fun X Y=>?_);go_simp;refine Y _ (by go_simp) ?_;clear Y X)|(with_reducible apply fe))
    refine ⟨by go_simp,?_⟩;simp only [d_,ez,Slot.end_,List.cons_append,List.nil_append];repeat' with_reducible first|apply af|apply ae|apply aT|apply az|apply ar|apply aA|apply cG|apply aa|refine ah [] ?_|(apply aw;·go_simp)|(apply ak;·go_simp)|(apply ab;intro X Y;go_simp;apply Y;clear Y X)
    go_simp
  ·have h5:qat s.q f=[]:=List.eq_nil_of_length_eq_zero (by omega);rw [show fst [unl (decide (s.time≤tm)) 9,doE r s ⟨4,tm,(k:Int),car⟩ k]=12 by simp [doE,jG,feedN,fst,unl,h1,h2,iw,h5,ht]];refine aQ Tryz.func67 rfl (by kernel_rfl) rfl fun M0 w0=>?_;simp only [Tryz.ntmps67,Tryz.results67,aB];repeat' with_reducible first|apply af|apply ae|apply ar|apply aa|refine ah [] ?_|(apply ak;·go_simp)|(apply ab;intro X Y;go_simp;apply Y;clear Y X)
   refine fR 14 [] [⟨12,8,[.string ⟨#[]⟩,.int .i64 0,.int .i64 0,.bool false],none,[]⟩] (by kernel_rfl) (by go_simp) ?_;simp only [ax];repeat (first|(refine fb rfl ?_)|((with_reducible refine fc rfl fun X Y=>?_);go_simp;refine Y _ (by go_simp) ?_;clear Y X)|(with_reducible apply fe))
   refine ⟨by go_simp,?_⟩;simp only [d_,ez,Slot.end_,List.cons_append,List.nil_append];repeat' with_reducible first|apply af|apply ae|apply aT|apply az|apply ar|apply aA|apply cG|apply aa|refine ah [] ?_|(apply aw;·go_simp)|(apply ak;·go_simp)|(apply ab;intro X Y;go_simp;apply Y;clear Y X)
   go_simp
 ·have jn:tm < s.time:=by omega
  rw [show fst [unl (decide (s.time≤tm)) 9,doE r s ⟨4,tm,(k:Int),car⟩ k]=9 by simp [fst,unl,ht]];refine aQ Tryz.func67 rfl (by kernel_rfl) rfl fun M0 w0=>?_;simp only [Tryz.ntmps67,Tryz.results67,aB];repeat' with_reducible first|apply af|apply ae|apply aT|apply az|apply aa|refine ah [] ?_|(apply aw;·go_simp)|(apply ab;intro X Y;go_simp;apply Y;clear Y X)
  go_simp
theorem N4 (r:Ru) (s:St) (tm:Int) (k:Nat) (car:ByteArray) (hk:k < s.q.length) (hr:r.ranks.length=s.q.length) (hf:jO r s.q.length) (_hql:s.q.length≤1000000) (_hqs:∀ k,k < s.q.length→(qat s.q k).length≤1000000) (r8:s.tk.length≤1000000) (zh:∀ i,i < s.tk.length→IntKind.i64.wrap (tm - (aI s.tk i).time)=tm - (aI s.tk i).time) : VC Tryz.prog 67 [b8 r,da s,.agg [I 5,I tm,I (k:Int),S car]] (I (fst [unl (decide (s.time≤tm)) 9,doE r s ⟨5,tm,(k:Int),car⟩ k])):=by
 have cN:k < r.ranks.length:=by omega
 have fT:=hf k hk;clear hf;by_cases ht:s.time≤tm
 ·have jn:¬tm < s.time:=by omega
  clear fT;have g:=MY s car r8;by_cases hi:eN s.tk car < 0
  ·rw [show fst [unl (decide (s.time≤tm)) 9,doE r s ⟨5,tm,(k:Int),car⟩ k]=6 by simp [doE,mA,fst,unl,hi,ht]];refine aQ Tryz.func67 rfl (by kernel_rfl) rfl fun M0 w0=>?_;simp only [Tryz.ntmps67,Tryz.results67,aB];repeat' with_reducible first|apply af|apply ae|apply ar|apply aa|refine ah [] ?_|(apply ak;·go_simp)|(apply ab;intro X Y;go_simp;apply Y;clear Y X)
   refine fR 14 [] [⟨12,8,[.string ⟨#[]⟩,.int .i64 0,.int .i64 0,.bool false],none,[]⟩] (by kernel_rfl) (by go_simp) ?_;simp only [ax];repeat (first|(refine fb rfl ?_)|((with_reducible refine fc rfl fun X Y=>?_);go_simp;refine Y _ (by go_simp) ?_;clear Y X)|(with_reducible apply fe))
   refine ⟨by go_simp,?_⟩;simp only [d_,ez,Slot.end_,List.cons_append,List.nil_append];repeat' first|(with_reducible first|apply af|apply ae|apply aT|apply az|apply aA|apply cG|apply aa|refine ah [] ?_|apply aR|(apply aw;·go_simp)|(apply ak;·go_simp)|((first|apply ab|apply aS);intro X Y;go_simp;(first|(refine ⟨_,g,?_⟩)|skip);apply Y;clear Y X))|((refine bg 13 13 [] rfl (by kernel_rfl) ?_);simp only [ax])
   go_simp
  obtain ⟨i,ei,cC,_⟩:=tw (Classical.byContradiction fun hh=>hi (pC.2 hh));have zi:tv s ⟨5,tm,(k:Int),car⟩=aI s.tk i:=by unfold tv;rw [ei,Int.toNat_natCast]
  rw [ei] at g;have rX:¬(i:Int) < 0:=by omega
  by_cases tx:(aI s.tk i).rank=k
  ·have QH:=zh i cC;by_cases aq:tm - (aI s.tk i).time≤r.ret
   ·have la:¬r.ret < tm - (aI s.tk i).time:=by omega
    by_cases ba:((qat s.q k).length:Int) < (rat r.ranks k).places
    ·have sK:¬(rat r.ranks k).places≤(qat s.q k).length:=by omega
     rw [show fst [unl (decide (s.time≤tm)) 9,doE r s ⟨5,tm,(k:Int),car⟩ k]=0 by simp [doE,mA,cm,fst,unl,ei,rX,zi,tx,aq,ba,ht]];refine aQ Tryz.func67 rfl (by kernel_rfl) rfl fun M0 w0=>?_;simp only [Tryz.ntmps67,Tryz.results67,aB];repeat' with_reducible first|apply af|apply ae|apply ar|apply aa|refine ah [] ?_|(apply ak;·go_simp)|(apply ab;intro X Y;go_simp;apply Y;clear Y X)
     refine fR 14 [] [⟨12,8,[.string ⟨#[]⟩,.int .i64 0,.int .i64 0,.bool false],none,[]⟩] (by kernel_rfl) (by go_simp) ?_;simp only [ax];repeat (first|(refine fb rfl ?_)|((with_reducible refine fc rfl fun X Y=>?_);go_simp;refine Y _ (by go_simp) ?_;clear Y X)|(with_reducible apply fe))
     refine ⟨by go_simp,?_⟩;simp only [d_,ez,Slot.end_,List.cons_append,List.nil_append];repeat' first|(with_reducible first|apply af|apply ae|apply az|apply ar|apply aA|apply bf|apply aa|refine ah [] ?_|apply aR|(apply aw;·go_simp)|(apply ak;·go_simp)|((first|apply ab|apply aS);intro X Y;go_simp;(first|(refine ⟨_,g,?_⟩)|skip);apply Y;clear Y X))|((refine bg 12 12 [] rfl (by kernel_rfl) ?_);simp only [ax])|((refine bg 13 13 [] rfl (by kernel_rfl) ?_);simp only [ax])
     go_simp
    ·have sK:(rat r.ranks k).places≤(qat s.q k).length:=by omega
     rw [show fst [unl (decide (s.time≤tm)) 9,doE r s ⟨5,tm,(k:Int),car⟩ k]=16 by simp [doE,mA,cm,fst,unl,ei,rX,zi,tx,aq,ba,ht]];refine aQ Tryz.func67 rfl (by kernel_rfl) rfl fun M0 w0=>?_;simp only [Tryz.ntmps67,Tryz.results67,aB];repeat' with_reducible first|apply af|apply ae|apply ar|apply aa|refine ah [] ?_|(apply ak;·go_simp)|(apply ab;intro X Y;go_simp;apply Y;clear Y X)
     refine fR 14 [] [⟨12,8,[.string ⟨#[]⟩,.int .i64 0,.int .i64 0,.bool false],none,[]⟩] (by kernel_rfl) (by go_simp) ?_;simp only [ax];repeat (first|(refine fb rfl ?_)|((with_reducible refine fc rfl fun X Y=>?_);go_simp;refine Y _ (by go_simp) ?_;clear Y X)|(with_reducible apply fe))
     refine ⟨by go_simp,?_⟩;simp only [d_,ez,Slot.end_,List.cons_append,List.nil_append];repeat' first|(with_reducible first|apply af|apply ae|apply aT|apply az|apply ar|apply aA|apply cG|apply aa|refine ah [] ?_|apply aR|(apply aw;·go_simp)|(apply ak;·go_simp)|((first|apply ab|apply aS);intro X Y;go_simp;(first|(refine ⟨_,g,?_⟩)|skip);apply Y;clear Y X))|((refine bg 12 12 [] rfl (by kernel_rfl) ?_);simp only [ax])|((refine bg 13 13 [] rfl (by kernel_rfl) ?_);simp only [ax])
     go_simp
   ·have la:r.ret < tm - (aI s.tk i).time:=by omega
    rw [show fst [unl (decide (s.time≤tm)) 9,doE r s ⟨5,tm,(k:Int),car⟩ k]=25 by simp [doE,mA,fst,unl,ei,rX,zi,tx,aq,ht]];refine aQ Tryz.func67 rfl (by kernel_rfl) rfl fun M0 w0=>?_;simp only [Tryz.ntmps67,Tryz.results67,aB];repeat' with_reducible first|apply af|apply ae|apply ar|apply aa|refine ah [] ?_|(apply ak;·go_simp)|(apply ab;intro X Y;go_simp;apply Y;clear Y X)
    refine fR 14 [] [⟨12,8,[.string ⟨#[]⟩,.int .i64 0,.int .i64 0,.bool false],none,[]⟩] (by kernel_rfl) (by go_simp) ?_;simp only [ax];repeat (first|(refine fb rfl ?_)|((with_reducible refine fc rfl fun X Y=>?_);go_simp;refine Y _ (by go_simp) ?_;clear Y X)|(with_reducible apply fe))
    refine ⟨by go_simp,?_⟩;simp only [d_,ez,Slot.end_,List.cons_append,List.nil_append];repeat' first|(with_reducible first|apply af|apply ae|apply aT|apply az|apply ar|apply aA|apply cG|apply aa|refine ah [] ?_|apply aR|(apply aw;·go_simp)|(apply ak;·go_simp)|((first|apply ab|apply aS);intro X Y;go_simp;(first|(refine ⟨_,g,?_⟩)|skip);apply Y;clear Y X))|((refine bg 12 12 [] rfl (by kernel_rfl) ?_);simp only [ax])|((refine bg 13 13 [] rfl (by kernel_rfl) ?_);simp only [ax])
    go_simp
  ·rw [show fst [unl (decide (s.time≤tm)) 9,doE r s ⟨5,tm,(k:Int),car⟩ k]=6 by simp [doE,mA,fst,unl,ei,rX,zi,tx,ht]];refine aQ Tryz.func67 rfl (by kernel_rfl) rfl fun M0 w0=>?_;simp only [Tryz.ntmps67,Tryz.results67,aB];repeat' with_reducible first|apply af|apply ae|apply ar|apply aa|refine ah [] ?_|(apply ak;·go_simp)|(apply ab;intro X Y;go_simp;apply Y;clear Y X)
   refine fR 14 [] [⟨12,8,[.string ⟨#[]⟩,.int .i64 0,.int .i64 0,.bool false],none,[]⟩] (by kernel_rfl) (by go_simp) ?_;simp only [ax];repeat (first|(refine fb rfl ?_)|((with_reducible refine fc rfl fun X Y=>?_);go_simp;refine Y _ (by go_simp) ?_;clear Y X)|(with_reducible apply fe))
   refine ⟨by go_simp,?_⟩;simp only [d_,ez,Slot.end_,List.cons_append,List.nil_append];repeat' first|(with_reducible first|apply af|apply ae|apply aT|apply az|apply aA|apply cG|apply aa|refine ah [] ?_|apply aR|(apply aw;·go_simp)|(apply ak;·go_simp)|((first|apply ab|apply aS);intro X Y;go_simp;(first|(refine ⟨_,g,?_⟩)|skip);apply Y;clear Y X))|((refine bg 13 13 [] rfl (by kernel_rfl) ?_);simp only [ax])
   go_simp
 ·have jn:tm < s.time:=by omega
  rw [show fst [unl (decide (s.time≤tm)) 9,doE r s ⟨5,tm,(k:Int),car⟩ k]=9 by simp [fst,unl,ht]];refine aQ Tryz.func67 rfl (by kernel_rfl) rfl fun M0 w0=>?_;simp only [Tryz.ntmps67,Tryz.results67,aB];repeat' with_reducible first|apply af|apply ae|apply aT|apply az|apply aa|refine ah [] ?_|(apply aw;·go_simp)|(apply ab;intro X Y;go_simp;apply Y;clear Y X)
  go_simp
theorem N5 (r:Ru) (s:St) (x:Ev) (hr:RuOK r) (hi:Inv r s) (hx:evE r x=0) : VC Tryz.prog 67 [b8 r,da s,evA x] (I (fst [unl (decide (s.time≤x.time)) 9,doE r s x x.rank.toNat])):=by
 have h1:=vd hx;obtain ⟨h2,h3⟩:=ve hx;have h4:=xO hx;have hk:x.rank.toNat < s.q.length:=by rw [hi.len];omega
 have hlen:r.ranks.length=s.q.length:=hi.len.symm;have mD:jO r s.q.length:=by rw [hi.len];exact hr.feed
 have h6:s.q.length≤6:=by rw [hi.len];exact hr.n6
 have dL:∀ j,j < s.q.length→(qat s.q j).length≤1000000:=fun j hj=>by
  have:=hi.fit j hj;have:=hr.pl j (by omega);omega
 have r8:=hi.tkl;have zh:∀ i,i < s.tk.length→IntKind.i64.wrap (x.time - (aI s.tk i).time)=x.time - (aI s.tk i).time:=fun i cC=>by
  have:=hi.tkt _ (List.getElem_mem cC);rw [←gb cC] at this;have:=hi.t0;exact gZ (by omega) (by omega)
 obtain ⟨kd,tm,rk,car⟩:=x;simp only at h1 h2 h3 h4 hk zh ⊢;obtain ⟨k,rfl⟩ : ∃ k:Nat,rk=k:=⟨rk.toNat,by omega⟩
 rw [Int.toNat_natCast] at hk ⊢;have rM:kd=0∨kd=1∨kd=2∨kd=3∨kd=4∨kd=5:=by omega
 rcases rM with rfl|rfl|rfl|rfl|rfl|rfl
 ·exact NV r s tm k car hk hlen mD (by omega) dL (by omega)
 ·exact NW r s tm k car hk hlen mD (by omega) dL (by omega)
 ·exact NZ r s tm k car hk hlen mD (by omega) dL (by omega)
 ·exact N0 r s tm k car hk hlen mD (by omega) dL (by omega)
 ·exact N3 r s tm k car hk hlen mD (by omega) dL (by omega)
 ·exact N4 r s tm k car hk hlen mD (by omega) dL (by omega) zh
end Go.Proofs.YtoibondihdhnoaaGreatDoor
