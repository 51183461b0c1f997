/- Texts in one: A row is appended to a row of rows: of every program; no condition. -/
import Derived.Test.YtoibondihdhnoaaDoorFRX17
import Derived.Test.YtoibondihdhnoaaDoorFRX52
namespace Go.Proofs.YtoibondihdhnoaaDoor
open Go.RowKit
section
variable {P:Program} {M0:Nat→Nat→Prop} {w0:Bas} {N:Nm} {p:Pl} {st:VS} {a:Act} {w:World}
theorem Rel.bagPush {w':World} {p':Pl} {id g:Nat} {e:TypeId} {sz:Nat} {nl:Bool} {qs qs2:List (List (List AV))} {d:Nat} {A:Option Addr} {n c:Nat} (R:Rel M0 w0 N p st a w) (hd:N.has d) (hi:st.h[id]? = some (some (.bag e sz nl none qs)))
  (hg:w.heap.size≤g∨(nl=false∧g=p id)) (hpid:p' id=g) (hpo:∀ i,i≠id→p' i=p i) (hpS:∀ i,i≠id→p'.S i=p.S i) (hSn:∀ b j,p'.S id b j→(nl=false∧p.S id b j)∨w.heap.size≤b)
  (hos:w'.os=w.os) (htp:w'.tape=w.tape) (hou:w'.output=w.output) (hsz:w.heap.size≤w'.heap.size) (hblk:∀ b,b < w.heap.size→¬(nl=false∧b=p id)→w'.heap[b]? = w.heap[b]?)
  (hob:(∀ {x:AV} {u:Value},V0 w (Mof M0 st.h p) x u→V0 w' (Mof M0 (j3_ id 0 (st.h.set id (some (.bag e sz false none qs2)))) p') x u)→ObOK w0 w' (Mof M0 (j3_ id 0 (st.h.set id (some (.bag e sz false none qs2)))) p') (j3_ id 0 (st.h.set id (some (.bag e sz false none qs2)))) p' id (.bag e sz false none qs2))
  (hv:Osl w' g e 1 false qs2.length (.slice A n c)) :
  Rel M0 w0 N p' ⟨(d,.osl id)::st.s.map (fun q=>(q.1,purge id q.2)),j3_ id 0 (st.h.set id (some (.bag e sz false none qs2)))⟩ (a.put (some d) (.slice A n c)) w':=by
 generalize hh':j3_ id 0 (st.h.set id (some (.bag e sz false none qs2)))=h' at *;have hidl:id < st.h.length:=(List.getElem?_eq_some_iff.1 hi).1;have hlen:h'.length=st.h.length:=by rw [←hh',a0o];simp
 have hpO:∀ {i x j},i≠id→(p'.O i x j↔p.O i x j):=fun hn=>by unfold Pl.O;rw [hpo _ hn,hpS _ hn]
 have hgO:∀ {x j},p'.O id x j→x < w.heap.size→nl=false∧p.O id x j:=fun {x j} h hx=>by
  rcases h with h|h
  ·rw [hpid] at h;rcases hg with hg|⟨hnl,hg⟩
   ·omega
   ·exact ⟨hnl,.inl (by omega)⟩
  ·rcases hSn x j h with h|h
   ·exact ⟨h.1,.inr h.2⟩
   ·omega
 have hobs:∀ i o,h'[i]? = some (some o)→(i=id∧o = .bag e sz false none qs2)∨(i≠id∧∃ o0,st.h[i]? = some (some o0)∧m8_ o0=m8_ o∧((o0=o∧∀ cs,o = .box cs→cs.all (g0_ id 5)=true)∨∃ cs,o0 = .box cs∧o = .box (cs.map (b0a id i))∧cs.all (fun c=>g0_ id 5 c || b6i id c)=true)):=by
  intro i o hio;rw [←hh',v3_] at hio;obtain ⟨x,hx,hpx⟩:=Option.map_eq_some_iff.1 hio;rw [Nat.zero_add] at hpx;rw [List.getElem?_set] at hx;by_cases he:id=i
  ·rw [if_pos he,if_pos (by omega)] at hx;simp only [Option.some.injEq] at hx;subst hx;simp only [p0_,Option.some.injEq] at hpx;exact .inl ⟨he.symm,hpx.symm⟩
  ·rw [if_neg he] at hx;refine .inr ⟨fun h=>he h.symm,?_⟩;cases x with
   | none=>simp [p0_] at hpx
   | some y=>
    cases y with
    | box cs=>
     simp only [p0_] at hpx;split at hpx
     ·rename_i hno;simp only [Option.some.injEq] at hpx;subst hpx;exact ⟨_,hx,rfl,.inl ⟨rfl,fun cs' hc=>by injection hc with hc;subst hc;exact hno⟩⟩
     ·split at hpx
      ·rename_i hno;simp only [Option.some.injEq] at hpx;subst hpx;exact ⟨_,hx,rfl,.inr ⟨cs,rfl,rfl,hno⟩⟩
      ·cases hpx
    | arr e1 s1 n1 l1=>
     simp only [p0_,Option.some.injEq] at hpx;subst hpx;exact ⟨_,hx,rfl,.inl ⟨rfl,fun cs' hc=>by cases hc⟩⟩
    | mpo kf kvs=>
     simp only [p0_,Option.some.injEq] at hpx;subst hpx;exact ⟨_,hx,rfl,.inl ⟨rfl,fun cs' hc=>by cases hc⟩⟩
    | bag e1 s1 n1 pe1 q1=>
     simp only [p0_,Option.some.injEq] at hpx;subst hpx;exact ⟨_,hx,rfl,.inl ⟨rfl,fun cs' hc=>by cases hc⟩⟩
 have hlive:nl=false→m8_ (.bag e sz nl none qs)=true:=fun h=>by subst h;rfl
 have hM:∀ c j,c < w.heap.size→¬Mof M0 st.h p c j→¬Mof M0 h' p' c j:=by
  intro c j hc hn hm;rcases hm with hm|⟨i,o,hio,hlo,hp⟩
  ·exact hn (.inl hm)
  ·rcases hobs i o hio with ⟨rfl,rfl⟩|⟨hne,o0,hio',hl0,_⟩
   ·obtain ⟨hnl,hO⟩:=hgO hp hc;exact hn (.inr ⟨_,_,hi,hlive hnl,hO⟩)
   ·exact hn (.inr ⟨i,o0,hio',hl0.trans hlo,(hpO hne).1 hp⟩)
 have hk:Keeps (Mof M0 st.h p) w w':=.of_blocks hsz fun b hbl hn=>hblk b hbl fun ⟨hnl,he⟩=>hn fun j=>.inr ⟨id,_,hi,hlive hnl,.inl he.symm⟩;have hne:∀ i o,i≠id→st.h[i]? = some (some o)→m8_ o=true→∀ b j,p.O i b j→b < w.heap.size→w'.heap[b]? = w.heap[b]?:=fun i o hn hio hlo b j hO hbl=>hblk b hbl fun ⟨hnl,he⟩=>hn (R.inj i id o _ hio hi hlo (hlive hnl) b j 0 hO (.inl he.symm));have hsame:∀ i o,i≠id→(∀ cs,o≠.box cs)→h'[i]? = some (some o)→st.h[i]? = some (some o):=fun i o hn hnb he=>by
  rcases hobs i _ he with ⟨h,_⟩|⟨_,o0,hio,_,⟨rfl,_⟩|⟨cs,_,hb,_⟩⟩
  ·exact absurd h hn
  ·exact hio
  ·exact absurd hb (hnb _)
 have hOs:∀ i e sz nl es v,i≠id→h'[i]? = some (some (.arr e sz nl es))→(∀ e sz nl es,st.h[i]? = some (some (.arr e sz nl es))→Osl w (p i) e sz nl es.length v)→Osl w' (p i) e sz nl es.length v:=fun i e sz nl es v hn he hv=>by
  have hio:=hsame i _ hn (fun cs h=>by cases h) he;exact (hv _ _ _ _ hio).keep fun hnl hlt=>hne i _ hn hio (by rw [hnl];rfl) _ 0 (.inl rfl) hlt
 have hGs:∀ i e sz nl pend qs v,i≠id→h'[i]? = some (some (.bag e sz nl pend qs))→(∀ e sz nl pend qs,st.h[i]? = some (some (.bag e sz nl pend qs))→Osl w (p i) e 1 nl qs.length v)→Osl w' (p i) e 1 nl qs.length v:=fun i e sz nl pend qs v hn he hv=>by
  have hio:=hsame i _ hn (fun cs h=>by cases h) he;exact (hv _ _ _ _ _ hio).keep fun hnl hlt=>hne i _ hn hio (by rw [hnl];rfl) _ 0 (.inl rfl) hlt
 have hWs:∀ i k sz v,i≠id→i < st.h.length→Sp w st.h p i k sz v→Sp w' h' p' i k sz v:=fun i k sz v hn _ hs=>hs.keep (fun e sz pend qs he=>by
  have hio:=hsame i _ hn (fun cs h=>by cases h) he;exact ⟨hio,hpo i hn,hpS i hn,hne i _ hn hio rfl⟩) hsz
 have hV:∀ (n:Nat) {x:AV} {u:Value},V1 w (Mof M0 st.h p) st.h p x u→g0_ id n x=true→V1 w' (Mof M0 h' p') h' p' x u:=fun n x u hx hn=>V1.purge hk hM (by omega) hpo hOs hGs hWs n x u hx hn;have hV0:∀ {x:AV} {u:Value},V0 w (Mof M0 st.h p) x u→V0 w' (Mof M0 h' p') x u:=fun hx=>hx.keep hk hM;have hF:∀ b,b < w.heap.size→¬(∀ j,Fr w0 b j)→w'.heap[b]? = w.heap[b]?:=fun b hbl hn=>hblk b hbl fun ⟨hnl,he⟩=>hn fun j=>by rw [he];exact (R.objs id _ hi).ge (hlive hnl) j
 refine ⟨R.defers,R.size.put hd,R.below.blocks hos htp hou hsz hF,R.m0,R.x0,fun i=>?_,fun i o hio=>?_,fun i i' o o' hio hio' hlo hlo' x j j' hO hO'=>?_⟩
 ·rw [k9_ a d _ i (R.size.lt hd)];simp only [lkp];split
  ·refine .osl id A n c (by omega) (fun e' sz' nl' es' he=>?_) fun e' sz' nl' pe qs' he=>?_
   ·rcases hobs id _ he with ⟨_,h⟩|⟨h,_⟩
    ·cases h
    ·exact absurd rfl h
   ·rcases hobs id _ he with ⟨_,h⟩|⟨h,_⟩
    ·injection h with h1 h2 h3 h4 h5
     subst h1 h2 h3 h4 h5;rw [hpid];exact hv
    ·exact absurd rfl h
  ·rcases b2l id st.s i with h|h
   ·rw [h];unfold Go.Proofs.YtoibondihdhnoaaDoor.purge;split
    ·rename_i hn;exact hV 5 (R.slots i) hn
    ·exact .base _ _ (.any _)
   ·rw [h];exact .base _ _ (.any _)
 ·rcases hobs i o hio with ⟨rfl,rfl⟩|⟨hn,o0,hio',hl0,⟨rfl,hbx⟩|⟨cs,rfl,rfl,hall⟩⟩
  ·exact hob hV0
  rotate_left
  ·obtain ⟨h1,cur,e,hg,h2,h3,h4⟩:=R.objs i _ hio';refine ⟨by unfold Own;rw [hpo i hn,hpS i hn];exact h1,cur,e,by rw [hpo i hn,hne i _ hn hio' rfl _ 0 (.inl rfl) (Array.getElem?_eq_some_iff.1 hg).1];exact hg,by simpa using h2,fun c hc=>?_,fun j c hj=>?_⟩
   ·obtain ⟨c0,hc0,rfl⟩:=List.mem_map.1 hc;unfold b0a;split
    ·exact h3 c0 hc0
    ·rfl
   ·rw [List.getElem?_map] at hj;obtain ⟨c0,hj0,rfl⟩:=Option.map_eq_some_iff.1 hj;obtain ⟨u,hu,hv⟩:=h4 j c0 hj0;refine ⟨u,hu,?_⟩;unfold b0a;split
    ·rename_i hno;exact hV 5 hv hno
    ·rename_i hno;have:=List.all_eq_true.1 hall c0 (List.mem_of_getElem? hj0);rw [Bool.or_eq_true] at this;rcases this with h|h
     ·exact absurd h hno
     ·obtain ⟨k,rfl⟩ : ∃ k,c0 = .osl k:=by cases c0<;>first|exact ⟨_,rfl⟩|(simp [b6i] at h;done)
      obtain ⟨A2,n2,c2,rfl,_,_⟩:=hv.osl_inv;refine .osl _ _ _ _ (by rw [hlen];exact (List.getElem?_eq_some_iff.1 hio').1) (fun e sz nl es he=>?_) fun e sz nl pe qs he=>?_
      ·rw [hio] at he;cases he
      ·rw [hio] at he;cases he
  ·exact (R.objs i o0 hio').keep (fun _=>⟨hpo i hn,hpS i hn⟩) (fun hlo b j hO hbl=>hne i o0 hn hio' hlo b j hO hbl) hsz hV0 fun cs hcs c hc u hx=>hV 5 hx (List.all_eq_true.1 (hbx cs hcs) c hc)
 ·have hlt:∀ i o,i≠id→st.h[i]? = some (some o)→m8_ o=true→∀ x j j',p.O i x j→¬p'.O id x j':=by
   intro i o hn h1 hl x j j' hO he;obtain ⟨hnl,hO'⟩:=hgO he ((R.objs i o h1).own hl x j hO).2;exact hn (R.inj i id o _ h1 hi hl (hlive hnl) x j j' hO hO')
  rcases hobs i o hio with ⟨rfl,rfl⟩|⟨hn,o1,h1,e1,_⟩<;>rcases hobs i' o' hio' with ⟨rfl,rfl⟩|⟨hn',o2,h2,e2,_⟩
  ·rfl
  ·exact absurd hO (hlt i' o2 hn' h2 (e2.trans hlo') x j' j ((hpO hn').1 hO'))
  ·exact absurd hO' (hlt i o1 hn h1 (e1.trans hlo) x j j' ((hpO hn).1 hO))
  ·exact R.inj i i' o1 o2 h1 h2 (e1.trans hlo) (e2.trans hlo') x j j' ((hpO hn).1 hO) ((hpO hn').1 hO')
theorem a7f {h:Hp} {id i:Nat} {x:Option Ob} {o:Ob} (hio:(j3_ id 0 (h.set id x))[i]? = some (some o)) (hn:i≠id) : ∃ o0,h[i]? = some (some o0)∧m8_ o0=m8_ o:=by
 rw [v3_] at hio;obtain ⟨x,hx,hpx⟩:=Option.map_eq_some_iff.1 hio;rw [List.getElem?_set_ne (Ne.symm hn)] at hx;cases x with
 | none=>simp [p0_] at hpx
 | some y=>
  refine ⟨y,hx,?_⟩;cases y with
  | box cs=>
   simp only [p0_] at hpx;split at hpx
   ·simp only [Option.some.injEq] at hpx;subst hpx;rfl
   ·split at hpx
    ·simp only [Option.some.injEq] at hpx;subst hpx;rfl
    ·cases hpx
  | _=>
   simp only [p0_,Option.some.injEq] at hpx;subst hpx;rfl
theorem b7d {h:Hp} {id:Nat} {e sz:Nat} {nl:Bool} {pend:Option Nat} {qs:List (List (List AV))} (hl:id < h.length) : (j3_ id 0 (h.set id (some (.bag e sz nl pend qs))))[id]? = some (some (.bag e sz nl pend qs)):=by
 rw [v3_,List.getElem?_set_self hl];rfl
theorem c4x {w:World} {t ty e:TypeId} {inf:TypeInfo} {z:Value} (hu:P.underlying t=some (.slice e)) (hinf:P.info? e=some inf) (hz:inf.zero=some z) (hisz:inf.size=1) (hzs:z.cells.size=1) (hby:inf.bytes≤100000)
  {ay:Addr} {cy:Nat} {u0:Value} (huy:w.cell? (ay.add 0)=some u0) (hu1:u0.oneCell'=true) {nl:Bool} {n b0:Nat} {vx:Value} (hx:Osl w b0 e 1 nl n vx) (hn:n+1≤1000000000) :
  ∃ g cap' cur' w',(Builtin.append_ #[t,t] ty #[vx,.slice (some ay) 1 cy]).run P w = .ok (.slice (some ⟨g,0,none⟩) (n+1) cap') w'∧(w.heap.size≤g∨(nl=false∧g=b0))∧w'.heap[g]? = some (.cells cur' e (0,0))∧cur'.size=cap'∧n+1≤cap'∧cap'≤maxLen ∧
   (∀ cur,nl=false→w.heap[b0]? = some (.cells cur e (0,0))→∀ j,j < n→cur'[j]? = cur[j]?)∧cur'[n]? = some u0∧w'.os=w.os∧w'.tape=w.tape∧w'.output=w.output∧w.heap.size≤w'.heap.size∧∀ b,b < w.heap.size→b≠g→w'.heap[b]? = w.heap[b]?:=by
 unfold Osl at hx;cases nl
 ·rw [if_neg (by simp)] at hx;obtain ⟨cap,cur,rfl,hb,hsz,hle,hcm⟩:=hx;rw [Nat.mul_one] at hsz;by_cases hroom:n+1≤cap
  ·have hrun:=run_append_room_cells (P:=P) w t ty e inf hu hinf b0 0 n cap ay 1 cy [u0] (by simp [hisz]) (fun j u hj=>by
    cases j with
    | zero=>simp at hj;rw [←hj];exact huy
    | succ j=>simp at hj) (by simpa using hu1) hroom (fun j hj=>by
    obtain rfl:j=0:=by simpa using hj
    rw [hisz,cell_of_row w b0 _ cur e (0,0) hb];have:n < cur.size:=by omega
    simpa using this) (fun j hj=>by simp [World.frozen?,hb])
   rw [hisz,Nat.mul_one,Nat.zero_add] at hrun;refine ⟨b0,cap,_,_,hrun,.inr ⟨rfl,rfl⟩,x1_ u0 hb,by rw [Array.size_setIfInBounds];exact hsz,hroom,hcm,fun cur2 _ h2 j hj=>?_,?_,rfl,rfl,rfl,Nat.le_of_eq (w0_ w b0 n u0).symm,fun b _ hn=>x2_ u0 hn⟩
   ·rw [hb] at h2;injection h2 with h2
    injection h2 with h2 _ _
    subst h2;rw [Array.getElem?_setIfInBounds_ne (by omega)]
   ·have:n < cur.size:=by omega
    simp [this]
  ·obtain ⟨g,cap',cur',w',hrun,hge,hgl,hg,hnc,hcm',hcs,hold,hnew,hbel⟩:=a5o (P:=P) (w:=w) (ty:=ty) (c:=cy) hu hinf hz hisz hzs hby (A:=some ⟨b0,0,none⟩) (n:=n) (cap:=cap) (olds:=cur.toList.take n) (fun h=>by cases h) (by simp;omega) (fun a0 h0 j u hj=>by
    injection h0 with h0
    subst h0;rw [List.getElem?_take] at hj;split at hj
    ·rw [g1_,cell_of_row w b0 _ cur e (0,0) hb];simpa using hj
    ·cases hj) huy (by omega) hn
   refine ⟨g,cap',cur',w',hrun,.inl hge,hg,hcs,hnc,hcm',fun cur2 _ h2 j hj=>?_,hnew,hbel.os,hbel.tape,hbel.output,hbel.size,fun b hlt _=>hbel.block b hlt⟩;rw [hb] at h2;injection h2 with h2
   injection h2 with h2 _ _
   subst h2;rw [hold j hj,List.getElem?_take_of_lt hj,Array.getElem?_toList]
 ·rw [if_pos rfl] at hx;obtain ⟨⟨A,rfl⟩,rfl⟩:=hx;obtain ⟨g,cap',cur',w',hrun,hge,hgl,hg,hnc,hcm',hcs,hold,hnew,hbel⟩:=a5o (P:=P) (w:=w) (ty:=ty) (c:=cy) hu hinf hz hisz hzs hby (A:=A) (n:=0) (cap:=0) (olds:=[]) (fun _=>⟨rfl,rfl⟩) rfl (fun a0 h0 j u hj=>by simp at hj) huy (by omega) hn;exact ⟨g,cap',cur',w',hrun,.inl hge,hg,hcs,hnc,hcm',fun _ h=>(by cases h),hnew,hbel.os,hbel.tape,hbel.output,hbel.size,fun b hlt _=>hbel.block b hlt⟩
theorem OwnRow.spare {w w':World} {M:Nat→Nat→Prop} {e sz:Nat} {nl:Bool} {es:List (List AV)} {v:Value} (h:OwnRow w w' M e sz nl es v) (_:0 < sz) (hes:∀ (k:Nat) (x:List AV),es[k]? = some x→x.length=sz∧∀ c∈x,g6_ c=true) :
  ∃ A n cap,v = .slice A n cap∧n=es.length∧n≤cap∧(0 < cap→∃ g cur,A=some ⟨g,0,none⟩∧w.heap.size≤g∧w'.heap[g]? = some (.cells cur e (0,0))∧cur.size=cap*sz∧cap≤maxLen ∧
   ∀ M':Nat→Nat→Prop,(∀ b j,b < w'.heap.size→b≠g→¬M b j→¬M' b j)→(∀ j,j < n*sz→¬M' g j)→V0 w' M' (.sl sz es) v)∧(cap=0→∀ M',V0 w' M' (.sl sz es) v):=by
 unfold OwnRow at h;split at h
 ·obtain ⟨⟨A,rfl⟩,he⟩:=h;subst he;exact ⟨A,0,0,rfl,rfl,Nat.le_refl _,fun h=>absurd h (Nat.lt_irrefl 0),fun _ M'=>.slNil _ _ _⟩
 ·obtain ⟨g,cap,cur,rfl,h2,h3,h4,h5,h6,h7⟩:=h;have key:∀ M':Nat→Nat→Prop,(∀ b j,b < w'.heap.size→b≠g→¬M b j→¬M' b j)→(∀ j,j < es.length*sz→¬M' g j)→V0 w' M' (.sl sz es) (.slice (some ⟨g,0,none⟩) es.length cap):=fun M' hM hg=>by
   by_cases hne:es=[]
   ·subst hne;exact .slNil _ _ _
   ·refine .sl sz es cap g 0 (fun k j=>cur.getD (k*sz+j) undef) hne (Array.getElem?_eq_some_iff.1 h3).1 (fun k j hk hj=>?_) h5 (fun k x hk=>(hes k x hk).1) (fun k x j c hk hj=>(hes k x hk).2 c (List.mem_of_getElem? hj)) (fun k j hk hj=>?_) fun k x j c hk hj=>?_
    ·have:(k+1)*sz≤es.length*sz:=Nat.mul_le_mul_right _ hk;rw [Nat.add_mul] at this;rw [Nat.zero_add];exact hg _ (by omega)
    ·rw [cell_of_row w' g _ cur e (0,0) h3,Nat.zero_add];have:(k+1)*sz≤cap*sz:=Nat.mul_le_mul_right _ (by omega);rw [Nat.add_mul] at this;have:k*sz+j < cur.size:=by omega
     simp [this]
    ·obtain ⟨u,hu,hv⟩:=h7 k x j c hk hj;have:cur.getD (k*sz+j) undef=u:=by simp [hu]
     rw [this];exact hv.keep (Keeps.refl _ _) fun b j hlt hn=>hM b j hlt (fun he=>hn (.inr he)) fun hm=>hn (.inl hm)
  refine ⟨_,_,cap,rfl,rfl,h5,fun _=>⟨g,cur,rfl,h2,h3,h4,h6,key⟩,fun h0 M'=>?_⟩;have:es=[]:=List.eq_nil_of_length_eq_zero (by omega);subst this;exact .slNil _ _ _
theorem Rel.pushRow {t ty e e9 id sz d:Nat} {nl nl9:Bool} {qs:List (List (List AV))} {q:List (List AV)} {inf:TypeInfo} {z vx v9:Value} {w2:World} {ay:Addr} {cy:Nat} (R:Rel M0 w0 N p st a w) (hd:N.has d) (hi:st.h[id]? = some (some (.bag e sz nl none qs)))
  (hb:Below w.heap.size w w2) (hosl:Osl w2 (p id) e 1 nl qs.length vx) (ho:OwnRow w w2 (Mof M0 st.h p) e9 sz nl9 q v9) (hq:∀ (k:Nat) (x:List AV),q[k]? = some x→x.length=sz∧∀ c∈x,g6_ c=true)
  (hu:P.underlying t=some (.slice e)) (hinf:P.info? e=some inf) (hz:inf.zero=some z) (hisz:inf.size=1) (hzs:z.cells.size=1) (hby:inf.bytes≤100000) (huy:w2.cell? (ay.add 0)=some v9) (hn:qs.length+1≤1000000000) :
  ∃ v3 w3 p',(Builtin.append_ #[t,t] ty #[vx,.slice (some ay) 1 cy]).run P w2 = .ok v3 w3∧Rel M0 w0 N p' ⟨(d,.osl id)::st.s.map (fun q=>(q.1,purge id q.2)),j3_ id 0 (st.h.set id (some (.bag e sz false none (qs++[q]))))⟩ (a.put (some d) v3) w3∧∀ i,i≠id→p' i=p i:=by
 obtain ⟨hsz0,hbag⟩:=R.objs id _ hi;obtain ⟨A9,n9,c9,hv9,hn9,hle9,hpos9,hzero9⟩:=ho.spare hsz0 hq;have hlv:nl=false→m8_ (Ob.bag e sz nl none qs)=true:=fun h=>by subst h;rfl
 have h91:v9.oneCell'=true:=by rw [hv9];rfl
 obtain ⟨g,cap,cur,w3,hrun,hg,hgc,hgs,hnc,hcm,hold,hnew,hos,htp,hou,hsz,hblk⟩:=c4x (P:=P) (w:=w2) (ty:=ty) (cy:=cy) hu hinf hz hisz hzs hby huy h91 hosl hn;have hg':w.heap.size≤g∨(nl=false∧g=p id):=hg.imp (Nat.le_trans hb.size) fun h=>h;have hlt3:g < w3.heap.size:=(Array.getElem?_eq_some_iff.1 hgc).1;have hblk':∀ b,b < w.heap.size→b≠g→w3.heap[b]? = w.heap[b]?:=fun b hlt hn=>(hblk b (Nat.lt_of_lt_of_le hlt hb.size) hn).trans (hb.block b hlt);obtain ⟨SN,hSN⟩ : ∃ SN:Nat→Nat→Prop,∀ b j,SN b j↔(A9=some ⟨b,0,none⟩∧0 < c9∧n9*sz≤j):=⟨_,fun _ _=>Iff.rfl⟩
 have hSNb:∀ b j,SN b j→w.heap.size≤b∧b < w2.heap.size:=fun b j h=>by
  obtain ⟨h1,h2,h3⟩:=(hSN b j).1 h;obtain ⟨g9,cur9,e1,e2,e3,_⟩:=hpos9 h2;rw [h1] at e1;simp only [Option.some.injEq,Addr.mk.injEq] at e1;obtain ⟨rfl,_⟩:=e1;exact ⟨e2,(Array.getElem?_eq_some_iff.1 e3).1⟩
 obtain ⟨p',hpid,hpo,hpS,hpSid⟩ : ∃ p':Pl,p' id=g∧(∀ i,i≠id→p' i=p i)∧(∀ i,i≠id→p'.S i=p.S i)∧∀ b j,p'.S id b j↔((nl=false∧p.S id b j)∨SN b j):=
  ⟨⟨fun i=>if i=id then g else p i,fun i=>if i=id then fun b j=>(nl=false∧p.S id b j)∨SN b j else p.S i⟩,if_pos rfl,fun i hn=>if_neg hn,fun i hn=>if_neg hn,fun b j=>by simp⟩
 refine ⟨_,w3,p',hrun,⟨R.bagPush (p':=p') (qs2:=qs++[q]) hd hi hg' hpid hpo hpS (fun b j h=>((hpSid b j).1 h).imp (fun h=>h) fun h=>(hSNb b j h).1) (hos.trans hb.os) (htp.trans hb.tape) (hou.trans hb.output) (Nat.le_trans hb.size hsz) (fun b hlt hn=>hblk' b hlt fun he=>?_) (fun keep=>⟨hsz0,?_⟩) ?_,hpo⟩⟩
 ·rcases hg' with h|h
  ·omega
  ·exact hn ⟨h.1,he.trans h.2⟩
 ·rw [if_neg (by simp)];have hold':nl=false→∃ cur0,w.heap[p id]? = some (.cells cur0 e (0,0))∧BagOK w0 w (Mof M0 st.h p) p id e sz none qs∧(∀ j,j < qs.length→cur[j]? = cur0[j]?)∧(∀ (k:Nat) (x:List (List AV)),qs[k]? = some x→∃ v,cur0[k]? = some v∧V0 w (Mof M0 st.h p) (.sl sz x) v∧Spare w p id sz v)∧∀ k k' v v',k < qs.length→k' < qs.length→k≠k'→cur0[k]? = some v→cur0[k']? = some v'→Dist v v':=fun hnl=>by
   rw [if_neg (by simp [hnl])] at hbag;have hB:=hbag;obtain ⟨b1,b2,cur0,b3,b4,b5,b6⟩:=hbag;refine ⟨cur0,b3,hB,fun j hj=>hold cur0 hnl ?_ j hj,fun k x hx=>?_,fun k k' v v' h1 h2 h3 h4 h5=>b6 k k' v v' h1 h2 h3 (by simp) (by simp) h4 h5⟩
   ·rw [hb.block _ (Array.getElem?_eq_some_iff.1 b3).1];exact b3
   ·obtain ⟨v,g1,g2,g3⟩:=b5 k x hx;exact ⟨v,g1,g2,g3 (by simp)⟩
  have hnil:nl=true→qs=[]:=fun hnl=>by rw [if_pos hnl] at hbag;exact hbag
  have hcase:nl=true∨nl=false:=by cases nl<;>simp
  have hSold:nl=false→∀ b j,p.S id b j→Fr w0 b j∧b < w.heap.size:=fun hnl b j hS=>(R.objs id _ hi).own (hlv hnl) b j (.inr hS);refine ⟨fun b j hO=>?_,fun j hS=>?_,cur,by rw [hpid];exact hgc,by rw [List.length_append];simp only [List.length_singleton];omega,fun k x hx=>?_,fun k k' v v' hk hk' hne _ _ hv hv'=>?_⟩
  ·rcases hO with hO|hO
   ·rw [hpid] at hO;subst hO;refine ⟨?_,hlt3⟩;rcases hg' with h|⟨hnl,h⟩
    ·exact .inl (Nat.le_trans R.below.size h)
    ·rw [h];exact (R.objs id _ hi).ge (hlv hnl) j
   ·rcases (hpSid b j).1 hO with ⟨hnl,h⟩|h
    ·have:=hSold hnl b j h;exact ⟨this.1,Nat.lt_of_lt_of_le this.2 (Nat.le_trans hb.size hsz)⟩
    ·have:=hSNb b j h;exact ⟨.inl (Nat.le_trans R.below.size this.1),Nat.lt_of_lt_of_le this.2 hsz⟩
  ·rw [hpid] at hS;rcases (hpSid g j).1 hS with ⟨hnl,h⟩|h
   ·have h1:=(hSold hnl g j h).2;rcases hg' with h2|⟨_,h2⟩
    ·omega
    ·rw [h2] at h;obtain ⟨_,_,hB,_⟩:=hold' hnl;exact hB.2.1 j h
   ·have h1:=hSNb g j h;rcases hg with h2|⟨hnl,h2⟩
    ·omega
    ·have:=(R.objs id _ hi).lt (hlv hnl);omega
  ·rcases Nat.lt_or_ge k qs.length with hl|hl
   ·rw [List.getElem?_append_left hl] at hx;rcases hcase with hnl|hnl
    ·rw [hnil hnl] at hl;simp at hl
    ·obtain ⟨cur0,_,_,e2,e3,_⟩:=hold' hnl;obtain ⟨v,g1,g2,g3⟩:=e3 k x hx;refine ⟨v,by rw [e2 k hl];exact g1,keep g2,fun _=>?_⟩;obtain ⟨A,n,c,q1,q2,q3⟩:=g3;refine ⟨A,n,c,q1,q2,fun hlt=>?_⟩;obtain ⟨b,o,cb,tb,r1,r2,r3,r4,r5,r6,r7⟩:=q3 hlt;have hbl:=(Array.getElem?_eq_some_iff.1 r2).1;have hbg:b≠g:=fun he=>by
      rcases hg' with h|⟨_,h⟩
      ·omega
      ·exact r6 (he.trans h)
     exact ⟨b,o,cb,tb,r1,(hblk' b hbl hbg).trans r2,r3,r4,r5,by rw [hpid];exact hbg,fun j hj=>(hpSid b j).2 (.inl ⟨hnl,r7 j hj⟩)⟩
   ·rw [List.getElem?_append_right hl] at hx;have hk0:k=qs.length:=by
     have:=(List.getElem?_eq_some_iff.1 hx).1;simp at this;omega
    subst hk0;simp only [Nat.sub_self,List.getElem?_cons_zero,Option.some.injEq] at hx;subst hx;refine ⟨v9,hnew,?_,fun _=>?_⟩
    ·rcases Nat.eq_zero_or_pos c9 with h0|h0
     ·have hq0:q=[]:=List.eq_nil_of_length_eq_zero (by omega);have hn0:n9=0:=by omega
      rw [hv9,hq0,hn0];exact .slNil _ _ _
     ·obtain ⟨g9,cur9,e1,e2,e3,e4,e5,e6⟩:=hpos9 h0;have h9g:g9≠g:=fun he=>by
       have:=(Array.getElem?_eq_some_iff.1 e3).1;rcases hg with h2|⟨hnl,h2⟩
       ·omega
       ·have:=(R.objs id _ hi).lt (hlv hnl);omega
      refine (e6 (Mof M0 (j3_ id 0 (st.h.set id (some (.bag e sz false none (qs++[q]))))) p') (fun b j hlt hn9 hm hm'=>?_) fun j hj hm'=>?_).keep (.of_blocks hsz fun b hlt hn=>hblk b hlt fun he=>hn fun j=>?_) fun _ _ _ h=>h
      ·rcases hm' with hm'|⟨i,ob,hio,hlo,hO⟩
       ·exact hm (.inl hm')
       ·by_cases hii:i=id
        ·subst hii;rcases hO with hO|hO
         ·rw [hpid] at hO;rcases hg with h2|⟨hnl,h2⟩
          ·omega
          ·exact hm (.inr ⟨i,_,hi,hlv hnl,.inl (by omega)⟩)
         ·rcases (hpSid b j).1 hO with ⟨hnl,h⟩|h
          ·exact hm (.inr ⟨i,_,hi,hlv hnl,.inr h⟩)
          ·obtain ⟨q1,_,_⟩:=(hSN b j).1 h;rw [e1] at q1;simp only [Option.some.injEq,Addr.mk.injEq] at q1;exact hn9 q1.1.symm
        ·obtain ⟨o0,h1,h2⟩:=a7f hio hii;refine hm (.inr ⟨i,o0,h1,h2.trans hlo,?_⟩);rcases hO with hO|hO
         ·exact .inl (by rw [←hpo i hii];exact hO)
         ·exact .inr (by rw [←hpS i hii];exact hO)
      ·rcases hm' with hm'|⟨i,ob,hio,hlo,hO⟩
       ·exact R.h0 _ _ hm' (.inl (Nat.le_trans R.below.size e2))
       ·by_cases hii:i=id
        ·subst hii;rcases hO with hO|hO
         ·rw [hpid] at hO;exact h9g hO.symm
         ·rcases (hpSid g9 j).1 hO with ⟨hnl,h⟩|h
          ·have:=(hSold hnl g9 j h).2;omega
          ·have:=((hSN g9 j).1 h).2.2;omega
        ·obtain ⟨o0,h1,h2⟩:=a7f hio hii;have:p.O i g9 j:=by
          rcases hO with hO|hO
          ·exact .inl (by rw [←hpo i hii];exact hO)
          ·exact .inr (by rw [←hpS i hii];exact hO)
         have:=((R.objs i o0 h1).own (h2.trans hlo) g9 j this).2;omega
      ·exact .inr ⟨id,_,b7d (List.getElem?_eq_some_iff.1 hi).1,rfl,.inl (by rw [hpid,he])⟩
    ·refine ⟨A9,n9,c9,hv9,hle9,fun hlt=>?_⟩;obtain ⟨g9,cur9,e1,e2,e3,e4,e5,e6⟩:=hpos9 (by omega);have hl2:=(Array.getElem?_eq_some_iff.1 e3).1;have h9g:g9≠g:=fun he=>by
      rcases hg with h2|⟨hnl,h2⟩
      ·omega
      ·have:=(R.objs id _ hi).lt (hlv hnl);omega
     exact ⟨g9,0,cur9,e9,e1,(hblk g9 hl2 h9g).trans e3,by omega,e5,hsz0,by rw [hpid];exact h9g,fun j hj=>(hpSid g9 j).2 (.inr ((hSN g9 j).2 ⟨e1,by omega,by omega⟩))⟩
  ·have hlen:(qs++[q]).length=qs.length+1:=by simp
   rw [hlen] at hk hk';have hrow:∀ (k:Nat) (v:Value),k < qs.length→cur[k]? = some v→Dist v v9:=fun k v hl hv=>by
    rcases hcase with hnl|hnl
    ·rw [hnil hnl] at hl;simp at hl
    ·obtain ⟨cur0,_,_,e2,e3,_⟩:=hold' hnl;obtain ⟨v2,g1,_,g3⟩:=e3 k _ (List.getElem?_eq_getElem hl);rw [e2 k hl,g1] at hv;obtain rfl:=Option.some.inj hv;intro b o n c b' o' n' c' q1 q2 l1 l2 hbb;obtain ⟨A,n1,c1,r1,r2,r3⟩:=g3;rw [q1] at r1;simp only [Value.slice.injEq] at r1;obtain ⟨rfl,rfl,rfl⟩:=r1;obtain ⟨b1,o1,cb,tb,s1,s2,_⟩:=r3 l1;simp only [Option.some.injEq,Addr.mk.injEq] at s1;obtain ⟨rfl,_⟩:=s1;have h1:=(Array.getElem?_eq_some_iff.1 s2).1;rw [hv9] at q2;simp only [Value.slice.injEq] at q2;obtain ⟨q2,rfl,rfl⟩:=q2;obtain ⟨g9,cur9,e1,e2,_⟩:=hpos9 (by omega);rw [q2] at e1;simp only [Option.some.injEq,Addr.mk.injEq] at e1;omega
   rcases Nat.lt_or_ge k qs.length with hl|hl<;>rcases Nat.lt_or_ge k' qs.length with hl'|hl'
   ·rcases hcase with hnl|hnl
    ·rw [hnil hnl] at hl;simp at hl
    ·obtain ⟨cur0,_,_,e2,_,e4⟩:=hold' hnl;rw [e2 k hl] at hv;rw [e2 k' hl'] at hv';exact e4 k k' v v' hl hl' hne hv hv'
   ·have:k'=qs.length:=by omega
    subst this;rw [hnew] at hv';obtain rfl:=Option.some.inj hv';exact hrow k v hl hv
   ·have:k=qs.length:=by omega
    subst this;rw [hnew] at hv;obtain rfl:=Option.some.inj hv;exact (hrow k' v' hl' hv').symm
   ·omega
 ·unfold Osl;rw [if_neg (by simp)];exact ⟨cap,cur,by simp,hgc,by omega,by rw [List.length_append];exact hnc,hcm⟩
end
section
variable {P:Program} {M0:Nat→Nat→Prop} {w0:Bas} {N:Nm} {p:Pl} {st:VS} {a:Act} {w:World} {Q:Exit→VS→Prop}
theorem c9c {id:Nat} {l:List Oper} (n:Nat) (ow:List Nat) (isC:Nat→Bool) (S2:VS) (T:Pl→Act→World→Nat→Value→World→Prop) (hm:P.follows .mixedOrders=true) (hB:Region.specB l.toArray n=true)
  (hT:∀ p a w i v w1 w2,T p a w i v w1→Below w1.heap.size w1 w2→T p a w i v w2)
  (h:n1_ P l isC (l.take n) 0 st fun st'=>
   (∀ p a w,Rel M0 w0 N p st a w→∀ i o,i < n→isC i=true→l[i]? = some o→o.guard=none∧∀ a' w',Below w.heap.size w w' →
    (∀ t∈o.looksAt l.toArray,V1 w' (Mof M0 st.h p) st.h p (lkp st'.s t) (a'.tmps.getD t undef))→(∀ t,(∀ j q,j < n→l[j]? = some q→q.dst≠some t)→a'.tmps.getD t undef=a.tmps.getD t undef) →
    (∀ j q d,j < n→isC j=true→l[j]? = some q→q.dst=some d→Region.waitsFor .any l.toArray i j=true→T p a w j (a'.tmps.getD d undef) w') →
    gives P o a' w' fun v w''=>T p a w i v w''∧Below w'.heap.size w' w'') ∧
   (∀ p a w a' w',Rel M0 w0 N p st a w→Below w.heap.size w w'→Rel M0 w0 N p st' a' w'→(∀ t,(∀ j q,j < n→l[j]? = some q→q.dst≠some t)→a'.tmps.getD t undef=a.tmps.getD t undef) →
    (∀ j q d,j < n→isC j=true→l[j]? = some q→q.dst=some d→T p a w j (a'.tmps.getD d undef) w') →
    ∃ (so:Oper) (d:Nat) (v3:Value) (w3:World) (p2:Pl),l[n]? = some so∧so.guard=none∧so.dst=some d∧(execOp a'.eval so).run P w' = .ok (.value v3) w3∧Rel M0 w0 N p2 S2 (a'.put (some d) v3) w3)∧y2_ P ow l (l.drop (n+1)) S2 (Q .normal)) :
  VWp P M0 w0 N (.region id l.toArray true) Q st:=fun hCd p a w R=>by
 have hN:l.all (q9_ N)=true:=by simpa [n7_] using hCd
 obtain ⟨rs,hrl,⟨hTell,hEnd,hTail⟩,hP,hAny⟩:=l2_ _ _ _ h;have hB':=hB;simp only [Region.specB,Bool.and_eq_true,decide_eq_true_eq] at hB';obtain ⟨⟨⟨⟨⟨⟨_,hnl⟩,_⟩,_⟩,hd⟩,hlook⟩,_⟩:=hB';have hnl':n < l.length:=by simpa using hnl
 have hd':j5_ (l.take n)=true:=by simpa using hd
 have hlen:(l.take n).length=n:=by simp;omega
 rw [hlen] at hrl;have hlk:∀ i,i < n→∀ o,l[i]? = some o→(∀ t∈o.looksAt l.toArray,∀ j,j < n→∀ q,l[j]? = some q→q.dst=some t→Region.waitsFor .any l.toArray i j=true)∧(∀ e∈o.after,Region.binds .any e=true→e.on < i):=by
  intro i hi o ho;have h:=List.all_eq_true.1 hlook i (List.mem_range.2 hi);simp only [List.getElem?_toArray,ho,Bool.and_eq_true] at h;refine ⟨fun t ht j hj q hq hqd=>?_,fun e he hb=>?_⟩
  ·have h1:=List.all_eq_true.1 (List.all_eq_true.1 h.1 t ht) j (List.mem_range.2 hj);simp only [hq,Option.bind_some,hqd,bne_self_eq_false,Bool.false_or] at h1;exact h1
  ·have h1:=Array.all_eq_true'.1 h.2 e he;simp only [hb,Bool.not_true,Bool.false_or,decide_eq_true_eq] at h1;exact h1
 have hlt:∀ i j,i < n→Region.waitsFor .any l.toArray i j=true→j < i:=by
  intro i j hi hw;obtain ⟨o,ho,e,he,hb,hon⟩:=Region.waitsFor_spec hw;rw [←hon];exact (hlk i hi o (by simpa using ho)).2 e he hb
 have hNt:(l.take n).all (q9_ N)=true:=List.all_eq_true.2 fun q hq=>List.all_eq_true.1 hN q (List.mem_of_mem_take hq);have hat:∀ {i:Nat} {o:Oper},i < n→l[i]? = some o→(l.take n)[i]? = some o:=fun {i o} hi ho=>by rw [List.getElem?_take_of_lt hi];exact ho
 have hbnd:∀ q∈l.take n,∀ d,q.dst=some d→d < a.tmps.size:=fun q hq d hdd=>R.size.lt (f8_ (List.all_eq_true.1 hNt q hq) d hdd);have hanyi:∀ i,i < n→isC i=true→rs.getD i .any = .any:=fun i hi hc=>by
  have hil:i < l.length:=by omega
  have:=hAny i _ (by rw [Nat.zero_add];exact hc) (hat hi (List.getElem?_eq_getElem hil));rw [List.getD_eq_getElem?_getD,this];rfl
 have hval:∀ {vs:Nat→Value} {j d:Nat} {q:Oper},j < n→l[j]? = some q→q.dst=some d→(fill (fun _=>true) vs (l.take n) 0 a).tmps.getD d undef=vs j:=fun {vs j d q} hj hq hdd=>by
  rw [a8s (l.take n) 0 a d j q hd' hbnd (hat hj hq) hdd,Nat.zero_add]
 refine p8_ n (fun i v w'=>V1 w' (Mof M0 st.h p) st.h p (rs.getD i .any) v∧(isC i=true→T p a w i v w')) hm hB
  (fun i _ v w1 w2 hv hb=>⟨hv.1.later hb,fun hc=>hT _ _ _ _ _ _ _ (hv.2 hc) hb⟩) (fun i hi=>?_) fun vs w' hb hv=>?_
 ·by_cases hc:isC i=true
  ·intro o ho vs w' hbel hS;have ho':l[i]? = some o:=by simpa using ho
   obtain ⟨hg,hh⟩:=hTell p a w R i o hi hc ho';simp only [Region.wanted,hg,if_true];refine a3j (hh _ w' hbel (fun t ht=>?_) (fun t ht=>?_) fun j q d hj hcj hq hdd hw=>?_) fun v w'' hvw=>⟨⟨?_,fun _=>hvw.1⟩,hvw.2⟩
   ·have R':=R.later hbel;by_cases hex:∃ (j:Nat) (q:Oper),(l.take n)[j]? = some q∧q.dst=some t
    ·obtain ⟨j,q,hj,hq⟩:=hex;have hjn:j < n:=by have:=(List.getElem?_eq_some_iff.1 hj).1;omega
     have hj':l[j]? = some q:=by rw [List.getElem?_take_of_lt hjn] at hj;exact hj
     have hw:=(hlk i hi o ho').1 t ht j hjn q hj' hq;rw [hval hjn hj' hq,r1_ (l.take n) rs st t j q (rs.getD j .any) hd' hj (by simp [List.getD,show j < rs.length by omega]) hq];exact (hS j hjn hw).1
    ·have hno:∀ o∈l.take n,o.dst≠some t:=fun o ho he=>by
      obtain ⟨j,hj⟩:=List.mem_iff_getElem?.1 ho;exact hex ⟨j,o,hj,he⟩
     have e1:=u6_ (vs:=vs) (l.take n) 0 a t hno hbnd;rw [e1,p6_ _ _ _ _ hno];exact R'.slots t
   ·refine u6_ (l.take n) 0 a t (fun q hq he=>?_) hbnd;obtain ⟨j,hj⟩:=List.mem_iff_getElem?.1 hq;have hjn:j < n:=by have:=(List.getElem?_eq_some_iff.1 hj).1;omega
    exact ht j q hjn (by rw [List.getElem?_take_of_lt hjn] at hj;exact hj) he
   ·have:=(hS j hj hw).2 hcj;have e1:=hval (vs:=vs) hj hq hdd;rw [e1];exact this
   ·rw [hanyi i hi hc];exact .base _ _ (.any v)
  ·have hc':isC i=false:=by simpa using hc
   refine b1d (b5e R (Nat.le_of_lt hnl') hd' hN (fun i hi o ho t ht j hj q hq hqd=>(hlk i hi o ho).1 t ht j hj q hq hqd) hlt hrl i (fun o r ho hr=>(hP i o r (by rw [Nat.zero_add];exact hc') ho hr).1) hi) (fun j v w' hh=>hh.1) fun v w' hh=>⟨hh,fun h=>absurd h hc⟩
 ·obtain ⟨so,ds,v3,w3,p2,hso,hsg,hsd,hrun,R2⟩:=hEnd p a w _ w' R hb (q5_ R hd' hNt (by rw [hlen];exact hrl) hb (by rw [hlen];exact fun i hi=>(hv i hi).1)) (fun t ht=>by
   refine u6_ (l.take n) 0 a t (fun q hq he=>?_) hbnd;obtain ⟨j,hj⟩:=List.mem_iff_getElem?.1 hq;have hjn:j < n:=by have:=(List.getElem?_eq_some_iff.1 hj).1;omega
   exact ht j q hjn (by rw [List.getElem?_take_of_lt hjn] at hj;exact hj) he) fun j q d hj hcj hq hdd=>by
    rw [hval hj hq hdd];exact (hv j hj).2 hcj
  have hNd:(l.drop (n+1)).all (q9_ N)=true:=List.all_eq_true.2 fun q hq=>List.all_eq_true.1 hN q (List.mem_of_mem_drop hq);have hcons:l.drop n=so::l.drop (n+1):=by
   rw [List.drop_eq_getElem_cons hnl'];congr 1;rw [List.getElem?_eq_getElem hnl'] at hso;exact Option.some.inj hso
  rw [hcons];refine wpList_step fun Y Z=>?_;simp only [Region.wanted,hsg,if_true];unfold Oper.wp;rw [hrun];show Y _ _;rw [hsd];exact Z _ _ (r0_ (ow:=ow) hN (fun p st a w R h=>⟨st,p,R,h⟩) (l.drop (n+1)) p2 _ _ w3 hNd R2 hTail)
theorem c1m {ops:List Oper} {o:Oper} {K K':VS→Prop} (h:b7p P ops o st K) (hk:∀ st',K st'→K' st') : b7p P ops o st K':=by
 unfold b7p d2l at h ⊢;split
 ·rename_i hg;rw [hg] at h;obtain ⟨r,h1,h2⟩:=h;exact ⟨r,h1,hk _ h2⟩
 ·rename_i j want hg;rw [hg] at h;simp only at h;split
  ·rename_i b hb;rw [hb] at h;simp only at h;split
   ·rename_i hw;rw [if_pos hw] at h;obtain ⟨r,h1,h2⟩:=h;exact ⟨r,h1,hk _ h2⟩
   ·rename_i hw;rw [if_neg hw] at h;exact hk _ h
  ·rename_i vs hb;rw [hb] at h;exact hk _ h
  ·split at h
   ·rename_i hb1 hb2 _ _ hb;exact absurd hb (by first|exact hb1 _|exact hb2 _)
   ·rename_i hb1 hb2 _ _ hb;exact absurd hb (by first|exact hb1 _|exact hb2 _)
   ·exact h
theorem a1o {ops:List Oper} {isC:Nat→Bool} {K K':VS→Prop} : ∀ {l:List Oper} {i:Nat} {T:VS},n1_ P ops isC l i T K→(∀ T',K T'→K' T')→n1_ P ops isC l i T K'
 | [],_,_,h,hk=>hk _ h
 | o::l,i,T,h,hk=>by
  unfold n1_ at h ⊢;split
  ·rename_i hc;rw [if_pos hc] at h;exact a1o h hk
  ·rename_i hc;rw [if_neg hc] at h;exact c1m h fun T' ⟨h1,h2⟩=>⟨h1,a1o h2 hk⟩
def c9d (id:Nat) : AV→Bool
 | .lit _=>true
 | .ref i _=>i != id
 | _=>false
theorem c1n:∀ (s:List (Nat×AV)) (t:Nat),lkp s t = .any∨(t,lkp s t)∈s
 | [],_=>.inl rfl
 | (c,v)::r,t=>by
  simp only [lkp];split
  ·rename_i h;subst h;exact .inr List.mem_cons_self
  ·exact (c1n r t).imp (fun h=>h) fun h=>List.mem_cons_of_mem _ h
theorem b1h (f:Nat→Bool) (g:AV→AV) : ∀ (s:List (Nat×AV)) (t:Nat),lkp ((s.filter fun q=>f q.1).map fun q=>(q.1,g q.2)) t = .any∨(f t=true∧lkp ((s.filter fun q=>f q.1).map fun q=>(q.1,g q.2)) t=lkp (s.map fun q=>(q.1,g q.2)) t)
 | [],_=>.inl rfl
 | (c,v)::r,t=>by
  have ih:=b1h f g r t;by_cases hc:f c=true
  ·rw [List.filter_cons_of_pos (by simpa using hc)];simp only [List.map_cons,lkp];by_cases he:c=t
   ·subst he;simp [hc]
   ·simp only [if_neg he];exact ih
  ·rw [List.filter_cons_of_neg (by simpa using hc)];by_cases he:c=t
   ·subst he;exact .inl (ih.elim (fun h=>h) fun h=>absurd h.1 hc)
   ·simp only [List.map_cons,lkp,if_neg he];exact ih
def a1p (l:List Oper) (t:Nat) : Bool:=l.any fun o=>o.dst == some t
theorem d3n {id:Nat} {l:List Oper} (n ic il:Nat) (ow:List Nat) (KS:List (Nat×AV)) {k:FuncId} {args:List AV} {idb e sz dc dl d t t1 e9:Nat} {nl nl9:Bool} {q:List (List AV)} {qs:List (List (List AV))} {ti te ti1:TI} {x:Operand} {oc ol oa:Oper} {cargs:Array Operand} {cts:Array TypeId} {callee:Callee}
  (g:VCo P k args e9 sz nl9 q) (hm:P.follows .mixedOrders=true) (hB:Region.specB l.toArray n=true) (hil:ic < n∧il < n∧ic≠il) (hoc:l[ic]? = some oc) (hol:l[il]? = some ol) (hoa:l[n]? = some oa)
  (hc:oc.op = .call ⟨callee,cargs,cts⟩∧oc.dst=some dc∧oc.guard=none) (hl:ol.op = .buildSlice t1 1 #[(0,.tmp dc)]∧ol.dst=some dl∧ol.guard=none) (ha:oa.op = .call ⟨.builtin .append,#[x,.tmp dl],#[t,t]⟩∧oa.dst=some d∧oa.guard=none)
  (hw:Region.waitsFor .any l.toArray il ic=true) (hti:c3_ P t=some ti) (hk:ti.kind=1∧ti.elem=e) (hte:c3_ P e=some te) (hte1:te.size=1∧te.zero.length=1∧te.bytes≤100000) (hrow:∀ A m c,c7m P t1 1 [(0,.lit (.slice A m c))]=some ([.lit (.slice A m c)],ti1))
  (hid:st.h[idb]? = some (some (.bag e sz nl none qs))) (hlen:qs.length+1≤1000000000)
  (h:n1_ P l (fun i=>i == ic || i == il) (l.take n) 0 st fun T=>T.h=st.h∧z0_ P (ev T) ⟨callee,cargs,cts⟩=some (k,args)∧args.all (m3_ 5)=true∧ev T x = .osl idb∧(∀ y∈KS,lkp T.s y.1=y.2∧c9d idb y.2=true) ∧
   y2_ P ow l (l.drop (n+1)) ⟨(d,.osl idb)::(KS++(st.s.filter fun y=>!a1p (l.take n) y.1).map fun y=>(y.1,purge idb y.2)),j3_ idb 0 (st.h.set idb (some (.bag e sz false none (qs++[q]))))⟩ (Q .normal)) :
  VWp P M0 w0 N (.region id l.toArray true) Q st:=fun hCd=>by
 have hN:l.all (q9_ N)=true:=by simpa [n7_] using hCd
 obtain ⟨hc1,hc2,hc3⟩:=hc;obtain ⟨hl1,hl2,hl3⟩:=hl;obtain ⟨ha1,ha2,ha3⟩:=ha;obtain ⟨hk1,rfl⟩:=hk;obtain ⟨ht1,ht2,ht3⟩:=hte1;have hd:N.has d:=f8_ (List.all_eq_true.1 hN oa (List.mem_of_getElem? hoa)) d ha2;refine c9c n ow (fun i=>i == ic || i == il) ⟨(d,.osl idb)::(KS++(st.s.filter fun y=>!a1p (l.take n) y.1).map fun y=>(y.1,purge idb y.2)),j3_ idb 0 (st.h.set idb (some (.bag ti.elem sz false none (qs++[q]))))⟩
  (fun p a w i v w'=>if i=ic then OwnRow w w' (Mof M0 st.h p) e9 sz nl9 q v else ∃ b v9,v = .slice (some ⟨b,0,none⟩) 1 1∧(∃ cur t,w'.heap[b]? = some (.cells cur t (0,0))∧cur[0]? = some v9)∧OwnRow w w' (Mof M0 st.h p) e9 sz nl9 q v9) hm hB (fun p a w i v w1 w2 hv hb=>?_) ?_ hCd
 ·split
  ·rename_i hi;rw [if_pos hi] at hv;exact hv.later hb
  ·rename_i hi;rw [if_neg hi] at hv;obtain ⟨b,v9,h1,⟨cur,t0,h2,h3⟩,h4⟩:=hv;exact ⟨b,v9,h1,⟨cur,t0,(hb.block b (Array.getElem?_eq_some_iff.1 h2).1).trans h2,h3⟩,h4.later hb⟩
 ·refine a1o h fun T ⟨hT,hcal,hpure,hx,hKS,hrun⟩=>⟨?_,?_,hrun⟩
  ·intro p a w R i o hi hci ho;have hi2:i=ic∨i=il:=by simpa using hci
   have hMk:∀ {w'},Below w.heap.size w w'→MOK w' (Mof M0 st.h p):=fun hb=>(R.later hb).mok;rcases hi2 with rfl|rfl
   ·rw [hoc] at ho;obtain rfl:=Option.some.inj ho;refine ⟨hc3,fun a' w' hb hlk hold hdep=>?_⟩;obtain ⟨dst,op,ty,pos,after,guard⟩:=oc;simp only at hc1 hc2 hc3;subst hc1 hc2 hc3;have R':=R.later hb;obtain ⟨hgo,hsz,hes,hcalls⟩:=g;obtain ⟨vs,hrn,hln,hvs⟩:=a0n (P:=P) (a:=a') (w:=w') (M:=Mof M0 st.h p) (h:=st.h) (p:=p) (dst:=some dc) (ty:=ty) (pos:=pos) (after:=after) (guard:=none) (fun y hy=>by
     cases y with
     | tmp t0=>exact hlk t0 (List.mem_append_left _ (List.mem_filterMap.2 ⟨.tmp t0,by simpa using hy,rfl⟩))
     | const v=>exact .base _ _ (.lit v)
     | global g=>exact .base _ _ (R'.evalG g)
     | func f=>exact .base _ _ (.lit _)) hcal hgo
    unfold gives;rw [hrn];refine (hcalls w' (Mof M0 st.h p) vs (hMk hb) hln fun i b v hb' hv'=>(hvs i b v hb' hv').pure 5 (List.all_eq_true.1 hpure b (List.mem_of_getElem? hb'))).mono ?_;rintro en w2 ⟨v,rfl,hb2,ho2⟩;exact ⟨v,rfl,by rw [if_pos rfl];exact ho2.base hb.size,hb2⟩
   ·rw [hol] at ho;obtain rfl:=Option.some.inj ho;refine ⟨hl3,fun a' w' hb hlk hold hdep=>?_⟩;have h9:=hdep ic oc dc hil.1 (by simp) hoc hc2 hw;rw [if_pos rfl] at h9;obtain ⟨A,m,c,e10⟩ : ∃ A m c,a'.tmps.getD dc undef = .slice A m c:=by
     unfold OwnRow at h9;split at h9
     ·obtain ⟨⟨A,h5⟩,_⟩:=h9;exact ⟨A,0,0,h5⟩
     ·obtain ⟨g,cap,cur,h5,_⟩:=h9;exact ⟨_,_,_,h5⟩
    obtain ⟨us,hrun,hcs,_⟩:=a9x (P:=P) (w:=w') (M:=fun _ _=>False) (h:=[]) (p:=p) (t:=t1) (n:=1) (parts:=[(0,.lit (.slice A m c))]) (vals:=#[(0,.slice A m c)]) rfl (fun i a v h1 h2=>by
     cases i with
     | zero=>simp at h1 h2;subst h1;subst h2;exact .base _ _ (.lit _)
     | succ i=>simp at h1) (hrow A m c)
    have hus:us=[.slice A m c]:=by
     obtain ⟨g1,_,g3⟩:=hcs;match us,g1 with
     | [u],_=>
      have:=(g3 0 _ u rfl rfl).lit_inv;rw [this]
    subst hus;have e10':a'.eval (.tmp dc) = .slice A m c:=e10;unfold gives;simp only [execOp,hl1,Sem.run_bind,List.map_toArray,List.map_cons,List.map_nil,e10',hrun,Result.andThen_ok,Sem.run_pure];refine ⟨?_,g9_ _ _⟩;rw [if_neg (Ne.symm hil.2.2)];rw [e10] at h9;exact ⟨_,.slice A m c,rfl,⟨#[.slice A m c],ti1.elem,by simp,rfl⟩,h9.later (g9_ _ _)⟩
  ·intro p a w a' w' R hb R' hold hTd;have h9:=hTd il ol dl hil.2.1 (by simp) hol hl2;rw [if_neg (Ne.symm hil.2.2)] at h9;obtain ⟨b,v9,e9,⟨cur,t0,hcur,hc0⟩,ho⟩:=h9;have hxv:=R'.eval x;rw [hx] at hxv;obtain ⟨Ax,nx,cx,hxq,_,hosl⟩:=hxv.bag_inv;have hosl:=hosl _ _ _ _ _ (by rw [hT];exact hid);obtain ⟨dd,inf,z,hdd,hinf,hz,hz1,hteq⟩:=c1_ hte;have hisz:inf.size=1:=by rw [←ht1,hteq]
   have hzs:z.cells.size=1:=by rw [←ht2,hteq,Array.length_toList]
   have hby':inf.bytes≤100000:=by rw [hteq] at ht3;exact ht3
   have hu:=k8_ hti hk1;have hsz:=g.2.1;obtain ⟨v3,w3,p2,hrun3,R3,hpo⟩:=R.pushRow (ty:=oa.type) (cy:=1) (ay:=⟨b,0,none⟩) hd hid hb hosl ho g.2.2.1 hu hinf hz hisz hzs hby' (by
    show w'.cell? ⟨b,0,none⟩=some v9;rw [cell_of_row w' b _ cur t0 (0,0) hcur];exact hc0) hlen
   refine ⟨oa,d,v3,w3,p2,hoa,ha3,ha2,?_,?_⟩
   ·have e9':a'.eval (.tmp dl) = .slice (some ⟨b,0,none⟩) 1 1:=e9;simp only [execOp,ha1,resolve,invoke,builtin,Sem.run_bind,Sem.run_pure,Result.andThen_ok,List.map_toArray,List.map_cons,List.map_nil,e9',hrun3]
   ·have hsd:=R'.size.put (v:=v3) hd;have hdl:=R'.size.lt hd;refine ⟨R'.defers,hsd,R3.below,R3.m0,R3.x0,fun i=>?_,R3.objs,R3.inj⟩;rw [k9_ a' d _ i hdl];simp only [lkp];have h3:=R3.slots i;rw [k9_ a d _ i (R.size.lt hd)] at h3;simp only [lkp] at h3;split
    ·rename_i hdi;rw [if_pos hdi,if_pos hdi] at h3;exact h3
    ·rename_i hdi;rw [if_neg hdi,if_neg hdi] at h3;rcases z9_ KS ((st.s.filter fun y=>!a1p (l.take n) y.1).map fun y=>(y.1,purge idb y.2)) i with h1|h1
     ·rw [h1];rcases c1n KS i with h2|h2
      ·rw [h2];exact .base _ _ (.any _)
      ·obtain ⟨e1,e2⟩:=hKS _ h2;have hs:=R'.slots i;simp only at e1;rw [e1] at hs;generalize lkp KS i=av at *;generalize a'.tmps.getD i undef=uv at *;cases av<;>simp only [c9d,Bool.false_eq_true] at e2
       ·rw [hs.lit_inv];exact .base _ _ (.lit _)
       ·have hne:=(bne_iff_ne.1 e2)
        cases hs with
        | base _ _ h0=>cases h0
        | ref _ _ hidl=>
         rw [←hpo _ hne];exact .ref _ _ (by rw [hT] at hidl;rw [a0o];simpa using hidl)
     ·rw [h1];rcases b1h (fun t=>!a1p (l.take n) t) (purge idb) st.s i with h2|⟨h2,h4⟩
      ·rw [h2];exact .base _ _ (.any _)
      ·rw [h4,hold i fun j q hj hq he=>?_]
       ·exact h3
       ·have:a1p (l.take n) i=true:=by
         unfold a1p;exact List.any_eq_true.2 ⟨q,List.mem_of_getElem? (by rw [List.getElem?_take_of_lt hj];exact hq),by simpa using he⟩
        rw [this] at h2;cases h2
end
section
variable {P:Program} {M0:Nat→Nat→Prop} {w0:Bas} {N:Nm} {p:Pl} {st:VS} {a:Act} {w:World} {Q:Exit→VS→Prop}
theorem Rel.grows {w':World} {p':Pl} {obs:Hp} (R:Rel M0 w0 N p st a w) (hb:Below w.heap.size w w') (hp:∀ i,i < st.h.length→p' i=p i∧p'.S i=p.S i)
  (hn:∀ (i:Nat) (ob:Ob),obs[i]? = some (some ob)→m8_ ob=true→∀ x j,p'.O (st.h.length+i) x j→w.heap.size≤x)
  (hi:∀ (i i':Nat) (ob ob':Ob),obs[i]? = some (some ob)→obs[i']? = some (some ob')→m8_ ob=true→m8_ ob'=true→∀ x j j',p'.O (st.h.length+i) x j→p'.O (st.h.length+i') x j'→i=i')
  (hob:∀ (i:Nat) (ob:Ob),obs[i]? = some (some ob)→ObOK w0 w' (Mof M0 (st.h++obs) p') (st.h++obs) p' (st.h.length+i) ob) : Rel M0 w0 N p' ⟨st.s,st.h++obs⟩ a w':=by
 have hpO:∀ {i x j},i < st.h.length→(p'.O i x j↔p.O i x j):=fun {i x j} h=>by unfold Pl.O;rw [(hp i h).1,(hp i h).2]
 have hget:∀ {id:Nat} {ob:Ob},(st.h++obs)[id]? = some (some ob)→(id < st.h.length∧st.h[id]? = some (some ob))∨∃ i,id=st.h.length+i∧obs[i]? = some (some ob):=fun {id ob} h=>by
  rcases Nat.lt_or_ge id st.h.length with hl|hl
  ·rw [List.getElem?_append_left hl] at h;exact .inl ⟨hl,h⟩
  ·rw [List.getElem?_append_right hl] at h;exact .inr ⟨id - st.h.length,by omega,h⟩
 have hold:∀ {id:Nat},id < st.h.length→(st.h++obs)[id]? = st.h[id]?:=fun h=>List.getElem?_append_left h;have hM:∀ c j,c < w.heap.size→¬Mof M0 st.h p c j→¬Mof M0 (st.h++obs) p' c j:=fun c j hc hnm hm=>by
  rcases hm with hm|⟨id,ob',hid,hl,hpc⟩
  ·exact hnm (.inl hm)
  ·rcases hget hid with ⟨hlt,hi'⟩|⟨i,rfl,hi'⟩
   ·exact hnm (.inr ⟨id,ob',hi',hl,(hpO hlt).1 hpc⟩)
   ·have:=hn i ob' hi' hl c j hpc;omega
 have hV:∀ {x:AV} {u:Value},V1 w (Mof M0 st.h p) st.h p x u→V1 w' (Mof M0 (st.h++obs) p') (st.h++obs) p' x u:=fun hx=>
  hx.keep (.of_below hb) hM (by simp) (fun id h=>(hp id h).1) (fun id e sz nl es u hid he hv=>by
   rw [hold hid] at he;exact (hv e sz nl es he).below hb) (fun id e sz nl pend qs u hid he hv=>by
   rw [hold hid] at he;exact (hv e sz nl pend qs he).below hb) fun id k sz v hid hs=>hs.keep (fun e sz pend qs he=>by
   rw [hold hid] at he;exact ⟨he,(hp id hid).1,(hp id hid).2,fun b _ _ hlt=>hb.block b hlt⟩) hb.size
 refine ⟨R.defers,R.size,R.below.later hb,R.m0,R.x0,fun i=>hV (R.slots i),fun id ob' hid=>?_,fun id id' ob1 ob2 hid hid' hl hl' x j j' hO hO'=>?_⟩
 ·rcases hget hid with ⟨hlt,hi'⟩|⟨i,rfl,hi'⟩
  ·exact (R.objs id ob' hi').keep (fun _=>hp id hlt) (fun _ b _ _ hbl=>hb.block b hbl) hb.size (fun hx=>hx.keep (.of_below hb) hM) fun _ _ _ _ _ hx=>hV hx
  ·exact hob i ob' hi'
 ·rcases hget hid with ⟨hlt,hi1⟩|⟨i,rfl,hi1⟩<;>rcases hget hid' with ⟨hlt',hi2⟩|⟨i',rfl,hi2⟩
  ·exact R.inj id id' _ _ hi1 hi2 hl hl' x j j' ((hpO hlt).1 hO) ((hpO hlt').1 hO')
  ·have h1:=((R.objs id ob1 hi1).own hl x j ((hpO hlt).1 hO)).2;have h2:=hn i' ob2 hi2 hl' x j' hO';omega
  ·have h1:=((R.objs id' ob2 hi2).own hl' x j' ((hpO hlt').1 hO')).2;have h2:=hn i ob1 hi1 hl x j hO;omega
  ·rw [hi i i' ob1 ob2 hi1 hi2 hl hl' x j j' hO hO']
theorem OwnRow.ob {w':World} {e sz:Nat} {nl:Bool} {es:List (List AV)} {v:Value} {p':Pl} {M M':Nat→Nat→Prop} {h':Hp} {id:Nat} (ho:OwnRow w w' M e sz nl es v) (hw:w0.w.heap.size≤w.heap.size) (hsz:0 < sz) (hes:∀ (k:Nat) (x:List AV),es[k]? = some x→x.length=sz∧∀ c∈x,g6_ c=true)
  (hg:nl=false→∀ g n c,v = .slice (some ⟨g,0,none⟩) n c→p' id=g) (hS:∀ b j,¬p'.S id b j) (hM:nl=false→∀ b j,b < w'.heap.size→b≠p' id→¬M b j→¬M' b j) : ObOK w0 w' M' h' p' id (.arr e sz nl es):=by
 refine ⟨hsz,hes,?_⟩;unfold OwnRow at ho;split at ho
 ·rename_i hn;rw [if_pos hn];exact ho.2
 ·rename_i hn;have hnf:nl=false:=by cases nl<;>simp at hn ⊢
  rw [if_neg hn];obtain ⟨g,cap,cur,rfl,h2,h3,h4,h5,h6,h7⟩:=ho;have hpg:=hg hnf g _ _ rfl;refine ⟨⟨fun j=>.inl (by rw [hpg];omega),hS⟩,cur,by rw [hpg];exact h3,by rw [h4];exact Nat.mul_le_mul_right _ h5,fun k x j c hk hj=>?_⟩;obtain ⟨u,hu,hv⟩:=h7 k x j c hk hj;exact ⟨u,hu,hv.keep (Keeps.refl _ _) fun b j hlt hm=>hM hnf b j hlt (fun he=>hm (.inr (he.trans hpg))) fun h=>hm (.inl h)⟩
theorem OwnRow.obL {w':World} {e sz:Nat} {nl:Bool} {es:List (List AV)} {v:Value} {p':Pl} {M M':Nat→Nat→Prop} {h':Hp} {id:Nat} (ho:OwnRow w w' M e sz nl es v) (hw:w0.w.heap.size≤w.heap.size) (hsz:0 < sz) (hes:∀ (k:Nat) (x:List AV),es[k]? = some x→x.length=sz∧∀ c∈x,∃ u,c = .lit u∧u.oneCell'=true)
  (hg:nl=false→∀ g n c,v = .slice (some ⟨g,0,none⟩) n c→p' id=g) (hS:∀ b j,¬p'.S id b j) : ObOK w0 w' M' h' p' id (.arr e sz nl es):=by
 refine ⟨hsz,fun k x hk=>⟨(hes k x hk).1,fun c hc=>by obtain ⟨u,rfl,hu⟩:=(hes k x hk).2 c hc;exact hu⟩,?_⟩;unfold OwnRow at ho;split at ho
 ·rename_i hn;rw [if_pos hn];exact ho.2
 ·rename_i hn;have hnf:nl=false:=by cases nl<;>simp at hn ⊢
  rw [if_neg hn];obtain ⟨g,cap,cur,rfl,h2,h3,h4,h5,h6,h7⟩:=ho;have hpg:=hg hnf g _ _ rfl;refine ⟨⟨fun j=>.inl (by rw [hpg];omega),hS⟩,cur,by rw [hpg];exact h3,by rw [h4];exact Nat.mul_le_mul_right _ h5,fun k x j c hk hj=>?_⟩;obtain ⟨u,hu,hv⟩:=h7 k x j c hk hj;obtain ⟨u2,rfl,_⟩:=(hes k x hk).2 c (List.mem_of_getElem? hj);cases hv;exact ⟨_,hu,.lit _⟩
theorem Rel.nilBag (R:Rel M0 w0 N p st a w) {bi j e sz:Nat} {cs:List AV} (hb:st.h[bi]? = some (some (.box cs))) (hj:cs[j]? = some (.lit (.slice none 0 0))) (hsz:0 < sz) : Rel M0 w0 N p ⟨st.s,st.h.set bi (some (.box (cs.set j (.osl st.h.length))))++[some (.bag e sz true none [])]⟩ a w:=by
 have hbl:bi < st.h.length:=(List.getElem?_eq_some_iff.1 hb).1;refine (R.reheap _ (by simp) (fun i ob hi hl=>?_) (fun i e sz nl es hil he=>?_) (fun i e sz nl pe qs hil he=>?_) fun i ob hi hne keep=>?_).1
 ·rcases t1_ hi hbl with ⟨rfl,rfl⟩|⟨_,hi'⟩|⟨rfl,rfl⟩
  ·exact ⟨_,hb,rfl⟩
  ·exact ⟨ob,hi',hl⟩
  ·cases hl
 ·rcases t1_ he hbl with ⟨_,h⟩|⟨_,h⟩|⟨h,_⟩
  ·cases h
  ·exact h
  ·omega
 ·rcases t1_ he hbl with ⟨_,h⟩|⟨_,h⟩|⟨h,_⟩
  ·cases h
  ·exact h
  ·omega
 ·rcases t1_ hi hbl with ⟨rfl,rfl⟩|⟨_,hi'⟩|⟨rfl,rfl⟩
  ·obtain ⟨h1,cur,e2,h2,h3,h4,h5⟩:=R.objs i _ hb;refine ⟨h1,cur,e2,h2,by simpa using h3,fun c hc=>?_,fun k c hk=>?_⟩
   ·rcases List.mem_or_eq_of_mem_set hc with h|rfl
    ·exact h4 c h
    ·rfl
   ·rw [List.getElem?_set] at hk;by_cases he:j=k
    ·subst he;have hjl:j < cs.length:=(List.getElem?_eq_some_iff.1 hj).1;rw [if_pos rfl,if_pos hjl] at hk;simp only [Option.some.injEq] at hk;subst hk;obtain ⟨u,hu,hv⟩:=h5 j _ hj;obtain rfl:=hv.lit_inv;refine ⟨_,hu,.osl _ _ _ _ (by simp) (fun e3 sz3 nl3 es3 he3=>?_) fun e3 sz3 nl3 pe3 qs3 he3=>?_⟩
     ·rw [List.getElem?_append_right (by simp)] at he3;simp at he3
     ·rw [List.getElem?_append_right (by simp)] at he3;simp at he3;obtain ⟨rfl,rfl,rfl,rfl,rfl⟩:=he3;exact ⟨⟨none,rfl⟩,rfl⟩
    ·rw [if_neg he] at hk;obtain ⟨u,hu,hv⟩:=h5 k c hk;exact ⟨u,hu,keep hv⟩
  ·exact absurd hi' hne
  ·exact ⟨hsz,rfl⟩
theorem c4y {f:FuncId} {args:List AV} {h':Hp} {r:AV} (h:VH P f [] args [] h' r) : VC P f args (a8e 5 h' r):=by
 refine ⟨h.1,fun w M vs hM hl hv=>?_⟩;have hmof:∀ p b j,¬M b j→¬Mof M [] p b j:=fun p b j hn hm=>hm.elim hn fun ⟨i,ob,hi,_⟩=>by simp at hi
 refine (h.2 w M (fun _ _=>False) ⟨fun _=>0,fun _ _ _=>False⟩ vs hM ⟨fun _ _ h=>h.elim,GOK.keep (X:=M) (Keeps.refl _ _) hM.2 (fun _ _ _ _ h=>h) hM.2⟩ (fun _ _ _ h=>h) hl (fun i a v ha hva=>.base _ _ ((hv i a v ha hva).keep (Keeps.refl _ _) fun b j _ hn=>hmof _ b j hn)) (fun k ob hk=>by simp at hk) (fun id id' ob ob' h1=>by simp at h1)).mono ?_;rintro e w' ⟨v,q,rfl,hb,hv,hO,_,_⟩;refine ⟨v,rfl,hb.below fun _ _ h=>h,a8f hO (fun b j hm hf=>hf.elim (fun hf=>absurd (hM.1 b j hm) (by simp only at hf;omega)) fun h=>h) (fun b j hm=>.inl hm) 5 r v hv⟩
end
attribute [go_sem] c9d a1p
end Go.Proofs.YtoibondihdhnoaaDoor
