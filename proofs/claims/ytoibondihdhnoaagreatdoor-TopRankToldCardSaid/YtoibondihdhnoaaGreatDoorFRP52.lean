/- Texts in one: A row is appended to a row of rows: of every program; no condition. -/
import Derived.Test.YtoibondihdhnoaaGreatDoorFRP15
import Derived.Test.YtoibondihdhnoaaGreatDoorFRP50
namespace Go.Proofs.YtoibondihdhnoaaGreatDoor
open Go.RowKit
section
variable {P:Program} {M0:Nat→Nat→Prop} {w0:Bas} {N:Nm} {p:Pl} {st:VS} {a:Act} {w:World}
theorem Rel.bagPush {w':World} {p':Pl} {id g:Nat} {e:TypeId} {sz:Nat} {nl:Bool} {qs qs2:List (List (List AV))} {d:Nat} {A:Option Addr} {n c:Nat} (R:Rel M0 w0 N p st a w) (hd:N.has d) (hi:st.h[id]? = some (some (.bag e sz nl none qs)))
  (hg:w.heap.size≤g∨(nl=false∧g=p id)) (cQ:p' id=g) (jq:∀ i,i≠id→p' i=p i) (gv:∀ i,i≠id→p'.S i=p.S i) (uk:∀ b j,p'.S id b j→(nl=false∧p.S id b j)∨w.heap.size≤b)
  (la:w'.os=w.os) (ld:w'.tape=w.tape) (lf:w'.output=w.output) (aM:w.heap.size≤w'.heap.size) (b8:∀ b,b < w.heap.size→¬(nl=false∧b=p id)→w'.heap[b]? = w.heap[b]?)
  (iP:(∀ {x:AV} {u:Value},V0 w (Mof M0 st.h p) x u→V0 w' (Mof M0 (fZ id 0 (st.h.set id (some (.bag e sz false none qs2)))) p') x u)→ObOK w0 w' (Mof M0 (fZ id 0 (st.h.set id (some (.bag e sz false none qs2)))) p') (fZ id 0 (st.h.set id (some (.bag e sz false none qs2)))) p' id (.bag e sz false none qs2))
  (hv:Osl w' g e 1 false qs2.length (.slice A n c)) :
  Rel M0 w0 N p' ⟨(d,.osl id)::st.s.map (fun q=>(q.1,purge id q.2)),fZ id 0 (st.h.set id (some (.bag e sz false none qs2)))⟩ (a.put (some d) (.slice A n c)) w':=by
 generalize fA:fZ id 0 (st.h.set id (some (.bag e sz false none qs2)))=h' at *;have eD:id < st.h.length:=(List.getElem?_eq_some_iff.1 hi).1;have hlen:h'.length=st.h.length:=by rw [←fA,ze];simp
 have ke:∀ {i x j},i≠id→(p'.O i x j↔p.O i x j):=fun hn=>by unfold Pl.O;rw [jq _ hn,gv _ hn]
 have H9:∀ {x j},p'.O id x j→x < w.heap.size→nl=false∧p.O id x j:=fun {x j} h hx=>by
  rcases h with h|h
  ·rw [cQ] at h;rcases hg with hg|⟨aK,hg⟩
   ·omega
   ·exact ⟨aK,.inl (by omega)⟩
  ·rcases uk x j h with h|h
   ·exact ⟨h.1,.inr h.2⟩
   ·omega
 have bA:∀ i o,h'[i]? = some (some o)→(i=id∧o = .bag e sz false none qs2)∨(i≠id∧∃ o0,st.h[i]? = some (some o0)∧cn o0=cn o∧((o0=o∧∀ cs,o = .box cs→cs.all (cJ id 5)=true)∨∃ cs,o0 = .box cs∧o = .box (cs.map (qS id i))∧cs.all (fun c=>cJ id 5 c || tV id c)=true)):=by
  intro i o aG;rw [←fA,wq] at aG;obtain ⟨x,hx,da⟩:=Option.map_eq_some_iff.1 aG;rw [Nat.zero_add] at da;rw [List.getElem?_set] at hx;by_cases he:id=i
  ·rw [if_pos he,if_pos (by omega)] at hx;simp only [Option.some.injEq] at hx;subst hx;simp only [jM,Option.some.injEq] at da;exact .inl ⟨he.symm,da.symm⟩
  ·rw [if_neg he] at hx;refine .inr ⟨fun h=>he h.symm,?_⟩;cases x with
   | none=>simp [jM] at da
   | some y=>
    cases y with
    | box cs=>
     simp only [jM] at da;split at da
     ·rename_i bg;simp only [Option.some.injEq] at da;subst da;exact ⟨_,hx,rfl,.inl ⟨rfl,fun dR hc=>by injection hc with hc;subst hc;exact bg⟩⟩
     ·split at da
      ·rename_i bg;simp only [Option.some.injEq] at da;subst da;exact ⟨_,hx,rfl,.inr ⟨cs,rfl,rfl,bg⟩⟩
      ·cases da
    | arr e1 s1 n1 l1=>
     simp only [jM,Option.some.injEq] at da;subst da;exact ⟨_,hx,rfl,.inl ⟨rfl,fun dR hc=>by cases hc⟩⟩
    | mpo kf iD=>
     simp only [jM,Option.some.injEq] at da;subst da;exact ⟨_,hx,rfl,.inl ⟨rfl,fun dR hc=>by cases hc⟩⟩
    | bag e1 s1 n1 Ok q1=>
     simp only [jM,Option.some.injEq] at da;subst da;exact ⟨_,hx,rfl,.inl ⟨rfl,fun dR hc=>by cases hc⟩⟩
 have dn:nl=false→cn (.bag e sz nl none qs)=true:=fun h=>by subst h;rfl
 have hM:∀ c j,c < w.heap.size→¬Mof M0 st.h p c j→¬Mof M0 h' p' c j:=by
  intro c j hc hn hm;rcases hm with hm|⟨i,o,aG,bs,hp⟩
  ·exact hn (.inl hm)
  ·rcases bA i o aG with ⟨rfl,rfl⟩|⟨aq,o0,bn,pa,_⟩
   ·obtain ⟨aK,hO⟩:=H9 hp hc;exact hn (.inr ⟨_,_,hi,dn aK,hO⟩)
   ·exact hn (.inr ⟨i,o0,bn,pa.trans bs,(ke aq).1 hp⟩)
 have hk:Keeps (Mof M0 st.h p) w w':=.of_blocks aM fun b dv hn=>b8 b dv fun ⟨aK,he⟩=>hn fun j=>.inr ⟨id,_,hi,dn aK,.inl he.symm⟩;have aq:∀ i o,i≠id→st.h[i]? = some (some o)→cn o=true→∀ b j,p.O i b j→b < w.heap.size→w'.heap[b]? = w.heap[b]?:=fun i o hn aG bs b j hO dv=>b8 b dv fun ⟨aK,he⟩=>hn (R.inj i id o _ aG hi bs (dn aK) b j 0 hO (.inl he.symm));have bZ:∀ i o,i≠id→(∀ cs,o≠.box cs)→h'[i]? = some (some o)→st.h[i]? = some (some o):=fun i o hn fI he=>by
  rcases bA i _ he with ⟨h,_⟩|⟨_,o0,aG,_,⟨rfl,_⟩|⟨cs,_,hb,_⟩⟩
  ·exact absurd h hn
  ·exact aG
  ·exact absurd hb (fI _)
 have qw:∀ i e sz nl es v,i≠id→h'[i]? = some (some (.arr e sz nl es))→(∀ e sz nl es,st.h[i]? = some (some (.arr e sz nl es))→Osl w (p i) e sz nl es.length v)→Osl w' (p i) e sz nl es.length v:=fun i e sz nl es v hn he hv=>by
  have aG:=bZ i _ hn (fun cs h=>by cases h) he;exact (hv _ _ _ _ aG).keep fun aK ao=>aq i _ hn aG (by rw [aK];rfl) _ 0 (.inl rfl) ao
 have Cz:∀ i e sz nl ak qs v,i≠id→h'[i]? = some (some (.bag e sz nl ak qs))→(∀ e sz nl ak qs,st.h[i]? = some (some (.bag e sz nl ak qs))→Osl w (p i) e 1 nl qs.length v)→Osl w' (p i) e 1 nl qs.length v:=fun i e sz nl ak qs v hn he hv=>by
  have aG:=bZ i _ hn (fun cs h=>by cases h) he;exact (hv _ _ _ _ _ aG).keep fun aK ao=>aq i _ hn aG (by rw [aK];rfl) _ 0 (.inl rfl) ao
 have CA:∀ i k sz v,i≠id→i < st.h.length→Sp w st.h p i k sz v→Sp w' h' p' i k sz v:=fun i k sz v hn _ hs=>hs.keep (fun e sz ak qs he=>by
  have aG:=bZ i _ hn (fun cs h=>by cases h) he;exact ⟨aG,jq i hn,gv i hn,aq i _ hn aG rfl⟩) aM
 have hV:∀ (n:Nat) {x:AV} {u:Value},V1 w (Mof M0 st.h p) st.h p x u→cJ id n x=true→V1 w' (Mof M0 h' p') h' p' x u:=fun n x u hx hn=>V1.purge hk hM (by omega) jq qw Cz CA n x u hx hn;have dM:∀ {x:AV} {u:Value},V0 w (Mof M0 st.h p) x u→V0 w' (Mof M0 h' p') x u:=fun hx=>hx.keep hk hM;have hF:∀ b,b < w.heap.size→¬(∀ j,Fr w0 b j)→w'.heap[b]? = w.heap[b]?:=fun b dv hn=>b8 b dv fun ⟨aK,he⟩=>hn fun j=>by rw [he];exact (R.objs id _ hi).ge (dn aK) j
 refine ⟨R.defers,R.size.put hd,R.below.blocks la ld lf aM hF,R.m0,R.x0,fun i=>?_,fun i o aG=>?_,fun i i' o o' aG bn bs ef x j j' hO cw=>?_⟩
 ·rw [mQ a d _ i (R.size.lt hd)];simp only [lkp];split
  ·refine .osl id A n c (by omega) (fun e' bD kz es' he=>?_) fun e' bD kz pe pF he=>?_
   ·rcases bA id _ he with ⟨_,h⟩|⟨h,_⟩
    ·cases h
    ·exact absurd rfl h
   ·rcases bA id _ he with ⟨_,h⟩|⟨h,_⟩
    ·injection h with h1 h2 h3 h4 h5
     subst h1 h2 h3 h4 h5;rw [cQ];exact hv
    ·exact absurd rfl h
  ·rcases Cy id st.s i with h|h
   ·rw [h];unfold Go.Proofs.YtoibondihdhnoaaGreatDoor.purge;split
    ·rename_i hn;exact hV 5 (R.slots i) hn
    ·exact .base _ _ (.any _)
   ·rw [h];exact .base _ _ (.any _)
 ·rcases bA i o aG with ⟨rfl,rfl⟩|⟨hn,o0,bn,pa,⟨rfl,jg⟩|⟨cs,rfl,rfl,aE⟩⟩
  ·exact iP dM
  rotate_left
  ·obtain ⟨h1,cur,e,hg,h2,h3,h4⟩:=R.objs i _ bn;refine ⟨by unfold Own;rw [jq i hn,gv i hn];exact h1,cur,e,by rw [jq i hn,aq i _ hn bn rfl _ 0 (.inl rfl) (Array.getElem?_eq_some_iff.1 hg).1];exact hg,by simpa using h2,fun c hc=>?_,fun j c hj=>?_⟩
   ·obtain ⟨c0,mY,rfl⟩:=List.mem_map.1 hc;unfold qS;split
    ·exact h3 c0 mY
    ·rfl
   ·rw [List.getElem?_map] at hj;obtain ⟨c0,mm,rfl⟩:=Option.map_eq_some_iff.1 hj;obtain ⟨u,hu,hv⟩:=h4 j c0 mm;refine ⟨u,hu,?_⟩;unfold qS;split
    ·rename_i bg;exact hV 5 hv bg
    ·rename_i bg;have:=List.all_eq_true.1 aE c0 (List.mem_of_getElem? mm);rw [Bool.or_eq_true] at this;rcases this with h|h
     ·exact absurd h bg
     ·obtain ⟨k,rfl⟩ : ∃ k,c0 = .osl k:=by cases c0<;>first|exact ⟨_,rfl⟩|(simp [tV] at h;done)
      obtain ⟨A2,n2,c2,rfl,_,_⟩:=hv.osl_inv;refine .osl _ _ _ _ (by rw [hlen];exact (List.getElem?_eq_some_iff.1 bn).1) (fun e sz nl es he=>?_) fun e sz nl pe qs he=>?_
      ·rw [aG] at he;cases he
      ·rw [aG] at he;cases he
  ·exact (R.objs i o0 bn).keep (fun _=>⟨jq i hn,gv i hn⟩) (fun bs b j hO dv=>aq i o0 hn bn bs b j hO dv) aM dM fun cs bI c hc u hx=>hV 5 hx (List.all_eq_true.1 (jg cs bI) c hc)
 ·have ao:∀ i o,i≠id→st.h[i]? = some (some o)→cn o=true→∀ x j j',p.O i x j→¬p'.O id x j':=by
   intro i o hn h1 hl x j j' hO he;obtain ⟨aK,cw⟩:=H9 he ((R.objs i o h1).own hl x j hO).2;exact hn (R.inj i id o _ h1 hi hl (dn aK) x j j' hO cw)
  rcases bA i o aG with ⟨rfl,rfl⟩|⟨hn,o1,h1,e1,_⟩<;>rcases bA i' o' bn with ⟨rfl,rfl⟩|⟨lD,o2,h2,e2,_⟩
  ·rfl
  ·exact absurd hO (ao i' o2 lD h2 (e2.trans ef) x j' j ((ke lD).1 cw))
  ·exact absurd cw (ao i o1 hn h1 (e1.trans bs) x j j' ((ke hn).1 hO))
  ·exact R.inj i i' o1 o2 h1 h2 (e1.trans bs) (e2.trans ef) x j j' ((ke hn).1 hO) ((ke lD).1 cw)
theorem H_ {h:Hp} {id i:Nat} {x:Option Ob} {o:Ob} (aG:(fZ id 0 (h.set id x))[i]? = some (some o)) (hn:i≠id) : ∃ o0,h[i]? = some (some o0)∧cn o0=cn o:=by
 rw [wq] at aG;obtain ⟨x,hx,da⟩:=Option.map_eq_some_iff.1 aG;rw [List.getElem?_set_ne (Ne.symm hn)] at hx;cases x with
 | none=>simp [jM] at da
 | some y=>
  refine ⟨y,hx,?_⟩;cases y with
  | box cs=>
   simp only [jM] at da;split at da
   ·simp only [Option.some.injEq] at da;subst da;rfl
   ·split at da
    ·simp only [Option.some.injEq] at da;subst da;rfl
    ·cases da
  | _=>
   simp only [jM,Option.some.injEq] at da;subst da;rfl
theorem O3 {h:Hp} {id:Nat} {e sz:Nat} {nl:Bool} {ak:Option Nat} {qs:List (List (List AV))} (hl:id < h.length) : (fZ id 0 (h.set id (some (.bag e sz nl ak qs))))[id]? = some (some (.bag e sz nl ak qs)):=by
 rw [wq,List.getElem?_set_self hl];rfl
theorem O4 {w:World} {t ty e:TypeId} {inf:TypeInfo} {z:Value} (hu:P.underlying t=some (.slice e)) (gP:P.info? e=some inf) (hz:inf.zero=some z) (bz:inf.size=1) (fa:z.cells.size=1) (gJ:inf.bytes≤100000)
  {ay:Addr} {cy:Nat} {u0:Value} (re:w.cell? (ay.add 0)=some u0) (wK:u0.oneCell'=true) {nl:Bool} {n b0:Nat} {vx:Value} (hx:Osl w b0 e 1 nl n vx) (hn:n+1≤1000000000) :
  ∃ g du cur' w',(Builtin.append_ #[t,t] ty #[vx,.slice (some ay) 1 cy]).run P w = .ok (.slice (some ⟨g,0,none⟩) (n+1) du) w'∧(w.heap.size≤g∨(nl=false∧g=b0))∧w'.heap[g]? = some (.cells cur' e (0,0))∧cur'.size=du∧n+1≤du∧du≤maxLen ∧
   (∀ cur,nl=false→w.heap[b0]? = some (.cells cur e (0,0))→∀ j,j < n→cur'[j]? = cur[j]?)∧cur'[n]? = some u0∧w'.os=w.os∧w'.tape=w.tape∧w'.output=w.output∧w.heap.size≤w'.heap.size∧∀ b,b < w.heap.size→b≠g→w'.heap[b]? = w.heap[b]?:=by
 unfold Osl at hx;cases nl
 ·rw [if_neg (by simp)] at hx;obtain ⟨cap,cur,rfl,hb,aM,hle,fN⟩:=hx;rw [Nat.mul_one] at aM;by_cases fg:n+1≤cap
  ·have aC:=run_append_room_cells (P:=P) w t ty e inf hu gP b0 0 n cap ay 1 cy [u0] (by simp [bz]) (fun j u hj=>by
    cases j with
    | zero=>simp at hj;rw [←hj];exact re
    | succ j=>simp at hj) (by simpa using wK) fg (fun j hj=>by
    obtain rfl:j=0:=by simpa using hj
    rw [bz,cell_of_row w b0 _ cur e (0,0) hb];have:n < cur.size:=by omega
    simpa using this) (fun j hj=>by simp [World.frozen?,hb])
   rw [bz,Nat.mul_one,Nat.zero_add] at aC;refine ⟨b0,cap,_,_,aC,.inr ⟨rfl,rfl⟩,yh u0 hb,by rw [Array.size_setIfInBounds];exact aM,fg,fN,fun lk _ h2 j hj=>?_,?_,rfl,rfl,rfl,Nat.le_of_eq (vr w b0 n u0).symm,fun b _ hn=>yi u0 hn⟩
   ·rw [hb] at h2;injection h2 with h2
    injection h2 with h2 _ _
    subst h2;rw [Array.getElem?_setIfInBounds_ne (by omega)]
   ·have:n < cur.size:=by omega
    simp [this]
  ·obtain ⟨g,du,cur',w',aC,dq,sG,hg,kB,sH,bI,hold,fo,cp⟩:=CT (P:=P) (w:=w) (ty:=ty) (c:=cy) hu gP hz bz fa gJ (A:=some ⟨b0,0,none⟩) (n:=n) (cap:=cap) (olds:=cur.toList.take n) (fun h=>by cases h) (by simp;omega) (fun a0 h0 j u hj=>by
    injection h0 with h0
    subst h0;rw [List.getElem?_take] at hj;split at hj
    ·rw [ji,cell_of_row w b0 _ cur e (0,0) hb];simpa using hj
    ·cases hj) re (by omega) hn
   refine ⟨g,du,cur',w',aC,.inl dq,hg,bI,kB,sH,fun lk _ h2 j hj=>?_,fo,cp.os,cp.tape,cp.output,cp.size,fun b ao _=>cp.block b ao⟩;rw [hb] at h2;injection h2 with h2
   injection h2 with h2 _ _
   subst h2;rw [hold j hj,List.getElem?_take_of_lt hj,Array.getElem?_toList]
 ·rw [if_pos rfl] at hx;obtain ⟨⟨A,rfl⟩,rfl⟩:=hx;obtain ⟨g,du,cur',w',aC,dq,sG,hg,kB,sH,bI,hold,fo,cp⟩:=CT (P:=P) (w:=w) (ty:=ty) (c:=cy) hu gP hz bz fa gJ (A:=A) (n:=0) (cap:=0) (olds:=[]) (fun _=>⟨rfl,rfl⟩) rfl (fun a0 h0 j u hj=>by simp at hj) re (by omega) hn;exact ⟨g,du,cur',w',aC,.inl dq,hg,bI,kB,sH,fun _ h=>(by cases h),fo,cp.os,cp.tape,cp.output,cp.size,fun b ao _=>cp.block b ao⟩
theorem OwnRow.spare {w w':World} {M:Nat→Nat→Prop} {e sz:Nat} {nl:Bool} {es:List (List AV)} {v:Value} (h:OwnRow w w' M e sz nl es v) (_:0 < sz) (cI:∀ (k:Nat) (x:List AV),es[k]? = some x→x.length=sz∧∀ c∈x,cN c=true) :
  ∃ A n cap,v = .slice A n cap∧n=es.length∧n≤cap∧(0 < cap→∃ g cur,A=some ⟨g,0,none⟩∧w.heap.size≤g∧w'.heap[g]? = some (.cells cur e (0,0))∧cur.size=cap*sz∧cap≤maxLen ∧
   ∀ M':Nat→Nat→Prop,(∀ b j,b < w'.heap.size→b≠g→¬M b j→¬M' b j)→(∀ j,j < n*sz→¬M' g j)→V0 w' M' (.sl sz es) v)∧(cap=0→∀ M',V0 w' M' (.sl sz es) v):=by
 unfold OwnRow at h;split at h
 ·obtain ⟨⟨A,rfl⟩,he⟩:=h;subst he;exact ⟨A,0,0,rfl,rfl,Nat.le_refl _,fun h=>absurd h (Nat.lt_irrefl 0),fun _ M'=>.slNil _ _ _⟩
 ·obtain ⟨g,cap,cur,rfl,h2,h3,h4,h5,h6,h7⟩:=h;have key:∀ M':Nat→Nat→Prop,(∀ b j,b < w'.heap.size→b≠g→¬M b j→¬M' b j)→(∀ j,j < es.length*sz→¬M' g j)→V0 w' M' (.sl sz es) (.slice (some ⟨g,0,none⟩) es.length cap):=fun M' hM hg=>by
   by_cases aq:es=[]
   ·subst aq;exact .slNil _ _ _
   ·refine .sl sz es cap g 0 (fun k j=>cur.getD (k*sz+j) undef) aq (Array.getElem?_eq_some_iff.1 h3).1 (fun k j hk hj=>?_) h5 (fun k x hk=>(cI k x hk).1) (fun k x j c hk hj=>(cI k x hk).2 c (List.mem_of_getElem? hj)) (fun k j hk hj=>?_) fun k x j c hk hj=>?_
    ·have:(k+1)*sz≤es.length*sz:=Nat.mul_le_mul_right _ hk;rw [Nat.add_mul] at this;rw [Nat.zero_add];exact hg _ (by omega)
    ·rw [cell_of_row w' g _ cur e (0,0) h3,Nat.zero_add];have:(k+1)*sz≤cap*sz:=Nat.mul_le_mul_right _ (by omega);rw [Nat.add_mul] at this;have:k*sz+j < cur.size:=by omega
     simp [this]
    ·obtain ⟨u,hu,hv⟩:=h7 k x j c hk hj;have:cur.getD (k*sz+j) undef=u:=by simp [hu]
     rw [this];exact hv.keep (Keeps.refl _ _) fun b j ao hn=>hM b j ao (fun he=>hn (.inr he)) fun hm=>hn (.inl hm)
  refine ⟨_,_,cap,rfl,rfl,h5,fun _=>⟨g,cur,rfl,h2,h3,h4,h6,key⟩,fun h0 M'=>?_⟩;have:es=[]:=List.eq_nil_of_length_eq_zero (by omega);subst this;exact .slNil _ _ _
theorem Rel.pushRow {t ty e e9 id sz d:Nat} {nl wT:Bool} {qs:List (List (List AV))} {q:List (List AV)} {inf:TypeInfo} {z vx v9:Value} {w2:World} {ay:Addr} {cy:Nat} (R:Rel M0 w0 N p st a w) (hd:N.has d) (hi:st.h[id]? = some (some (.bag e sz nl none qs)))
  (hb:Below w.heap.size w w2) (bo:Osl w2 (p id) e 1 nl qs.length vx) (ho:OwnRow w w2 (Mof M0 st.h p) e9 sz wT q v9) (hq:∀ (k:Nat) (x:List AV),q[k]? = some x→x.length=sz∧∀ c∈x,cN c=true)
  (hu:P.underlying t=some (.slice e)) (gP:P.info? e=some inf) (hz:inf.zero=some z) (bz:inf.size=1) (fa:z.cells.size=1) (gJ:inf.bytes≤100000) (re:w2.cell? (ay.add 0)=some v9) (hn:qs.length+1≤1000000000) :
  ∃ v3 w3 p',(Builtin.append_ #[t,t] ty #[vx,.slice (some ay) 1 cy]).run P w2 = .ok v3 w3∧Rel M0 w0 N p' ⟨(d,.osl id)::st.s.map (fun q=>(q.1,purge id q.2)),fZ id 0 (st.h.set id (some (.bag e sz false none (qs++[q]))))⟩ (a.put (some d) v3) w3∧∀ i,i≠id→p' i=p i:=by
 obtain ⟨iM,dX⟩:=R.objs id _ hi;obtain ⟨A9,n9,c9,zy,Ia,CU,lV,CV⟩:=ho.spare iM hq;have jC:nl=false→cn (Ob.bag e sz nl none qs)=true:=fun h=>by subst h;rfl
 have O5:v9.oneCell'=true:=by rw [zy];rfl
 obtain ⟨g,cap,cur,w3,aC,hg,um,Ss,kB,fN,hold,fo,la,ld,lf,aM,b8⟩:=O4 (P:=P) (w:=w2) (ty:=ty) (cy:=cy) hu gP hz bz fa gJ re O5 bo hn;have fj:w.heap.size≤g∨(nl=false∧g=p id):=hg.imp (Nat.le_trans hb.size) fun h=>h;have CW:g < w3.heap.size:=(Array.getElem?_eq_some_iff.1 um).1;have rf:∀ b,b < w.heap.size→b≠g→w3.heap[b]? = w.heap[b]?:=fun b ao hn=>(b8 b (Nat.lt_of_lt_of_le ao hb.size) hn).trans (hb.block b ao);obtain ⟨SN,sI⟩ : ∃ SN:Nat→Nat→Prop,∀ b j,SN b j↔(A9=some ⟨b,0,none⟩∧0 < c9∧n9*sz≤j):=⟨_,fun _ _=>Iff.rfl⟩
 have sJ:∀ b j,SN b j→w.heap.size≤b∧b < w2.heap.size:=fun b j h=>by
  obtain ⟨h1,h2,h3⟩:=(sI b j).1 h;obtain ⟨g9,qa,e1,e2,e3,_⟩:=lV h2;rw [h1] at e1;simp only [Option.some.injEq,Addr.mk.injEq] at e1;obtain ⟨rfl,_⟩:=e1;exact ⟨e2,(Array.getElem?_eq_some_iff.1 e3).1⟩
 obtain ⟨p',cQ,jq,gv,iq⟩ : ∃ p':Pl,p' id=g∧(∀ i,i≠id→p' i=p i)∧(∀ i,i≠id→p'.S i=p.S i)∧∀ b j,p'.S id b j↔((nl=false∧p.S id b j)∨SN b j):=
  ⟨⟨fun i=>if i=id then g else p i,fun i=>if i=id then fun b j=>(nl=false∧p.S id b j)∨SN b j else p.S i⟩,if_pos rfl,fun i hn=>if_neg hn,fun i hn=>if_neg hn,fun b j=>by simp⟩
 refine ⟨_,w3,p',aC,⟨R.bagPush (p':=p') (qs2:=qs++[q]) hd hi fj cQ jq gv (fun b j h=>((iq b j).1 h).imp (fun h=>h) fun h=>(sJ b j h).1) (la.trans hb.os) (ld.trans hb.tape) (lf.trans hb.output) (Nat.le_trans hb.size aM) (fun b ao hn=>rf b ao fun he=>?_) (fun keep=>⟨iM,?_⟩) ?_,jq⟩⟩
 ·rcases fj with h|h
  ·omega
  ·exact hn ⟨h.1,he.trans h.2⟩
 ·rw [if_neg (by simp)];have lW:nl=false→∃ cur0,w.heap[p id]? = some (.cells cur0 e (0,0))∧BagOK w0 w (Mof M0 st.h p) p id e sz none qs∧(∀ j,j < qs.length→cur[j]? = cur0[j]?)∧(∀ (k:Nat) (x:List (List AV)),qs[k]? = some x→∃ v,cur0[k]? = some v∧V0 w (Mof M0 st.h p) (.sl sz x) v∧Spare w p id sz v)∧∀ k k' v v',k < qs.length→k' < qs.length→k≠k'→cur0[k]? = some v→cur0[k']? = some v'→Dist v v':=fun aK=>by
   rw [if_neg (by simp [aK])] at dX;have hB:=dX;obtain ⟨b1,b2,cur0,b3,b4,b5,b6⟩:=dX;refine ⟨cur0,b3,hB,fun j hj=>hold cur0 aK ?_ j hj,fun k x hx=>?_,fun k k' v v' h1 h2 h3 h4 h5=>b6 k k' v v' h1 h2 h3 (by simp) (by simp) h4 h5⟩
   ·rw [hb.block _ (Array.getElem?_eq_some_iff.1 b3).1];exact b3
   ·obtain ⟨v,g1,g2,g3⟩:=b5 k x hx;exact ⟨v,g1,g2,g3 (by simp)⟩
  have dI:nl=true→qs=[]:=fun aK=>by rw [if_pos aK] at dX;exact dX
  have oo:nl=true∨nl=false:=by cases nl<;>simp
  have ot:nl=false→∀ b j,p.S id b j→Fr w0 b j∧b < w.heap.size:=fun aK b j hS=>(R.objs id _ hi).own (jC aK) b j (.inr hS);refine ⟨fun b j hO=>?_,fun j hS=>?_,cur,by rw [cQ];exact um,by rw [List.length_append];simp only [List.length_singleton];omega,fun k x hx=>?_,fun k k' v v' hk dN aq _ _ hv bE=>?_⟩
  ·rcases hO with hO|hO
   ·rw [cQ] at hO;subst hO;refine ⟨?_,CW⟩;rcases fj with h|⟨aK,h⟩
    ·exact .inl (Nat.le_trans R.below.size h)
    ·rw [h];exact (R.objs id _ hi).ge (jC aK) j
   ·rcases (iq b j).1 hO with ⟨aK,h⟩|h
    ·have:=ot aK b j h;exact ⟨this.1,Nat.lt_of_lt_of_le this.2 (Nat.le_trans hb.size aM)⟩
    ·have:=sJ b j h;exact ⟨.inl (Nat.le_trans R.below.size this.1),Nat.lt_of_lt_of_le this.2 aM⟩
  ·rw [cQ] at hS;rcases (iq g j).1 hS with ⟨aK,h⟩|h
   ·have h1:=(ot aK g j h).2;rcases fj with h2|⟨_,h2⟩
    ·omega
    ·rw [h2] at h;obtain ⟨_,_,hB,_⟩:=lW aK;exact hB.2.1 j h
   ·have h1:=sJ g j h;rcases hg with h2|⟨aK,h2⟩
    ·omega
    ·have:=(R.objs id _ hi).lt (jC aK);omega
  ·rcases Nat.lt_or_ge k qs.length with hl|hl
   ·rw [List.getElem?_append_left hl] at hx;rcases oo with aK|aK
    ·rw [dI aK] at hl;simp at hl
    ·obtain ⟨cur0,_,_,e2,e3,_⟩:=lW aK;obtain ⟨v,g1,g2,g3⟩:=e3 k x hx;refine ⟨v,by rw [e2 k hl];exact g1,keep g2,fun _=>?_⟩;obtain ⟨A,n,c,q1,q2,q3⟩:=g3;refine ⟨A,n,c,q1,q2,fun ao=>?_⟩;obtain ⟨b,o,cb,tb,r1,r2,r3,r4,r5,r6,r7⟩:=q3 ao;have dv:=(Array.getElem?_eq_some_iff.1 r2).1;have xN:b≠g:=fun he=>by
      rcases fj with h|⟨_,h⟩
      ·omega
      ·exact r6 (he.trans h)
     exact ⟨b,o,cb,tb,r1,(rf b dv xN).trans r2,r3,r4,r5,by rw [cQ];exact xN,fun j hj=>(iq b j).2 (.inl ⟨aK,r7 j hj⟩)⟩
   ·rw [List.getElem?_append_right hl] at hx;have ph:k=qs.length:=by
     have:=(List.getElem?_eq_some_iff.1 hx).1;simp at this;omega
    subst ph;simp only [Nat.sub_self,List.getElem?_cons_zero,Option.some.injEq] at hx;subst hx;refine ⟨v9,fo,?_,fun _=>?_⟩
    ·rcases Nat.eq_zero_or_pos c9 with h0|h0
     ·have kY:q=[]:=List.eq_nil_of_length_eq_zero (by omega);have wm:n9=0:=by omega
      rw [zy,kY,wm];exact .slNil _ _ _
     ·obtain ⟨g9,qa,e1,e2,e3,e4,e5,e6⟩:=lV h0;have zz:g9≠g:=fun he=>by
       have:=(Array.getElem?_eq_some_iff.1 e3).1;rcases hg with h2|⟨aK,h2⟩
       ·omega
       ·have:=(R.objs id _ hi).lt (jC aK);omega
      refine (e6 (Mof M0 (fZ id 0 (st.h.set id (some (.bag e sz false none (qs++[q]))))) p') (fun b j ao Ia hm qb=>?_) fun j hj qb=>?_).keep (.of_blocks aM fun b ao hn=>b8 b ao fun he=>hn fun j=>?_) fun _ _ _ h=>h
      ·rcases qb with qb|⟨i,ob,aG,bs,hO⟩
       ·exact hm (.inl qb)
       ·by_cases qc:i=id
        ·subst qc;rcases hO with hO|hO
         ·rw [cQ] at hO;rcases hg with h2|⟨aK,h2⟩
          ·omega
          ·exact hm (.inr ⟨i,_,hi,jC aK,.inl (by omega)⟩)
         ·rcases (iq b j).1 hO with ⟨aK,h⟩|h
          ·exact hm (.inr ⟨i,_,hi,jC aK,.inr h⟩)
          ·obtain ⟨q1,_,_⟩:=(sI b j).1 h;rw [e1] at q1;simp only [Option.some.injEq,Addr.mk.injEq] at q1;exact Ia q1.1.symm
        ·obtain ⟨o0,h1,h2⟩:=H_ aG qc;refine hm (.inr ⟨i,o0,h1,h2.trans bs,?_⟩);rcases hO with hO|hO
         ·exact .inl (by rw [←jq i qc];exact hO)
         ·exact .inr (by rw [←gv i qc];exact hO)
      ·rcases qb with qb|⟨i,ob,aG,bs,hO⟩
       ·exact R.h0 _ _ qb (.inl (Nat.le_trans R.below.size e2))
       ·by_cases qc:i=id
        ·subst qc;rcases hO with hO|hO
         ·rw [cQ] at hO;exact zz hO.symm
         ·rcases (iq g9 j).1 hO with ⟨aK,h⟩|h
          ·have:=(ot aK g9 j h).2;omega
          ·have:=((sI g9 j).1 h).2.2;omega
        ·obtain ⟨o0,h1,h2⟩:=H_ aG qc;have:p.O i g9 j:=by
          rcases hO with hO|hO
          ·exact .inl (by rw [←jq i qc];exact hO)
          ·exact .inr (by rw [←gv i qc];exact hO)
         have:=((R.objs i o0 h1).own (h2.trans bs) g9 j this).2;omega
      ·exact .inr ⟨id,_,O3 (List.getElem?_eq_some_iff.1 hi).1,rfl,.inl (by rw [cQ,he])⟩
    ·refine ⟨A9,n9,c9,zy,CU,fun ao=>?_⟩;obtain ⟨g9,qa,e1,e2,e3,e4,e5,e6⟩:=lV (by omega);have gU:=(Array.getElem?_eq_some_iff.1 e3).1;have zz:g9≠g:=fun he=>by
      rcases hg with h2|⟨aK,h2⟩
      ·omega
      ·have:=(R.objs id _ hi).lt (jC aK);omega
     exact ⟨g9,0,qa,e9,e1,(b8 g9 gU zz).trans e3,by omega,e5,iM,by rw [cQ];exact zz,fun j hj=>(iq g9 j).2 (.inr ((sI g9 j).2 ⟨e1,by omega,by omega⟩))⟩
  ·have hlen:(qs++[q]).length=qs.length+1:=by simp
   rw [hlen] at hk dN;have aR:∀ (k:Nat) (v:Value),k < qs.length→cur[k]? = some v→Dist v v9:=fun k v hl hv=>by
    rcases oo with aK|aK
    ·rw [dI aK] at hl;simp at hl
    ·obtain ⟨cur0,_,_,e2,e3,_⟩:=lW aK;obtain ⟨v2,g1,_,g3⟩:=e3 k _ (List.getElem?_eq_getElem hl);rw [e2 k hl,g1] at hv;obtain rfl:=Option.some.inj hv;intro b o n c b' o' n' c' q1 q2 l1 l2 uo;obtain ⟨A,n1,c1,r1,r2,r3⟩:=g3;rw [q1] at r1;simp only [Value.slice.injEq] at r1;obtain ⟨rfl,rfl,rfl⟩:=r1;obtain ⟨b1,o1,cb,tb,s1,s2,_⟩:=r3 l1;simp only [Option.some.injEq,Addr.mk.injEq] at s1;obtain ⟨rfl,_⟩:=s1;have h1:=(Array.getElem?_eq_some_iff.1 s2).1;rw [zy] at q2;simp only [Value.slice.injEq] at q2;obtain ⟨q2,rfl,rfl⟩:=q2;obtain ⟨g9,qa,e1,e2,_⟩:=lV (by omega);rw [q2] at e1;simp only [Option.some.injEq,Addr.mk.injEq] at e1;omega
   rcases Nat.lt_or_ge k qs.length with hl|hl<;>rcases Nat.lt_or_ge k' qs.length with bm|bm
   ·rcases oo with aK|aK
    ·rw [dI aK] at hl;simp at hl
    ·obtain ⟨cur0,_,_,e2,_,e4⟩:=lW aK;rw [e2 k hl] at hv;rw [e2 k' bm] at bE;exact e4 k k' v v' hl bm aq hv bE
   ·have:k'=qs.length:=by omega
    subst this;rw [fo] at bE;obtain rfl:=Option.some.inj bE;exact aR k v hl hv
   ·have:k=qs.length:=by omega
    subst this;rw [fo] at hv;obtain rfl:=Option.some.inj hv;exact (aR k' v' bm bE).symm
   ·omega
 ·unfold Osl;rw [if_neg (by simp)];exact ⟨cap,cur,by simp,um,by omega,by rw [List.length_append];exact kB,fN⟩
end
section
variable {P:Program} {M0:Nat→Nat→Prop} {w0:Bas} {N:Nm} {p:Pl} {st:VS} {a:Act} {w:World} {Q:Exit→VS→Prop}
theorem O6 {id:Nat} {l:List Oper} (n:Nat) (ow:List Nat) (bf:Nat→Bool) (S2:VS) (T:Pl→Act→World→Nat→Value→World→Prop) (hm:P.follows .mixedOrders=true) (hB:Region.specB l.toArray n=true)
  (hT:∀ p a w i v w1 w2,T p a w i v w1→Below w1.heap.size w1 w2→T p a w i v w2)
  (h:iI P l bf (l.take n) 0 st fun aL=>
   (∀ p a w,Rel M0 w0 N p st a w→∀ i o,i < n→bf i=true→l[i]? = some o→o.guard=none∧∀ a' w',Below w.heap.size w w' →
    (∀ t∈o.looksAt l.toArray,V1 w' (Mof M0 st.h p) st.h p (lkp aL.s t) (a'.tmps.getD t undef))→(∀ t,(∀ j q,j < n→l[j]? = some q→q.dst≠some t)→a'.tmps.getD t undef=a.tmps.getD t undef) →
    (∀ j q d,j < n→bf j=true→l[j]? = some q→q.dst=some d→Region.waitsFor .any l.toArray i j=true→T p a w j (a'.tmps.getD d undef) w') →
    gives P o a' w' fun v w''=>T p a w i v w''∧Below w'.heap.size w' w'') ∧
   (∀ p a w a' w',Rel M0 w0 N p st a w→Below w.heap.size w w'→Rel M0 w0 N p aL a' w'→(∀ t,(∀ j q,j < n→l[j]? = some q→q.dst≠some t)→a'.tmps.getD t undef=a.tmps.getD t undef) →
    (∀ j q d,j < n→bf j=true→l[j]? = some q→q.dst=some d→T p a w j (a'.tmps.getD d undef) w') →
    ∃ (so:Oper) (d:Nat) (v3:Value) (w3:World) (p2:Pl),l[n]? = some so∧so.guard=none∧so.dst=some d∧(execOp a'.eval so).run P w' = .ok (.value v3) w3∧Rel M0 w0 N p2 S2 (a'.put (some d) v3) w3)∧dS P ow l (l.drop (n+1)) S2 (Q .normal)) :
  VWp P M0 w0 N (.region id l.toArray true) Q st:=fun iw p a w R=>by
 have hN:l.all (cU N)=true:=by simpa [eY] using iw
 obtain ⟨rs,dO,⟨og,sD,oh⟩,hP,oi⟩:=rN _ _ _ h;have cZ:=hB;simp only [Region.specB,Bool.and_eq_true,decide_eq_true_eq] at cZ;obtain ⟨⟨⟨⟨⟨⟨_,aK⟩,_⟩,_⟩,hd⟩,a_⟩,_⟩:=cZ;have eB:n < l.length:=by simpa using aK
 have c_:dF (l.take n)=true:=by simpa using hd
 have hlen:(l.take n).length=n:=by simp;omega
 rw [hlen] at dO;have cm:∀ i,i < n→∀ o,l[i]? = some o→(∀ t∈o.looksAt l.toArray,∀ j,j < n→∀ q,l[j]? = some q→q.dst=some t→Region.waitsFor .any l.toArray i j=true)∧(∀ e∈o.after,Region.binds .any e=true→e.on < i):=by
  intro i hi o ho;have h:=List.all_eq_true.1 a_ i (List.mem_range.2 hi);simp only [List.getElem?_toArray,ho,Bool.and_eq_true] at h;refine ⟨fun t ht j hj q hq aA=>?_,fun e he hb=>?_⟩
  ·have h1:=List.all_eq_true.1 (List.all_eq_true.1 h.1 t ht) j (List.mem_range.2 hj);simp only [hq,Option.bind_some,aA,bne_self_eq_false,Bool.false_or] at h1;exact h1
  ·have h1:=Array.all_eq_true'.1 h.2 e he;simp only [hb,Bool.not_true,Bool.false_or,decide_eq_true_eq] at h1;exact h1
 have ao:∀ i j,i < n→Region.waitsFor .any l.toArray i j=true→j < i:=by
  intro i j hi hw;obtain ⟨o,ho,e,he,hb,cf⟩:=Region.waitsFor_spec hw;rw [←cf];exact (cm i hi o (by simpa using ho)).2 e he hb
 have pC:(l.take n).all (cU N)=true:=List.all_eq_true.2 fun q hq=>List.all_eq_true.1 hN q (List.mem_of_mem_take hq);have bb:∀ {i:Nat} {o:Oper},i < n→l[i]? = some o→(l.take n)[i]? = some o:=fun {i o} hi ho=>by rw [List.getElem?_take_of_lt hi];exact ho
 have eX:∀ q∈l.take n,∀ d,q.dst=some d→d < a.tmps.size:=fun q hq d eu=>R.size.lt (eZ (List.all_eq_true.1 pC q hq) d eu);have om:∀ i,i < n→bf i=true→rs.getD i .any = .any:=fun i hi hc=>by
  have cz:i < l.length:=by omega
  have:=oi i _ (by rw [Nat.zero_add];exact hc) (bb hi (List.getElem?_eq_getElem cz));rw [List.getD_eq_getElem?_getD,this];rfl
 have eW:∀ {vs:Nat→Value} {j d:Nat} {q:Oper},j < n→l[j]? = some q→q.dst=some d→(fill (fun _=>true) vs (l.take n) 0 a).tmps.getD d undef=vs j:=fun {vs j d q} hj hq eu=>by
  rw [zv (l.take n) 0 a d j q c_ eX (bb hj hq) eu,Nat.zero_add]
 refine xD n (fun i v w'=>V1 w' (Mof M0 st.h p) st.h p (rs.getD i .any) v∧(bf i=true→T p a w i v w')) hm hB
  (fun i _ v w1 w2 hv hb=>⟨hv.1.later hb,fun hc=>hT _ _ _ _ _ _ _ (hv.2 hc) hb⟩) (fun i hi=>?_) fun vs w' hb hv=>?_
 ·by_cases hc:bf i=true
  ·intro o ho vs w' cp hS;have aJ:l[i]? = some o:=by simpa using ho
   obtain ⟨hg,hh⟩:=og p a w R i o hi hc aJ;simp only [Region.wanted,hg,if_true];refine CQ (hh _ w' cp (fun t ht=>?_) (fun t ht=>?_) fun j q d hj sE hq eu hw=>?_) fun v w'' wS=>⟨⟨?_,fun _=>wS.1⟩,wS.2⟩
   ·have R':=R.later cp;by_cases hex:∃ (j:Nat) (q:Oper),(l.take n)[j]? = some q∧q.dst=some t
    ·obtain ⟨j,q,hj,hq⟩:=hex;have eH:j < n:=by have:=(List.getElem?_eq_some_iff.1 hj).1;omega
     have eN:l[j]? = some q:=by rw [List.getElem?_take_of_lt eH] at hj;exact hj
     have hw:=(cm i hi o aJ).1 t ht j eH q eN hq;rw [eW eH eN hq,ma (l.take n) rs st t j q (rs.getD j .any) c_ hj (by simp [List.getD,show j < rs.length by omega]) hq];exact (hS j eH hw).1
    ·have bg:∀ o∈l.take n,o.dst≠some t:=fun o ho he=>by
      obtain ⟨j,hj⟩:=List.mem_iff_getElem?.1 ho;exact hex ⟨j,o,hj,he⟩
     have e1:=po (vs:=vs) (l.take n) 0 a t bg eX;rw [e1,lz _ _ _ _ bg];exact R'.slots t
   ·refine po (l.take n) 0 a t (fun q hq he=>?_) eX;obtain ⟨j,hj⟩:=List.mem_iff_getElem?.1 hq;have eH:j < n:=by have:=(List.getElem?_eq_some_iff.1 hj).1;omega
    exact ht j q eH (by rw [List.getElem?_take_of_lt eH] at hj;exact hj) he
   ·have:=(hS j hj hw).2 sE;have e1:=eW (vs:=vs) hj hq eu;rw [e1];exact this
   ·rw [om i hi hc];exact .base _ _ (.any v)
  ·have ij:bf i=false:=by simpa using hc
   refine H7 (H6 R (Nat.le_of_lt eB) c_ hN (fun i hi o ho t ht j hj q hq aA=>(cm i hi o ho).1 t ht j hj q hq aA) ao dO i (fun o r ho hr=>(hP i o r (by rw [Nat.zero_add];exact ij) ho hr).1) hi) (fun j v w' hh=>hh.1) fun v w' hh=>⟨hh,fun h=>absurd h hc⟩
 ·obtain ⟨so,ds,v3,w3,p2,gI,kM,my,aC,R2⟩:=sD p a w _ w' R hb (uQ R c_ pC (by rw [hlen];exact dO) hb (by rw [hlen];exact fun i hi=>(hv i hi).1)) (fun t ht=>by
   refine po (l.take n) 0 a t (fun q hq he=>?_) eX;obtain ⟨j,hj⟩:=List.mem_iff_getElem?.1 hq;have eH:j < n:=by have:=(List.getElem?_eq_some_iff.1 hj).1;omega
   exact ht j q eH (by rw [List.getElem?_take_of_lt eH] at hj;exact hj) he) fun j q d hj sE hq eu=>by
    rw [eW hj hq eu];exact (hv j hj).2 sE
  have ia:(l.drop (n+1)).all (cU N)=true:=List.all_eq_true.2 fun q hq=>List.all_eq_true.1 hN q (List.mem_of_mem_drop hq);have lX:l.drop n=so::l.drop (n+1):=by
   rw [List.drop_eq_getElem_cons eB];congr 1;rw [List.getElem?_eq_getElem eB] at gI;exact Option.some.inj gI
  rw [lX];refine wpList_step fun Y Z=>?_;simp only [Region.wanted,kM,if_true];unfold Oper.wp;rw [aC];show Y _ _;rw [my];exact Z _ _ (l9 (ow:=ow) hN (fun p st a w R h=>⟨st,p,R,h⟩) (l.drop (n+1)) p2 _ _ w3 ia R2 oh)
theorem O7 {ops:List Oper} {o:Oper} {K K':VS→Prop} (h:m_ P ops o st K) (hk:∀ aL,K aL→K' aL) : m_ P ops o st K':=by
 unfold m_ zA at h ⊢;split
 ·rename_i hg;rw [hg] at h;obtain ⟨r,h1,h2⟩:=h;exact ⟨r,h1,hk _ h2⟩
 ·rename_i j want hg;rw [hg] at h;simp only at h;split
  ·rename_i b hb;rw [hb] at h;simp only at h;split
   ·rename_i hw;rw [if_pos hw] at h;obtain ⟨r,h1,h2⟩:=h;exact ⟨r,h1,hk _ h2⟩
   ·rename_i hw;rw [if_neg hw] at h;exact hk _ h
  ·rename_i vs hb;rw [hb] at h;exact hk _ h
  ·split at h
   ·rename_i hb1 hb2 _ _ hb;exact absurd hb (by first|exact hb1 _|exact hb2 _)
   ·rename_i hb1 hb2 _ _ hb;exact absurd hb (by first|exact hb1 _|exact hb2 _)
   ·exact h
theorem CX {ops:List Oper} {bf:Nat→Bool} {K K':VS→Prop} : ∀ {l:List Oper} {i:Nat} {T:VS},iI P ops bf l i T K→(∀ T',K T'→K' T')→iI P ops bf l i T K'
 | [],_,_,h,hk=>hk _ h
 | o::l,i,T,h,hk=>by
  unfold iI at h ⊢;split
  ·rename_i hc;rw [if_pos hc] at h;exact CX h hk
  ·rename_i hc;rw [if_neg hc] at h;exact O7 h fun T' ⟨h1,h2⟩=>⟨h1,CX h2 hk⟩
def CY (id:Nat) : AV→Bool
 | .lit _=>true
 | .ref i _=>i != id
 | _=>false
theorem Ib:∀ (s:List (Nat×AV)) (t:Nat),lkp s t = .any∨(t,lkp s t)∈s
 | [],_=>.inl rfl
 | (c,v)::r,t=>by
  simp only [lkp];split
  ·rename_i h;subst h;exact .inr List.mem_cons_self
  ·exact (Ib r t).imp (fun h=>h) fun h=>List.mem_cons_of_mem _ h
theorem Ic (f:Nat→Bool) (g:AV→AV) : ∀ (s:List (Nat×AV)) (t:Nat),lkp ((s.filter fun q=>f q.1).map fun q=>(q.1,g q.2)) t = .any∨(f t=true∧lkp ((s.filter fun q=>f q.1).map fun q=>(q.1,g q.2)) t=lkp (s.map fun q=>(q.1,g q.2)) t)
 | [],_=>.inl rfl
 | (c,v)::r,t=>by
  have ih:=Ic f g r t;by_cases hc:f c=true
  ·rw [List.filter_cons_of_pos (by simpa using hc)];simp only [List.map_cons,lkp];by_cases he:c=t
   ·subst he;simp [hc]
   ·simp only [if_neg he];exact ih
  ·rw [List.filter_cons_of_neg (by simpa using hc)];by_cases he:c=t
   ·subst he;exact .inl (ih.elim (fun h=>h) fun h=>absurd h.1 hc)
   ·simp only [List.map_cons,lkp,if_neg he];exact ih
def sK (l:List Oper) (t:Nat) : Bool:=l.any fun o=>o.dst == some t
theorem O8 {id:Nat} {l:List Oper} (n ic il:Nat) (ow:List Nat) (KS:List (Nat×AV)) {k:FuncId} {args:List AV} {idb e sz dc dl d t t1 e9:Nat} {nl wT:Bool} {q:List (List AV)} {qs:List (List (List AV))} {ti te ti1:TI} {x:Operand} {oc ol oa:Oper} {bG:Array Operand} {lv:Array TypeId} {callee:Callee}
  (g:VCo P k args e9 sz wT q) (hm:P.follows .mixedOrders=true) (hB:Region.specB l.toArray n=true) (cz:ic < n∧il < n∧ic≠il) (ou:l[ic]? = some oc) (zB:l[il]? = some ol) (Ie:l[n]? = some oa)
  (hc:oc.op = .call ⟨callee,bG,lv⟩∧oc.dst=some dc∧oc.guard=none) (hl:ol.op = .buildSlice t1 1 #[(0,.tmp dc)]∧ol.dst=some dl∧ol.guard=none) (ha:oa.op = .call ⟨.builtin .append,#[x,.tmp dl],#[t,t]⟩∧oa.dst=some d∧oa.guard=none)
  (hw:Region.waitsFor .any l.toArray il ic=true) (aX:aY P t=some ti) (hk:ti.kind=1∧ti.elem=e) (fM:aY P e=some te) (CZ:te.size=1∧te.zero.length=1∧te.bytes≤100000) (aR:∀ A m c,sj P t1 1 [(0,.lit (.slice A m c))]=some ([.lit (.slice A m c)],ti1))
  (hid:st.h[idb]? = some (some (.bag e sz nl none qs))) (hlen:qs.length+1≤1000000000)
  (h:iI P l (fun i=>i == ic || i == il) (l.take n) 0 st fun T=>T.h=st.h∧qq P (ev T) ⟨callee,bG,lv⟩=some (k,args)∧args.all (e_ 5)=true∧ev T x = .osl idb∧(∀ y∈KS,lkp T.s y.1=y.2∧CY idb y.2=true) ∧
   dS P ow l (l.drop (n+1)) ⟨(d,.osl idb)::(KS++(st.s.filter fun y=>!sK (l.take n) y.1).map fun y=>(y.1,purge idb y.2)),fZ idb 0 (st.h.set idb (some (.bag e sz false none (qs++[q]))))⟩ (Q .normal)) :
  VWp P M0 w0 N (.region id l.toArray true) Q st:=fun iw=>by
 have hN:l.all (cU N)=true:=by simpa [eY] using iw
 obtain ⟨pq,eP,na⟩:=hc;obtain ⟨zY,gU,gX⟩:=hl;obtain ⟨O9,Ig,O_⟩:=ha;obtain ⟨jj,rfl⟩:=hk;obtain ⟨Pb,jl,Ih⟩:=CZ;have hd:N.has d:=eZ (List.all_eq_true.1 hN oa (List.mem_of_getElem? Ie)) d Ig;refine O6 n ow (fun i=>i == ic || i == il) ⟨(d,.osl idb)::(KS++(st.s.filter fun y=>!sK (l.take n) y.1).map fun y=>(y.1,purge idb y.2)),fZ idb 0 (st.h.set idb (some (.bag ti.elem sz false none (qs++[q]))))⟩
  (fun p a w i v w'=>if i=ic then OwnRow w w' (Mof M0 st.h p) e9 sz wT q v else ∃ b v9,v = .slice (some ⟨b,0,none⟩) 1 1∧(∃ cur t,w'.heap[b]? = some (.cells cur t (0,0))∧cur[0]? = some v9)∧OwnRow w w' (Mof M0 st.h p) e9 sz wT q v9) hm hB (fun p a w i v w1 w2 hv hb=>?_) ?_ iw
 ·split
  ·rename_i hi;rw [if_pos hi] at hv;exact hv.later hb
  ·rename_i hi;rw [if_neg hi] at hv;obtain ⟨b,v9,h1,⟨cur,t0,h2,h3⟩,h4⟩:=hv;exact ⟨b,v9,h1,⟨cur,t0,(hb.block b (Array.getElem?_eq_some_iff.1 h2).1).trans h2,h3⟩,h4.later hb⟩
 ·refine CX h fun T ⟨hT,cO,kh,hx,Pc,aC⟩=>⟨?_,?_,aC⟩
  ·intro p a w R i o hi eg ho;have bM:i=ic∨i=il:=by simpa using eg
   have Pd:∀ {w'},Below w.heap.size w w'→MOK w' (Mof M0 st.h p):=fun hb=>(R.later hb).mok;rcases bM with rfl|rfl
   ·rw [ou] at ho;obtain rfl:=Option.some.inj ho;refine ⟨na,fun a' w' hb cm hold ov=>?_⟩;obtain ⟨dst,op,ty,pos,after,guard⟩:=oc;simp only at pq eP na;subst pq eP na;have R':=R.later hb;obtain ⟨lx,aM,cI,eA⟩:=g;obtain ⟨vs,Pe,jh,gH⟩:=xC (P:=P) (a:=a') (w:=w') (M:=Mof M0 st.h p) (h:=st.h) (p:=p) (dst:=some dc) (ty:=ty) (pos:=pos) (after:=after) (guard:=none) (fun y hy=>by
     cases y with
     | tmp t0=>exact cm t0 (List.mem_append_left _ (List.mem_filterMap.2 ⟨.tmp t0,by simpa using hy,rfl⟩))
     | const v=>exact .base _ _ (.lit v)
     | global g=>exact .base _ _ (R'.evalG g)
     | func f=>exact .base _ _ (.lit _)) cO lx
    unfold gives;rw [Pe];refine (eA w' (Mof M0 st.h p) vs (Pd hb) jh fun i b v eQ bE=>(gH i b v eQ bE).pure 5 (List.all_eq_true.1 kh b (List.mem_of_getElem? eQ))).mono ?_;rintro en w2 ⟨v,rfl,hb2,jX⟩;exact ⟨v,rfl,by rw [if_pos rfl];exact jX.base hb.size,hb2⟩
   ·rw [zB] at ho;obtain rfl:=Option.some.inj ho;refine ⟨gX,fun a' w' hb cm hold ov=>?_⟩;have h9:=ov ic oc dc cz.1 (by simp) ou eP hw;rw [if_pos rfl] at h9;obtain ⟨A,m,c,wU⟩ : ∃ A m c,a'.tmps.getD dc undef = .slice A m c:=by
     unfold OwnRow at h9;split at h9
     ·obtain ⟨⟨A,h5⟩,_⟩:=h9;exact ⟨A,0,0,h5⟩
     ·obtain ⟨g,cap,cur,h5,_⟩:=h9;exact ⟨_,_,_,h5⟩
    obtain ⟨us,aC,bI,_⟩:=zb (P:=P) (w:=w') (M:=fun _ _=>False) (h:=[]) (p:=p) (t:=t1) (n:=1) (parts:=[(0,.lit (.slice A m c))]) (vals:=#[(0,.slice A m c)]) rfl (fun i a v h1 h2=>by
     cases i with
     | zero=>simp at h1 h2;subst h1;subst h2;exact .base _ _ (.lit _)
     | succ i=>simp at h1) (aR A m c)
    have tR:us=[.slice A m c]:=by
     obtain ⟨g1,_,g3⟩:=bI;match us,g1 with
     | [u],_=>
      have:=(g3 0 _ u rfl rfl).lit_inv;rw [this]
    subst tR;have C0:a'.eval (.tmp dc) = .slice A m c:=wU;unfold gives;simp only [execOp,zY,Sem.run_bind,List.map_toArray,List.map_cons,List.map_nil,C0,aC,Result.andThen_ok,Sem.run_pure];refine ⟨?_,mO _ _⟩;rw [if_neg (Ne.symm cz.2.2)];rw [wU] at h9;exact ⟨_,.slice A m c,rfl,⟨#[.slice A m c],ti1.elem,by simp,rfl⟩,h9.later (mO _ _)⟩
  ·intro p a w a' w' R hb R' hold Pf;have h9:=Pf il ol dl cz.2.1 (by simp) zB gU;rw [if_neg (Ne.symm cz.2.2)] at h9;obtain ⟨b,v9,e9,⟨cur,t0,bJ,mY⟩,ho⟩:=h9;have iQ:=R'.eval x;rw [hx] at iQ;obtain ⟨Ax,nx,cx,Ex,_,bo⟩:=iQ.bag_inv;have bo:=bo _ _ _ _ _ (by rw [hT];exact hid);obtain ⟨dd,inf,z,eu,gP,hz,fO,im⟩:=eS fM;have bz:inf.size=1:=by rw [←Pb,im]
   have fa:z.cells.size=1:=by rw [←jl,im,Array.length_toList]
   have mr:inf.bytes≤100000:=by rw [im] at Ih;exact Ih
   have hu:=lR aX jj;have aM:=g.2.1;obtain ⟨v3,w3,p2,wV,R3,jq⟩:=R.pushRow (ty:=oa.type) (cy:=1) (ay:=⟨b,0,none⟩) hd hid hb bo ho g.2.2.1 hu gP hz bz fa mr (by
    show w'.cell? ⟨b,0,none⟩=some v9;rw [cell_of_row w' b _ cur t0 (0,0) bJ];exact mY) hlen
   refine ⟨oa,d,v3,w3,p2,Ie,O_,Ig,?_,?_⟩
   ·have Pg:a'.eval (.tmp dl) = .slice (some ⟨b,0,none⟩) 1 1:=e9;simp only [execOp,O9,resolve,invoke,builtin,Sem.run_bind,Sem.run_pure,Result.andThen_ok,List.map_toArray,List.map_cons,List.map_nil,Pg,wV]
   ·have my:=R'.size.put (v:=v3) hd;have vj:=R'.size.lt hd;refine ⟨R'.defers,my,R3.below,R3.m0,R3.x0,fun i=>?_,R3.objs,R3.inj⟩;rw [mQ a' d _ i vj];simp only [lkp];have h3:=R3.slots i;rw [mQ a d _ i (R.size.lt hd)] at h3;simp only [lkp] at h3;split
    ·rename_i wW;rw [if_pos wW,if_pos wW] at h3;exact h3
    ·rename_i wW;rw [if_neg wW,if_neg wW] at h3;rcases qA KS ((st.s.filter fun y=>!sK (l.take n) y.1).map fun y=>(y.1,purge idb y.2)) i with h1|h1
     ·rw [h1];rcases Ib KS i with h2|h2
      ·rw [h2];exact .base _ _ (.any _)
      ·obtain ⟨e1,e2⟩:=Pc _ h2;have hs:=R'.slots i;simp only at e1;rw [e1] at hs;generalize lkp KS i=av at *;generalize a'.tmps.getD i undef=uv at *;cases av<;>simp only [CY,Bool.false_eq_true] at e2
       ·rw [hs.lit_inv];exact .base _ _ (.lit _)
       ·have aq:=(bne_iff_ne.1 e2)
        cases hs with
        | base _ _ h0=>cases h0
        | ref _ _ eD=>
         rw [←jq _ aq];exact .ref _ _ (by rw [hT] at eD;rw [ze];simpa using eD)
     ·rw [h1];rcases Ic (fun t=>!sK (l.take n) t) (purge idb) st.s i with h2|⟨h2,h4⟩
      ·rw [h2];exact .base _ _ (.any _)
      ·rw [h4,hold i fun j q hj hq he=>?_]
       ·exact h3
       ·have:sK (l.take n) i=true:=by
         unfold sK;exact List.any_eq_true.2 ⟨q,List.mem_of_getElem? (by rw [List.getElem?_take_of_lt hj];exact hq),by simpa using he⟩
        rw [this] at h2;cases h2
end
section
variable {P:Program} {M0:Nat→Nat→Prop} {w0:Bas} {N:Nm} {p:Pl} {st:VS} {a:Act} {w:World} {Q:Exit→VS→Prop}
theorem Rel.grows {w':World} {p':Pl} {obs:Hp} (R:Rel M0 w0 N p st a w) (hb:Below w.heap.size w w') (hp:∀ i,i < st.h.length→p' i=p i∧p'.S i=p.S i)
  (hn:∀ (i:Nat) (ob:Ob),obs[i]? = some (some ob)→cn ob=true→∀ x j,p'.O (st.h.length+i) x j→w.heap.size≤x)
  (hi:∀ (i i':Nat) (ob ob':Ob),obs[i]? = some (some ob)→obs[i']? = some (some ob')→cn ob=true→cn ob'=true→∀ x j j',p'.O (st.h.length+i) x j→p'.O (st.h.length+i') x j'→i=i')
  (iP:∀ (i:Nat) (ob:Ob),obs[i]? = some (some ob)→ObOK w0 w' (Mof M0 (st.h++obs) p') (st.h++obs) p' (st.h.length+i) ob) : Rel M0 w0 N p' ⟨st.s,st.h++obs⟩ a w':=by
 have ke:∀ {i x j},i < st.h.length→(p'.O i x j↔p.O i x j):=fun {i x j} h=>by unfold Pl.O;rw [(hp i h).1,(hp i h).2]
 have di:∀ {id:Nat} {ob:Ob},(st.h++obs)[id]? = some (some ob)→(id < st.h.length∧st.h[id]? = some (some ob))∨∃ i,id=st.h.length+i∧obs[i]? = some (some ob):=fun {id ob} h=>by
  rcases Nat.lt_or_ge id st.h.length with hl|hl
  ·rw [List.getElem?_append_left hl] at h;exact .inl ⟨hl,h⟩
  ·rw [List.getElem?_append_right hl] at h;exact .inr ⟨id - st.h.length,by omega,h⟩
 have hold:∀ {id:Nat},id < st.h.length→(st.h++obs)[id]? = st.h[id]?:=fun h=>List.getElem?_append_left h;have hM:∀ c j,c < w.heap.size→¬Mof M0 st.h p c j→¬Mof M0 (st.h++obs) p' c j:=fun c j hc cW hm=>by
  rcases hm with hm|⟨id,ob',hid,hl,jV⟩
  ·exact cW (.inl hm)
  ·rcases di hid with ⟨ao,bw⟩|⟨i,rfl,bw⟩
   ·exact cW (.inr ⟨id,ob',bw,hl,(ke ao).1 jV⟩)
   ·have:=hn i ob' bw hl c j jV;omega
 have hV:∀ {x:AV} {u:Value},V1 w (Mof M0 st.h p) st.h p x u→V1 w' (Mof M0 (st.h++obs) p') (st.h++obs) p' x u:=fun hx=>
  hx.keep (.of_below hb) hM (by simp) (fun id h=>(hp id h).1) (fun id e sz nl es u hid he hv=>by
   rw [hold hid] at he;exact (hv e sz nl es he).below hb) (fun id e sz nl ak qs u hid he hv=>by
   rw [hold hid] at he;exact (hv e sz nl ak qs he).below hb) fun id k sz v hid hs=>hs.keep (fun e sz ak qs he=>by
   rw [hold hid] at he;exact ⟨he,(hp id hid).1,(hp id hid).2,fun b _ _ ao=>hb.block b ao⟩) hb.size
 refine ⟨R.defers,R.size,R.below.later hb,R.m0,R.x0,fun i=>hV (R.slots i),fun id ob' hid=>?_,fun id gV uf ob2 hid j9 hl bm x j j' hO cw=>?_⟩
 ·rcases di hid with ⟨ao,bw⟩|⟨i,rfl,bw⟩
  ·exact (R.objs id ob' bw).keep (fun _=>hp id ao) (fun _ b _ _ dv=>hb.block b dv) hb.size (fun hx=>hx.keep (.of_below hb) hM) fun _ _ _ _ _ hx=>hV hx
  ·exact iP i ob' bw
 ·rcases di hid with ⟨ao,nZ⟩|⟨i,rfl,nZ⟩<;>rcases di j9 with ⟨h_,bM⟩|⟨i',rfl,bM⟩
  ·exact R.inj id gV _ _ nZ bM hl bm x j j' ((ke ao).1 hO) ((ke h_).1 cw)
  ·have h1:=((R.objs id uf nZ).own hl x j ((ke ao).1 hO)).2;have h2:=hn i' ob2 bM bm x j' cw;omega
  ·have h1:=((R.objs gV ob2 bM).own bm x j' ((ke h_).1 cw)).2;have h2:=hn i uf nZ hl x j hO;omega
  ·rw [hi i i' uf ob2 nZ bM hl bm x j j' hO cw]
theorem OwnRow.ob {w':World} {e sz:Nat} {nl:Bool} {es:List (List AV)} {v:Value} {p':Pl} {M M':Nat→Nat→Prop} {h':Hp} {id:Nat} (ho:OwnRow w w' M e sz nl es v) (hw:w0.w.heap.size≤w.heap.size) (aM:0 < sz) (cI:∀ (k:Nat) (x:List AV),es[k]? = some x→x.length=sz∧∀ c∈x,cN c=true)
  (hg:nl=false→∀ g n c,v = .slice (some ⟨g,0,none⟩) n c→p' id=g) (hS:∀ b j,¬p'.S id b j) (hM:nl=false→∀ b j,b < w'.heap.size→b≠p' id→¬M b j→¬M' b j) : ObOK w0 w' M' h' p' id (.arr e sz nl es):=by
 refine ⟨aM,cI,?_⟩;unfold OwnRow at ho;split at ho
 ·rename_i hn;rw [if_pos hn];exact ho.2
 ·rename_i hn;have zC:nl=false:=by cases nl<;>simp at hn ⊢
  rw [if_neg hn];obtain ⟨g,cap,cur,rfl,h2,h3,h4,h5,h6,h7⟩:=ho;have uq:=hg zC g _ _ rfl;refine ⟨⟨fun j=>.inl (by rw [uq];omega),hS⟩,cur,by rw [uq];exact h3,by rw [h4];exact Nat.mul_le_mul_right _ h5,fun k x j c hk hj=>?_⟩;obtain ⟨u,hu,hv⟩:=h7 k x j c hk hj;exact ⟨u,hu,hv.keep (Keeps.refl _ _) fun b j ao hm=>hM zC b j ao (fun he=>hm (.inr (he.trans uq))) fun h=>hm (.inl h)⟩
theorem OwnRow.obL {w':World} {e sz:Nat} {nl:Bool} {es:List (List AV)} {v:Value} {p':Pl} {M M':Nat→Nat→Prop} {h':Hp} {id:Nat} (ho:OwnRow w w' M e sz nl es v) (hw:w0.w.heap.size≤w.heap.size) (aM:0 < sz) (cI:∀ (k:Nat) (x:List AV),es[k]? = some x→x.length=sz∧∀ c∈x,∃ u,c = .lit u∧u.oneCell'=true)
  (hg:nl=false→∀ g n c,v = .slice (some ⟨g,0,none⟩) n c→p' id=g) (hS:∀ b j,¬p'.S id b j) : ObOK w0 w' M' h' p' id (.arr e sz nl es):=by
 refine ⟨aM,fun k x hk=>⟨(cI k x hk).1,fun c hc=>by obtain ⟨u,rfl,hu⟩:=(cI k x hk).2 c hc;exact hu⟩,?_⟩;unfold OwnRow at ho;split at ho
 ·rename_i hn;rw [if_pos hn];exact ho.2
 ·rename_i hn;have zC:nl=false:=by cases nl<;>simp at hn ⊢
  rw [if_neg hn];obtain ⟨g,cap,cur,rfl,h2,h3,h4,h5,h6,h7⟩:=ho;have uq:=hg zC g _ _ rfl;refine ⟨⟨fun j=>.inl (by rw [uq];omega),hS⟩,cur,by rw [uq];exact h3,by rw [h4];exact Nat.mul_le_mul_right _ h5,fun k x j c hk hj=>?_⟩;obtain ⟨u,hu,hv⟩:=h7 k x j c hk hj;obtain ⟨u2,rfl,_⟩:=(cI k x hk).2 c (List.mem_of_getElem? hj);cases hv;exact ⟨_,hu,.lit _⟩
theorem Rel.nilBag (R:Rel M0 w0 N p st a w) {bi j e sz:Nat} {cs:List AV} (hb:st.h[bi]? = some (some (.box cs))) (hj:cs[j]? = some (.lit (.slice none 0 0))) (aM:0 < sz) : Rel M0 w0 N p ⟨st.s,st.h.set bi (some (.box (cs.set j (.osl st.h.length))))++[some (.bag e sz true none [])]⟩ a w:=by
 have dv:bi < st.h.length:=(List.getElem?_eq_some_iff.1 hb).1;refine (R.reheap _ (by simp) (fun i ob hi hl=>?_) (fun i e sz nl es cz he=>?_) (fun i e sz nl pe qs cz he=>?_) fun i ob hi aq keep=>?_).1
 ·rcases qp hi dv with ⟨rfl,rfl⟩|⟨_,bw⟩|⟨rfl,rfl⟩
  ·exact ⟨_,hb,rfl⟩
  ·exact ⟨ob,bw,hl⟩
  ·cases hl
 ·rcases qp he dv with ⟨_,h⟩|⟨_,h⟩|⟨h,_⟩
  ·cases h
  ·exact h
  ·omega
 ·rcases qp he dv with ⟨_,h⟩|⟨_,h⟩|⟨h,_⟩
  ·cases h
  ·exact h
  ·omega
 ·rcases qp hi dv with ⟨rfl,rfl⟩|⟨_,bw⟩|⟨rfl,rfl⟩
  ·obtain ⟨h1,cur,e2,h2,h3,h4,h5⟩:=R.objs i _ hb;refine ⟨h1,cur,e2,h2,by simpa using h3,fun c hc=>?_,fun k c hk=>?_⟩
   ·rcases List.mem_or_eq_of_mem_set hc with h|rfl
    ·exact h4 c h
    ·rfl
   ·rw [List.getElem?_set] at hk;by_cases he:j=k
    ·subst he;have b_:j < cs.length:=(List.getElem?_eq_some_iff.1 hj).1;rw [if_pos rfl,if_pos b_] at hk;simp only [Option.some.injEq] at hk;subst hk;obtain ⟨u,hu,hv⟩:=h5 j _ hj;obtain rfl:=hv.lit_inv;refine ⟨_,hu,.osl _ _ _ _ (by simp) (fun e3 uL uM ta jd=>?_) fun e3 uL uM Eo Ep jd=>?_⟩
     ·rw [List.getElem?_append_right (by simp)] at jd;simp at jd
     ·rw [List.getElem?_append_right (by simp)] at jd;simp at jd;obtain ⟨rfl,rfl,rfl,rfl,rfl⟩:=jd;exact ⟨⟨none,rfl⟩,rfl⟩
    ·rw [if_neg he] at hk;obtain ⟨u,hu,hv⟩:=h5 k c hk;exact ⟨u,hu,keep hv⟩
  ·exact absurd bw aq
  ·exact ⟨aM,rfl⟩
theorem Ph {f:FuncId} {args:List AV} {h':Hp} {r:AV} (h:VH P f [] args [] h' r) : VC P f args (jn 5 h' r):=by
 refine ⟨h.1,fun w M vs hM hl hv=>?_⟩;have C3:∀ p b j,¬M b j→¬Mof M [] p b j:=fun p b j hn hm=>hm.elim hn fun ⟨i,ob,hi,_⟩=>by simp at hi
 refine (h.2 w M (fun _ _=>False) ⟨fun _=>0,fun _ _ _=>False⟩ vs hM ⟨fun _ _ h=>h.elim,GOK.keep (X:=M) (Keeps.refl _ _) hM.2 (fun _ _ _ _ h=>h) hM.2⟩ (fun _ _ _ h=>h) hl (fun i a v ha Ai=>.base _ _ ((hv i a v ha Ai).keep (Keeps.refl _ _) fun b j _ hn=>C3 _ b j hn)) (fun k ob hk=>by simp at hk) (fun id gV ob ob' h1=>by simp at h1)).mono ?_;rintro e w' ⟨v,q,rfl,hb,hv,hO,_,_⟩;refine ⟨v,rfl,hb.below fun _ _ h=>h,zc hO (fun b j hm hf=>hf.elim (fun hf=>absurd (hM.1 b j hm) (by simp only at hf;omega)) fun h=>h) (fun b j hm=>.inl hm) 5 r v hv⟩
end
attribute [go_sem] CY sK
end Go.Proofs.YtoibondihdhnoaaGreatDoor
