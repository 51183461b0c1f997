/- Texts in one: A row is appended to a row of rows: of every program; no condition. -/
import Derived.Test.YtoibondihdhnoaaGreatDoorFRY14
import Derived.Test.YtoibondihdhnoaaGreatDoorFRY49
namespace Go.Proofs.YtoibondihdhnoaaGreatDoor
open Go.RowKit
section
variable {P:Program} {M0:Nat→Nat→Prop} {w0:Bas} {N:Nm} {p:Pl} {st:VS} {a:Act} {w:World}
theorem Rel.bagPush {w':World} {p':Pl} {id g:Nat} {e:TypeId} {sz:Nat} {nl:Bool} {qs qs2:List (List (List AV))} {d:Nat} {A:Option Addr} {n c:Nat} (R:Rel M0 w0 N p st a w) (hd:N.has d) (hi:st.h[id]? = some (some (.bag e sz nl none qs)))
  (hg:w.heap.size≤g∨(nl=false∧g=p id)) (cL:p' id=g) (jk:∀ i,i≠id→p' i=p i) (ga:∀ i,i≠id→p'.S i=p.S i) (uz:∀ b j,p'.S id b j→(nl=false∧p.S id b j)∨w.heap.size≤b)
  (kM:w'.os=w.os) (kO:w'.tape=w.tape) (kP:w'.output=w.output) (aM:w.heap.size≤w'.heap.size) (b9:∀ b,b < w.heap.size→¬(nl=false∧b=p id)→w'.heap[b]? = w.heap[b]?)
  (iJ:(∀ {x:AV} {u:Value},V0 w (Mof M0 st.h p) x u→V0 w' (Mof M0 (fT id 0 (st.h.set id (some (.bag e sz false none qs2)))) p') x u)→ObOK w0 w' (Mof M0 (fT id 0 (st.h.set id (some (.bag e sz false none qs2)))) p') (fT id 0 (st.h.set id (some (.bag e sz false none qs2)))) p' id (.bag e sz false none qs2))
  (hv:Osl w' g e 1 false qs2.length (.slice A n c)) :
  Rel M0 w0 N p' ⟨(d,.osl id)::st.s.map (fun q=>(q.1,purge id q.2)),fT id 0 (st.h.set id (some (.bag e sz false none qs2)))⟩ (a.put (some d) (.slice A n c)) w':=by
 generalize fo:fT id 0 (st.h.set id (some (.bag e sz false none qs2)))=h' at *;have eD:id < st.h.length:=(List.getElem?_eq_some_iff.1 hi).1;have hlen:h'.length=st.h.length:=by rw [←fo,yH];simp
 have j1:∀ {i x j},i≠id→(p'.O i x j↔p.O i x j):=fun hn=>by unfold Pl.O;rw [jk _ hn,ga _ hn]
 have Hd:∀ {x j},p'.O id x j→x < w.heap.size→nl=false∧p.O id x j:=fun {x j} h hx=>by
  rcases h with h|h
  ·rw [cL] at h;rcases hg with hg|⟨aL,hg⟩
   ·omega
   ·exact ⟨aL,.inl (by omega)⟩
  ·rcases uz x j h with h|h
   ·exact ⟨h.1,.inr h.2⟩
   ·omega
 have bu:∀ i o,h'[i]? = some (some o)→(i=id∧o = .bag e sz false none qs2)∨(i≠id∧∃ o0,st.h[i]? = some (some o0)∧cn o0=cn o∧((o0=o∧∀ cs,o = .box cs→cs.all (cE id 5)=true)∨∃ cs,o0 = .box cs∧o = .box (cs.map (qB id i))∧cs.all (fun c=>cE id 5 c || ua id c)=true)):=by
  intro i o aG;rw [←fo,vU] at aG;obtain ⟨x,hx,cY⟩:=Option.map_eq_some_iff.1 aG;rw [Nat.zero_add] at cY;rw [List.getElem?_set] at hx;by_cases he:id=i
  ·rw [if_pos he,if_pos (by omega)] at hx;simp only [Option.some.injEq] at hx;subst hx;simp only [jD,Option.some.injEq] at cY;exact .inl ⟨he.symm,cY.symm⟩
  ·rw [if_neg he] at hx;refine .inr ⟨fun h=>he h.symm,?_⟩;cases x with
   | none=>simp [jD] at cY
   | some y=>
    cases y with
    | box cs=>
     simp only [jD] at cY;split at cY
     ·rename_i bD;simp only [Option.some.injEq] at cY;subst cY;exact ⟨_,hx,rfl,.inl ⟨rfl,fun dI hc=>by injection hc with hc;subst hc;exact bD⟩⟩
     ·split at cY
      ·rename_i bD;simp only [Option.some.injEq] at cY;subst cY;exact ⟨_,hx,rfl,.inr ⟨cs,rfl,rfl,bD⟩⟩
      ·cases cY
    | arr e1 s1 n1 l1=>
     simp only [jD,Option.some.injEq] at cY;subst cY;exact ⟨_,hx,rfl,.inl ⟨rfl,fun dI hc=>by cases hc⟩⟩
    | mpo kf iv=>
     simp only [jD,Option.some.injEq] at cY;subst cY;exact ⟨_,hx,rfl,.inl ⟨rfl,fun dI hc=>by cases hc⟩⟩
    | bag e1 s1 n1 Mj q1=>
     simp only [jD,Option.some.injEq] at cY;subst cY;exact ⟨_,hx,rfl,.inl ⟨rfl,fun dI hc=>by cases hc⟩⟩
 have dh:nl=false→cn (.bag e sz nl none qs)=true:=fun h=>by subst h;rfl
 have hM:∀ c j,c < w.heap.size→¬Mof M0 st.h p c j→¬Mof M0 h' p' c j:=by
  intro c j hc hn hm;rcases hm with hm|⟨i,o,aG,bs,hp⟩
  ·exact hn (.inl hm)
  ·rcases bu i o aG with ⟨rfl,rfl⟩|⟨ax,o0,bn,oJ,_⟩
   ·obtain ⟨aL,hO⟩:=Hd hp hc;exact hn (.inr ⟨_,_,hi,dh aL,hO⟩)
   ·exact hn (.inr ⟨i,o0,bn,oJ.trans bs,(j1 ax).1 hp⟩)
 have hk:Keeps (Mof M0 st.h p) w w':=.of_blocks aM fun b dq hn=>b9 b dq fun ⟨aL,he⟩=>hn fun j=>.inr ⟨id,_,hi,dh aL,.inl he.symm⟩;have ax:∀ i o,i≠id→st.h[i]? = some (some o)→cn o=true→∀ b j,p.O i b j→b < w.heap.size→w'.heap[b]? = w.heap[b]?:=fun i o hn aG bs b j hO dq=>b9 b dq fun ⟨aL,he⟩=>hn (R.inj i id o _ aG hi bs (dh aL) b j 0 hO (.inl he.symm));have b8:∀ i o,i≠id→(∀ cs,o≠.box cs)→h'[i]? = some (some o)→st.h[i]? = some (some o):=fun i o hn fZ he=>by
  rcases bu i _ he with ⟨h,_⟩|⟨_,o0,aG,_,⟨rfl,_⟩|⟨cs,_,hb,_⟩⟩
  ·exact absurd h hn
  ·exact aG
  ·exact absurd hb (fZ _)
 have qg:∀ i e sz nl es v,i≠id→h'[i]? = some (some (.arr e sz nl es))→(∀ e sz nl es,st.h[i]? = some (some (.arr e sz nl es))→Osl w (p i) e sz nl es.length v)→Osl w' (p i) e sz nl es.length v:=fun i e sz nl es v hn he hv=>by
  have aG:=b8 i _ hn (fun cs h=>by cases h) he;exact (hv _ _ _ _ aG).keep fun aL aq=>ax i _ hn aG (by rw [aL];rfl) _ 0 (.inl rfl) aq
 have Ce:∀ i e sz nl ak qs v,i≠id→h'[i]? = some (some (.bag e sz nl ak qs))→(∀ e sz nl ak qs,st.h[i]? = some (some (.bag e sz nl ak qs))→Osl w (p i) e 1 nl qs.length v)→Osl w' (p i) e 1 nl qs.length v:=fun i e sz nl ak qs v hn he hv=>by
  have aG:=b8 i _ hn (fun cs h=>by cases h) he;exact (hv _ _ _ _ _ aG).keep fun aL aq=>ax i _ hn aG (by rw [aL];rfl) _ 0 (.inl rfl) aq
 have Cf:∀ i k sz v,i≠id→i < st.h.length→Sp w st.h p i k sz v→Sp w' h' p' i k sz v:=fun i k sz v hn _ hs=>hs.keep (fun e sz ak qs he=>by
  have aG:=b8 i _ hn (fun cs h=>by cases h) he;exact ⟨aG,jk i hn,ga i hn,ax i _ hn aG rfl⟩) aM
 have hV:∀ (n:Nat) {x:AV} {u:Value},V1 w (Mof M0 st.h p) st.h p x u→cE id n x=true→V1 w' (Mof M0 h' p') h' p' x u:=fun n x u hx hn=>V1.purge hk hM (by omega) jk qg Ce Cf n x u hx hn;have dE:∀ {x:AV} {u:Value},V0 w (Mof M0 st.h p) x u→V0 w' (Mof M0 h' p') x u:=fun hx=>hx.keep hk hM;have hF:∀ b,b < w.heap.size→¬(∀ j,Fr w0 b j)→w'.heap[b]? = w.heap[b]?:=fun b dq hn=>b9 b dq fun ⟨aL,he⟩=>hn fun j=>by rw [he];exact (R.objs id _ hi).ge (dh aL) j
 refine ⟨R.defers,R.size.put hd,R.below.blocks kM kO kP aM hF,R.m0,R.x0,fun i=>?_,fun i o aG=>?_,fun i i' o o' aG bn bs dX x j j' hO ct=>?_⟩
 ·rw [mr a d _ i (R.size.lt hd)];simp only [lkp];split
  ·refine .osl id A n c (by omega) (fun e' bw kl es' he=>?_) fun e' bw kl pe pn he=>?_
   ·rcases bu id _ he with ⟨_,h⟩|⟨h,_⟩
    ·cases h
    ·exact absurd rfl h
   ·rcases bu id _ he with ⟨_,h⟩|⟨h,_⟩
    ·injection h with h1 h2 h3 h4 h5
     subst h1 h2 h3 h4 h5;rw [cL];exact hv
    ·exact absurd rfl h
  ·rcases Cd id st.s i with h|h
   ·rw [h];unfold Go.Proofs.YtoibondihdhnoaaGreatDoor.purge;split
    ·rename_i hn;exact hV 5 (R.slots i) hn
    ·exact .base _ _ (.any _)
   ·rw [h];exact .base _ _ (.any _)
 ·rcases bu i o aG with ⟨rfl,rfl⟩|⟨hn,o0,bn,oJ,⟨rfl,je⟩|⟨cs,rfl,rfl,aF⟩⟩
  ·exact iJ dE
  rotate_left
  ·obtain ⟨h1,cur,e,hg,h2,h3,h4⟩:=R.objs i _ bn;refine ⟨by unfold Own;rw [jk i hn,ga i hn];exact h1,cur,e,by rw [jk i hn,ax i _ hn bn rfl _ 0 (.inl rfl) (Array.getElem?_eq_some_iff.1 hg).1];exact hg,by simpa using h2,fun c hc=>?_,fun j c hj=>?_⟩
   ·obtain ⟨c0,lp,rfl⟩:=List.mem_map.1 hc;unfold qB;split
    ·exact h3 c0 lp
    ·rfl
   ·rw [List.getElem?_map] at hj;obtain ⟨c0,kL,rfl⟩:=Option.map_eq_some_iff.1 hj;obtain ⟨u,hu,hv⟩:=h4 j c0 kL;refine ⟨u,hu,?_⟩;unfold qB;split
    ·rename_i bD;exact hV 5 hv bD
    ·rename_i bD;have:=List.all_eq_true.1 aF c0 (List.mem_of_getElem? kL);rw [Bool.or_eq_true] at this;rcases this with h|h
     ·exact absurd h bD
     ·obtain ⟨k,rfl⟩ : ∃ k,c0 = .osl k:=by cases c0<;>first|exact ⟨_,rfl⟩|(simp [ua] at h;done)
      obtain ⟨A2,n2,c2,rfl,_,_⟩:=hv.osl_inv;refine .osl _ _ _ _ (by rw [hlen];exact (List.getElem?_eq_some_iff.1 bn).1) (fun e sz nl es he=>?_) fun e sz nl pe qs he=>?_
      ·rw [aG] at he;cases he
      ·rw [aG] at he;cases he
  ·exact (R.objs i o0 bn).keep (fun _=>⟨jk i hn,ga i hn⟩) (fun bs b j hO dq=>ax i o0 hn bn bs b j hO dq) aM dE fun cs bW c hc u hx=>hV 5 hx (List.all_eq_true.1 (je cs bW) c hc)
 ·have aq:∀ i o,i≠id→st.h[i]? = some (some o)→cn o=true→∀ x j j',p.O i x j→¬p'.O id x j':=by
   intro i o hn h1 hl x j j' hO he;obtain ⟨aL,ct⟩:=Hd he ((R.objs i o h1).own hl x j hO).2;exact hn (R.inj i id o _ h1 hi hl (dh aL) x j j' hO ct)
  rcases bu i o aG with ⟨rfl,rfl⟩|⟨hn,o1,h1,e1,_⟩<;>rcases bu i' o' bn with ⟨rfl,rfl⟩|⟨la,o2,h2,e2,_⟩
  ·rfl
  ·exact absurd hO (aq i' o2 la h2 (e2.trans dX) x j' j ((j1 la).1 ct))
  ·exact absurd ct (aq i o1 hn h1 (e1.trans bs) x j j' ((j1 hn).1 hO))
  ·exact R.inj i i' o1 o2 h1 h2 (e1.trans bs) (e2.trans dX) x j j' ((j1 hn).1 hO) ((j1 la).1 ct)
theorem He {h:Hp} {id i:Nat} {x:Option Ob} {o:Ob} (aG:(fT id 0 (h.set id x))[i]? = some (some o)) (hn:i≠id) : ∃ o0,h[i]? = some (some o0)∧cn o0=cn o:=by
 rw [vU] at aG;obtain ⟨x,hx,cY⟩:=Option.map_eq_some_iff.1 aG;rw [List.getElem?_set_ne (Ne.symm hn)] at hx;cases x with
 | none=>simp [jD] at cY
 | some y=>
  refine ⟨y,hx,?_⟩;cases y with
  | box cs=>
   simp only [jD] at cY;split at cY
   ·simp only [Option.some.injEq] at cY;subst cY;rfl
   ·split at cY
    ·simp only [Option.some.injEq] at cY;subst cY;rfl
    ·cases cY
  | _=>
   simp only [jD,Option.some.injEq] at cY;subst cY;rfl
theorem Oc {h:Hp} {id:Nat} {e sz:Nat} {nl:Bool} {ak:Option Nat} {qs:List (List (List AV))} (hl:id < h.length) : (fT id 0 (h.set id (some (.bag e sz nl ak qs))))[id]? = some (some (.bag e sz nl ak qs)):=by
 rw [vU,List.getElem?_set_self hl];rfl
theorem Od {w:World} {t ty e:TypeId} {inf:TypeInfo} {z:Value} (hu:P.underlying t=some (.slice e)) (gD:P.info? e=some inf) (hz:inf.zero=some z) (bI:inf.size=1) (fX:z.cells.size=1) (gR:inf.bytes≤100000)
  {ay:Addr} {cy:Nat} {u0:Value} (qY:w.cell? (ay.add 0)=some u0) (wv:u0.oneCell'=true) {nl:Bool} {n b0:Nat} {vx:Value} (hx:Osl w b0 e 1 nl n vx) (hn:n+1≤1000000000) :
  ∃ g dn cur' w',(Builtin.append_ #[t,t] ty #[vx,.slice (some ay) 1 cy]).run P w = .ok (.slice (some ⟨g,0,none⟩) (n+1) dn) w'∧(w.heap.size≤g∨(nl=false∧g=b0))∧w'.heap[g]? = some (.cells cur' e (0,0))∧cur'.size=dn∧n+1≤dn∧dn≤maxLen ∧
   (∀ cur,nl=false→w.heap[b0]? = some (.cells cur e (0,0))→∀ j,j < n→cur'[j]? = cur[j]?)∧cur'[n]? = some u0∧w'.os=w.os∧w'.tape=w.tape∧w'.output=w.output∧w.heap.size≤w'.heap.size∧∀ b,b < w.heap.size→b≠g→w'.heap[b]? = w.heap[b]?:=by
 unfold Osl at hx;cases nl
 ·rw [if_neg (by simp)] at hx;obtain ⟨cap,cur,rfl,hb,aM,hle,gb⟩:=hx;rw [Nat.mul_one] at aM;by_cases eT:n+1≤cap
  ·have aD:=run_append_room_cells (P:=P) w t ty e inf hu gD b0 0 n cap ay 1 cy [u0] (by simp [bI]) (fun j u hj=>by
    cases j with
    | zero=>simp at hj;rw [←hj];exact qY
    | succ j=>simp at hj) (by simpa using wv) eT (fun j hj=>by
    obtain rfl:j=0:=by simpa using hj
    rw [bI,cell_of_row w b0 _ cur e (0,0) hb];have:n < cur.size:=by omega
    simpa using this) (fun j hj=>by simp [World.frozen?,hb])
   rw [bI,Nat.mul_one,Nat.zero_add] at aD;refine ⟨b0,cap,_,_,aD,.inr ⟨rfl,rfl⟩,xX u0 hb,by rw [Array.size_setIfInBounds];exact aM,eT,gb,fun kU _ h2 j hj=>?_,?_,rfl,rfl,rfl,Nat.le_of_eq (vA w b0 n u0).symm,fun b _ hn=>xY u0 hn⟩
   ·rw [hb] at h2;injection h2 with h2
    injection h2 with h2 _ _
    subst h2;rw [Array.getElem?_setIfInBounds_ne (by omega)]
   ·have:n < cur.size:=by omega
    simp [this]
  ·obtain ⟨g,dn,cur',w',aD,dr,qZ,hg,j_,sO,bW,hold,fa,cp⟩:=CC (P:=P) (w:=w) (ty:=ty) (c:=cy) hu gD hz bI fX gR (A:=some ⟨b0,0,none⟩) (n:=n) (cap:=cap) (olds:=cur.toList.take n) (fun h=>by cases h) (by simp;omega) (fun a0 h0 j u hj=>by
    injection h0 with h0
    subst h0;rw [List.getElem?_take] at hj;split at hj
    ·rw [jn,cell_of_row w b0 _ cur e (0,0) hb];simpa using hj
    ·cases hj) qY (by omega) hn
   refine ⟨g,dn,cur',w',aD,.inl dr,hg,bW,j_,sO,fun kU _ h2 j hj=>?_,fa,cp.os,cp.tape,cp.output,cp.size,fun b aq _=>cp.block b aq⟩;rw [hb] at h2;injection h2 with h2
   injection h2 with h2 _ _
   subst h2;rw [hold j hj,List.getElem?_take_of_lt hj,Array.getElem?_toList]
 ·rw [if_pos rfl] at hx;obtain ⟨⟨A,rfl⟩,rfl⟩:=hx;obtain ⟨g,dn,cur',w',aD,dr,qZ,hg,j_,sO,bW,hold,fa,cp⟩:=CC (P:=P) (w:=w) (ty:=ty) (c:=cy) hu gD hz bI fX gR (A:=A) (n:=0) (cap:=0) (olds:=[]) (fun _=>⟨rfl,rfl⟩) rfl (fun a0 h0 j u hj=>by simp at hj) qY (by omega) hn;exact ⟨g,dn,cur',w',aD,.inl dr,hg,bW,j_,sO,fun _ h=>(by cases h),fa,cp.os,cp.tape,cp.output,cp.size,fun b aq _=>cp.block b aq⟩
theorem OwnRow.spare {w w':World} {M:Nat→Nat→Prop} {e sz:Nat} {nl:Bool} {es:List (List AV)} {v:Value} (h:OwnRow w w' M e sz nl es v) (_:0 < sz) (cO:∀ (k:Nat) (x:List AV),es[k]? = some x→x.length=sz∧∀ c∈x,cQ c=true) :
  ∃ A n cap,v = .slice A n cap∧n=es.length∧n≤cap∧(0 < cap→∃ g cur,A=some ⟨g,0,none⟩∧w.heap.size≤g∧w'.heap[g]? = some (.cells cur e (0,0))∧cur.size=cap*sz∧cap≤maxLen ∧
   ∀ M':Nat→Nat→Prop,(∀ b j,b < w'.heap.size→b≠g→¬M b j→¬M' b j)→(∀ j,j < n*sz→¬M' g j)→V0 w' M' (.sl sz es) v)∧(cap=0→∀ M',V0 w' M' (.sl sz es) v):=by
 unfold OwnRow at h;split at h
 ·obtain ⟨⟨A,rfl⟩,he⟩:=h;subst he;exact ⟨A,0,0,rfl,rfl,Nat.le_refl _,fun h=>absurd h (Nat.lt_irrefl 0),fun _ M'=>.slNil _ _ _⟩
 ·obtain ⟨g,cap,cur,rfl,h2,h3,h4,h5,h6,h7⟩:=h;have key:∀ M':Nat→Nat→Prop,(∀ b j,b < w'.heap.size→b≠g→¬M b j→¬M' b j)→(∀ j,j < es.length*sz→¬M' g j)→V0 w' M' (.sl sz es) (.slice (some ⟨g,0,none⟩) es.length cap):=fun M' hM hg=>by
   by_cases ax:es=[]
   ·subst ax;exact .slNil _ _ _
   ·refine .sl sz es cap g 0 (fun k j=>cur.getD (k*sz+j) undef) ax (Array.getElem?_eq_some_iff.1 h3).1 (fun k j hk hj=>?_) h5 (fun k x hk=>(cO k x hk).1) (fun k x j c hk hj=>(cO k x hk).2 c (List.mem_of_getElem? hj)) (fun k j hk hj=>?_) fun k x j c hk hj=>?_
    ·have:(k+1)*sz≤es.length*sz:=Nat.mul_le_mul_right _ hk;rw [Nat.add_mul] at this;rw [Nat.zero_add];exact hg _ (by omega)
    ·rw [cell_of_row w' g _ cur e (0,0) h3,Nat.zero_add];have:(k+1)*sz≤cap*sz:=Nat.mul_le_mul_right _ (by omega);rw [Nat.add_mul] at this;have:k*sz+j < cur.size:=by omega
     simp [this]
    ·obtain ⟨u,hu,hv⟩:=h7 k x j c hk hj;have:cur.getD (k*sz+j) undef=u:=by simp [hu]
     rw [this];exact hv.keep (Keeps.refl _ _) fun b j aq hn=>hM b j aq (fun he=>hn (.inr he)) fun hm=>hn (.inl hm)
  refine ⟨_,_,cap,rfl,rfl,h5,fun _=>⟨g,cur,rfl,h2,h3,h4,h6,key⟩,fun h0 M'=>?_⟩;have:es=[]:=List.eq_nil_of_length_eq_zero (by omega);subst this;exact .slNil _ _ _
theorem Rel.pushRow {t ty e e9 id sz d:Nat} {nl wR:Bool} {qs:List (List (List AV))} {q:List (List AV)} {inf:TypeInfo} {z vx v9:Value} {w2:World} {ay:Addr} {cy:Nat} (R:Rel M0 w0 N p st a w) (hd:N.has d) (hi:st.h[id]? = some (some (.bag e sz nl none qs)))
  (hb:Below w.heap.size w w2) (bo:Osl w2 (p id) e 1 nl qs.length vx) (ho:OwnRow w w2 (Mof M0 st.h p) e9 sz wR q v9) (hq:∀ (k:Nat) (x:List AV),q[k]? = some x→x.length=sz∧∀ c∈x,cQ c=true)
  (hu:P.underlying t=some (.slice e)) (gD:P.info? e=some inf) (hz:inf.zero=some z) (bI:inf.size=1) (fX:z.cells.size=1) (gR:inf.bytes≤100000) (qY:w2.cell? (ay.add 0)=some v9) (hn:qs.length+1≤1000000000) :
  ∃ v3 w3 p',(Builtin.append_ #[t,t] ty #[vx,.slice (some ay) 1 cy]).run P w2 = .ok v3 w3∧Rel M0 w0 N p' ⟨(d,.osl id)::st.s.map (fun q=>(q.1,purge id q.2)),fT id 0 (st.h.set id (some (.bag e sz false none (qs++[q]))))⟩ (a.put (some d) v3) w3∧∀ i,i≠id→p' i=p i:=by
 obtain ⟨iF,dN⟩:=R.objs id _ hi;obtain ⟨A9,n9,c9,zE,Hf,CU,lD,CV⟩:=ho.spare iF hq;have jv:nl=false→cn (Ob.bag e sz nl none qs)=true:=fun h=>by subst h;rfl
 have Oe:v9.oneCell'=true:=by rw [zE];rfl
 obtain ⟨g,cap,cur,w3,aD,hg,uy,Se,j_,gb,hold,fa,kM,kO,kP,aM,b9⟩:=Od (P:=P) (w:=w2) (ty:=ty) (cy:=cy) hu gD hz bI fX gR qY Oe bo hn;have fL:w.heap.size≤g∨(nl=false∧g=p id):=hg.imp (Nat.le_trans hb.size) fun h=>h;have CW:g < w3.heap.size:=(Array.getElem?_eq_some_iff.1 uy).1;have rb:∀ b,b < w.heap.size→b≠g→w3.heap[b]? = w.heap[b]?:=fun b aq hn=>(b9 b (Nat.lt_of_lt_of_le aq hb.size) hn).trans (hb.block b aq);obtain ⟨SN,sP⟩ : ∃ SN:Nat→Nat→Prop,∀ b j,SN b j↔(A9=some ⟨b,0,none⟩∧0 < c9∧n9*sz≤j):=⟨_,fun _ _=>Iff.rfl⟩
 have sQ:∀ b j,SN b j→w.heap.size≤b∧b < w2.heap.size:=fun b j h=>by
  obtain ⟨h1,h2,h3⟩:=(sP b j).1 h;obtain ⟨g9,pZ,e1,e2,e3,_⟩:=lD h2;rw [h1] at e1;simp only [Option.some.injEq,Addr.mk.injEq] at e1;obtain ⟨rfl,_⟩:=e1;exact ⟨e2,(Array.getElem?_eq_some_iff.1 e3).1⟩
 obtain ⟨p',cL,jk,ga,ia⟩ : ∃ p':Pl,p' id=g∧(∀ i,i≠id→p' i=p i)∧(∀ i,i≠id→p'.S i=p.S i)∧∀ b j,p'.S id b j↔((nl=false∧p.S id b j)∨SN b j):=
  ⟨⟨fun i=>if i=id then g else p i,fun i=>if i=id then fun b j=>(nl=false∧p.S id b j)∨SN b j else p.S i⟩,if_pos rfl,fun i hn=>if_neg hn,fun i hn=>if_neg hn,fun b j=>by simp⟩
 refine ⟨_,w3,p',aD,⟨R.bagPush (p':=p') (qs2:=qs++[q]) hd hi fL cL jk ga (fun b j h=>((ia b j).1 h).imp (fun h=>h) fun h=>(sQ b j h).1) (kM.trans hb.os) (kO.trans hb.tape) (kP.trans hb.output) (Nat.le_trans hb.size aM) (fun b aq hn=>rb b aq fun he=>?_) (fun keep=>⟨iF,?_⟩) ?_,jk⟩⟩
 ·rcases fL with h|h
  ·omega
  ·exact hn ⟨h.1,he.trans h.2⟩
 ·rw [if_neg (by simp)];have lE:nl=false→∃ cur0,w.heap[p id]? = some (.cells cur0 e (0,0))∧BagOK w0 w (Mof M0 st.h p) p id e sz none qs∧(∀ j,j < qs.length→cur[j]? = cur0[j]?)∧(∀ (k:Nat) (x:List (List AV)),qs[k]? = some x→∃ v,cur0[k]? = some v∧V0 w (Mof M0 st.h p) (.sl sz x) v∧Spare w p id sz v)∧∀ k k' v v',k < qs.length→k' < qs.length→k≠k'→cur0[k]? = some v→cur0[k']? = some v'→Dist v v':=fun aL=>by
   rw [if_neg (by simp [aL])] at dN;have hB:=dN;obtain ⟨b1,b2,cur0,b3,b4,b5,b6⟩:=dN;refine ⟨cur0,b3,hB,fun j hj=>hold cur0 aL ?_ j hj,fun k x hx=>?_,fun k k' v v' h1 h2 h3 h4 h5=>b6 k k' v v' h1 h2 h3 (by simp) (by simp) h4 h5⟩
   ·rw [hb.block _ (Array.getElem?_eq_some_iff.1 b3).1];exact b3
   ·obtain ⟨v,g1,g2,g3⟩:=b5 k x hx;exact ⟨v,g1,g2,g3 (by simp)⟩
  have dB:nl=true→qs=[]:=fun aL=>by rw [if_pos aL] at dN;exact dN
  have nX:nl=true∨nl=false:=by cases nl<;>simp
  have nY:nl=false→∀ b j,p.S id b j→Fr w0 b j∧b < w.heap.size:=fun aL b j hS=>(R.objs id _ hi).own (jv aL) b j (.inr hS);refine ⟨fun b j hO=>?_,fun j hS=>?_,cur,by rw [cL];exact uy,by rw [List.length_append];simp only [List.length_singleton];omega,fun k x hx=>?_,fun k k' v v' hk dF ax _ _ hv bA=>?_⟩
  ·rcases hO with hO|hO
   ·rw [cL] at hO;subst hO;refine ⟨?_,CW⟩;rcases fL with h|⟨aL,h⟩
    ·exact .inl (Nat.le_trans R.below.size h)
    ·rw [h];exact (R.objs id _ hi).ge (jv aL) j
   ·rcases (ia b j).1 hO with ⟨aL,h⟩|h
    ·have:=nY aL b j h;exact ⟨this.1,Nat.lt_of_lt_of_le this.2 (Nat.le_trans hb.size aM)⟩
    ·have:=sQ b j h;exact ⟨.inl (Nat.le_trans R.below.size this.1),Nat.lt_of_lt_of_le this.2 aM⟩
  ·rw [cL] at hS;rcases (ia g j).1 hS with ⟨aL,h⟩|h
   ·have h1:=(nY aL g j h).2;rcases fL with h2|⟨_,h2⟩
    ·omega
    ·rw [h2] at h;obtain ⟨_,_,hB,_⟩:=lE aL;exact hB.2.1 j h
   ·have h1:=sQ g j h;rcases hg with h2|⟨aL,h2⟩
    ·omega
    ·have:=(R.objs id _ hi).lt (jv aL);omega
  ·rcases Nat.lt_or_ge k qs.length with hl|hl
   ·rw [List.getElem?_append_left hl] at hx;rcases nX with aL|aL
    ·rw [dB aL] at hl;simp at hl
    ·obtain ⟨cur0,_,_,e2,e3,_⟩:=lE aL;obtain ⟨v,g1,g2,g3⟩:=e3 k x hx;refine ⟨v,by rw [e2 k hl];exact g1,keep g2,fun _=>?_⟩;obtain ⟨A,n,c,q1,q2,q3⟩:=g3;refine ⟨A,n,c,q1,q2,fun aq=>?_⟩;obtain ⟨b,o,cb,tb,r1,r2,r3,r4,r5,r6,r7⟩:=q3 aq;have dq:=(Array.getElem?_eq_some_iff.1 r2).1;have xE:b≠g:=fun he=>by
      rcases fL with h|⟨_,h⟩
      ·omega
      ·exact r6 (he.trans h)
     exact ⟨b,o,cb,tb,r1,(rb b dq xE).trans r2,r3,r4,r5,by rw [cL];exact xE,fun j hj=>(ia b j).2 (.inl ⟨aL,r7 j hj⟩)⟩
   ·rw [List.getElem?_append_right hl] at hx;have l7:k=qs.length:=by
     have:=(List.getElem?_eq_some_iff.1 hx).1;simp at this;omega
    subst l7;simp only [Nat.sub_self,List.getElem?_cons_zero,Option.some.injEq] at hx;subst hx;refine ⟨v9,fa,?_,fun _=>?_⟩
    ·rcases Nat.eq_zero_or_pos c9 with h0|h0
     ·have kJ:q=[]:=List.eq_nil_of_length_eq_zero (by omega);have vS:n9=0:=by omega
      rw [zE,kJ,vS];exact .slNil _ _ _
     ·obtain ⟨g9,pZ,e1,e2,e3,e4,e5,e6⟩:=lD h0;have zF:g9≠g:=fun he=>by
       have:=(Array.getElem?_eq_some_iff.1 e3).1;rcases hg with h2|⟨aL,h2⟩
       ·omega
       ·have:=(R.objs id _ hi).lt (jv aL);omega
      refine (e6 (Mof M0 (fT id 0 (st.h.set id (some (.bag e sz false none (qs++[q]))))) p') (fun b j aq Hf hm qD=>?_) fun j hj qD=>?_).keep (.of_blocks aM fun b aq hn=>b9 b aq fun he=>hn fun j=>?_) fun _ _ _ h=>h
      ·rcases qD with qD|⟨i,ob,aG,bs,hO⟩
       ·exact hm (.inl qD)
       ·by_cases p4:i=id
        ·subst p4;rcases hO with hO|hO
         ·rw [cL] at hO;rcases hg with h2|⟨aL,h2⟩
          ·omega
          ·exact hm (.inr ⟨i,_,hi,jv aL,.inl (by omega)⟩)
         ·rcases (ia b j).1 hO with ⟨aL,h⟩|h
          ·exact hm (.inr ⟨i,_,hi,jv aL,.inr h⟩)
          ·obtain ⟨q1,_,_⟩:=(sP b j).1 h;rw [e1] at q1;simp only [Option.some.injEq,Addr.mk.injEq] at q1;exact Hf q1.1.symm
        ·obtain ⟨o0,h1,h2⟩:=He aG p4;refine hm (.inr ⟨i,o0,h1,h2.trans bs,?_⟩);rcases hO with hO|hO
         ·exact .inl (by rw [←jk i p4];exact hO)
         ·exact .inr (by rw [←ga i p4];exact hO)
      ·rcases qD with qD|⟨i,ob,aG,bs,hO⟩
       ·exact R.h0 _ _ qD (.inl (Nat.le_trans R.below.size e2))
       ·by_cases p4:i=id
        ·subst p4;rcases hO with hO|hO
         ·rw [cL] at hO;exact zF hO.symm
         ·rcases (ia g9 j).1 hO with ⟨aL,h⟩|h
          ·have:=(nY aL g9 j h).2;omega
          ·have:=((sP g9 j).1 h).2.2;omega
        ·obtain ⟨o0,h1,h2⟩:=He aG p4;have:p.O i g9 j:=by
          rcases hO with hO|hO
          ·exact .inl (by rw [←jk i p4];exact hO)
          ·exact .inr (by rw [←ga i p4];exact hO)
         have:=((R.objs i o0 h1).own (h2.trans bs) g9 j this).2;omega
      ·exact .inr ⟨id,_,Oc (List.getElem?_eq_some_iff.1 hi).1,rfl,.inl (by rw [cL,he])⟩
    ·refine ⟨A9,n9,c9,zE,CU,fun aq=>?_⟩;obtain ⟨g9,pZ,e1,e2,e3,e4,e5,e6⟩:=lD (by omega);have gw:=(Array.getElem?_eq_some_iff.1 e3).1;have zF:g9≠g:=fun he=>by
      rcases hg with h2|⟨aL,h2⟩
      ·omega
      ·have:=(R.objs id _ hi).lt (jv aL);omega
     exact ⟨g9,0,pZ,e9,e1,(b9 g9 gw zF).trans e3,by omega,e5,iF,by rw [cL];exact zF,fun j hj=>(ia g9 j).2 (.inr ((sP g9 j).2 ⟨e1,by omega,by omega⟩))⟩
  ·have hlen:(qs++[q]).length=qs.length+1:=by simp
   rw [hlen] at hk dF;have aS:∀ (k:Nat) (v:Value),k < qs.length→cur[k]? = some v→Dist v v9:=fun k v hl hv=>by
    rcases nX with aL|aL
    ·rw [dB aL] at hl;simp at hl
    ·obtain ⟨cur0,_,_,e2,e3,_⟩:=lE aL;obtain ⟨v2,g1,_,g3⟩:=e3 k _ (List.getElem?_eq_getElem hl);rw [e2 k hl,g1] at hv;obtain rfl:=Option.some.inj hv;intro b o n c b' o' n' c' q1 q2 l1 l2 uA;obtain ⟨A,n1,c1,r1,r2,r3⟩:=g3;rw [q1] at r1;simp only [Value.slice.injEq] at r1;obtain ⟨rfl,rfl,rfl⟩:=r1;obtain ⟨b1,o1,cb,tb,s1,s2,_⟩:=r3 l1;simp only [Option.some.injEq,Addr.mk.injEq] at s1;obtain ⟨rfl,_⟩:=s1;have h1:=(Array.getElem?_eq_some_iff.1 s2).1;rw [zE] at q2;simp only [Value.slice.injEq] at q2;obtain ⟨q2,rfl,rfl⟩:=q2;obtain ⟨g9,pZ,e1,e2,_⟩:=lD (by omega);rw [q2] at e1;simp only [Option.some.injEq,Addr.mk.injEq] at e1;omega
   rcases Nat.lt_or_ge k qs.length with hl|hl<;>rcases Nat.lt_or_ge k' qs.length with bj|bj
   ·rcases nX with aL|aL
    ·rw [dB aL] at hl;simp at hl
    ·obtain ⟨cur0,_,_,e2,_,e4⟩:=lE aL;rw [e2 k hl] at hv;rw [e2 k' bj] at bA;exact e4 k k' v v' hl bj ax hv bA
   ·have:k'=qs.length:=by omega
    subst this;rw [fa] at bA;obtain rfl:=Option.some.inj bA;exact aS k v hl hv
   ·have:k=qs.length:=by omega
    subst this;rw [fa] at hv;obtain rfl:=Option.some.inj hv;exact (aS k' v' bj bA).symm
   ·omega
 ·unfold Osl;rw [if_neg (by simp)];exact ⟨cap,cur,by simp,uy,by omega,by rw [List.length_append];exact j_,gb⟩
end
section
variable {P:Program} {M0:Nat→Nat→Prop} {w0:Bas} {N:Nm} {p:Pl} {st:VS} {a:Act} {w:World} {Q:Exit→VS→Prop}
theorem Of {id:Nat} {l:List Oper} (n:Nat) (ow:List Nat) (a_:Nat→Bool) (S2:VS) (T:Pl→Act→World→Nat→Value→World→Prop) (hm:P.follows .mixedOrders=true) (hB:Region.specB l.toArray n=true)
  (hT:∀ p a w i v w1 w2,T p a w i v w1→Below w1.heap.size w1 w2→T p a w i v w2)
  (h:iN P l a_ (l.take n) 0 st fun aK=>
   (∀ p a w,Rel M0 w0 N p st a w→∀ i o,i < n→a_ i=true→l[i]? = some o→o.guard=none∧∀ a' w',Below w.heap.size w w' →
    (∀ t∈o.looksAt l.toArray,V1 w' (Mof M0 st.h p) st.h p (lkp aK.s t) (a'.tmps.getD t undef))→(∀ t,(∀ j q,j < n→l[j]? = some q→q.dst≠some t)→a'.tmps.getD t undef=a.tmps.getD t undef) →
    (∀ j q d,j < n→a_ j=true→l[j]? = some q→q.dst=some d→Region.waitsFor .any l.toArray i j=true→T p a w j (a'.tmps.getD d undef) w') →
    gives P o a' w' fun v w''=>T p a w i v w''∧Below w'.heap.size w' w'') ∧
   (∀ p a w a' w',Rel M0 w0 N p st a w→Below w.heap.size w w'→Rel M0 w0 N p aK a' w'→(∀ t,(∀ j q,j < n→l[j]? = some q→q.dst≠some t)→a'.tmps.getD t undef=a.tmps.getD t undef) →
    (∀ j q d,j < n→a_ j=true→l[j]? = some q→q.dst=some d→T p a w j (a'.tmps.getD d undef) w') →
    ∃ (so:Oper) (d:Nat) (v3:Value) (w3:World) (p2:Pl),l[n]? = some so∧so.guard=none∧so.dst=some d∧(execOp a'.eval so).run P w' = .ok (.value v3) w3∧Rel M0 w0 N p2 S2 (a'.put (some d) v3) w3)∧dP P ow l (l.drop (n+1)) S2 (Q .normal)) :
  VWp P M0 w0 N (.region id l.toArray true) Q st:=fun ju p a w R=>by
 have hN:l.all (cW N)=true:=by simpa [fg] using ju
 obtain ⟨rs,eb,⟨nN,sG,nO⟩,hP,sH⟩:=tI _ _ _ h;have dp:=hB;simp only [Region.specB,Bool.and_eq_true,decide_eq_true_eq] at dp;obtain ⟨⟨⟨⟨⟨⟨_,aL⟩,_⟩,_⟩,hd⟩,bb⟩,_⟩:=dp;have eY:n < l.length:=by simpa using aL
 have du:dS (l.take n)=true:=by simpa using hd
 have hlen:(l.take n).length=n:=by simp;omega
 rw [hlen] at eb;have cC:∀ i,i < n→∀ o,l[i]? = some o→(∀ t∈o.looksAt l.toArray,∀ j,j < n→∀ q,l[j]? = some q→q.dst=some t→Region.waitsFor .any l.toArray i j=true)∧(∀ e∈o.after,Region.binds .any e=true→e.on < i):=by
  intro i hi o ho;have h:=List.all_eq_true.1 bb i (List.mem_range.2 hi);simp only [List.getElem?_toArray,ho,Bool.and_eq_true] at h;refine ⟨fun t ht j hj q hq aH=>?_,fun e he hb=>?_⟩
  ·have h1:=List.all_eq_true.1 (List.all_eq_true.1 h.1 t ht) j (List.mem_range.2 hj);simp only [hq,Option.bind_some,aH,bne_self_eq_false,Bool.false_or] at h1;exact h1
  ·have h1:=Array.all_eq_true'.1 h.2 e he;simp only [hb,Bool.not_true,Bool.false_or,decide_eq_true_eq] at h1;exact h1
 have aq:∀ i j,i < n→Region.waitsFor .any l.toArray i j=true→j < i:=by
  intro i j hi hw;obtain ⟨o,ho,e,he,hb,cD⟩:=Region.waitsFor_spec hw;rw [←cD];exact (cC i hi o (by simpa using ho)).2 e he hb
 have pf:(l.take n).all (cW N)=true:=List.all_eq_true.2 fun q hq=>List.all_eq_true.1 hN q (List.mem_of_mem_take hq);have bm:∀ {i:Nat} {o:Oper},i < n→l[i]? = some o→(l.take n)[i]? = some o:=fun {i o} hi ho=>by rw [List.getElem?_take_of_lt hi];exact ho
 have eR:∀ q∈l.take n,∀ d,q.dst=some d→d < a.tmps.size:=fun q hq d eg=>R.size.lt (fh (List.all_eq_true.1 pf q hq) d eg);have nP:∀ i,i < n→a_ i=true→rs.getD i .any = .any:=fun i hi hc=>by
  have cu:i < l.length:=by omega
  have:=sH i _ (by rw [Nat.zero_add];exact hc) (bm hi (List.getElem?_eq_getElem cu));rw [List.getD_eq_getElem?_getD,this];rfl
 have cS:∀ {vs:Nat→Value} {j d:Nat} {q:Oper},j < n→l[j]? = some q→q.dst=some d→(fill (fun _=>true) vs (l.take n) 0 a).tmps.getD d undef=vs j:=fun {vs j d q} hj hq eg=>by
  rw [zo (l.take n) 0 a d j q du eR (bm hj hq) eg,Nat.zero_add]
 refine xf n (fun i v w'=>V1 w' (Mof M0 st.h p) st.h p (rs.getD i .any) v∧(a_ i=true→T p a w i v w')) hm hB
  (fun i _ v w1 w2 hv hb=>⟨hv.1.later hb,fun hc=>hT _ _ _ _ _ _ _ (hv.2 hc) hb⟩) (fun i hi=>?_) fun vs w' hb hv=>?_
 ·by_cases hc:a_ i=true
  ·intro o ho vs w' cp hS;have aT:l[i]? = some o:=by simpa using ho
   obtain ⟨hg,hh⟩:=nN p a w R i o hi hc aT;simp only [Region.wanted,hg,if_true];refine CB (hh _ w' cp (fun t ht=>?_) (fun t ht=>?_) fun j q d hj sI hq eg hw=>?_) fun v w'' wH=>⟨⟨?_,fun _=>wH.1⟩,wH.2⟩
   ·have R':=R.later cp;by_cases hex:∃ (j:Nat) (q:Oper),(l.take n)[j]? = some q∧q.dst=some t
    ·obtain ⟨j,q,hj,hq⟩:=hex;have ep:j < n:=by have:=(List.getElem?_eq_some_iff.1 hj).1;omega
     have eM:l[j]? = some q:=by rw [List.getElem?_take_of_lt ep] at hj;exact hj
     have hw:=(cC i hi o aT).1 t ht j ep q eM hq;rw [cS ep eM hq,mR (l.take n) rs st t j q (rs.getD j .any) du hj (by simp [List.getD,show j < rs.length by omega]) hq];exact (hS j ep hw).1
    ·have bD:∀ o∈l.take n,o.dst≠some t:=fun o ho he=>by
      obtain ⟨j,hj⟩:=List.mem_iff_getElem?.1 ho;exact hex ⟨j,o,hj,he⟩
     have e1:=oS (vs:=vs) (l.take n) 0 a t bD eR;rw [e1,mn _ _ _ _ bD];exact R'.slots t
   ·refine oS (l.take n) 0 a t (fun q hq he=>?_) eR;obtain ⟨j,hj⟩:=List.mem_iff_getElem?.1 hq;have ep:j < n:=by have:=(List.getElem?_eq_some_iff.1 hj).1;omega
    exact ht j q ep (by rw [List.getElem?_take_of_lt ep] at hj;exact hj) he
   ·have:=(hS j hj hw).2 sI;have e1:=cS (vs:=vs) hj hq eg;rw [e1];exact this
   ·rw [nP i hi hc];exact .base _ _ (.any v)
  ·have gY:a_ i=false:=by simpa using hc
   refine GQ (GP R (Nat.le_of_lt eY) du hN (fun i hi o ho t ht j hj q hq aH=>(cC i hi o ho).1 t ht j hj q hq aH) aq eb i (fun o r ho hr=>(hP i o r (by rw [Nat.zero_add];exact gY) ho hr).1) hi) (fun j v w' hh=>hh.1) fun v w' hh=>⟨hh,fun h=>absurd h hc⟩
 ·obtain ⟨so,ds,v3,w3,p2,iu,oo,me,aD,R2⟩:=sG p a w _ w' R hb (u_ R du pf (by rw [hlen];exact eb) hb (by rw [hlen];exact fun i hi=>(hv i hi).1)) (fun t ht=>by
   refine oS (l.take n) 0 a t (fun q hq he=>?_) eR;obtain ⟨j,hj⟩:=List.mem_iff_getElem?.1 hq;have ep:j < n:=by have:=(List.getElem?_eq_some_iff.1 hj).1;omega
   exact ht j q ep (by rw [List.getElem?_take_of_lt ep] at hj;exact hj) he) fun j q d hj sI hq eg=>by
    rw [cS hj hq eg];exact (hv j hj).2 sI
  have ja:(l.drop (n+1)).all (cW N)=true:=List.all_eq_true.2 fun q hq=>List.all_eq_true.1 hN q (List.mem_of_mem_drop hq);have lF:l.drop n=so::l.drop (n+1):=by
   rw [List.drop_eq_getElem_cons eY];congr 1;rw [List.getElem?_eq_getElem eY] at iu;exact Option.some.inj iu
  rw [lF];refine wpList_step fun Y Z=>?_;simp only [Region.wanted,oo,if_true];unfold Oper.wp;rw [aD];show Y _ _;rw [me];exact Z _ _ (mP (ow:=ow) hN (fun p st a w R h=>⟨st,p,R,h⟩) (l.drop (n+1)) p2 _ _ w3 ja R2 nO)
theorem Og {ops:List Oper} {o:Oper} {K K':VS→Prop} (h:mc P ops o st K) (hk:∀ aK,K aK→K' aK) : mc P ops o st K':=by
 unfold mc zu at h ⊢;split
 ·rename_i hg;rw [hg] at h;obtain ⟨r,h1,h2⟩:=h;exact ⟨r,h1,hk _ h2⟩
 ·rename_i j want hg;rw [hg] at h;simp only at h;split
  ·rename_i b hb;rw [hb] at h;simp only at h;split
   ·rename_i hw;rw [if_pos hw] at h;obtain ⟨r,h1,h2⟩:=h;exact ⟨r,h1,hk _ h2⟩
   ·rename_i hw;rw [if_neg hw] at h;exact hk _ h
  ·rename_i vs hb;rw [hb] at h;exact hk _ h
  ·split at h
   ·rename_i hb1 hb2 _ _ hb;exact absurd hb (by first|exact hb1 _|exact hb2 _)
   ·rename_i hb1 hb2 _ _ hb;exact absurd hb (by first|exact hb1 _|exact hb2 _)
   ·exact h
theorem CX {ops:List Oper} {a_:Nat→Bool} {K K':VS→Prop} : ∀ {l:List Oper} {i:Nat} {T:VS},iN P ops a_ l i T K→(∀ T',K T'→K' T')→iN P ops a_ l i T K'
 | [],_,_,h,hk=>hk _ h
 | o::l,i,T,h,hk=>by
  unfold iN at h ⊢;split
  ·rename_i hc;rw [if_pos hc] at h;exact CX h hk
  ·rename_i hc;rw [if_neg hc] at h;exact Og h fun T' ⟨h1,h2⟩=>⟨h1,CX h2 hk⟩
def CY (id:Nat) : AV→Bool
 | .lit _=>true
 | .ref i _=>i != id
 | _=>false
theorem Hg:∀ (s:List (Nat×AV)) (t:Nat),lkp s t = .any∨(t,lkp s t)∈s
 | [],_=>.inl rfl
 | (c,v)::r,t=>by
  simp only [lkp];split
  ·rename_i h;subst h;exact .inr List.mem_cons_self
  ·exact (Hg r t).imp (fun h=>h) fun h=>List.mem_cons_of_mem _ h
theorem Hh (f:Nat→Bool) (g:AV→AV) : ∀ (s:List (Nat×AV)) (t:Nat),lkp ((s.filter fun q=>f q.1).map fun q=>(q.1,g q.2)) t = .any∨(f t=true∧lkp ((s.filter fun q=>f q.1).map fun q=>(q.1,g q.2)) t=lkp (s.map fun q=>(q.1,g q.2)) t)
 | [],_=>.inl rfl
 | (c,v)::r,t=>by
  have ih:=Hh f g r t;by_cases hc:f c=true
  ·rw [List.filter_cons_of_pos (by simpa using hc)];simp only [List.map_cons,lkp];by_cases he:c=t
   ·subst he;simp [hc]
   ·simp only [if_neg he];exact ih
  ·rw [List.filter_cons_of_neg (by simpa using hc)];by_cases he:c=t
   ·subst he;exact .inl (ih.elim (fun h=>h) fun h=>absurd h.1 hc)
   ·simp only [List.map_cons,lkp,if_neg he];exact ih
def sR (l:List Oper) (t:Nat) : Bool:=l.any fun o=>o.dst == some t
theorem Oh {id:Nat} {l:List Oper} (n ic il:Nat) (ow:List Nat) (KS:List (Nat×AV)) {k:FuncId} {args:List AV} {idb e sz dc dl d t t1 e9:Nat} {nl wR:Bool} {q:List (List AV)} {qs:List (List (List AV))} {ti te ti1:TI} {x:Operand} {oc ol oa:Oper} {bH:Array Operand} {ml:Array TypeId} {callee:Callee}
  (g:VCo P k args e9 sz wR q) (hm:P.follows .mixedOrders=true) (hB:Region.specB l.toArray n=true) (cu:ic < n∧il < n∧ic≠il) (Hi:l[ic]? = some oc) (zq:l[il]? = some ol) (Hj:l[n]? = some oa)
  (hc:oc.op = .call ⟨callee,bH,ml⟩∧oc.dst=some dc∧oc.guard=none) (hl:ol.op = .buildSlice t1 1 #[(0,.tmp dc)]∧ol.dst=some dl∧ol.guard=none) (ha:oa.op = .call ⟨.builtin .append,#[x,.tmp dl],#[t,t]⟩∧oa.dst=some d∧oa.guard=none)
  (hw:Region.waitsFor .any l.toArray il ic=true) (aV:aU P t=some ti) (hk:ti.kind=1∧ti.elem=e) (fD:aU P e=some te) (CZ:te.size=1∧te.zero.length=1∧te.bytes≤100000) (aS:∀ A m c,sf P t1 1 [(0,.lit (.slice A m c))]=some ([.lit (.slice A m c)],ti1))
  (hid:st.h[idb]? = some (some (.bag e sz nl none qs))) (hlen:qs.length+1≤1000000000)
  (h:iN P l (fun i=>i == ic || i == il) (l.take n) 0 st fun T=>T.h=st.h∧qe P (ev T) ⟨callee,bH,ml⟩=some (k,args)∧args.all (e8 5)=true∧ev T x = .osl idb∧(∀ y∈KS,lkp T.s y.1=y.2∧CY idb y.2=true) ∧
   dP P ow l (l.drop (n+1)) ⟨(d,.osl idb)::(KS++(st.s.filter fun y=>!sR (l.take n) y.1).map fun y=>(y.1,purge idb y.2)),fT idb 0 (st.h.set idb (some (.bag e sz false none (qs++[q]))))⟩ (Q .normal)) :
  VWp P M0 w0 N (.region id l.toArray true) Q st:=fun ju=>by
 have hN:l.all (cW N)=true:=by simpa [fg] using ju
 obtain ⟨re,gr,oV⟩:=hc;obtain ⟨yN,gw,gy⟩:=hl;obtain ⟨Oi,Hk,Oj⟩:=ha;obtain ⟨iA,rfl⟩:=hk;obtain ⟨Ok,jf,Hl⟩:=CZ;have hd:N.has d:=fh (List.all_eq_true.1 hN oa (List.mem_of_getElem? Hj)) d Hk;refine Of n ow (fun i=>i == ic || i == il) ⟨(d,.osl idb)::(KS++(st.s.filter fun y=>!sR (l.take n) y.1).map fun y=>(y.1,purge idb y.2)),fT idb 0 (st.h.set idb (some (.bag ti.elem sz false none (qs++[q]))))⟩
  (fun p a w i v w'=>if i=ic then OwnRow w w' (Mof M0 st.h p) e9 sz wR q v else ∃ b v9,v = .slice (some ⟨b,0,none⟩) 1 1∧(∃ cur t,w'.heap[b]? = some (.cells cur t (0,0))∧cur[0]? = some v9)∧OwnRow w w' (Mof M0 st.h p) e9 sz wR q v9) hm hB (fun p a w i v w1 w2 hv hb=>?_) ?_ ju
 ·split
  ·rename_i hi;rw [if_pos hi] at hv;exact hv.later hb
  ·rename_i hi;rw [if_neg hi] at hv;obtain ⟨b,v9,h1,⟨cur,t0,h2,h3⟩,h4⟩:=hv;exact ⟨b,v9,h1,⟨cur,t0,(hb.block b (Array.getElem?_eq_some_iff.1 h2).1).trans h2,h3⟩,h4.later hb⟩
 ·refine CX h fun T ⟨hT,cK,nF,hx,Ol,aD⟩=>⟨?_,?_,aD⟩
  ·intro p a w R i o hi dY ho;have bJ:i=ic∨i=il:=by simpa using dY
   have Om:∀ {w'},Below w.heap.size w w'→MOK w' (Mof M0 st.h p):=fun hb=>(R.later hb).mok;rcases bJ with rfl|rfl
   ·rw [Hi] at ho;obtain rfl:=Option.some.inj ho;refine ⟨oV,fun a' w' hb cC hold nZ=>?_⟩;obtain ⟨dst,op,ty,pos,after,guard⟩:=oc;simp only at re gr oV;subst re gr oV;have R':=R.later hb;obtain ⟨k6,aM,cO,eA⟩:=g;obtain ⟨vs,On,lQ,gx⟩:=xq (P:=P) (a:=a') (w:=w') (M:=Mof M0 st.h p) (h:=st.h) (p:=p) (dst:=some dc) (ty:=ty) (pos:=pos) (after:=after) (guard:=none) (fun y hy=>by
     cases y with
     | tmp t0=>exact cC t0 (List.mem_append_left _ (List.mem_filterMap.2 ⟨.tmp t0,by simpa using hy,rfl⟩))
     | const v=>exact .base _ _ (.lit v)
     | global g=>exact .base _ _ (R'.evalG g)
     | func f=>exact .base _ _ (.lit _)) cK k6
    unfold gives;rw [On];refine (eA w' (Mof M0 st.h p) vs (Om hb) lQ fun i b v fC bA=>(gx i b v fC bA).pure 5 (List.all_eq_true.1 nF b (List.mem_of_getElem? fC))).mono ?_;rintro en w2 ⟨v,rfl,hb2,lN⟩;exact ⟨v,rfl,by rw [if_pos rfl];exact lN.base hb.size,hb2⟩
   ·rw [zq] at ho;obtain rfl:=Option.some.inj ho;refine ⟨gy,fun a' w' hb cC hold nZ=>?_⟩;have h9:=nZ ic oc dc cu.1 (by simp) Hi gr hw;rw [if_pos rfl] at h9;obtain ⟨A,m,c,wS⟩ : ∃ A m c,a'.tmps.getD dc undef = .slice A m c:=by
     unfold OwnRow at h9;split at h9
     ·obtain ⟨⟨A,h5⟩,_⟩:=h9;exact ⟨A,0,0,h5⟩
     ·obtain ⟨g,cap,cur,h5,_⟩:=h9;exact ⟨_,_,_,h5⟩
    obtain ⟨us,aD,bW,_⟩:=yE (P:=P) (w:=w') (M:=fun _ _=>False) (h:=[]) (p:=p) (t:=t1) (n:=1) (parts:=[(0,.lit (.slice A m c))]) (vals:=#[(0,.slice A m c)]) rfl (fun i a v h1 h2=>by
     cases i with
     | zero=>simp at h1 h2;subst h1;subst h2;exact .base _ _ (.lit _)
     | succ i=>simp at h1) (aS A m c)
    have tX:us=[.slice A m c]:=by
     obtain ⟨g1,_,g3⟩:=bW;match us,g1 with
     | [u],_=>
      have:=(g3 0 _ u rfl rfl).lit_inv;rw [this]
    subst tX;have C0:a'.eval (.tmp dc) = .slice A m c:=wS;unfold gives;simp only [execOp,yN,Sem.run_bind,List.map_toArray,List.map_cons,List.map_nil,C0,aD,Result.andThen_ok,Sem.run_pure];refine ⟨?_,mo _ _⟩;rw [if_neg (Ne.symm cu.2.2)];rw [wS] at h9;exact ⟨_,.slice A m c,rfl,⟨#[.slice A m c],ti1.elem,by simp,rfl⟩,h9.later (mo _ _)⟩
  ·intro p a w a' w' R hb R' hold Oo;have h9:=Oo il ol dl cu.2.1 (by simp) zq gw;rw [if_neg (Ne.symm cu.2.2)] at h9;obtain ⟨b,v9,e9,⟨cur,t0,bK,lp⟩,ho⟩:=h9;have iL:=R'.eval x;rw [hx] at iL;obtain ⟨Ax,nx,cx,DX,_,bo⟩:=iL.bag_inv;have bo:=bo _ _ _ _ _ (by rw [hT];exact hid);obtain ⟨dd,inf,z,eg,gD,hz,iM,g_⟩:=e_ fD;have bI:inf.size=1:=by rw [←Ok,g_]
   have fX:z.cells.size=1:=by rw [←jf,g_,Array.length_toList]
   have l8:inf.bytes≤100000:=by rw [g_] at Hl;exact Hl
   have hu:=lu aV iA;have aM:=g.2.1;obtain ⟨v3,w3,p2,wT,R3,jk⟩:=R.pushRow (ty:=oa.type) (cy:=1) (ay:=⟨b,0,none⟩) hd hid hb bo ho g.2.2.1 hu gD hz bI fX l8 (by
    show w'.cell? ⟨b,0,none⟩=some v9;rw [cell_of_row w' b _ cur t0 (0,0) bK];exact lp) hlen
   refine ⟨oa,d,v3,w3,p2,Hj,Oj,Hk,?_,?_⟩
   ·have Oq:a'.eval (.tmp dl) = .slice (some ⟨b,0,none⟩) 1 1:=e9;simp only [execOp,Oi,resolve,invoke,builtin,Sem.run_bind,Sem.run_pure,Result.andThen_ok,List.map_toArray,List.map_cons,List.map_nil,Oq,wT]
   ·have me:=R'.size.put (v:=v3) hd;have uN:=R'.size.lt hd;refine ⟨R'.defers,me,R3.below,R3.m0,R3.x0,fun i=>?_,R3.objs,R3.inj⟩;rw [mr a' d _ i uN];simp only [lkp];have h3:=R3.slots i;rw [mr a d _ i (R.size.lt hd)] at h3;simp only [lkp] at h3;split
    ·rename_i wU;rw [if_pos wU,if_pos wU] at h3;exact h3
    ·rename_i wU;rw [if_neg wU,if_neg wU] at h3;rcases qk KS ((st.s.filter fun y=>!sR (l.take n) y.1).map fun y=>(y.1,purge idb y.2)) i with h1|h1
     ·rw [h1];rcases Hg KS i with h2|h2
      ·rw [h2];exact .base _ _ (.any _)
      ·obtain ⟨e1,e2⟩:=Ol _ h2;have hs:=R'.slots i;simp only at e1;rw [e1] at hs;generalize lkp KS i=av at *;generalize a'.tmps.getD i undef=uv at *;cases av<;>simp only [CY,Bool.false_eq_true] at e2
       ·rw [hs.lit_inv];exact .base _ _ (.lit _)
       ·have ax:=(bne_iff_ne.1 e2)
        cases hs with
        | base _ _ h0=>cases h0
        | ref _ _ eD=>
         rw [←jk _ ax];exact .ref _ _ (by rw [hT] at eD;rw [yH];simpa using eD)
     ·rw [h1];rcases Hh (fun t=>!sR (l.take n) t) (purge idb) st.s i with h2|⟨h2,h4⟩
      ·rw [h2];exact .base _ _ (.any _)
      ·rw [h4,hold i fun j q hj hq he=>?_]
       ·exact h3
       ·have:sR (l.take n) i=true:=by
         unfold sR;exact List.any_eq_true.2 ⟨q,List.mem_of_getElem? (by rw [List.getElem?_take_of_lt hj];exact hq),by simpa using he⟩
        rw [this] at h2;cases h2
end
section
variable {P:Program} {M0:Nat→Nat→Prop} {w0:Bas} {N:Nm} {p:Pl} {st:VS} {a:Act} {w:World} {Q:Exit→VS→Prop}
theorem Rel.grows {w':World} {p':Pl} {obs:Hp} (R:Rel M0 w0 N p st a w) (hb:Below w.heap.size w w') (hp:∀ i,i < st.h.length→p' i=p i∧p'.S i=p.S i)
  (hn:∀ (i:Nat) (ob:Ob),obs[i]? = some (some ob)→cn ob=true→∀ x j,p'.O (st.h.length+i) x j→w.heap.size≤x)
  (hi:∀ (i i':Nat) (ob ob':Ob),obs[i]? = some (some ob)→obs[i']? = some (some ob')→cn ob=true→cn ob'=true→∀ x j j',p'.O (st.h.length+i) x j→p'.O (st.h.length+i') x j'→i=i')
  (iJ:∀ (i:Nat) (ob:Ob),obs[i]? = some (some ob)→ObOK w0 w' (Mof M0 (st.h++obs) p') (st.h++obs) p' (st.h.length+i) ob) : Rel M0 w0 N p' ⟨st.s,st.h++obs⟩ a w':=by
 have j1:∀ {i x j},i < st.h.length→(p'.O i x j↔p.O i x j):=fun {i x j} h=>by unfold Pl.O;rw [(hp i h).1,(hp i h).2]
 have db:∀ {id:Nat} {ob:Ob},(st.h++obs)[id]? = some (some ob)→(id < st.h.length∧st.h[id]? = some (some ob))∨∃ i,id=st.h.length+i∧obs[i]? = some (some ob):=fun {id ob} h=>by
  rcases Nat.lt_or_ge id st.h.length with hl|hl
  ·rw [List.getElem?_append_left hl] at h;exact .inl ⟨hl,h⟩
  ·rw [List.getElem?_append_right hl] at h;exact .inr ⟨id - st.h.length,by omega,h⟩
 have hold:∀ {id:Nat},id < st.h.length→(st.h++obs)[id]? = st.h[id]?:=fun h=>List.getElem?_append_left h;have hM:∀ c j,c < w.heap.size→¬Mof M0 st.h p c j→¬Mof M0 (st.h++obs) p' c j:=fun c j hc cf hm=>by
  rcases hm with hm|⟨id,ob',hid,hl,jM⟩
  ·exact cf (.inl hm)
  ·rcases db hid with ⟨aq,br⟩|⟨i,rfl,br⟩
   ·exact cf (.inr ⟨id,ob',br,hl,(j1 aq).1 jM⟩)
   ·have:=hn i ob' br hl c j jM;omega
 have hV:∀ {x:AV} {u:Value},V1 w (Mof M0 st.h p) st.h p x u→V1 w' (Mof M0 (st.h++obs) p') (st.h++obs) p' x u:=fun hx=>
  hx.keep (.of_below hb) hM (by simp) (fun id h=>(hp id h).1) (fun id e sz nl es u hid he hv=>by
   rw [hold hid] at he;exact (hv e sz nl es he).below hb) (fun id e sz nl ak qs u hid he hv=>by
   rw [hold hid] at he;exact (hv e sz nl ak qs he).below hb) fun id k sz v hid hs=>hs.keep (fun e sz ak qs he=>by
   rw [hold hid] at he;exact ⟨he,(hp id hid).1,(hp id hid).2,fun b _ _ aq=>hb.block b aq⟩) hb.size
 refine ⟨R.defers,R.size,R.below.later hb,R.m0,R.x0,fun i=>hV (R.slots i),fun id ob' hid=>?_,fun id fp uo ob2 hid jS hl bj x j j' hO ct=>?_⟩
 ·rcases db hid with ⟨aq,br⟩|⟨i,rfl,br⟩
  ·exact (R.objs id ob' br).keep (fun _=>hp id aq) (fun _ b _ _ dq=>hb.block b dq) hb.size (fun hx=>hx.keep (.of_below hb) hM) fun _ _ _ _ _ hx=>hV hx
  ·exact iJ i ob' br
 ·rcases db hid with ⟨aq,qM⟩|⟨i,rfl,qM⟩<;>rcases db jS with ⟨iZ,bJ⟩|⟨i',rfl,bJ⟩
  ·exact R.inj id fp _ _ qM bJ hl bj x j j' ((j1 aq).1 hO) ((j1 iZ).1 ct)
  ·have h1:=((R.objs id uo qM).own hl x j ((j1 aq).1 hO)).2;have h2:=hn i' ob2 bJ bj x j' ct;omega
  ·have h1:=((R.objs fp ob2 bJ).own bj x j' ((j1 iZ).1 ct)).2;have h2:=hn i uo qM hl x j hO;omega
  ·rw [hi i i' uo ob2 qM bJ hl bj x j j' hO ct]
theorem OwnRow.ob {w':World} {e sz:Nat} {nl:Bool} {es:List (List AV)} {v:Value} {p':Pl} {M M':Nat→Nat→Prop} {h':Hp} {id:Nat} (ho:OwnRow w w' M e sz nl es v) (hw:w0.w.heap.size≤w.heap.size) (aM:0 < sz) (cO:∀ (k:Nat) (x:List AV),es[k]? = some x→x.length=sz∧∀ c∈x,cQ c=true)
  (hg:nl=false→∀ g n c,v = .slice (some ⟨g,0,none⟩) n c→p' id=g) (hS:∀ b j,¬p'.S id b j) (hM:nl=false→∀ b j,b < w'.heap.size→b≠p' id→¬M b j→¬M' b j) : ObOK w0 w' M' h' p' id (.arr e sz nl es):=by
 refine ⟨aM,cO,?_⟩;unfold OwnRow at ho;split at ho
 ·rename_i hn;rw [if_pos hn];exact ho.2
 ·rename_i hn;have zG:nl=false:=by cases nl<;>simp at hn ⊢
  rw [if_neg hn];obtain ⟨g,cap,cur,rfl,h2,h3,h4,h5,h6,h7⟩:=ho;have uD:=hg zG g _ _ rfl;refine ⟨⟨fun j=>.inl (by rw [uD];omega),hS⟩,cur,by rw [uD];exact h3,by rw [h4];exact Nat.mul_le_mul_right _ h5,fun k x j c hk hj=>?_⟩;obtain ⟨u,hu,hv⟩:=h7 k x j c hk hj;exact ⟨u,hu,hv.keep (Keeps.refl _ _) fun b j aq hm=>hM zG b j aq (fun he=>hm (.inr (he.trans uD))) fun h=>hm (.inl h)⟩
theorem OwnRow.obL {w':World} {e sz:Nat} {nl:Bool} {es:List (List AV)} {v:Value} {p':Pl} {M M':Nat→Nat→Prop} {h':Hp} {id:Nat} (ho:OwnRow w w' M e sz nl es v) (hw:w0.w.heap.size≤w.heap.size) (aM:0 < sz) (cO:∀ (k:Nat) (x:List AV),es[k]? = some x→x.length=sz∧∀ c∈x,∃ u,c = .lit u∧u.oneCell'=true)
  (hg:nl=false→∀ g n c,v = .slice (some ⟨g,0,none⟩) n c→p' id=g) (hS:∀ b j,¬p'.S id b j) : ObOK w0 w' M' h' p' id (.arr e sz nl es):=by
 refine ⟨aM,fun k x hk=>⟨(cO k x hk).1,fun c hc=>by obtain ⟨u,rfl,hu⟩:=(cO k x hk).2 c hc;exact hu⟩,?_⟩;unfold OwnRow at ho;split at ho
 ·rename_i hn;rw [if_pos hn];exact ho.2
 ·rename_i hn;have zG:nl=false:=by cases nl<;>simp at hn ⊢
  rw [if_neg hn];obtain ⟨g,cap,cur,rfl,h2,h3,h4,h5,h6,h7⟩:=ho;have uD:=hg zG g _ _ rfl;refine ⟨⟨fun j=>.inl (by rw [uD];omega),hS⟩,cur,by rw [uD];exact h3,by rw [h4];exact Nat.mul_le_mul_right _ h5,fun k x j c hk hj=>?_⟩;obtain ⟨u,hu,hv⟩:=h7 k x j c hk hj;obtain ⟨u2,rfl,_⟩:=(cO k x hk).2 c (List.mem_of_getElem? hj);cases hv;exact ⟨_,hu,.lit _⟩
theorem Rel.nilBag (R:Rel M0 w0 N p st a w) {bi j e sz:Nat} {cs:List AV} (hb:st.h[bi]? = some (some (.box cs))) (hj:cs[j]? = some (.lit (.slice none 0 0))) (aM:0 < sz) : Rel M0 w0 N p ⟨st.s,st.h.set bi (some (.box (cs.set j (.osl st.h.length))))++[some (.bag e sz true none [])]⟩ a w:=by
 have dq:bi < st.h.length:=(List.getElem?_eq_some_iff.1 hb).1;refine (R.reheap _ (by simp) (fun i ob hi hl=>?_) (fun i e sz nl es cu he=>?_) (fun i e sz nl pe qs cu he=>?_) fun i ob hi ax keep=>?_).1
 ·rcases qd hi dq with ⟨rfl,rfl⟩|⟨_,br⟩|⟨rfl,rfl⟩
  ·exact ⟨_,hb,rfl⟩
  ·exact ⟨ob,br,hl⟩
  ·cases hl
 ·rcases qd he dq with ⟨_,h⟩|⟨_,h⟩|⟨h,_⟩
  ·cases h
  ·exact h
  ·omega
 ·rcases qd he dq with ⟨_,h⟩|⟨_,h⟩|⟨h,_⟩
  ·cases h
  ·exact h
  ·omega
 ·rcases qd hi dq with ⟨rfl,rfl⟩|⟨_,br⟩|⟨rfl,rfl⟩
  ·obtain ⟨h1,cur,e2,h2,h3,h4,h5⟩:=R.objs i _ hb;refine ⟨h1,cur,e2,h2,by simpa using h3,fun c hc=>?_,fun k c hk=>?_⟩
   ·rcases List.mem_or_eq_of_mem_set hc with h|rfl
    ·exact h4 c h
    ·rfl
   ·rw [List.getElem?_set] at hk;by_cases he:j=k
    ·subst he;have bB:j < cs.length:=(List.getElem?_eq_some_iff.1 hj).1;rw [if_pos rfl,if_pos bB] at hk;simp only [Option.some.injEq] at hk;subst hk;obtain ⟨u,hu,hv⟩:=h5 j _ hj;obtain rfl:=hv.lit_inv;refine ⟨_,hu,.osl _ _ _ _ (by simp) (fun e3 uW uX tx i_=>?_) fun e3 uW uX DQ DS i_=>?_⟩
     ·rw [List.getElem?_append_right (by simp)] at i_;simp at i_
     ·rw [List.getElem?_append_right (by simp)] at i_;simp at i_;obtain ⟨rfl,rfl,rfl,rfl,rfl⟩:=i_;exact ⟨⟨none,rfl⟩,rfl⟩
    ·rw [if_neg he] at hk;obtain ⟨u,hu,hv⟩:=h5 k c hk;exact ⟨u,hu,keep hv⟩
  ·exact absurd br ax
  ·exact ⟨aM,rfl⟩
theorem Ot {f:FuncId} {args:List AV} {h':Hp} {r:AV} (h:VH P f [] args [] h' r) : VC P f args (jh 5 h' r):=by
 refine ⟨h.1,fun w M vs hM hl hv=>?_⟩;have C1:∀ p b j,¬M b j→¬Mof M [] p b j:=fun p b j hn hm=>hm.elim hn fun ⟨i,ob,hi,_⟩=>by simp at hi
 refine (h.2 w M (fun _ _=>False) ⟨fun _=>0,fun _ _ _=>False⟩ vs hM ⟨fun _ _ h=>h.elim,GOK.keep (X:=M) (Keeps.refl _ _) hM.2 (fun _ _ _ _ h=>h) hM.2⟩ (fun _ _ _ h=>h) hl (fun i a v ha Ap=>.base _ _ ((hv i a v ha Ap).keep (Keeps.refl _ _) fun b j _ hn=>C1 _ b j hn)) (fun k ob hk=>by simp at hk) (fun id fp ob ob' h1=>by simp at h1)).mono ?_;rintro e w' ⟨v,q,rfl,hb,hv,hO,_,_⟩;refine ⟨v,rfl,hb.below fun _ _ h=>h,yF hO (fun b j hm hf=>hf.elim (fun hf=>absurd (hM.1 b j hm) (by simp only at hf;omega)) fun h=>h) (fun b j hm=>.inl hm) 5 r v hv⟩
end
attribute [go_sem] CY sR
end Go.Proofs.YtoibondihdhnoaaGreatDoor
