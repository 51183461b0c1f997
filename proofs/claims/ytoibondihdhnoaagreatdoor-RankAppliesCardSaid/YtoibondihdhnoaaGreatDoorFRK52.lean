/- Texts in one: A row is appended to a row of rows: of every program; no condition. -/
import Derived.Test.YtoibondihdhnoaaGreatDoorFRK15
import Derived.Test.YtoibondihdhnoaaGreatDoorFRK50
namespace Go.Proofs.YtoibondihdhnoaaGreatDoor
open Go.RowKit
section
variable {P:Program} {M0:Nat→Nat→Prop} {w0:Bas} {N:Nm} {p:Pl} {st:VS} {a:Act} {w:World}
theorem Rel.bagPush {w':World} {p':Pl} {id g:Nat} {e:TypeId} {sz:Nat} {nl:Bool} {qs qs2:List (List (List AV))} {d:Nat} {A:Option Addr} {n c:Nat} (R:Rel M0 w0 N p st a w) (hd:N.has d) (hi:st.h[id]? = some (some (.bag e sz nl none qs)))
  (hg:w.heap.size≤g∨(nl=false∧g=p id)) (cS:p' id=g) (jt:∀ i,i≠id→p' i=p i) (gx:∀ i,i≠id→p'.S i=p.S i) (ue:∀ b j,p'.S id b j→(nl=false∧p.S id b j)∨w.heap.size≤b)
  (kZ:w'.os=w.os) (k6:w'.tape=w.tape) (k7:w'.output=w.output) (aL:w.heap.size≤w'.heap.size) (ca:∀ b,b < w.heap.size→¬(nl=false∧b=p id)→w'.heap[b]? = w.heap[b]?)
  (iQ:(∀ {x:AV} {u:Value},V0 w (Mof M0 st.h p) x u→V0 w' (Mof M0 (gG id 0 (st.h.set id (some (.bag e sz false none qs2)))) p') x u)→ObOK w0 w' (Mof M0 (gG id 0 (st.h.set id (some (.bag e sz false none qs2)))) p') (gG id 0 (st.h.set id (some (.bag e sz false none qs2)))) p' id (.bag e sz false none qs2))
  (hv:Osl w' g e 1 false qs2.length (.slice A n c)) :
  Rel M0 w0 N p' ⟨(d,.osl id)::st.s.map (fun q=>(q.1,purge id q.2)),gG id 0 (st.h.set id (some (.bag e sz false none qs2)))⟩ (a.put (some d) (.slice A n c)) w':=by
 generalize fy:gG id 0 (st.h.set id (some (.bag e sz false none qs2)))=h' at *;have eI:id < st.h.length:=(List.getElem?_eq_some_iff.1 hi).1;have hlen:h'.length=st.h.length:=by rw [←fy,yR];simp
 have kc:∀ {i x j},i≠id→(p'.O i x j↔p.O i x j):=fun hn=>by unfold Pl.O;rw [jt _ hn,gx _ hn]
 have GZ:∀ {x j},p'.O id x j→x < w.heap.size→nl=false∧p.O id x j:=fun {x j} h hx=>by
  rcases h with h|h
  ·rw [cS] at h;rcases hg with hg|⟨aJ,hg⟩
   ·omega
   ·exact ⟨aJ,.inl (by omega)⟩
  ·rcases ue x j h with h|h
   ·exact ⟨h.1,.inr h.2⟩
   ·omega
 have bB:∀ i o,h'[i]? = some (some o)→(i=id∧o = .bag e sz false none qs2)∨(i≠id∧∃ o0,st.h[i]? = some (some o0)∧cp o0=cp o∧((o0=o∧∀ cs,o = .box cs→cs.all (cH id 5)=true)∨∃ cs,o0 = .box cs∧o = .box (cs.map (qN id i))∧cs.all (fun c=>cH id 5 c || tP id c)=true)):=by
  intro i o aF;rw [←fy,vM] at aF;obtain ⟨x,hx,df⟩:=Option.map_eq_some_iff.1 aF;rw [Nat.zero_add] at df;rw [List.getElem?_set] at hx;by_cases he:id=i
  ·rw [if_pos he,if_pos (by omega)] at hx;simp only [Option.some.injEq] at hx;subst hx;simp only [jK,Option.some.injEq] at df;exact .inl ⟨he.symm,df.symm⟩
  ·rw [if_neg he] at hx;refine .inr ⟨fun h=>he h.symm,?_⟩;cases x with
   | none=>simp [jK] at df
   | some y=>
    cases y with
    | box cs=>
     simp only [jK] at df;split at df
     ·rename_i bm;simp only [Option.some.injEq] at df;subst df;exact ⟨_,hx,rfl,.inl ⟨rfl,fun dU hc=>by injection hc with hc;subst hc;exact bm⟩⟩
     ·split at df
      ·rename_i bm;simp only [Option.some.injEq] at df;subst df;exact ⟨_,hx,rfl,.inr ⟨cs,rfl,rfl,bm⟩⟩
      ·cases df
    | arr e1 s1 n1 l1=>
     simp only [jK,Option.some.injEq] at df;subst df;exact ⟨_,hx,rfl,.inl ⟨rfl,fun dU hc=>by cases hc⟩⟩
    | mpo kf iA=>
     simp only [jK,Option.some.injEq] at df;subst df;exact ⟨_,hx,rfl,.inl ⟨rfl,fun dU hc=>by cases hc⟩⟩
    | bag e1 s1 n1 Nq q1=>
     simp only [jK,Option.some.injEq] at df;subst df;exact ⟨_,hx,rfl,.inl ⟨rfl,fun dU hc=>by cases hc⟩⟩
 have dt:nl=false→cp (.bag e sz nl none qs)=true:=fun h=>by subst h;rfl
 have hM:∀ c j,c < w.heap.size→¬Mof M0 st.h p c j→¬Mof M0 h' p' c j:=by
  intro c j hc hn hm;rcases hm with hm|⟨i,o,aF,bu,hp⟩
  ·exact hn (.inl hm)
  ·rcases bB i o aF with ⟨rfl,rfl⟩|⟨au,o0,br,se,_⟩
   ·obtain ⟨aJ,hO⟩:=GZ hp hc;exact hn (.inr ⟨_,_,hi,dt aJ,hO⟩)
   ·exact hn (.inr ⟨i,o0,br,se.trans bu,(kc au).1 hp⟩)
 have hk:Keeps (Mof M0 st.h p) w w':=.of_blocks aL fun b de hn=>ca b de fun ⟨aJ,he⟩=>hn fun j=>.inr ⟨id,_,hi,dt aJ,.inl he.symm⟩;have au:∀ i o,i≠id→st.h[i]? = some (some o)→cp o=true→∀ b j,p.O i b j→b < w.heap.size→w'.heap[b]? = w.heap[b]?:=fun i o hn aF bu b j hO de=>ca b de fun ⟨aJ,he⟩=>hn (R.inj i id o _ aF hi bu (dt aJ) b j 0 hO (.inl he.symm));have b_:∀ i o,i≠id→(∀ cs,o≠.box cs)→h'[i]? = some (some o)→st.h[i]? = some (some o):=fun i o hn fL he=>by
  rcases bB i _ he with ⟨h,_⟩|⟨_,o0,aF,_,⟨rfl,_⟩|⟨cs,_,hb,_⟩⟩
  ·exact absurd h hn
  ·exact aF
  ·exact absurd hb (fL _)
 have ql:∀ i e sz nl es v,i≠id→h'[i]? = some (some (.arr e sz nl es))→(∀ e sz nl es,st.h[i]? = some (some (.arr e sz nl es))→Osl w (p i) e sz nl es.length v)→Osl w' (p i) e sz nl es.length v:=fun i e sz nl es v hn he hv=>by
  have aF:=b_ i _ hn (fun cs h=>by cases h) he;exact (hv _ _ _ _ aF).keep fun aJ aq=>au i _ hn aF (by rw [aJ];rfl) _ 0 (.inl rfl) aq
 have Ch:∀ i e sz nl ao qs v,i≠id→h'[i]? = some (some (.bag e sz nl ao qs))→(∀ e sz nl ao qs,st.h[i]? = some (some (.bag e sz nl ao qs))→Osl w (p i) e 1 nl qs.length v)→Osl w' (p i) e 1 nl qs.length v:=fun i e sz nl ao qs v hn he hv=>by
  have aF:=b_ i _ hn (fun cs h=>by cases h) he;exact (hv _ _ _ _ _ aF).keep fun aJ aq=>au i _ hn aF (by rw [aJ];rfl) _ 0 (.inl rfl) aq
 have Ci:∀ i k sz v,i≠id→i < st.h.length→Sp w st.h p i k sz v→Sp w' h' p' i k sz v:=fun i k sz v hn _ hs=>hs.keep (fun e sz ao qs he=>by
  have aF:=b_ i _ hn (fun cs h=>by cases h) he;exact ⟨aF,jt i hn,gx i hn,au i _ hn aF rfl⟩) aL
 have hV:∀ (n:Nat) {x:AV} {u:Value},V1 w (Mof M0 st.h p) st.h p x u→cH id n x=true→V1 w' (Mof M0 h' p') h' p' x u:=fun n x u hx hn=>V1.purge hk hM (by omega) jt ql Ch Ci n x u hx hn;have dO:∀ {x:AV} {u:Value},V0 w (Mof M0 st.h p) x u→V0 w' (Mof M0 h' p') x u:=fun hx=>hx.keep hk hM;have hF:∀ b,b < w.heap.size→¬(∀ j,Fr w0 b j)→w'.heap[b]? = w.heap[b]?:=fun b de hn=>ca b de fun ⟨aJ,he⟩=>hn fun j=>by rw [he];exact (R.objs id _ hi).ge (dt aJ) j
 refine ⟨R.defers,R.size.put hd,R.below.blocks kZ k6 k7 aL hF,R.m0,R.x0,fun i=>?_,fun i o aF=>?_,fun i i' o o' aF br bu ep x j j' hO cw=>?_⟩
 ·rw [lu a d _ i (R.size.lt hd)];simp only [lkp];split
  ·refine .osl id A n c (by omega) (fun e' bD kz b9 he=>?_) fun e' bD kz pe pt he=>?_
   ·rcases bB id _ he with ⟨_,h⟩|⟨h,_⟩
    ·cases h
    ·exact absurd rfl h
   ·rcases bB id _ he with ⟨_,h⟩|⟨h,_⟩
    ·injection h with h1 h2 h3 h4 h5
     subst h1 h2 h3 h4 h5;rw [cS];exact hv
    ·exact absurd rfl h
  ·rcases Cg id st.s i with h|h
   ·rw [h];unfold Go.Proofs.YtoibondihdhnoaaGreatDoor.purge;split
    ·rename_i hn;exact hV 5 (R.slots i) hn
    ·exact .base _ _ (.any _)
   ·rw [h];exact .base _ _ (.any _)
 ·rcases bB i o aF with ⟨rfl,rfl⟩|⟨hn,o0,br,se,⟨rfl,jj⟩|⟨cs,rfl,rfl,aG⟩⟩
  ·exact iQ dO
  rotate_left
  ·obtain ⟨h1,cur,e,hg,h2,h3,h4⟩:=R.objs i _ br;refine ⟨by unfold Own;rw [jt i hn,gx i hn];exact h1,cur,e,by rw [jt i hn,au i _ hn br rfl _ 0 (.inl rfl) (Array.getElem?_eq_some_iff.1 hg).1];exact hg,by simpa using h2,fun c hc=>?_,fun j c hj=>?_⟩
   ·obtain ⟨c0,mI,rfl⟩:=List.mem_map.1 hc;unfold qN;split
    ·exact h3 c0 mI
    ·rfl
   ·rw [List.getElem?_map] at hj;obtain ⟨c0,l5,rfl⟩:=Option.map_eq_some_iff.1 hj;obtain ⟨u,hu,hv⟩:=h4 j c0 l5;refine ⟨u,hu,?_⟩;unfold qN;split
    ·rename_i bm;exact hV 5 hv bm
    ·rename_i bm;have:=List.all_eq_true.1 aG c0 (List.mem_of_getElem? l5);rw [Bool.or_eq_true] at this;rcases this with h|h
     ·exact absurd h bm
     ·obtain ⟨k,rfl⟩ : ∃ k,c0 = .osl k:=by cases c0<;>first|exact ⟨_,rfl⟩|(simp [tP] at h;done)
      obtain ⟨A2,n2,c2,rfl,_,_⟩:=hv.osl_inv;refine .osl _ _ _ _ (by rw [hlen];exact (List.getElem?_eq_some_iff.1 br).1) (fun e sz nl es he=>?_) fun e sz nl pe qs he=>?_
      ·rw [aF] at he;cases he
      ·rw [aF] at he;cases he
  ·exact (R.objs i o0 br).keep (fun _=>⟨jt i hn,gx i hn⟩) (fun bu b j hO de=>au i o0 hn br bu b j hO de) aL dO fun cs bM c hc u hx=>hV 5 hx (List.all_eq_true.1 (jj cs bM) c hc)
 ·have aq:∀ i o,i≠id→st.h[i]? = some (some o)→cp o=true→∀ x j j',p.O i x j→¬p'.O id x j':=by
   intro i o hn h1 hl x j j' hO he;obtain ⟨aJ,cw⟩:=GZ he ((R.objs i o h1).own hl x j hO).2;exact hn (R.inj i id o _ h1 hi hl (dt aJ) x j j' hO cw)
  rcases bB i o aF with ⟨rfl,rfl⟩|⟨hn,o1,h1,e1,_⟩<;>rcases bB i' o' br with ⟨rfl,rfl⟩|⟨lv,o2,h2,e2,_⟩
  ·rfl
  ·exact absurd hO (aq i' o2 lv h2 (e2.trans ep) x j' j ((kc lv).1 cw))
  ·exact absurd cw (aq i o1 hn h1 (e1.trans bu) x j j' ((kc hn).1 hO))
  ·exact R.inj i i' o1 o2 h1 h2 (e1.trans bu) (e2.trans ep) x j j' ((kc hn).1 hO) ((kc lv).1 cw)
theorem G0 {h:Hp} {id i:Nat} {x:Option Ob} {o:Ob} (aF:(gG id 0 (h.set id x))[i]? = some (some o)) (hn:i≠id) : ∃ o0,h[i]? = some (some o0)∧cp o0=cp o:=by
 rw [vM] at aF;obtain ⟨x,hx,df⟩:=Option.map_eq_some_iff.1 aF;rw [List.getElem?_set_ne (Ne.symm hn)] at hx;cases x with
 | none=>simp [jK] at df
 | some y=>
  refine ⟨y,hx,?_⟩;cases y with
  | box cs=>
   simp only [jK] at df;split at df
   ·simp only [Option.some.injEq] at df;subst df;rfl
   ·split at df
    ·simp only [Option.some.injEq] at df;subst df;rfl
    ·cases df
  | _=>
   simp only [jK,Option.some.injEq] at df;subst df;rfl
theorem N6 {h:Hp} {id:Nat} {e sz:Nat} {nl:Bool} {ao:Option Nat} {qs:List (List (List AV))} (hl:id < h.length) : (gG id 0 (h.set id (some (.bag e sz nl ao qs))))[id]? = some (some (.bag e sz nl ao qs)):=by
 rw [vM,List.getElem?_set_self hl];rfl
theorem N7 {w:World} {t ty e:TypeId} {inf:TypeInfo} {z:Value} (hu:P.underlying t=some (.slice e)) (gO:P.info? e=some inf) (hz:inf.zero=some z) (bF:inf.size=1) (eT:z.cells.size=1) (gL:inf.bytes≤100000)
  {ay:Addr} {cy:Nat} {u0:Value} (qY:w.cell? (ay.add 0)=some u0) (wv:u0.oneCell'=true) {nl:Bool} {n b0:Nat} {vx:Value} (hx:Osl w b0 e 1 nl n vx) (hn:n+1≤1000000000) :
  ∃ g dy cur' w',(Builtin.append_ #[t,t] ty #[vx,.slice (some ay) 1 cy]).run P w = .ok (.slice (some ⟨g,0,none⟩) (n+1) dy) w'∧(w.heap.size≤g∨(nl=false∧g=b0))∧w'.heap[g]? = some (.cells cur' e (0,0))∧cur'.size=dy∧n+1≤dy∧dy≤maxLen ∧
   (∀ cur,nl=false→w.heap[b0]? = some (.cells cur e (0,0))→∀ j,j < n→cur'[j]? = cur[j]?)∧cur'[n]? = some u0∧w'.os=w.os∧w'.tape=w.tape∧w'.output=w.output∧w.heap.size≤w'.heap.size∧∀ b,b < w.heap.size→b≠g→w'.heap[b]? = w.heap[b]?:=by
 unfold Osl at hx;cases nl
 ·rw [if_neg (by simp)] at hx;obtain ⟨cap,cur,rfl,hb,aL,hle,fO⟩:=hx;rw [Nat.mul_one] at aL;by_cases fj:n+1≤cap
  ·have aC:=run_append_room_cells (P:=P) w t ty e inf hu gO b0 0 n cap ay 1 cy [u0] (by simp [bF]) (fun j u hj=>by
    cases j with
    | zero=>simp at hj;rw [←hj];exact qY
    | succ j=>simp at hj) (by simpa using wv) fj (fun j hj=>by
    obtain rfl:j=0:=by simpa using hj
    rw [bF,cell_of_row w b0 _ cur e (0,0) hb];have:n < cur.size:=by omega
    simpa using this) (fun j hj=>by simp [World.frozen?,hb])
   rw [bF,Nat.mul_one,Nat.zero_add] at aC;refine ⟨b0,cap,_,_,aC,.inr ⟨rfl,rfl⟩,xW u0 hb,by rw [Array.size_setIfInBounds];exact aL,fj,fO,fun ld _ h2 j hj=>?_,?_,rfl,rfl,rfl,Nat.le_of_eq (vh w b0 n u0).symm,fun b _ hn=>xX u0 hn⟩
   ·rw [hb] at h2;injection h2 with h2
    injection h2 with h2 _ _
    subst h2;rw [Array.getElem?_setIfInBounds_ne (by omega)]
   ·have:n < cur.size:=by omega
    simp [this]
  ·obtain ⟨g,dy,cur',w',aC,du,zj,hg,kB,sL,bM,hold,fq,cq⟩:=CD (P:=P) (w:=w) (ty:=ty) (c:=cy) hu gO hz bF eT gL (A:=some ⟨b0,0,none⟩) (n:=n) (cap:=cap) (olds:=cur.toList.take n) (fun h=>by cases h) (by simp;omega) (fun a0 h0 j u hj=>by
    injection h0 with h0
    subst h0;rw [List.getElem?_take] at hj;split at hj
    ·rw [jk,cell_of_row w b0 _ cur e (0,0) hb];simpa using hj
    ·cases hj) qY (by omega) hn
   refine ⟨g,dy,cur',w',aC,.inl du,hg,bM,kB,sL,fun ld _ h2 j hj=>?_,fq,cq.os,cq.tape,cq.output,cq.size,fun b aq _=>cq.block b aq⟩;rw [hb] at h2;injection h2 with h2
   injection h2 with h2 _ _
   subst h2;rw [hold j hj,List.getElem?_take_of_lt hj,Array.getElem?_toList]
 ·rw [if_pos rfl] at hx;obtain ⟨⟨A,rfl⟩,rfl⟩:=hx;obtain ⟨g,dy,cur',w',aC,du,zj,hg,kB,sL,bM,hold,fq,cq⟩:=CD (P:=P) (w:=w) (ty:=ty) (c:=cy) hu gO hz bF eT gL (A:=A) (n:=0) (cap:=0) (olds:=[]) (fun _=>⟨rfl,rfl⟩) rfl (fun a0 h0 j u hj=>by simp at hj) qY (by omega) hn;exact ⟨g,dy,cur',w',aC,.inl du,hg,bM,kB,sL,fun _ h=>(by cases h),fq,cq.os,cq.tape,cq.output,cq.size,fun b aq _=>cq.block b aq⟩
theorem OwnRow.spare {w w':World} {M:Nat→Nat→Prop} {e sz:Nat} {nl:Bool} {es:List (List AV)} {v:Value} (h:OwnRow w w' M e sz nl es v) (_:0 < sz) (cL:∀ (k:Nat) (x:List AV),es[k]? = some x→x.length=sz∧∀ c∈x,cV c=true) :
  ∃ A n cap,v = .slice A n cap∧n=es.length∧n≤cap∧(0 < cap→∃ g cur,A=some ⟨g,0,none⟩∧w.heap.size≤g∧w'.heap[g]? = some (.cells cur e (0,0))∧cur.size=cap*sz∧cap≤maxLen ∧
   ∀ M':Nat→Nat→Prop,(∀ b j,b < w'.heap.size→b≠g→¬M b j→¬M' b j)→(∀ j,j < n*sz→¬M' g j)→V0 w' M' (.sl sz es) v)∧(cap=0→∀ M',V0 w' M' (.sl sz es) v):=by
 unfold OwnRow at h;split at h
 ·obtain ⟨⟨A,rfl⟩,he⟩:=h;subst he;exact ⟨A,0,0,rfl,rfl,Nat.le_refl _,fun h=>absurd h (Nat.lt_irrefl 0),fun _ M'=>.slNil _ _ _⟩
 ·obtain ⟨g,cap,cur,rfl,h2,h3,h4,h5,h6,h7⟩:=h;have key:∀ M':Nat→Nat→Prop,(∀ b j,b < w'.heap.size→b≠g→¬M b j→¬M' b j)→(∀ j,j < es.length*sz→¬M' g j)→V0 w' M' (.sl sz es) (.slice (some ⟨g,0,none⟩) es.length cap):=fun M' hM hg=>by
   by_cases au:es=[]
   ·subst au;exact .slNil _ _ _
   ·refine .sl sz es cap g 0 (fun k j=>cur.getD (k*sz+j) undef) au (Array.getElem?_eq_some_iff.1 h3).1 (fun k j hk hj=>?_) h5 (fun k x hk=>(cL k x hk).1) (fun k x j c hk hj=>(cL k x hk).2 c (List.mem_of_getElem? hj)) (fun k j hk hj=>?_) fun k x j c hk hj=>?_
    ·have:(k+1)*sz≤es.length*sz:=Nat.mul_le_mul_right _ hk;rw [Nat.add_mul] at this;rw [Nat.zero_add];exact hg _ (by omega)
    ·rw [cell_of_row w' g _ cur e (0,0) h3,Nat.zero_add];have:(k+1)*sz≤cap*sz:=Nat.mul_le_mul_right _ (by omega);rw [Nat.add_mul] at this;have:k*sz+j < cur.size:=by omega
     simp [this]
    ·obtain ⟨u,hu,hv⟩:=h7 k x j c hk hj;have:cur.getD (k*sz+j) undef=u:=by simp [hu]
     rw [this];exact hv.keep (Keeps.refl _ _) fun b j aq hn=>hM b j aq (fun he=>hn (.inr he)) fun hm=>hn (.inl hm)
  refine ⟨_,_,cap,rfl,rfl,h5,fun _=>⟨g,cur,rfl,h2,h3,h4,h6,key⟩,fun h0 M'=>?_⟩;have:es=[]:=List.eq_nil_of_length_eq_zero (by omega);subst this;exact .slNil _ _ _
theorem Rel.pushRow {t ty e e9 id sz d:Nat} {nl wE:Bool} {qs:List (List (List AV))} {q:List (List AV)} {inf:TypeInfo} {z vx v9:Value} {w2:World} {ay:Addr} {cy:Nat} (R:Rel M0 w0 N p st a w) (hd:N.has d) (hi:st.h[id]? = some (some (.bag e sz nl none qs)))
  (hb:Below w.heap.size w w2) (bs:Osl w2 (p id) e 1 nl qs.length vx) (ho:OwnRow w w2 (Mof M0 st.h p) e9 sz wE q v9) (hq:∀ (k:Nat) (x:List AV),q[k]? = some x→x.length=sz∧∀ c∈x,cV c=true)
  (hu:P.underlying t=some (.slice e)) (gO:P.info? e=some inf) (hz:inf.zero=some z) (bF:inf.size=1) (eT:z.cells.size=1) (gL:inf.bytes≤100000) (qY:w2.cell? (ay.add 0)=some v9) (hn:qs.length+1≤1000000000) :
  ∃ v3 w3 p',(Builtin.append_ #[t,t] ty #[vx,.slice (some ay) 1 cy]).run P w2 = .ok v3 w3∧Rel M0 w0 N p' ⟨(d,.osl id)::st.s.map (fun q=>(q.1,purge id q.2)),gG id 0 (st.h.set id (some (.bag e sz false none (qs++[q]))))⟩ (a.put (some d) v3) w3∧∀ i,i≠id→p' i=p i:=by
 obtain ⟨iJ,eb⟩:=R.objs id _ hi;obtain ⟨A9,n9,c9,zk,G1,CF,lH,CG⟩:=ho.spare iJ hq;have jC:nl=false→cp (Ob.bag e sz nl none qs)=true:=fun h=>by subst h;rfl
 have N8:v9.oneCell'=true:=by rw [zk];rfl
 obtain ⟨g,cap,cur,w3,aC,hg,nX,QI,kB,fO,hold,fq,kZ,k6,k7,aL,ca⟩:=N7 (P:=P) (w:=w2) (ty:=ty) (cy:=cy) hu gO hz bF eT gL qY N8 bs hn;have fA:w.heap.size≤g∨(nl=false∧g=p id):=hg.imp (Nat.le_trans hb.size) fun h=>h;have CH:g < w3.heap.size:=(Array.getElem?_eq_some_iff.1 nX).1;have qZ:∀ b,b < w.heap.size→b≠g→w3.heap[b]? = w.heap[b]?:=fun b aq hn=>(ca b (Nat.lt_of_lt_of_le aq hb.size) hn).trans (hb.block b aq);obtain ⟨SN,sM⟩ : ∃ SN:Nat→Nat→Prop,∀ b j,SN b j↔(A9=some ⟨b,0,none⟩∧0 < c9∧n9*sz≤j):=⟨_,fun _ _=>Iff.rfl⟩
 have sO:∀ b j,SN b j→w.heap.size≤b∧b < w2.heap.size:=fun b j h=>by
  obtain ⟨h1,h2,h3⟩:=(sM b j).1 h;obtain ⟨g9,p4,e1,e2,e3,_⟩:=lH h2;rw [h1] at e1;simp only [Option.some.injEq,Addr.mk.injEq] at e1;obtain ⟨rfl,_⟩:=e1;exact ⟨e2,(Array.getElem?_eq_some_iff.1 e3).1⟩
 obtain ⟨p',cS,jt,gx,iq⟩ : ∃ p':Pl,p' id=g∧(∀ i,i≠id→p' i=p i)∧(∀ i,i≠id→p'.S i=p.S i)∧∀ b j,p'.S id b j↔((nl=false∧p.S id b j)∨SN b j):=
  ⟨⟨fun i=>if i=id then g else p i,fun i=>if i=id then fun b j=>(nl=false∧p.S id b j)∨SN b j else p.S i⟩,if_pos rfl,fun i hn=>if_neg hn,fun i hn=>if_neg hn,fun b j=>by simp⟩
 refine ⟨_,w3,p',aC,⟨R.bagPush (p':=p') (qs2:=qs++[q]) hd hi fA cS jt gx (fun b j h=>((iq b j).1 h).imp (fun h=>h) fun h=>(sO b j h).1) (kZ.trans hb.os) (k6.trans hb.tape) (k7.trans hb.output) (Nat.le_trans hb.size aL) (fun b aq hn=>qZ b aq fun he=>?_) (fun keep=>⟨iJ,?_⟩) ?_,jt⟩⟩
 ·rcases fA with h|h
  ·omega
  ·exact hn ⟨h.1,he.trans h.2⟩
 ·rw [if_neg (by simp)];have lI:nl=false→∃ cur0,w.heap[p id]? = some (.cells cur0 e (0,0))∧BagOK w0 w (Mof M0 st.h p) p id e sz none qs∧(∀ j,j < qs.length→cur[j]? = cur0[j]?)∧(∀ (k:Nat) (x:List (List AV)),qs[k]? = some x→∃ v,cur0[k]? = some v∧V0 w (Mof M0 st.h p) (.sl sz x) v∧Spare w p id sz v)∧∀ k k' v v',k < qs.length→k' < qs.length→k≠k'→cur0[k]? = some v→cur0[k']? = some v'→Dist v v':=fun aJ=>by
   rw [if_neg (by simp [aJ])] at eb;have hB:=eb;obtain ⟨b1,b2,cur0,b3,b4,b5,b6⟩:=eb;refine ⟨cur0,b3,hB,fun j hj=>hold cur0 aJ ?_ j hj,fun k x hx=>?_,fun k k' v v' h1 h2 h3 h4 h5=>b6 k k' v v' h1 h2 h3 (by simp) (by simp) h4 h5⟩
   ·rw [hb.block _ (Array.getElem?_eq_some_iff.1 b3).1];exact b3
   ·obtain ⟨v,g1,g2,g3⟩:=b5 k x hx;exact ⟨v,g1,g2,g3 (by simp)⟩
  have dZ:nl=true→qs=[]:=fun aJ=>by rw [if_pos aJ] at eb;exact eb
  have nY:nl=true∨nl=false:=by cases nl<;>simp
  have nZ:nl=false→∀ b j,p.S id b j→Fr w0 b j∧b < w.heap.size:=fun aJ b j hS=>(R.objs id _ hi).own (jC aJ) b j (.inr hS);refine ⟨fun b j hO=>?_,fun j hS=>?_,cur,by rw [cS];exact nX,by rw [List.length_append];simp only [List.length_singleton];omega,fun k x hx=>?_,fun k k' v v' hk dP au _ _ hv bE=>?_⟩
  ·rcases hO with hO|hO
   ·rw [cS] at hO;subst hO;refine ⟨?_,CH⟩;rcases fA with h|⟨aJ,h⟩
    ·exact .inl (Nat.le_trans R.below.size h)
    ·rw [h];exact (R.objs id _ hi).ge (jC aJ) j
   ·rcases (iq b j).1 hO with ⟨aJ,h⟩|h
    ·have:=nZ aJ b j h;exact ⟨this.1,Nat.lt_of_lt_of_le this.2 (Nat.le_trans hb.size aL)⟩
    ·have:=sO b j h;exact ⟨.inl (Nat.le_trans R.below.size this.1),Nat.lt_of_lt_of_le this.2 aL⟩
  ·rw [cS] at hS;rcases (iq g j).1 hS with ⟨aJ,h⟩|h
   ·have h1:=(nZ aJ g j h).2;rcases fA with h2|⟨_,h2⟩
    ·omega
    ·rw [h2] at h;obtain ⟨_,_,hB,_⟩:=lI aJ;exact hB.2.1 j h
   ·have h1:=sO g j h;rcases hg with h2|⟨aJ,h2⟩
    ·omega
    ·have:=(R.objs id _ hi).lt (jC aJ);omega
  ·rcases Nat.lt_or_ge k qs.length with hl|hl
   ·rw [List.getElem?_append_left hl] at hx;rcases nY with aJ|aJ
    ·rw [dZ aJ] at hl;simp at hl
    ·obtain ⟨cur0,_,_,e2,e3,_⟩:=lI aJ;obtain ⟨v,g1,g2,g3⟩:=e3 k x hx;refine ⟨v,by rw [e2 k hl];exact g1,keep g2,fun _=>?_⟩;obtain ⟨A,n,c,q1,q2,q3⟩:=g3;refine ⟨A,n,c,q1,q2,fun aq=>?_⟩;obtain ⟨b,o,cb,tb,r1,r2,r3,r4,r5,r6,r7⟩:=q3 aq;have de:=(Array.getElem?_eq_some_iff.1 r2).1;have xC:b≠g:=fun he=>by
      rcases fA with h|⟨_,h⟩
      ·omega
      ·exact r6 (he.trans h)
     exact ⟨b,o,cb,tb,r1,(qZ b de xC).trans r2,r3,r4,r5,by rw [cS];exact xC,fun j hj=>(iq b j).2 (.inl ⟨aJ,r7 j hj⟩)⟩
   ·rw [List.getElem?_append_right hl] at hx;have oV:k=qs.length:=by
     have:=(List.getElem?_eq_some_iff.1 hx).1;simp at this;omega
    subst oV;simp only [Nat.sub_self,List.getElem?_cons_zero,Option.some.injEq] at hx;subst hx;refine ⟨v9,fq,?_,fun _=>?_⟩
    ·rcases Nat.eq_zero_or_pos c9 with h0|h0
     ·have kV:q=[]:=List.eq_nil_of_length_eq_zero (by omega);have vK:n9=0:=by omega
      rw [zk,kV,vK];exact .slNil _ _ _
     ·obtain ⟨g9,p4,e1,e2,e3,e4,e5,e6⟩:=lH h0;have zl:g9≠g:=fun he=>by
       have:=(Array.getElem?_eq_some_iff.1 e3).1;rcases hg with h2|⟨aJ,h2⟩
       ·omega
       ·have:=(R.objs id _ hi).lt (jC aJ);omega
      refine (e6 (Mof M0 (gG id 0 (st.h.set id (some (.bag e sz false none (qs++[q]))))) p') (fun b j aq G1 hm oM=>?_) fun j hj oM=>?_).keep (.of_blocks aL fun b aq hn=>ca b aq fun he=>hn fun j=>?_) fun _ _ _ h=>h
      ·rcases oM with oM|⟨i,ob,aF,bu,hO⟩
       ·exact hm (.inl oM)
       ·by_cases p5:i=id
        ·subst p5;rcases hO with hO|hO
         ·rw [cS] at hO;rcases hg with h2|⟨aJ,h2⟩
          ·omega
          ·exact hm (.inr ⟨i,_,hi,jC aJ,.inl (by omega)⟩)
         ·rcases (iq b j).1 hO with ⟨aJ,h⟩|h
          ·exact hm (.inr ⟨i,_,hi,jC aJ,.inr h⟩)
          ·obtain ⟨q1,_,_⟩:=(sM b j).1 h;rw [e1] at q1;simp only [Option.some.injEq,Addr.mk.injEq] at q1;exact G1 q1.1.symm
        ·obtain ⟨o0,h1,h2⟩:=G0 aF p5;refine hm (.inr ⟨i,o0,h1,h2.trans bu,?_⟩);rcases hO with hO|hO
         ·exact .inl (by rw [←jt i p5];exact hO)
         ·exact .inr (by rw [←gx i p5];exact hO)
      ·rcases oM with oM|⟨i,ob,aF,bu,hO⟩
       ·exact R.h0 _ _ oM (.inl (Nat.le_trans R.below.size e2))
       ·by_cases p5:i=id
        ·subst p5;rcases hO with hO|hO
         ·rw [cS] at hO;exact zl hO.symm
         ·rcases (iq g9 j).1 hO with ⟨aJ,h⟩|h
          ·have:=(nZ aJ g9 j h).2;omega
          ·have:=((sM g9 j).1 h).2.2;omega
        ·obtain ⟨o0,h1,h2⟩:=G0 aF p5;have:p.O i g9 j:=by
          rcases hO with hO|hO
          ·exact .inl (by rw [←jt i p5];exact hO)
          ·exact .inr (by rw [←gx i p5];exact hO)
         have:=((R.objs i o0 h1).own (h2.trans bu) g9 j this).2;omega
      ·exact .inr ⟨id,_,N6 (List.getElem?_eq_some_iff.1 hi).1,rfl,.inl (by rw [cS,he])⟩
    ·refine ⟨A9,n9,c9,zk,CF,fun aq=>?_⟩;obtain ⟨g9,p4,e1,e2,e3,e4,e5,e6⟩:=lH (by omega);have hQ:=(Array.getElem?_eq_some_iff.1 e3).1;have zl:g9≠g:=fun he=>by
      rcases hg with h2|⟨aJ,h2⟩
      ·omega
      ·have:=(R.objs id _ hi).lt (jC aJ);omega
     exact ⟨g9,0,p4,e9,e1,(ca g9 hQ zl).trans e3,by omega,e5,iJ,by rw [cS];exact zl,fun j hj=>(iq g9 j).2 (.inr ((sM g9 j).2 ⟨e1,by omega,by omega⟩))⟩
  ·have hlen:(qs++[q]).length=qs.length+1:=by simp
   rw [hlen] at hk dP;have aX:∀ (k:Nat) (v:Value),k < qs.length→cur[k]? = some v→Dist v v9:=fun k v hl hv=>by
    rcases nY with aJ|aJ
    ·rw [dZ aJ] at hl;simp at hl
    ·obtain ⟨cur0,_,_,e2,e3,_⟩:=lI aJ;obtain ⟨v2,g1,_,g3⟩:=e3 k _ (List.getElem?_eq_getElem hl);rw [e2 k hl,g1] at hv;obtain rfl:=Option.some.inj hv;intro b o n c b' o' n' c' q1 q2 l1 l2 uf;obtain ⟨A,n1,c1,r1,r2,r3⟩:=g3;rw [q1] at r1;simp only [Value.slice.injEq] at r1;obtain ⟨rfl,rfl,rfl⟩:=r1;obtain ⟨b1,o1,cb,tb,s1,s2,_⟩:=r3 l1;simp only [Option.some.injEq,Addr.mk.injEq] at s1;obtain ⟨rfl,_⟩:=s1;have h1:=(Array.getElem?_eq_some_iff.1 s2).1;rw [zk] at q2;simp only [Value.slice.injEq] at q2;obtain ⟨q2,rfl,rfl⟩:=q2;obtain ⟨g9,p4,e1,e2,_⟩:=lH (by omega);rw [q2] at e1;simp only [Option.some.injEq,Addr.mk.injEq] at e1;omega
   rcases Nat.lt_or_ge k qs.length with hl|hl<;>rcases Nat.lt_or_ge k' qs.length with bp|bp
   ·rcases nY with aJ|aJ
    ·rw [dZ aJ] at hl;simp at hl
    ·obtain ⟨cur0,_,_,e2,_,e4⟩:=lI aJ;rw [e2 k hl] at hv;rw [e2 k' bp] at bE;exact e4 k k' v v' hl bp au hv bE
   ·have:k'=qs.length:=by omega
    subst this;rw [fq] at bE;obtain rfl:=Option.some.inj bE;exact aX k v hl hv
   ·have:k=qs.length:=by omega
    subst this;rw [fq] at hv;obtain rfl:=Option.some.inj hv;exact (aX k' v' bp bE).symm
   ·omega
 ·unfold Osl;rw [if_neg (by simp)];exact ⟨cap,cur,by simp,nX,by omega,by rw [List.length_append];exact kB,fO⟩
end
section
variable {P:Program} {M0:Nat→Nat→Prop} {w0:Bas} {N:Nm} {p:Pl} {st:VS} {a:Act} {w:World} {Q:Exit→VS→Prop}
theorem N9 {id:Nat} {l:List Oper} (n:Nat) (ow:List Nat) (bj:Nat→Bool) (S2:VS) (T:Pl→Act→World→Nat→Value→World→Prop) (hm:P.follows .mixedOrders=true) (hB:Region.specB l.toArray n=true)
  (hT:∀ p a w i v w1 w2,T p a w i v w1→Below w1.heap.size w1 w2→T p a w i v w2)
  (h:iE P l bj (l.take n) 0 st fun aK=>
   (∀ p a w,Rel M0 w0 N p st a w→∀ i o,i < n→bj i=true→l[i]? = some o→o.guard=none∧∀ a' w',Below w.heap.size w w' →
    (∀ t∈o.looksAt l.toArray,V1 w' (Mof M0 st.h p) st.h p (lkp aK.s t) (a'.tmps.getD t undef))→(∀ t,(∀ j q,j < n→l[j]? = some q→q.dst≠some t)→a'.tmps.getD t undef=a.tmps.getD t undef) →
    (∀ j q d,j < n→bj j=true→l[j]? = some q→q.dst=some d→Region.waitsFor .any l.toArray i j=true→T p a w j (a'.tmps.getD d undef) w') →
    gives P o a' w' fun v w''=>T p a w i v w''∧Below w'.heap.size w' w'') ∧
   (∀ p a w a' w',Rel M0 w0 N p st a w→Below w.heap.size w w'→Rel M0 w0 N p aK a' w'→(∀ t,(∀ j q,j < n→l[j]? = some q→q.dst≠some t)→a'.tmps.getD t undef=a.tmps.getD t undef) →
    (∀ j q d,j < n→bj j=true→l[j]? = some q→q.dst=some d→T p a w j (a'.tmps.getD d undef) w') →
    ∃ (so:Oper) (d:Nat) (v3:Value) (w3:World) (p2:Pl),l[n]? = some so∧so.guard=none∧so.dst=some d∧(execOp a'.eval so).run P w' = .ok (.value v3) w3∧Rel M0 w0 N p2 S2 (a'.put (some d) v3) w3)∧ef P ow l (l.drop (n+1)) S2 (Q .normal)) :
  VWp P M0 w0 N (.region id l.toArray true) Q st:=fun iS p a w R=>by
 have hN:l.all (cX N)=true:=by simpa [fk] using iS
 obtain ⟨rs,dQ,⟨nN,sG,nO⟩,hP,nP⟩:=rK _ _ _ h;have dm:=hB;simp only [Region.specB,Bool.and_eq_true,decide_eq_true_eq] at dm;obtain ⟨⟨⟨⟨⟨⟨_,aJ⟩,_⟩,_⟩,hd⟩,bh⟩,_⟩:=dm;have eZ:n < l.length:=by simpa using aJ
 have dv:dW (l.take n)=true:=by simpa using hd
 have hlen:(l.take n).length=n:=by simp;omega
 rw [hlen] at dQ;have cn:∀ i,i < n→∀ o,l[i]? = some o→(∀ t∈o.looksAt l.toArray,∀ j,j < n→∀ q,l[j]? = some q→q.dst=some t→Region.waitsFor .any l.toArray i j=true)∧(∀ e∈o.after,Region.binds .any e=true→e.on < i):=by
  intro i hi o ho;have h:=List.all_eq_true.1 bh i (List.mem_range.2 hi);simp only [List.getElem?_toArray,ho,Bool.and_eq_true] at h;refine ⟨fun t ht j hj q hq aE=>?_,fun e he hb=>?_⟩
  ·have h1:=List.all_eq_true.1 (List.all_eq_true.1 h.1 t ht) j (List.mem_range.2 hj);simp only [hq,Option.bind_some,aE,bne_self_eq_false,Bool.false_or] at h1;exact h1
  ·have h1:=Array.all_eq_true'.1 h.2 e he;simp only [hb,Bool.not_true,Bool.false_or,decide_eq_true_eq] at h1;exact h1
 have aq:∀ i j,i < n→Region.waitsFor .any l.toArray i j=true→j < i:=by
  intro i j hi hw;obtain ⟨o,ho,e,he,hb,cA⟩:=Region.waitsFor_spec hw;rw [←cA];exact (cn i hi o (by simpa using ho)).2 e he hb
 have pq:(l.take n).all (cX N)=true:=List.all_eq_true.2 fun q hq=>List.all_eq_true.1 hN q (List.mem_of_mem_take hq);have bb:∀ {i:Nat} {o:Oper},i < n→l[i]? = some o→(l.take n)[i]? = some o:=fun {i o} hi ho=>by rw [List.getElem?_take_of_lt hi];exact ho
 have ff:∀ q∈l.take n,∀ d,q.dst=some d→d < a.tmps.size:=fun q hq d eC=>R.size.lt (fw (List.all_eq_true.1 pq q hq) d eC);have nQ:∀ i,i < n→bj i=true→rs.getD i .any = .any:=fun i hi hc=>by
  have cC:i < l.length:=by omega
  have:=nP i _ (by rw [Nat.zero_add];exact hc) (bb hi (List.getElem?_eq_getElem cC));rw [List.getD_eq_getElem?_getD,this];rfl
 have fI:∀ {vs:Nat→Value} {j d:Nat} {q:Oper},j < n→l[j]? = some q→q.dst=some d→(fill (fun _=>true) vs (l.take n) 0 a).tmps.getD d undef=vs j:=fun {vs j d q} hj hq eC=>by
  rw [zd (l.take n) 0 a d j q dv ff (bb hj hq) eC,Nat.zero_add]
 refine xp n (fun i v w'=>V1 w' (Mof M0 st.h p) st.h p (rs.getD i .any) v∧(bj i=true→T p a w i v w')) hm hB
  (fun i _ v w1 w2 hv hb=>⟨hv.1.later hb,fun hc=>hT _ _ _ _ _ _ _ (hv.2 hc) hb⟩) (fun i hi=>?_) fun vs w' hb hv=>?_
 ·by_cases hc:bj i=true
  ·intro o ho vs w' cq hS;have aM:l[i]? = some o:=by simpa using ho
   obtain ⟨hg,hh⟩:=nN p a w R i o hi hc aM;simp only [Region.wanted,hg,if_true];refine Cf (hh _ w' cq (fun t ht=>?_) (fun t ht=>?_) fun j q d hj sH hq eC hw=>?_) fun v w'' wi=>⟨⟨?_,fun _=>wi.1⟩,wi.2⟩
   ·have R':=R.later cq;by_cases hex:∃ (j:Nat) (q:Oper),(l.take n)[j]? = some q∧q.dst=some t
    ·obtain ⟨j,q,hj,hq⟩:=hex;have eK:j < n:=by have:=(List.getElem?_eq_some_iff.1 hj).1;omega
     have eY:l[j]? = some q:=by rw [List.getElem?_take_of_lt eK] at hj;exact hj
     have hw:=(cn i hi o aM).1 t ht j eK q eY hq;rw [fI eK eY hq,mr (l.take n) rs st t j q (rs.getD j .any) dv hj (by simp [List.getD,show j < rs.length by omega]) hq];exact (hS j eK hw).1
    ·have bm:∀ o∈l.take n,o.dst≠some t:=fun o ho he=>by
      obtain ⟨j,hj⟩:=List.mem_iff_getElem?.1 ho;exact hex ⟨j,o,hj,he⟩
     have e1:=oY (vs:=vs) (l.take n) 0 a t bm ff;rw [e1,lR _ _ _ _ bm];exact R'.slots t
   ·refine oY (l.take n) 0 a t (fun q hq he=>?_) ff;obtain ⟨j,hj⟩:=List.mem_iff_getElem?.1 hq;have eK:j < n:=by have:=(List.getElem?_eq_some_iff.1 hj).1;omega
    exact ht j q eK (by rw [List.getElem?_take_of_lt eK] at hj;exact hj) he
   ·have:=(hS j hj hw).2 sH;have e1:=fI (vs:=vs) hj hq eC;rw [e1];exact this
   ·rw [nQ i hi hc];exact .base _ _ (.any v)
  ·have ie:bj i=false:=by simpa using hc
   refine GC (GB R (Nat.le_of_lt eZ) dv hN (fun i hi o ho t ht j hj q hq aE=>(cn i hi o ho).1 t ht j hj q hq aE) aq dQ i (fun o r ho hr=>(hP i o r (by rw [Nat.zero_add];exact ie) ho hr).1) hi) (fun j v w' hh=>hh.1) fun v w' hh=>⟨hh,fun h=>absurd h hc⟩
 ·obtain ⟨so,ds,v3,w3,p2,h_,mo,mc,aC,R2⟩:=sG p a w _ w' R hb (uI R dv pq (by rw [hlen];exact dQ) hb (by rw [hlen];exact fun i hi=>(hv i hi).1)) (fun t ht=>by
   refine oY (l.take n) 0 a t (fun q hq he=>?_) ff;obtain ⟨j,hj⟩:=List.mem_iff_getElem?.1 hq;have eK:j < n:=by have:=(List.getElem?_eq_some_iff.1 hj).1;omega
   exact ht j q eK (by rw [List.getElem?_take_of_lt eK] at hj;exact hj) he) fun j q d hj sH hq eC=>by
    rw [fI hj hq eC];exact (hv j hj).2 sH
  have iC:(l.drop (n+1)).all (cX N)=true:=List.all_eq_true.2 fun q hq=>List.all_eq_true.1 hN q (List.mem_of_mem_drop hq);have wF:l.drop n=so::l.drop (n+1):=by
   rw [List.drop_eq_getElem_cons eZ];congr 1;rw [List.getElem?_eq_getElem eZ] at h_;exact Option.some.inj h_
  rw [wF];refine wpList_step fun Y Z=>?_;simp only [Region.wanted,mo,if_true];unfold Oper.wp;rw [aC];show Y _ _;rw [mc];exact Z _ _ (mn (ow:=ow) hN (fun p st a w R h=>⟨st,p,R,h⟩) (l.drop (n+1)) p2 _ _ w3 iC R2 nO)
theorem N_ {ops:List Oper} {o:Oper} {K K':VS→Prop} (h:mM P ops o st K) (hk:∀ aK,K aK→K' aK) : mM P ops o st K':=by
 unfold mM zm at h ⊢;split
 ·rename_i hg;rw [hg] at h;obtain ⟨r,h1,h2⟩:=h;exact ⟨r,h1,hk _ h2⟩
 ·rename_i j want hg;rw [hg] at h;simp only at h;split
  ·rename_i b hb;rw [hb] at h;simp only at h;split
   ·rename_i hw;rw [if_pos hw] at h;obtain ⟨r,h1,h2⟩:=h;exact ⟨r,h1,hk _ h2⟩
   ·rename_i hw;rw [if_neg hw] at h;exact hk _ h
  ·rename_i vs hb;rw [hb] at h;exact hk _ h
  ·split at h
   ·rename_i hb1 hb2 _ _ hb;exact absurd hb (by first|exact hb1 _|exact hb2 _)
   ·rename_i hb1 hb2 _ _ hb;exact absurd hb (by first|exact hb1 _|exact hb2 _)
   ·exact h
theorem CI {ops:List Oper} {bj:Nat→Bool} {K K':VS→Prop} : ∀ {l:List Oper} {i:Nat} {T:VS},iE P ops bj l i T K→(∀ T',K T'→K' T')→iE P ops bj l i T K'
 | [],_,_,h,hk=>hk _ h
 | o::l,i,T,h,hk=>by
  unfold iE at h ⊢;split
  ·rename_i hc;rw [if_pos hc] at h;exact CI h hk
  ·rename_i hc;rw [if_neg hc] at h;exact N_ h fun T' ⟨h1,h2⟩=>⟨h1,CI h2 hk⟩
def CJ (id:Nat) : AV→Bool
 | .lit _=>true
 | .ref i _=>i != id
 | _=>false
theorem G2:∀ (s:List (Nat×AV)) (t:Nat),lkp s t = .any∨(t,lkp s t)∈s
 | [],_=>.inl rfl
 | (c,v)::r,t=>by
  simp only [lkp];split
  ·rename_i h;subst h;exact .inr List.mem_cons_self
  ·exact (G2 r t).imp (fun h=>h) fun h=>List.mem_cons_of_mem _ h
theorem G3 (f:Nat→Bool) (g:AV→AV) : ∀ (s:List (Nat×AV)) (t:Nat),lkp ((s.filter fun q=>f q.1).map fun q=>(q.1,g q.2)) t = .any∨(f t=true∧lkp ((s.filter fun q=>f q.1).map fun q=>(q.1,g q.2)) t=lkp (s.map fun q=>(q.1,g q.2)) t)
 | [],_=>.inl rfl
 | (c,v)::r,t=>by
  have ih:=G3 f g r t;by_cases hc:f c=true
  ·rw [List.filter_cons_of_pos (by simpa using hc)];simp only [List.map_cons,lkp];by_cases he:c=t
   ·subst he;simp [hc]
   ·simp only [if_neg he];exact ih
  ·rw [List.filter_cons_of_neg (by simpa using hc)];by_cases he:c=t
   ·subst he;exact .inl (ih.elim (fun h=>h) fun h=>absurd h.1 hc)
   ·simp only [List.map_cons,lkp,if_neg he];exact ih
def sP (l:List Oper) (t:Nat) : Bool:=l.any fun o=>o.dst == some t
theorem Oa {id:Nat} {l:List Oper} (n ic il:Nat) (ow:List Nat) (KS:List (Nat×AV)) {k:FuncId} {args:List AV} {idb e sz dc dl d t t1 e9:Nat} {nl wE:Bool} {q:List (List AV)} {qs:List (List (List AV))} {ti te ti1:TI} {x:Operand} {oc ol oa:Oper} {bJ:Array Operand} {ln:Array TypeId} {callee:Callee}
  (g:VCo P k args e9 sz wE q) (hm:P.follows .mixedOrders=true) (hB:Region.specB l.toArray n=true) (cC:ic < n∧il < n∧ic≠il) (n7:l[ic]? = some oc) (zn:l[il]? = some ol) (G4:l[n]? = some oa)
  (hc:oc.op = .call ⟨callee,bJ,ln⟩∧oc.dst=some dc∧oc.guard=none) (hl:ol.op = .buildSlice t1 1 #[(0,.tmp dc)]∧ol.dst=some dl∧ol.guard=none) (ha:oa.op = .call ⟨.builtin .append,#[x,.tmp dl],#[t,t]⟩∧oa.dst=some d∧oa.guard=none)
  (hw:Region.waitsFor .any l.toArray il ic=true) (aY:aZ P t=some ti) (hk:ti.kind=1∧ti.elem=e) (gv:aZ P e=some te) (CK:te.size=1∧te.zero.length=1∧te.bytes≤100000) (aX:∀ A m c,sg P t1 1 [(0,.lit (.slice A m c))]=some ([.lit (.slice A m c)],ti1))
  (hid:st.h[idb]? = some (some (.bag e sz nl none qs))) (hlen:qs.length+1≤1000000000)
  (h:iE P l (fun i=>i == ic || i == il) (l.take n) 0 st fun T=>T.h=st.h∧qg P (ev T) ⟨callee,bJ,ln⟩=some (k,args)∧args.all (fh 5)=true∧ev T x = .osl idb∧(∀ y∈KS,lkp T.s y.1=y.2∧CJ idb y.2=true) ∧
   ef P ow l (l.drop (n+1)) ⟨(d,.osl idb)::(KS++(st.s.filter fun y=>!sP (l.take n) y.1).map fun y=>(y.1,purge idb y.2)),gG idb 0 (st.h.set idb (some (.bag e sz false none (qs++[q]))))⟩ (Q .normal)) :
  VWp P M0 w0 N (.region id l.toArray true) Q st:=fun iS=>by
 have hN:l.all (cX N)=true:=by simpa [fk] using iS
 obtain ⟨o7,gD,o8⟩:=hc;obtain ⟨xc,hQ,gU⟩:=hl;obtain ⟨Oc,G5,Od⟩:=ha;obtain ⟨kA,rfl⟩:=hk;obtain ⟨Oe,jn,G6⟩:=CK;have hd:N.has d:=fw (List.all_eq_true.1 hN oa (List.mem_of_getElem? G4)) d G5;refine N9 n ow (fun i=>i == ic || i == il) ⟨(d,.osl idb)::(KS++(st.s.filter fun y=>!sP (l.take n) y.1).map fun y=>(y.1,purge idb y.2)),gG idb 0 (st.h.set idb (some (.bag ti.elem sz false none (qs++[q]))))⟩
  (fun p a w i v w'=>if i=ic then OwnRow w w' (Mof M0 st.h p) e9 sz wE q v else ∃ b v9,v = .slice (some ⟨b,0,none⟩) 1 1∧(∃ cur t,w'.heap[b]? = some (.cells cur t (0,0))∧cur[0]? = some v9)∧OwnRow w w' (Mof M0 st.h p) e9 sz wE q v9) hm hB (fun p a w i v w1 w2 hv hb=>?_) ?_ iS
 ·split
  ·rename_i hi;rw [if_pos hi] at hv;exact hv.later hb
  ·rename_i hi;rw [if_neg hi] at hv;obtain ⟨b,v9,h1,⟨cur,t0,h2,h3⟩,h4⟩:=hv;exact ⟨b,v9,h1,⟨cur,t0,(hb.block b (Array.getElem?_eq_some_iff.1 h2).1).trans h2,h3⟩,h4.later hb⟩
 ·refine CI h fun T ⟨hT,cQ,kg,hx,Of,aC⟩=>⟨?_,?_,aC⟩
  ·intro p a w R i o hi ew ho;have bV:i=ic∨i=il:=by simpa using ew
   have Og:∀ {w'},Below w.heap.size w w'→MOK w' (Mof M0 st.h p):=fun hb=>(R.later hb).mok;rcases bV with rfl|rfl
   ·rw [n7] at ho;obtain rfl:=Option.some.inj ho;refine ⟨o8,fun a' w' hb cn hold kk=>?_⟩;obtain ⟨dst,op,ty,pos,after,guard⟩:=oc;simp only at o7 gD o8;subst o7 gD o8;have R':=R.later hb;obtain ⟨lp,aL,cL,eG⟩:=g;obtain ⟨vs,Oh,kO,gI⟩:=xo (P:=P) (a:=a') (w:=w') (M:=Mof M0 st.h p) (h:=st.h) (p:=p) (dst:=some dc) (ty:=ty) (pos:=pos) (after:=after) (guard:=none) (fun y hy=>by
     cases y with
     | tmp t0=>exact cn t0 (List.mem_append_left _ (List.mem_filterMap.2 ⟨.tmp t0,by simpa using hy,rfl⟩))
     | const v=>exact .base _ _ (.lit v)
     | global g=>exact .base _ _ (R'.evalG g)
     | func f=>exact .base _ _ (.lit _)) cQ lp
    unfold gives;rw [Oh];refine (eG w' (Mof M0 st.h p) vs (Og hb) kO fun i b v fo bE=>(gI i b v fo bE).pure 5 (List.all_eq_true.1 kg b (List.mem_of_getElem? fo))).mono ?_;rintro en w2 ⟨v,rfl,hb2,kL⟩;exact ⟨v,rfl,by rw [if_pos rfl];exact kL.base hb.size,hb2⟩
   ·rw [zn] at ho;obtain rfl:=Option.some.inj ho;refine ⟨gU,fun a' w' hb cn hold kk=>?_⟩;have h9:=kk ic oc dc cC.1 (by simp) n7 gD hw;rw [if_pos rfl] at h9;obtain ⟨A,m,c,qX⟩ : ∃ A m c,a'.tmps.getD dc undef = .slice A m c:=by
     unfold OwnRow at h9;split at h9
     ·obtain ⟨⟨A,h5⟩,_⟩:=h9;exact ⟨A,0,0,h5⟩
     ·obtain ⟨g,cap,cur,h5,_⟩:=h9;exact ⟨_,_,_,h5⟩
    obtain ⟨us,aC,bM,_⟩:=vJ (P:=P) (w:=w') (M:=fun _ _=>False) (h:=[]) (p:=p) (t:=t1) (n:=1) (parts:=[(0,.lit (.slice A m c))]) (vals:=#[(0,.slice A m c)]) rfl (fun i a v h1 h2=>by
     cases i with
     | zero=>simp at h1 h2;subst h1;subst h2;exact .base _ _ (.lit _)
     | succ i=>simp at h1) (aX A m c)
    have tL:us=[.slice A m c]:=by
     obtain ⟨g1,_,g3⟩:=bM;match us,g1 with
     | [u],_=>
      have:=(g3 0 _ u rfl rfl).lit_inv;rw [this]
    subst tL;have CL:a'.eval (.tmp dc) = .slice A m c:=qX;unfold gives;simp only [execOp,xc,Sem.run_bind,List.map_toArray,List.map_cons,List.map_nil,CL,aC,Result.andThen_ok,Sem.run_pure];refine ⟨?_,lr _ _⟩;rw [if_neg (Ne.symm cC.2.2)];rw [qX] at h9;exact ⟨_,.slice A m c,rfl,⟨#[.slice A m c],ti1.elem,by simp,rfl⟩,h9.later (lr _ _)⟩
  ·intro p a w a' w' R hb R' hold Oi;have h9:=Oi il ol dl cC.2.1 (by simp) zn hQ;rw [if_neg (Ne.symm cC.2.2)] at h9;obtain ⟨b,v9,e9,⟨cur,t0,bN,mI⟩,ho⟩:=h9;have iR:=R'.eval x;rw [hx] at iR;obtain ⟨Ax,nx,cx,DP,_,bs⟩:=iR.bag_inv;have bs:=bs _ _ _ _ _ (by rw [hT];exact hid);obtain ⟨dd,inf,z,eC,gO,hz,gM,im⟩:=eS gv;have bF:inf.size=1:=by rw [←Oe,im]
   have eT:z.cells.size=1:=by rw [←jn,im,Array.length_toList]
   have ma:inf.bytes≤100000:=by rw [im] at G6;exact G6
   have hu:=lC aY kA;have aL:=g.2.1;obtain ⟨v3,w3,p2,wG,R3,jt⟩:=R.pushRow (ty:=oa.type) (cy:=1) (ay:=⟨b,0,none⟩) hd hid hb bs ho g.2.2.1 hu gO hz bF eT ma (by
    show w'.cell? ⟨b,0,none⟩=some v9;rw [cell_of_row w' b _ cur t0 (0,0) bN];exact mI) hlen
   refine ⟨oa,d,v3,w3,p2,G4,Od,G5,?_,?_⟩
   ·have Oj:a'.eval (.tmp dl) = .slice (some ⟨b,0,none⟩) 1 1:=e9;simp only [execOp,Oc,resolve,invoke,builtin,Sem.run_bind,Sem.run_pure,Result.andThen_ok,List.map_toArray,List.map_cons,List.map_nil,Oj,wG]
   ·have mc:=R'.size.put (v:=v3) hd;have uZ:=R'.size.lt hd;refine ⟨R'.defers,mc,R3.below,R3.m0,R3.x0,fun i=>?_,R3.objs,R3.inj⟩;rw [lu a' d _ i uZ];simp only [lkp];have h3:=R3.slots i;rw [lu a d _ i (R.size.lt hd)] at h3;simp only [lkp] at h3;split
    ·rename_i wH;rw [if_pos wH,if_pos wH] at h3;exact h3
    ·rename_i wH;rw [if_neg wH,if_neg wH] at h3;rcases qq KS ((st.s.filter fun y=>!sP (l.take n) y.1).map fun y=>(y.1,purge idb y.2)) i with h1|h1
     ·rw [h1];rcases G2 KS i with h2|h2
      ·rw [h2];exact .base _ _ (.any _)
      ·obtain ⟨e1,e2⟩:=Of _ h2;have hs:=R'.slots i;simp only at e1;rw [e1] at hs;generalize lkp KS i=av at *;generalize a'.tmps.getD i undef=uv at *;cases av<;>simp only [CJ,Bool.false_eq_true] at e2
       ·rw [hs.lit_inv];exact .base _ _ (.lit _)
       ·have au:=(bne_iff_ne.1 e2)
        cases hs with
        | base _ _ h0=>cases h0
        | ref _ _ eI=>
         rw [←jt _ au];exact .ref _ _ (by rw [hT] at eI;rw [yR];simpa using eI)
     ·rw [h1];rcases G3 (fun t=>!sP (l.take n) t) (purge idb) st.s i with h2|⟨h2,h4⟩
      ·rw [h2];exact .base _ _ (.any _)
      ·rw [h4,hold i fun j q hj hq he=>?_]
       ·exact h3
       ·have:sP (l.take n) i=true:=by
         unfold sP;exact List.any_eq_true.2 ⟨q,List.mem_of_getElem? (by rw [List.getElem?_take_of_lt hj];exact hq),by simpa using he⟩
        rw [this] at h2;cases h2
end
section
variable {P:Program} {M0:Nat→Nat→Prop} {w0:Bas} {N:Nm} {p:Pl} {st:VS} {a:Act} {w:World} {Q:Exit→VS→Prop}
theorem Rel.grows {w':World} {p':Pl} {obs:Hp} (R:Rel M0 w0 N p st a w) (hb:Below w.heap.size w w') (hp:∀ i,i < st.h.length→p' i=p i∧p'.S i=p.S i)
  (hn:∀ (i:Nat) (ob:Ob),obs[i]? = some (some ob)→cp ob=true→∀ x j,p'.O (st.h.length+i) x j→w.heap.size≤x)
  (hi:∀ (i i':Nat) (ob ob':Ob),obs[i]? = some (some ob)→obs[i']? = some (some ob')→cp ob=true→cp ob'=true→∀ x j j',p'.O (st.h.length+i) x j→p'.O (st.h.length+i') x j'→i=i')
  (iQ:∀ (i:Nat) (ob:Ob),obs[i]? = some (some ob)→ObOK w0 w' (Mof M0 (st.h++obs) p') (st.h++obs) p' (st.h.length+i) ob) : Rel M0 w0 N p' ⟨st.s,st.h++obs⟩ a w':=by
 have kc:∀ {i x j},i < st.h.length→(p'.O i x j↔p.O i x j):=fun {i x j} h=>by unfold Pl.O;rw [(hp i h).1,(hp i h).2]
 have dn:∀ {id:Nat} {ob:Ob},(st.h++obs)[id]? = some (some ob)→(id < st.h.length∧st.h[id]? = some (some ob))∨∃ i,id=st.h.length+i∧obs[i]? = some (some ob):=fun {id ob} h=>by
  rcases Nat.lt_or_ge id st.h.length with hl|hl
  ·rw [List.getElem?_append_left hl] at h;exact .inl ⟨hl,h⟩
  ·rw [List.getElem?_append_right hl] at h;exact .inr ⟨id - st.h.length,by omega,h⟩
 have hold:∀ {id:Nat},id < st.h.length→(st.h++obs)[id]? = st.h[id]?:=fun h=>List.getElem?_append_left h;have hM:∀ c j,c < w.heap.size→¬Mof M0 st.h p c j→¬Mof M0 (st.h++obs) p' c j:=fun c j hc ch hm=>by
  rcases hm with hm|⟨id,ob',hid,hl,jS⟩
  ·exact ch (.inl hm)
  ·rcases dn hid with ⟨aq,bA⟩|⟨i,rfl,bA⟩
   ·exact ch (.inr ⟨id,ob',bA,hl,(kc aq).1 jS⟩)
   ·have:=hn i ob' bA hl c j jS;omega
 have hV:∀ {x:AV} {u:Value},V1 w (Mof M0 st.h p) st.h p x u→V1 w' (Mof M0 (st.h++obs) p') (st.h++obs) p' x u:=fun hx=>
  hx.keep (.of_below hb) hM (by simp) (fun id h=>(hp id h).1) (fun id e sz nl es u hid he hv=>by
   rw [hold hid] at he;exact (hv e sz nl es he).below hb) (fun id e sz nl ao qs u hid he hv=>by
   rw [hold hid] at he;exact (hv e sz nl ao qs he).below hb) fun id k sz v hid hs=>hs.keep (fun e sz ao qs he=>by
   rw [hold hid] at he;exact ⟨he,(hp id hid).1,(hp id hid).2,fun b _ _ aq=>hb.block b aq⟩) hb.size
 refine ⟨R.defers,R.size,R.below.later hb,R.m0,R.x0,fun i=>hV (R.slots i),fun id ob' hid=>?_,fun id gR t_ ob2 hid j6 hl bp x j j' hO cw=>?_⟩
 ·rcases dn hid with ⟨aq,bA⟩|⟨i,rfl,bA⟩
  ·exact (R.objs id ob' bA).keep (fun _=>hp id aq) (fun _ b _ _ de=>hb.block b de) hb.size (fun hx=>hx.keep (.of_below hb) hM) fun _ _ _ _ _ hx=>hV hx
  ·exact iQ i ob' bA
 ·rcases dn hid with ⟨aq,qS⟩|⟨i,rfl,qS⟩<;>rcases dn j6 with ⟨g_,bV⟩|⟨i',rfl,bV⟩
  ·exact R.inj id gR _ _ qS bV hl bp x j j' ((kc aq).1 hO) ((kc g_).1 cw)
  ·have h1:=((R.objs id t_ qS).own hl x j ((kc aq).1 hO)).2;have h2:=hn i' ob2 bV bp x j' cw;omega
  ·have h1:=((R.objs gR ob2 bV).own bp x j' ((kc g_).1 cw)).2;have h2:=hn i t_ qS hl x j hO;omega
  ·rw [hi i i' t_ ob2 qS bV hl bp x j j' hO cw]
theorem OwnRow.ob {w':World} {e sz:Nat} {nl:Bool} {es:List (List AV)} {v:Value} {p':Pl} {M M':Nat→Nat→Prop} {h':Hp} {id:Nat} (ho:OwnRow w w' M e sz nl es v) (hw:w0.w.heap.size≤w.heap.size) (aL:0 < sz) (cL:∀ (k:Nat) (x:List AV),es[k]? = some x→x.length=sz∧∀ c∈x,cV c=true)
  (hg:nl=false→∀ g n c,v = .slice (some ⟨g,0,none⟩) n c→p' id=g) (hS:∀ b j,¬p'.S id b j) (hM:nl=false→∀ b j,b < w'.heap.size→b≠p' id→¬M b j→¬M' b j) : ObOK w0 w' M' h' p' id (.arr e sz nl es):=by
 refine ⟨aL,cL,?_⟩;unfold OwnRow at ho;split at ho
 ·rename_i hn;rw [if_pos hn];exact ho.2
 ·rename_i hn;have zo:nl=false:=by cases nl<;>simp at hn ⊢
  rw [if_neg hn];obtain ⟨g,cap,cur,rfl,h2,h3,h4,h5,h6,h7⟩:=ho;have ug:=hg zo g _ _ rfl;refine ⟨⟨fun j=>.inl (by rw [ug];omega),hS⟩,cur,by rw [ug];exact h3,by rw [h4];exact Nat.mul_le_mul_right _ h5,fun k x j c hk hj=>?_⟩;obtain ⟨u,hu,hv⟩:=h7 k x j c hk hj;exact ⟨u,hu,hv.keep (Keeps.refl _ _) fun b j aq hm=>hM zo b j aq (fun he=>hm (.inr (he.trans ug))) fun h=>hm (.inl h)⟩
theorem OwnRow.obL {w':World} {e sz:Nat} {nl:Bool} {es:List (List AV)} {v:Value} {p':Pl} {M M':Nat→Nat→Prop} {h':Hp} {id:Nat} (ho:OwnRow w w' M e sz nl es v) (hw:w0.w.heap.size≤w.heap.size) (aL:0 < sz) (cL:∀ (k:Nat) (x:List AV),es[k]? = some x→x.length=sz∧∀ c∈x,∃ u,c = .lit u∧u.oneCell'=true)
  (hg:nl=false→∀ g n c,v = .slice (some ⟨g,0,none⟩) n c→p' id=g) (hS:∀ b j,¬p'.S id b j) : ObOK w0 w' M' h' p' id (.arr e sz nl es):=by
 refine ⟨aL,fun k x hk=>⟨(cL k x hk).1,fun c hc=>by obtain ⟨u,rfl,hu⟩:=(cL k x hk).2 c hc;exact hu⟩,?_⟩;unfold OwnRow at ho;split at ho
 ·rename_i hn;rw [if_pos hn];exact ho.2
 ·rename_i hn;have zo:nl=false:=by cases nl<;>simp at hn ⊢
  rw [if_neg hn];obtain ⟨g,cap,cur,rfl,h2,h3,h4,h5,h6,h7⟩:=ho;have ug:=hg zo g _ _ rfl;refine ⟨⟨fun j=>.inl (by rw [ug];omega),hS⟩,cur,by rw [ug];exact h3,by rw [h4];exact Nat.mul_le_mul_right _ h5,fun k x j c hk hj=>?_⟩;obtain ⟨u,hu,hv⟩:=h7 k x j c hk hj;obtain ⟨u2,rfl,_⟩:=(cL k x hk).2 c (List.mem_of_getElem? hj);cases hv;exact ⟨_,hu,.lit _⟩
theorem Rel.nilBag (R:Rel M0 w0 N p st a w) {bi j e sz:Nat} {cs:List AV} (hb:st.h[bi]? = some (some (.box cs))) (hj:cs[j]? = some (.lit (.slice none 0 0))) (aL:0 < sz) : Rel M0 w0 N p ⟨st.s,st.h.set bi (some (.box (cs.set j (.osl st.h.length))))++[some (.bag e sz true none [])]⟩ a w:=by
 have de:bi < st.h.length:=(List.getElem?_eq_some_iff.1 hb).1;refine (R.reheap _ (by simp) (fun i ob hi hl=>?_) (fun i e sz nl es cC he=>?_) (fun i e sz nl pe qs cC he=>?_) fun i ob hi au keep=>?_).1
 ·rcases qf hi de with ⟨rfl,rfl⟩|⟨_,bA⟩|⟨rfl,rfl⟩
  ·exact ⟨_,hb,rfl⟩
  ·exact ⟨ob,bA,hl⟩
  ·cases hl
 ·rcases qf he de with ⟨_,h⟩|⟨_,h⟩|⟨h,_⟩
  ·cases h
  ·exact h
  ·omega
 ·rcases qf he de with ⟨_,h⟩|⟨_,h⟩|⟨h,_⟩
  ·cases h
  ·exact h
  ·omega
 ·rcases qf hi de with ⟨rfl,rfl⟩|⟨_,bA⟩|⟨rfl,rfl⟩
  ·obtain ⟨h1,cur,e2,h2,h3,h4,h5⟩:=R.objs i _ hb;refine ⟨h1,cur,e2,h2,by simpa using h3,fun c hc=>?_,fun k c hk=>?_⟩
   ·rcases List.mem_or_eq_of_mem_set hc with h|rfl
    ·exact h4 c h
    ·rfl
   ·rw [List.getElem?_set] at hk;by_cases he:j=k
    ·subst he;have bI:j < cs.length:=(List.getElem?_eq_some_iff.1 hj).1;rw [if_pos rfl,if_pos bI] at hk;simp only [Option.some.injEq] at hk;subst hk;obtain ⟨u,hu,hv⟩:=h5 j _ hj;obtain rfl:=hv.lit_inv;refine ⟨_,hu,.osl _ _ _ _ (by simp) (fun e3 uD uE s5 jg=>?_) fun e3 uD uE DI DJ jg=>?_⟩
     ·rw [List.getElem?_append_right (by simp)] at jg;simp at jg
     ·rw [List.getElem?_append_right (by simp)] at jg;simp at jg;obtain ⟨rfl,rfl,rfl,rfl,rfl⟩:=jg;exact ⟨⟨none,rfl⟩,rfl⟩
    ·rw [if_neg he] at hk;obtain ⟨u,hu,hv⟩:=h5 k c hk;exact ⟨u,hu,keep hv⟩
  ·exact absurd bA au
  ·exact ⟨aL,rfl⟩
theorem Ok {f:FuncId} {args:List AV} {h':Hp} {r:AV} (h:VH P f [] args [] h' r) : VC P f args (jq 5 h' r):=by
 refine ⟨h.1,fun w M vs hM hl hv=>?_⟩;have CM:∀ p b j,¬M b j→¬Mof M [] p b j:=fun p b j hn hm=>hm.elim hn fun ⟨i,ob,hi,_⟩=>by simp at hi
 refine (h.2 w M (fun _ _=>False) ⟨fun _=>0,fun _ _ _=>False⟩ vs hM ⟨fun _ _ h=>h.elim,GOK.keep (X:=M) (Keeps.refl _ _) hM.2 (fun _ _ _ _ h=>h) hM.2⟩ (fun _ _ _ h=>h) hl (fun i a v ha zV=>.base _ _ ((hv i a v ha zV).keep (Keeps.refl _ _) fun b j _ hn=>CM _ b j hn)) (fun k ob hk=>by simp at hk) (fun id gR ob ob' h1=>by simp at h1)).mono ?_;rintro e w' ⟨v,q,rfl,hb,hv,hO,_,_⟩;refine ⟨v,rfl,hb.below fun _ _ h=>h,yP hO (fun b j hm hf=>hf.elim (fun hf=>absurd (hM.1 b j hm) (by simp only at hf;omega)) fun h=>h) (fun b j hm=>.inl hm) 5 r v hv⟩
end
attribute [go_sem] CJ sP
end Go.Proofs.YtoibondihdhnoaaGreatDoor
