/- Texts in one: A row is appended to a row of rows: of every program; no condition. -/
import Derived.Test.YtoibondihdhnoaaGreatDoorFRQ15
import Derived.Test.YtoibondihdhnoaaGreatDoorFRQ50
namespace Go.Proofs.YtoibondihdhnoaaGreatDoor
open Go.RowKit
section
variable {P:Program} {M0:Nat→Nat→Prop} {w0:Bas} {N:Nm} {p:Pl} {st:VS} {a:Act} {w:World}
theorem Rel.bagPush {w':World} {p':Pl} {id g:Nat} {e:TypeId} {sz:Nat} {nl:Bool} {qs qs2:List (List (List AV))} {d:Nat} {A:Option Addr} {n c:Nat} (R:Rel M0 w0 N p st a w) (hd:N.has d) (hi:st.h[id]? = some (some (.bag e sz nl none qs)))
  (hg:w.heap.size≤g∨(nl=false∧g=p id)) (cM:p' id=g) (jj:∀ i,i≠id→p' i=p i) (gg:∀ i,i≠id→p'.S i=p.S i) (tY:∀ b j,p'.S id b j→(nl=false∧p.S id b j)∨w.heap.size≤b)
  (kZ:w'.os=w.os) (k6:w'.tape=w.tape) (k7:w'.output=w.output) (aJ:w.heap.size≤w'.heap.size) (cf:∀ b,b < w.heap.size→¬(nl=false∧b=p id)→w'.heap[b]? = w.heap[b]?)
  (iL:(∀ {x:AV} {u:Value},V0 w (Mof M0 st.h p) x u→V0 w' (Mof M0 (fW id 0 (st.h.set id (some (.bag e sz false none qs2)))) p') x u)→ObOK w0 w' (Mof M0 (fW id 0 (st.h.set id (some (.bag e sz false none qs2)))) p') (fW id 0 (st.h.set id (some (.bag e sz false none qs2)))) p' id (.bag e sz false none qs2))
  (hv:Osl w' g e 1 false qs2.length (.slice A n c)) :
  Rel M0 w0 N p' ⟨(d,.osl id)::st.s.map (fun q=>(q.1,purge id q.2)),fW id 0 (st.h.set id (some (.bag e sz false none qs2)))⟩ (a.put (some d) (.slice A n c)) w':=by
 generalize ft:fW id 0 (st.h.set id (some (.bag e sz false none qs2)))=h' at *;have eB:id < st.h.length:=(List.getElem?_eq_some_iff.1 hi).1;have hlen:h'.length=st.h.length:=by rw [←ft,yO];simp
 have kb:∀ {i x j},i≠id→(p'.O i x j↔p.O i x j):=fun hn=>by unfold Pl.O;rw [jj _ hn,gg _ hn]
 have GO:∀ {x j},p'.O id x j→x < w.heap.size→nl=false∧p.O id x j:=fun {x j} h hx=>by
  rcases h with h|h
  ·rw [cM] at h;rcases hg with hg|⟨aK,hg⟩
   ·omega
   ·exact ⟨aK,.inl (by omega)⟩
  ·rcases tY x j h with h|h
   ·exact ⟨h.1,.inr h.2⟩
   ·omega
 have bB:∀ i o,h'[i]? = some (some o)→(i=id∧o = .bag e sz false none qs2)∨(i≠id∧∃ o0,st.h[i]? = some (some o0)∧b_ o0=b_ o∧((o0=o∧∀ cs,o = .box cs→cs.all (cH id 5)=true)∨∃ cs,o0 = .box cs∧o = .box (cs.map (qG id i))∧cs.all (fun c=>cH id 5 c || tP id c)=true)):=by
  intro i o aG;rw [←ft,vN] at aG;obtain ⟨x,hx,cW⟩:=Option.map_eq_some_iff.1 aG;rw [Nat.zero_add] at cW;rw [List.getElem?_set] at hx;by_cases he:id=i
  ·rw [if_pos he,if_pos (by omega)] at hx;simp only [Option.some.injEq] at hx;subst hx;simp only [jH,Option.some.injEq] at cW;exact .inl ⟨he.symm,cW.symm⟩
  ·rw [if_neg he] at hx;refine .inr ⟨fun h=>he h.symm,?_⟩;cases x with
   | none=>simp [jH] at cW
   | some y=>
    cases y with
    | box cs=>
     simp only [jH] at cW;split at cW
     ·rename_i bz;simp only [Option.some.injEq] at cW;subst cW;exact ⟨_,hx,rfl,.inl ⟨rfl,fun dL hc=>by injection hc with hc;subst hc;exact bz⟩⟩
     ·split at cW
      ·rename_i bz;simp only [Option.some.injEq] at cW;subst cW;exact ⟨_,hx,rfl,.inr ⟨cs,rfl,rfl,bz⟩⟩
      ·cases cW
    | arr e1 s1 n1 l1=>
     simp only [jH,Option.some.injEq] at cW;subst cW;exact ⟨_,hx,rfl,.inl ⟨rfl,fun dL hc=>by cases hc⟩⟩
    | mpo kf kvs=>
     simp only [jH,Option.some.injEq] at cW;subst cW;exact ⟨_,hx,rfl,.inl ⟨rfl,fun dL hc=>by cases hc⟩⟩
    | bag e1 s1 n1 Ng q1=>
     simp only [jH,Option.some.injEq] at cW;subst cW;exact ⟨_,hx,rfl,.inl ⟨rfl,fun dL hc=>by cases hc⟩⟩
 have df:nl=false→b_ (.bag e sz nl none qs)=true:=fun h=>by subst h;rfl
 have hM:∀ c j,c < w.heap.size→¬Mof M0 st.h p c j→¬Mof M0 h' p' c j:=by
  intro c j hc hn hm;rcases hm with hm|⟨i,o,aG,bx,hp⟩
  ·exact hn (.inl hm)
  ·rcases bB i o aG with ⟨rfl,rfl⟩|⟨aq,o0,bp,pG,_⟩
   ·obtain ⟨aK,hO⟩:=GO hp hc;exact hn (.inr ⟨_,_,hi,df aK,hO⟩)
   ·exact hn (.inr ⟨i,o0,bp,pG.trans bx,(kb aq).1 hp⟩)
 have hk:Keeps (Mof M0 st.h p) w w':=.of_blocks aJ fun b dk hn=>cf b dk fun ⟨aK,he⟩=>hn fun j=>.inr ⟨id,_,hi,df aK,.inl he.symm⟩;have aq:∀ i o,i≠id→st.h[i]? = some (some o)→b_ o=true→∀ b j,p.O i b j→b < w.heap.size→w'.heap[b]? = w.heap[b]?:=fun i o hn aG bx b j hO dk=>cf b dk fun ⟨aK,he⟩=>hn (R.inj i id o _ aG hi bx (df aK) b j 0 hO (.inl he.symm));have bI:∀ i o,i≠id→(∀ cs,o≠.box cs)→h'[i]? = some (some o)→st.h[i]? = some (some o):=fun i o hn f_ he=>by
  rcases bB i _ he with ⟨h,_⟩|⟨_,o0,aG,_,⟨rfl,_⟩|⟨cs,_,hb,_⟩⟩
  ·exact absurd h hn
  ·exact aG
  ·exact absurd hb (f_ _)
 have qc:∀ i e sz nl es v,i≠id→h'[i]? = some (some (.arr e sz nl es))→(∀ e sz nl es,st.h[i]? = some (some (.arr e sz nl es))→Osl w (p i) e sz nl es.length v)→Osl w' (p i) e sz nl es.length v:=fun i e sz nl es v hn he hv=>by
  have aG:=bI i _ hn (fun cs h=>by cases h) he;exact (hv _ _ _ _ aG).keep fun aK ak=>aq i _ hn aG (by rw [aK];rfl) _ 0 (.inl rfl) ak
 have B3:∀ i e sz nl aj qs v,i≠id→h'[i]? = some (some (.bag e sz nl aj qs))→(∀ e sz nl aj qs,st.h[i]? = some (some (.bag e sz nl aj qs))→Osl w (p i) e 1 nl qs.length v)→Osl w' (p i) e 1 nl qs.length v:=fun i e sz nl aj qs v hn he hv=>by
  have aG:=bI i _ hn (fun cs h=>by cases h) he;exact (hv _ _ _ _ _ aG).keep fun aK ak=>aq i _ hn aG (by rw [aK];rfl) _ 0 (.inl rfl) ak
 have B4:∀ i k sz v,i≠id→i < st.h.length→Sp w st.h p i k sz v→Sp w' h' p' i k sz v:=fun i k sz v hn _ hs=>hs.keep (fun e sz aj qs he=>by
  have aG:=bI i _ hn (fun cs h=>by cases h) he;exact ⟨aG,jj i hn,gg i hn,aq i _ hn aG rfl⟩) aJ
 have hV:∀ (n:Nat) {x:AV} {u:Value},V1 w (Mof M0 st.h p) st.h p x u→cH id n x=true→V1 w' (Mof M0 h' p') h' p' x u:=fun n x u hx hn=>V1.purge hk hM (by omega) jj qc B3 B4 n x u hx hn;have dj:∀ {x:AV} {u:Value},V0 w (Mof M0 st.h p) x u→V0 w' (Mof M0 h' p') x u:=fun hx=>hx.keep hk hM;have hF:∀ b,b < w.heap.size→¬(∀ j,Fr w0 b j)→w'.heap[b]? = w.heap[b]?:=fun b dk hn=>cf b dk fun ⟨aK,he⟩=>hn fun j=>by rw [he];exact (R.objs id _ hi).ge (df aK) j
 refine ⟨R.defers,R.size.put hd,R.below.blocks kZ k6 k7 aJ hF,R.m0,R.x0,fun i=>?_,fun i o aG=>?_,fun i i' o o' aG bp bx ee x j j' hO cw=>?_⟩
 ·rw [jx a d _ i (R.size.lt hd)];simp only [lkp];split
  ·refine .osl id A n c (by omega) (fun e' bE kC es' he=>?_) fun e' bE kC pe pk he=>?_
   ·rcases bB id _ he with ⟨_,h⟩|⟨h,_⟩
    ·cases h
    ·exact absurd rfl h
   ·rcases bB id _ he with ⟨_,h⟩|⟨h,_⟩
    ·injection h with h1 h2 h3 h4 h5
     subst h1 h2 h3 h4 h5;rw [cM];exact hv
    ·exact absurd rfl h
  ·rcases B2 id st.s i with h|h
   ·rw [h];unfold Go.Proofs.YtoibondihdhnoaaGreatDoor.purge;split
    ·rename_i hn;exact hV 5 (R.slots i) hn
    ·exact .base _ _ (.any _)
   ·rw [h];exact .base _ _ (.any _)
 ·rcases bB i o aG with ⟨rfl,rfl⟩|⟨hn,o0,bp,pG,⟨rfl,jb⟩|⟨cs,rfl,rfl,aD⟩⟩
  ·exact iL dj
  rotate_left
  ·obtain ⟨h1,cur,e,hg,h2,h3,h4⟩:=R.objs i _ bp;refine ⟨by unfold Own;rw [jj i hn,gg i hn];exact h1,cur,e,by rw [jj i hn,aq i _ hn bp rfl _ 0 (.inl rfl) (Array.getElem?_eq_some_iff.1 hg).1];exact hg,by simpa using h2,fun c hc=>?_,fun j c hj=>?_⟩
   ·obtain ⟨c0,kI,rfl⟩:=List.mem_map.1 hc;unfold qG;split
    ·exact h3 c0 kI
    ·rfl
   ·rw [List.getElem?_map] at hj;obtain ⟨c0,lY,rfl⟩:=Option.map_eq_some_iff.1 hj;obtain ⟨u,hu,hv⟩:=h4 j c0 lY;refine ⟨u,hu,?_⟩;unfold qG;split
    ·rename_i bz;exact hV 5 hv bz
    ·rename_i bz;have:=List.all_eq_true.1 aD c0 (List.mem_of_getElem? lY);rw [Bool.or_eq_true] at this;rcases this with h|h
     ·exact absurd h bz
     ·obtain ⟨k,rfl⟩ : ∃ k,c0 = .osl k:=by cases c0<;>first|exact ⟨_,rfl⟩|(simp [tP] at h;done)
      obtain ⟨A2,n2,c2,rfl,_,_⟩:=hv.osl_inv;refine .osl _ _ _ _ (by rw [hlen];exact (List.getElem?_eq_some_iff.1 bp).1) (fun e sz nl es he=>?_) fun e sz nl pe qs he=>?_
      ·rw [aG] at he;cases he
      ·rw [aG] at he;cases he
  ·exact (R.objs i o0 bp).keep (fun _=>⟨jj i hn,gg i hn⟩) (fun bx b j hO dk=>aq i o0 hn bp bx b j hO dk) aJ dj fun cs ca c hc u hx=>hV 5 hx (List.all_eq_true.1 (jb cs ca) c hc)
 ·have ak:∀ i o,i≠id→st.h[i]? = some (some o)→b_ o=true→∀ x j j',p.O i x j→¬p'.O id x j':=by
   intro i o hn h1 hl x j j' hO he;obtain ⟨aK,cw⟩:=GO he ((R.objs i o h1).own hl x j hO).2;exact hn (R.inj i id o _ h1 hi hl (df aK) x j j' hO cw)
  rcases bB i o aG with ⟨rfl,rfl⟩|⟨hn,o1,h1,e1,_⟩<;>rcases bB i' o' bp with ⟨rfl,rfl⟩|⟨lp,o2,h2,e2,_⟩
  ·rfl
  ·exact absurd hO (ak i' o2 lp h2 (e2.trans ee) x j' j ((kb lp).1 cw))
  ·exact absurd cw (ak i o1 hn h1 (e1.trans bx) x j j' ((kb hn).1 hO))
  ·exact R.inj i i' o1 o2 h1 h2 (e1.trans bx) (e2.trans ee) x j j' ((kb hn).1 hO) ((kb lp).1 cw)
theorem GP {h:Hp} {id i:Nat} {x:Option Ob} {o:Ob} (aG:(fW id 0 (h.set id x))[i]? = some (some o)) (hn:i≠id) : ∃ o0,h[i]? = some (some o0)∧b_ o0=b_ o:=by
 rw [vN] at aG;obtain ⟨x,hx,cW⟩:=Option.map_eq_some_iff.1 aG;rw [List.getElem?_set_ne (Ne.symm hn)] at hx;cases x with
 | none=>simp [jH] at cW
 | some y=>
  refine ⟨y,hx,?_⟩;cases y with
  | box cs=>
   simp only [jH] at cW;split at cW
   ·simp only [Option.some.injEq] at cW;subst cW;rfl
   ·split at cW
    ·simp only [Option.some.injEq] at cW;subst cW;rfl
    ·cases cW
  | _=>
   simp only [jH,Option.some.injEq] at cW;subst cW;rfl
theorem N3 {h:Hp} {id:Nat} {e sz:Nat} {nl:Bool} {aj:Option Nat} {qs:List (List (List AV))} (hl:id < h.length) : (fW id 0 (h.set id (some (.bag e sz nl aj qs))))[id]? = some (some (.bag e sz nl aj qs)):=by
 rw [vN,List.getElem?_set_self hl];rfl
theorem N4 {w:World} {t ty e:TypeId} {inf:TypeInfo} {z:Value} (hu:P.underlying t=some (.slice e)) (gD:P.info? e=some inf) (hz:inf.zero=some z) (bK:inf.size=1) (gp:z.cells.size=1) (gR:inf.bytes≤100000)
  {ay:Addr} {cy:Nat} {u0:Value} (qP:w.cell? (ay.add 0)=some u0) (wh:u0.oneCell'=true) {nl:Bool} {n b0:Nat} {vx:Value} (hx:Osl w b0 e 1 nl n vx) (hn:n+1≤1000000000) :
  ∃ g dp cur' w',(Builtin.append_ #[t,t] ty #[vx,.slice (some ay) 1 cy]).run P w = .ok (.slice (some ⟨g,0,none⟩) (n+1) dp) w'∧(w.heap.size≤g∨(nl=false∧g=b0))∧w'.heap[g]? = some (.cells cur' e (0,0))∧cur'.size=dp∧n+1≤dp∧dp≤maxLen ∧
   (∀ cur,nl=false→w.heap[b0]? = some (.cells cur e (0,0))→∀ j,j < n→cur'[j]? = cur[j]?)∧cur'[n]? = some u0∧w'.os=w.os∧w'.tape=w.tape∧w'.output=w.output∧w.heap.size≤w'.heap.size∧∀ b,b < w.heap.size→b≠g→w'.heap[b]? = w.heap[b]?:=by
 unfold Osl at hx;cases nl
 ·rw [if_neg (by simp)] at hx;obtain ⟨cap,cur,rfl,hb,aJ,hle,eT⟩:=hx;rw [Nat.mul_one] at aJ;by_cases eY:n+1≤cap
  ·have aB:=run_append_room_cells (P:=P) w t ty e inf hu gD b0 0 n cap ay 1 cy [u0] (by simp [bK]) (fun j u hj=>by
    cases j with
    | zero=>simp at hj;rw [←hj];exact qP
    | succ j=>simp at hj) (by simpa using wh) eY (fun j hj=>by
    obtain rfl:j=0:=by simpa using hj
    rw [bK,cell_of_row w b0 _ cur e (0,0) hb];have:n < cur.size:=by omega
    simpa using this) (fun j hj=>by simp [World.frozen?,hb])
   rw [bK,Nat.mul_one,Nat.zero_add] at aB;refine ⟨b0,cap,_,_,aB,.inr ⟨rfl,rfl⟩,xN u0 hb,by rw [Array.size_setIfInBounds];exact aJ,eY,eT,fun k9 _ h2 j hj=>?_,?_,rfl,rfl,rfl,Nat.le_of_eq (ve w b0 n u0).symm,fun b _ hn=>xO u0 hn⟩
   ·rw [hb] at h2;injection h2 with h2
    injection h2 with h2 _ _
    subst h2;rw [Array.getElem?_setIfInBounds_ne (by omega)]
   ·have:n < cur.size:=by omega
    simp [this]
  ·obtain ⟨g,dp,cur',w',aB,dr,sr,hg,fq,ss,ca,hold,fg,cq⟩:=Cl (P:=P) (w:=w) (ty:=ty) (c:=cy) hu gD hz bK gp gR (A:=some ⟨b0,0,none⟩) (n:=n) (cap:=cap) (olds:=cur.toList.take n) (fun h=>by cases h) (by simp;omega) (fun a0 h0 j u hj=>by
    injection h0 with h0
    subst h0;rw [List.getElem?_take] at hj;split at hj
    ·rw [jv,cell_of_row w b0 _ cur e (0,0) hb];simpa using hj
    ·cases hj) qP (by omega) hn
   refine ⟨g,dp,cur',w',aB,.inl dr,hg,ca,fq,ss,fun k9 _ h2 j hj=>?_,fg,cq.os,cq.tape,cq.output,cq.size,fun b ak _=>cq.block b ak⟩;rw [hb] at h2;injection h2 with h2
   injection h2 with h2 _ _
   subst h2;rw [hold j hj,List.getElem?_take_of_lt hj,Array.getElem?_toList]
 ·rw [if_pos rfl] at hx;obtain ⟨⟨A,rfl⟩,rfl⟩:=hx;obtain ⟨g,dp,cur',w',aB,dr,sr,hg,fq,ss,ca,hold,fg,cq⟩:=Cl (P:=P) (w:=w) (ty:=ty) (c:=cy) hu gD hz bK gp gR (A:=A) (n:=0) (cap:=0) (olds:=[]) (fun _=>⟨rfl,rfl⟩) rfl (fun a0 h0 j u hj=>by simp at hj) qP (by omega) hn;exact ⟨g,dp,cur',w',aB,.inl dr,hg,ca,fq,ss,fun _ h=>(by cases h),fg,cq.os,cq.tape,cq.output,cq.size,fun b ak _=>cq.block b ak⟩
theorem OwnRow.spare {w w':World} {M:Nat→Nat→Prop} {e sz:Nat} {nl:Bool} {es:List (List AV)} {v:Value} (h:OwnRow w w' M e sz nl es v) (_:0 < sz) (cJ:∀ (k:Nat) (x:List AV),es[k]? = some x→x.length=sz∧∀ c∈x,cP c=true) :
  ∃ A n cap,v = .slice A n cap∧n=es.length∧n≤cap∧(0 < cap→∃ g cur,A=some ⟨g,0,none⟩∧w.heap.size≤g∧w'.heap[g]? = some (.cells cur e (0,0))∧cur.size=cap*sz∧cap≤maxLen ∧
   ∀ M':Nat→Nat→Prop,(∀ b j,b < w'.heap.size→b≠g→¬M b j→¬M' b j)→(∀ j,j < n*sz→¬M' g j)→V0 w' M' (.sl sz es) v)∧(cap=0→∀ M',V0 w' M' (.sl sz es) v):=by
 unfold OwnRow at h;split at h
 ·obtain ⟨⟨A,rfl⟩,he⟩:=h;subst he;exact ⟨A,0,0,rfl,rfl,Nat.le_refl _,fun h=>absurd h (Nat.lt_irrefl 0),fun _ M'=>.slNil _ _ _⟩
 ·obtain ⟨g,cap,cur,rfl,h2,h3,h4,h5,h6,h7⟩:=h;have key:∀ M':Nat→Nat→Prop,(∀ b j,b < w'.heap.size→b≠g→¬M b j→¬M' b j)→(∀ j,j < es.length*sz→¬M' g j)→V0 w' M' (.sl sz es) (.slice (some ⟨g,0,none⟩) es.length cap):=fun M' hM hg=>by
   by_cases aq:es=[]
   ·subst aq;exact .slNil _ _ _
   ·refine .sl sz es cap g 0 (fun k j=>cur.getD (k*sz+j) undef) aq (Array.getElem?_eq_some_iff.1 h3).1 (fun k j hk hj=>?_) h5 (fun k x hk=>(cJ k x hk).1) (fun k x j c hk hj=>(cJ k x hk).2 c (List.mem_of_getElem? hj)) (fun k j hk hj=>?_) fun k x j c hk hj=>?_
    ·have:(k+1)*sz≤es.length*sz:=Nat.mul_le_mul_right _ hk;rw [Nat.add_mul] at this;rw [Nat.zero_add];exact hg _ (by omega)
    ·rw [cell_of_row w' g _ cur e (0,0) h3,Nat.zero_add];have:(k+1)*sz≤cap*sz:=Nat.mul_le_mul_right _ (by omega);rw [Nat.add_mul] at this;have:k*sz+j < cur.size:=by omega
     simp [this]
    ·obtain ⟨u,hu,hv⟩:=h7 k x j c hk hj;have:cur.getD (k*sz+j) undef=u:=by simp [hu]
     rw [this];exact hv.keep (Keeps.refl _ _) fun b j ak hn=>hM b j ak (fun he=>hn (.inr he)) fun hm=>hn (.inl hm)
  refine ⟨_,_,cap,rfl,rfl,h5,fun _=>⟨g,cur,rfl,h2,h3,h4,h6,key⟩,fun h0 M'=>?_⟩;have:es=[]:=List.eq_nil_of_length_eq_zero (by omega);subst this;exact .slNil _ _ _
theorem Rel.pushRow {t ty e e9 id sz d:Nat} {nl wy:Bool} {qs:List (List (List AV))} {q:List (List AV)} {inf:TypeInfo} {z vx v9:Value} {w2:World} {ay:Addr} {cy:Nat} (R:Rel M0 w0 N p st a w) (hd:N.has d) (hi:st.h[id]? = some (some (.bag e sz nl none qs)))
  (hb:Below w.heap.size w w2) (br:Osl w2 (p id) e 1 nl qs.length vx) (ho:OwnRow w w2 (Mof M0 st.h p) e9 sz wy q v9) (hq:∀ (k:Nat) (x:List AV),q[k]? = some x→x.length=sz∧∀ c∈x,cP c=true)
  (hu:P.underlying t=some (.slice e)) (gD:P.info? e=some inf) (hz:inf.zero=some z) (bK:inf.size=1) (gp:z.cells.size=1) (gR:inf.bytes≤100000) (qP:w2.cell? (ay.add 0)=some v9) (hn:qs.length+1≤1000000000) :
  ∃ v3 w3 p',(Builtin.append_ #[t,t] ty #[vx,.slice (some ay) 1 cy]).run P w2 = .ok v3 w3∧Rel M0 w0 N p' ⟨(d,.osl id)::st.s.map (fun q=>(q.1,purge id q.2)),fW id 0 (st.h.set id (some (.bag e sz false none (qs++[q]))))⟩ (a.put (some d) v3) w3∧∀ i,i≠id→p' i=p i:=by
 obtain ⟨iD,dS⟩:=R.objs id _ hi;obtain ⟨A9,n9,c9,zc,GQ,Cm,lE,Cn⟩:=ho.spare iD hq;have jt:nl=false→b_ (Ob.bag e sz nl none qs)=true:=fun h=>by subst h;rfl
 have N5:v9.oneCell'=true:=by rw [zc];rfl
 obtain ⟨g,cap,cur,w3,aB,hg,tZ,Ro,fq,eT,hold,fg,kZ,k6,k7,aJ,cf⟩:=N4 (P:=P) (w:=w2) (ty:=ty) (cy:=cy) hu gD hz bK gp gR qP N5 br hn;have fR:w.heap.size≤g∨(nl=false∧g=p id):=hg.imp (Nat.le_trans hb.size) fun h=>h;have Co:g < w3.heap.size:=(Array.getElem?_eq_some_iff.1 tZ).1;have qQ:∀ b,b < w.heap.size→b≠g→w3.heap[b]? = w.heap[b]?:=fun b ak hn=>(cf b (Nat.lt_of_lt_of_le ak hb.size) hn).trans (hb.block b ak);obtain ⟨SN,su⟩ : ∃ SN:Nat→Nat→Prop,∀ b j,SN b j↔(A9=some ⟨b,0,none⟩∧0 < c9∧n9*sz≤j):=⟨_,fun _ _=>Iff.rfl⟩
 have sw:∀ b j,SN b j→w.heap.size≤b∧b < w2.heap.size:=fun b j h=>by
  obtain ⟨h1,h2,h3⟩:=(su b j).1 h;obtain ⟨g9,pS,e1,e2,e3,_⟩:=lE h2;rw [h1] at e1;simp only [Option.some.injEq,Addr.mk.injEq] at e1;obtain ⟨rfl,_⟩:=e1;exact ⟨e2,(Array.getElem?_eq_some_iff.1 e3).1⟩
 obtain ⟨p',cM,jj,gg,g_⟩ : ∃ p':Pl,p' id=g∧(∀ i,i≠id→p' i=p i)∧(∀ i,i≠id→p'.S i=p.S i)∧∀ b j,p'.S id b j↔((nl=false∧p.S id b j)∨SN b j):=
  ⟨⟨fun i=>if i=id then g else p i,fun i=>if i=id then fun b j=>(nl=false∧p.S id b j)∨SN b j else p.S i⟩,if_pos rfl,fun i hn=>if_neg hn,fun i hn=>if_neg hn,fun b j=>by simp⟩
 refine ⟨_,w3,p',aB,⟨R.bagPush (p':=p') (qs2:=qs++[q]) hd hi fR cM jj gg (fun b j h=>((g_ b j).1 h).imp (fun h=>h) fun h=>(sw b j h).1) (kZ.trans hb.os) (k6.trans hb.tape) (k7.trans hb.output) (Nat.le_trans hb.size aJ) (fun b ak hn=>qQ b ak fun he=>?_) (fun keep=>⟨iD,?_⟩) ?_,jj⟩⟩
 ·rcases fR with h|h
  ·omega
  ·exact hn ⟨h.1,he.trans h.2⟩
 ·rw [if_neg (by simp)];have lF:nl=false→∃ cur0,w.heap[p id]? = some (.cells cur0 e (0,0))∧BagOK w0 w (Mof M0 st.h p) p id e sz none qs∧(∀ j,j < qs.length→cur[j]? = cur0[j]?)∧(∀ (k:Nat) (x:List (List AV)),qs[k]? = some x→∃ v,cur0[k]? = some v∧V0 w (Mof M0 st.h p) (.sl sz x) v∧Spare w p id sz v)∧∀ k k' v v',k < qs.length→k' < qs.length→k≠k'→cur0[k]? = some v→cur0[k']? = some v'→Dist v v':=fun aK=>by
   rw [if_neg (by simp [aK])] at dS;have hB:=dS;obtain ⟨b1,b2,cur0,b3,b4,b5,b6⟩:=dS;refine ⟨cur0,b3,hB,fun j hj=>hold cur0 aK ?_ j hj,fun k x hx=>?_,fun k k' v v' h1 h2 h3 h4 h5=>b6 k k' v v' h1 h2 h3 (by simp) (by simp) h4 h5⟩
   ·rw [hb.block _ (Array.getElem?_eq_some_iff.1 b3).1];exact b3
   ·obtain ⟨v,g1,g2,g3⟩:=b5 k x hx;exact ⟨v,g1,g2,g3 (by simp)⟩
  have dE:nl=true→qs=[]:=fun aK=>by rw [if_pos aK] at dS;exact dS
  have nP:nl=true∨nl=false:=by cases nl<;>simp
  have nQ:nl=false→∀ b j,p.S id b j→Fr w0 b j∧b < w.heap.size:=fun aK b j hS=>(R.objs id _ hi).own (jt aK) b j (.inr hS);refine ⟨fun b j hO=>?_,fun j hS=>?_,cur,by rw [cM];exact tZ,by rw [List.length_append];simp only [List.length_singleton];omega,fun k x hx=>?_,fun k k' v v' hk dH aq _ _ hv bF=>?_⟩
  ·rcases hO with hO|hO
   ·rw [cM] at hO;subst hO;refine ⟨?_,Co⟩;rcases fR with h|⟨aK,h⟩
    ·exact .inl (Nat.le_trans R.below.size h)
    ·rw [h];exact (R.objs id _ hi).ge (jt aK) j
   ·rcases (g_ b j).1 hO with ⟨aK,h⟩|h
    ·have:=nQ aK b j h;exact ⟨this.1,Nat.lt_of_lt_of_le this.2 (Nat.le_trans hb.size aJ)⟩
    ·have:=sw b j h;exact ⟨.inl (Nat.le_trans R.below.size this.1),Nat.lt_of_lt_of_le this.2 aJ⟩
  ·rw [cM] at hS;rcases (g_ g j).1 hS with ⟨aK,h⟩|h
   ·have h1:=(nQ aK g j h).2;rcases fR with h2|⟨_,h2⟩
    ·omega
    ·rw [h2] at h;obtain ⟨_,_,hB,_⟩:=lF aK;exact hB.2.1 j h
   ·have h1:=sw g j h;rcases hg with h2|⟨aK,h2⟩
    ·omega
    ·have:=(R.objs id _ hi).lt (jt aK);omega
  ·rcases Nat.lt_or_ge k qs.length with hl|hl
   ·rw [List.getElem?_append_left hl] at hx;rcases nP with aK|aK
    ·rw [dE aK] at hl;simp at hl
    ·obtain ⟨cur0,_,_,e2,e3,_⟩:=lF aK;obtain ⟨v,g1,g2,g3⟩:=e3 k x hx;refine ⟨v,by rw [e2 k hl];exact g1,keep g2,fun _=>?_⟩;obtain ⟨A,n,c,q1,q2,q3⟩:=g3;refine ⟨A,n,c,q1,q2,fun ak=>?_⟩;obtain ⟨b,o,cb,tb,r1,r2,r3,r4,r5,r6,r7⟩:=q3 ak;have dk:=(Array.getElem?_eq_some_iff.1 r2).1;have xv:b≠g:=fun he=>by
      rcases fR with h|⟨_,h⟩
      ·omega
      ·exact r6 (he.trans h)
     exact ⟨b,o,cb,tb,r1,(qQ b dk xv).trans r2,r3,r4,r5,by rw [cM];exact xv,fun j hj=>(g_ b j).2 (.inl ⟨aK,r7 j hj⟩)⟩
   ·rw [List.getElem?_append_right hl] at hx;have oO:k=qs.length:=by
     have:=(List.getElem?_eq_some_iff.1 hx).1;simp at this;omega
    subst oO;simp only [Nat.sub_self,List.getElem?_cons_zero,Option.some.injEq] at hx;subst hx;refine ⟨v9,fg,?_,fun _=>?_⟩
    ·rcases Nat.eq_zero_or_pos c9 with h0|h0
     ·have kV:q=[]:=List.eq_nil_of_length_eq_zero (by omega);have vL:n9=0:=by omega
      rw [zc,kV,vL];exact .slNil _ _ _
     ·obtain ⟨g9,pS,e1,e2,e3,e4,e5,e6⟩:=lE h0;have zd:g9≠g:=fun he=>by
       have:=(Array.getElem?_eq_some_iff.1 e3).1;rcases hg with h2|⟨aK,h2⟩
       ·omega
       ·have:=(R.objs id _ hi).lt (jt aK);omega
      refine (e6 (Mof M0 (fW id 0 (st.h.set id (some (.bag e sz false none (qs++[q]))))) p') (fun b j ak GQ hm qp=>?_) fun j hj qp=>?_).keep (.of_blocks aJ fun b ak hn=>cf b ak fun he=>hn fun j=>?_) fun _ _ _ h=>h
      ·rcases qp with qp|⟨i,ob,aG,bx,hO⟩
       ·exact hm (.inl qp)
       ·by_cases pT:i=id
        ·subst pT;rcases hO with hO|hO
         ·rw [cM] at hO;rcases hg with h2|⟨aK,h2⟩
          ·omega
          ·exact hm (.inr ⟨i,_,hi,jt aK,.inl (by omega)⟩)
         ·rcases (g_ b j).1 hO with ⟨aK,h⟩|h
          ·exact hm (.inr ⟨i,_,hi,jt aK,.inr h⟩)
          ·obtain ⟨q1,_,_⟩:=(su b j).1 h;rw [e1] at q1;simp only [Option.some.injEq,Addr.mk.injEq] at q1;exact GQ q1.1.symm
        ·obtain ⟨o0,h1,h2⟩:=GP aG pT;refine hm (.inr ⟨i,o0,h1,h2.trans bx,?_⟩);rcases hO with hO|hO
         ·exact .inl (by rw [←jj i pT];exact hO)
         ·exact .inr (by rw [←gg i pT];exact hO)
      ·rcases qp with qp|⟨i,ob,aG,bx,hO⟩
       ·exact R.h0 _ _ qp (.inl (Nat.le_trans R.below.size e2))
       ·by_cases pT:i=id
        ·subst pT;rcases hO with hO|hO
         ·rw [cM] at hO;exact zd hO.symm
         ·rcases (g_ g9 j).1 hO with ⟨aK,h⟩|h
          ·have:=(nQ aK g9 j h).2;omega
          ·have:=((su g9 j).1 h).2.2;omega
        ·obtain ⟨o0,h1,h2⟩:=GP aG pT;have:p.O i g9 j:=by
          rcases hO with hO|hO
          ·exact .inl (by rw [←jj i pT];exact hO)
          ·exact .inr (by rw [←gg i pT];exact hO)
         have:=((R.objs i o0 h1).own (h2.trans bx) g9 j this).2;omega
      ·exact .inr ⟨id,_,N3 (List.getElem?_eq_some_iff.1 hi).1,rfl,.inl (by rw [cM,he])⟩
    ·refine ⟨A9,n9,c9,zc,Cm,fun ak=>?_⟩;obtain ⟨g9,pS,e1,e2,e3,e4,e5,e6⟩:=lE (by omega);have fu:=(Array.getElem?_eq_some_iff.1 e3).1;have zd:g9≠g:=fun he=>by
      rcases hg with h2|⟨aK,h2⟩
      ·omega
      ·have:=(R.objs id _ hi).lt (jt aK);omega
     exact ⟨g9,0,pS,e9,e1,(cf g9 fu zd).trans e3,by omega,e5,iD,by rw [cM];exact zd,fun j hj=>(g_ g9 j).2 (.inr ((su g9 j).2 ⟨e1,by omega,by omega⟩))⟩
  ·have hlen:(qs++[q]).length=qs.length+1:=by simp
   rw [hlen] at hk dH;have aP:∀ (k:Nat) (v:Value),k < qs.length→cur[k]? = some v→Dist v v9:=fun k v hl hv=>by
    rcases nP with aK|aK
    ·rw [dE aK] at hl;simp at hl
    ·obtain ⟨cur0,_,_,e2,e3,_⟩:=lF aK;obtain ⟨v2,g1,_,g3⟩:=e3 k _ (List.getElem?_eq_getElem hl);rw [e2 k hl,g1] at hv;obtain rfl:=Option.some.inj hv;intro b o n c b' o' n' c' q1 q2 l1 l2 t_;obtain ⟨A,n1,c1,r1,r2,r3⟩:=g3;rw [q1] at r1;simp only [Value.slice.injEq] at r1;obtain ⟨rfl,rfl,rfl⟩:=r1;obtain ⟨b1,o1,cb,tb,s1,s2,_⟩:=r3 l1;simp only [Option.some.injEq,Addr.mk.injEq] at s1;obtain ⟨rfl,_⟩:=s1;have h1:=(Array.getElem?_eq_some_iff.1 s2).1;rw [zc] at q2;simp only [Value.slice.injEq] at q2;obtain ⟨q2,rfl,rfl⟩:=q2;obtain ⟨g9,pS,e1,e2,_⟩:=lE (by omega);rw [q2] at e1;simp only [Option.some.injEq,Addr.mk.injEq] at e1;omega
   rcases Nat.lt_or_ge k qs.length with hl|hl<;>rcases Nat.lt_or_ge k' qs.length with bn|bn
   ·rcases nP with aK|aK
    ·rw [dE aK] at hl;simp at hl
    ·obtain ⟨cur0,_,_,e2,_,e4⟩:=lF aK;rw [e2 k hl] at hv;rw [e2 k' bn] at bF;exact e4 k k' v v' hl bn aq hv bF
   ·have:k'=qs.length:=by omega
    subst this;rw [fg] at bF;obtain rfl:=Option.some.inj bF;exact aP k v hl hv
   ·have:k=qs.length:=by omega
    subst this;rw [fg] at hv;obtain rfl:=Option.some.inj hv;exact (aP k' v' bn bF).symm
   ·omega
 ·unfold Osl;rw [if_neg (by simp)];exact ⟨cap,cur,by simp,tZ,by omega,by rw [List.length_append];exact fq,eT⟩
end
section
variable {P:Program} {M0:Nat→Nat→Prop} {w0:Bas} {N:Nm} {p:Pl} {st:VS} {a:Act} {w:World} {Q:Exit→VS→Prop}
theorem N6 {id:Nat} {l:List Oper} (n:Nat) (ow:List Nat) (ba:Nat→Bool) (S2:VS) (T:Pl→Act→World→Nat→Value→World→Prop) (hm:P.follows .mixedOrders=true) (hB:Region.specB l.toArray n=true)
  (hT:∀ p a w i v w1 w2,T p a w i v w1→Below w1.heap.size w1 w2→T p a w i v w2)
  (h:iP P l ba (l.take n) 0 st fun aI=>
   (∀ p a w,Rel M0 w0 N p st a w→∀ i o,i < n→ba i=true→l[i]? = some o→o.guard=none∧∀ a' w',Below w.heap.size w w' →
    (∀ t∈o.looksAt l.toArray,V1 w' (Mof M0 st.h p) st.h p (lkp aI.s t) (a'.tmps.getD t undef))→(∀ t,(∀ j q,j < n→l[j]? = some q→q.dst≠some t)→a'.tmps.getD t undef=a.tmps.getD t undef) →
    (∀ j q d,j < n→ba j=true→l[j]? = some q→q.dst=some d→Region.waitsFor .any l.toArray i j=true→T p a w j (a'.tmps.getD d undef) w') →
    gives P o a' w' fun v w''=>T p a w i v w''∧Below w'.heap.size w' w'') ∧
   (∀ p a w a' w',Rel M0 w0 N p st a w→Below w.heap.size w w'→Rel M0 w0 N p aI a' w'→(∀ t,(∀ j q,j < n→l[j]? = some q→q.dst≠some t)→a'.tmps.getD t undef=a.tmps.getD t undef) →
    (∀ j q d,j < n→ba j=true→l[j]? = some q→q.dst=some d→T p a w j (a'.tmps.getD d undef) w') →
    ∃ (so:Oper) (d:Nat) (v3:Value) (w3:World) (p2:Pl),l[n]? = some so∧so.guard=none∧so.dst=some d∧(execOp a'.eval so).run P w' = .ok (.value v3) w3∧Rel M0 w0 N p2 S2 (a'.put (some d) v3) w3)∧dU P ow l (l.drop (n+1)) S2 (Q .normal)) :
  VWp P M0 w0 N (.region id l.toArray true) Q st:=fun jr p a w R=>by
 have hN:l.all (cR N)=true:=by simpa [e_] using jr
 obtain ⟨rs,dW,⟨nM,sj,nN⟩,hP,sk⟩:=s7 _ _ _ h;have dq:=hB;simp only [Region.specB,Bool.and_eq_true,decide_eq_true_eq] at dq;obtain ⟨⟨⟨⟨⟨⟨_,aK⟩,_⟩,_⟩,hd⟩,bh⟩,_⟩:=dq;have fb:n < l.length:=by simpa using aK
 have dw:ea (l.take n)=true:=by simpa using hd
 have hlen:(l.take n).length=n:=by simp;omega
 rw [hlen] at dW;have cG:∀ i,i < n→∀ o,l[i]? = some o→(∀ t∈o.looksAt l.toArray,∀ j,j < n→∀ q,l[j]? = some q→q.dst=some t→Region.waitsFor .any l.toArray i j=true)∧(∀ e∈o.after,Region.binds .any e=true→e.on < i):=by
  intro i hi o ho;have h:=List.all_eq_true.1 bh i (List.mem_range.2 hi);simp only [List.getElem?_toArray,ho,Bool.and_eq_true] at h;refine ⟨fun t ht j hj q hq aH=>?_,fun e he hb=>?_⟩
  ·have h1:=List.all_eq_true.1 (List.all_eq_true.1 h.1 t ht) j (List.mem_range.2 hj);simp only [hq,Option.bind_some,aH,bne_self_eq_false,Bool.false_or] at h1;exact h1
  ·have h1:=Array.all_eq_true'.1 h.2 e he;simp only [hb,Bool.not_true,Bool.false_or,decide_eq_true_eq] at h1;exact h1
 have ak:∀ i j,i < n→Region.waitsFor .any l.toArray i j=true→j < i:=by
  intro i j hi hw;obtain ⟨o,ho,e,he,hb,cL⟩:=Region.waitsFor_spec hw;rw [←cL];exact (cG i hi o (by simpa using ho)).2 e he hb
 have pd:(l.take n).all (cR N)=true:=List.all_eq_true.2 fun q hq=>List.all_eq_true.1 hN q (List.mem_of_mem_take hq);have bf:∀ {i:Nat} {o:Oper},i < n→l[i]? = some o→(l.take n)[i]? = some o:=fun {i o} hi ho=>by rw [List.getElem?_take_of_lt hi];exact ho
 have eS:∀ q∈l.take n,∀ d,q.dst=some d→d < a.tmps.size:=fun q hq d ew=>R.size.lt (dZ (List.all_eq_true.1 pd q hq) d ew);have nO:∀ i,i < n→ba i=true→rs.getD i .any = .any:=fun i hi hc=>by
  have cC:i < l.length:=by omega
  have:=sk i _ (by rw [Nat.zero_add];exact hc) (bf hi (List.getElem?_eq_getElem cC));rw [List.getD_eq_getElem?_getD,this];rfl
 have fE:∀ {vs:Nat→Value} {j d:Nat} {q:Oper},j < n→l[j]? = some q→q.dst=some d→(fill (fun _=>true) vs (l.take n) 0 a).tmps.getD d undef=vs j:=fun {vs j d q} hj hq ew=>by
  rw [y8 (l.take n) 0 a d j q dw eS (bf hj hq) ew,Nat.zero_add]
 refine xh n (fun i v w'=>V1 w' (Mof M0 st.h p) st.h p (rs.getD i .any) v∧(ba i=true→T p a w i v w')) hm hB
  (fun i _ v w1 w2 hv hb=>⟨hv.1.later hb,fun hc=>hT _ _ _ _ _ _ _ (hv.2 hc) hb⟩) (fun i hi=>?_) fun vs w' hb hv=>?_
 ·by_cases hc:ba i=true
  ·intro o ho vs w' cq hS;have aT:l[i]? = some o:=by simpa using ho
   obtain ⟨hg,hh⟩:=nM p a w R i o hi hc aT;simp only [Region.wanted,hg,if_true];refine Ci (hh _ w' cq (fun t ht=>?_) (fun t ht=>?_) fun j q d hj sn hq ew hw=>?_) fun v w'' wv=>⟨⟨?_,fun _=>wv.1⟩,wv.2⟩
   ·have R':=R.later cq;by_cases hex:∃ (j:Nat) (q:Oper),(l.take n)[j]? = some q∧q.dst=some t
    ·obtain ⟨j,q,hj,hq⟩:=hex;have eE:j < n:=by have:=(List.getElem?_eq_some_iff.1 hj).1;omega
     have eM:l[j]? = some q:=by rw [List.getElem?_take_of_lt eE] at hj;exact hj
     have hw:=(cG i hi o aT).1 t ht j eE q eM hq;rw [fE eE eM hq,mW (l.take n) rs st t j q (rs.getD j .any) dw hj (by simp [List.getD,show j < rs.length by omega]) hq];exact (hS j eE hw).1
    ·have bz:∀ o∈l.take n,o.dst≠some t:=fun o ho he=>by
      obtain ⟨j,hj⟩:=List.mem_iff_getElem?.1 ho;exact hex ⟨j,o,hj,he⟩
     have e1:=oQ (vs:=vs) (l.take n) 0 a t bz eS;rw [e1,ml _ _ _ _ bz];exact R'.slots t
   ·refine oQ (l.take n) 0 a t (fun q hq he=>?_) eS;obtain ⟨j,hj⟩:=List.mem_iff_getElem?.1 hq;have eE:j < n:=by have:=(List.getElem?_eq_some_iff.1 hj).1;omega
    exact ht j q eE (by rw [List.getElem?_take_of_lt eE] at hj;exact hj) he
   ·have:=(hS j hj hw).2 sn;have e1:=fE (vs:=vs) hj hq ew;rw [e1];exact this
   ·rw [nO i hi hc];exact .base _ _ (.any v)
  ·have gX:ba i=false:=by simpa using hc
   refine GL (GK R (Nat.le_of_lt fb) dw hN (fun i hi o ho t ht j hj q hq aH=>(cG i hi o ho).1 t ht j hj q hq aH) ak dW i (fun o r ho hr=>(hP i o r (by rw [Nat.zero_add];exact gX) ho hr).1) hi) (fun j v w' hh=>hh.1) fun v w' hh=>⟨hh,fun h=>absurd h hc⟩
 ·obtain ⟨so,ds,v3,w3,p2,iy,oo,mb,aB,R2⟩:=sj p a w _ w' R hb (uE R dw pd (by rw [hlen];exact dW) hb (by rw [hlen];exact fun i hi=>(hv i hi).1)) (fun t ht=>by
   refine oQ (l.take n) 0 a t (fun q hq he=>?_) eS;obtain ⟨j,hj⟩:=List.mem_iff_getElem?.1 hq;have eE:j < n:=by have:=(List.getElem?_eq_some_iff.1 hj).1;omega
   exact ht j q eE (by rw [List.getElem?_take_of_lt eE] at hj;exact hj) he) fun j q d hj sn hq ew=>by
    rw [fE hj hq ew];exact (hv j hj).2 sn
  have ix:(l.drop (n+1)).all (cR N)=true:=List.all_eq_true.2 fun q hq=>List.all_eq_true.1 hN q (List.mem_of_mem_drop hq);have lG:l.drop n=so::l.drop (n+1):=by
   rw [List.drop_eq_getElem_cons fb];congr 1;rw [List.getElem?_eq_getElem fb] at iy;exact Option.some.inj iy
  rw [lG];refine wpList_step fun Y Z=>?_;simp only [Region.wanted,oo,if_true];unfold Oper.wp;rw [aB];show Y _ _;rw [mb];exact Z _ _ (mS (ow:=ow) hN (fun p st a w R h=>⟨st,p,R,h⟩) (l.drop (n+1)) p2 _ _ w3 ix R2 nN)
theorem N7 {ops:List Oper} {o:Oper} {K K':VS→Prop} (h:mF P ops o st K) (hk:∀ aI,K aI→K' aI) : mF P ops o st K':=by
 unfold mF ze at h ⊢;split
 ·rename_i hg;rw [hg] at h;obtain ⟨r,h1,h2⟩:=h;exact ⟨r,h1,hk _ h2⟩
 ·rename_i j want hg;rw [hg] at h;simp only at h;split
  ·rename_i b hb;rw [hb] at h;simp only at h;split
   ·rename_i hw;rw [if_pos hw] at h;obtain ⟨r,h1,h2⟩:=h;exact ⟨r,h1,hk _ h2⟩
   ·rename_i hw;rw [if_neg hw] at h;exact hk _ h
  ·rename_i vs hb;rw [hb] at h;exact hk _ h
  ·split at h
   ·rename_i hb1 hb2 _ _ hb;exact absurd hb (by first|exact hb1 _|exact hb2 _)
   ·rename_i hb1 hb2 _ _ hb;exact absurd hb (by first|exact hb1 _|exact hb2 _)
   ·exact h
theorem Cp {ops:List Oper} {ba:Nat→Bool} {K K':VS→Prop} : ∀ {l:List Oper} {i:Nat} {T:VS},iP P ops ba l i T K→(∀ T',K T'→K' T')→iP P ops ba l i T K'
 | [],_,_,h,hk=>hk _ h
 | o::l,i,T,h,hk=>by
  unfold iP at h ⊢;split
  ·rename_i hc;rw [if_pos hc] at h;exact Cp h hk
  ·rename_i hc;rw [if_neg hc] at h;exact N7 h fun T' ⟨h1,h2⟩=>⟨h1,Cp h2 hk⟩
def Cq (id:Nat) : AV→Bool
 | .lit _=>true
 | .ref i _=>i != id
 | _=>false
theorem GR:∀ (s:List (Nat×AV)) (t:Nat),lkp s t = .any∨(t,lkp s t)∈s
 | [],_=>.inl rfl
 | (c,v)::r,t=>by
  simp only [lkp];split
  ·rename_i h;subst h;exact .inr List.mem_cons_self
  ·exact (GR r t).imp (fun h=>h) fun h=>List.mem_cons_of_mem _ h
theorem GS (f:Nat→Bool) (g:AV→AV) : ∀ (s:List (Nat×AV)) (t:Nat),lkp ((s.filter fun q=>f q.1).map fun q=>(q.1,g q.2)) t = .any∨(f t=true∧lkp ((s.filter fun q=>f q.1).map fun q=>(q.1,g q.2)) t=lkp (s.map fun q=>(q.1,g q.2)) t)
 | [],_=>.inl rfl
 | (c,v)::r,t=>by
  have ih:=GS f g r t;by_cases hc:f c=true
  ·rw [List.filter_cons_of_pos (by simpa using hc)];simp only [List.map_cons,lkp];by_cases he:c=t
   ·subst he;simp [hc]
   ·simp only [if_neg he];exact ih
  ·rw [List.filter_cons_of_neg (by simpa using hc)];by_cases he:c=t
   ·subst he;exact .inl (ih.elim (fun h=>h) fun h=>absurd h.1 hc)
   ·simp only [List.map_cons,lkp,if_neg he];exact ih
def sx (l:List Oper) (t:Nat) : Bool:=l.any fun o=>o.dst == some t
theorem N8 {id:Nat} {l:List Oper} (n ic il:Nat) (ow:List Nat) (KS:List (Nat×AV)) {k:FuncId} {args:List AV} {idb e sz dc dl d t t1 e9:Nat} {nl wy:Bool} {q:List (List AV)} {qs:List (List (List AV))} {ti te ti1:TI} {x:Operand} {oc ol oa:Oper} {bH:Array Operand} {mi:Array TypeId} {callee:Callee}
  (g:VCo P k args e9 sz wy q) (hm:P.follows .mixedOrders=true) (hB:Region.specB l.toArray n=true) (cC:ic < n∧il < n∧ic≠il) (GU:l[ic]? = some oc) (zf:l[il]? = some ol) (GV:l[n]? = some oa)
  (hc:oc.op = .call ⟨callee,bH,mi⟩∧oc.dst=some dc∧oc.guard=none) (hl:ol.op = .buildSlice t1 1 #[(0,.tmp dc)]∧ol.dst=some dl∧ol.guard=none) (ha:oa.op = .call ⟨.builtin .append,#[x,.tmp dl],#[t,t]⟩∧oa.dst=some d∧oa.guard=none)
  (hw:Region.waitsFor .any l.toArray il ic=true) (aV:aU P t=some ti) (hk:ti.kind=1∧ti.elem=e) (fJ:aU P e=some te) (Cr:te.size=1∧te.zero.length=1∧te.bytes≤100000) (aP:∀ A m c,rW P t1 1 [(0,.lit (.slice A m c))]=some ([.lit (.slice A m c)],ti1))
  (hid:st.h[idb]? = some (some (.bag e sz nl none qs))) (hlen:qs.length+1≤1000000000)
  (h:iP P l (fun i=>i == ic || i == il) (l.take n) 0 st fun T=>T.h=st.h∧p_ P (ev T) ⟨callee,bH,mi⟩=some (k,args)∧args.all (fe 5)=true∧ev T x = .osl idb∧(∀ y∈KS,lkp T.s y.1=y.2∧Cq idb y.2=true) ∧
   dU P ow l (l.drop (n+1)) ⟨(d,.osl idb)::(KS++(st.s.filter fun y=>!sx (l.take n) y.1).map fun y=>(y.1,purge idb y.2)),fW idb 0 (st.h.set idb (some (.bag e sz false none (qs++[q]))))⟩ (Q .normal)) :
  VWp P M0 w0 N (.region id l.toArray true) Q st:=fun jr=>by
 have hN:l.all (cR N)=true:=by simpa [e_] using jr
 obtain ⟨sy,fO,oS⟩:=hc;obtain ⟨wY,fu,fL⟩:=hl;obtain ⟨N9,GW,N_⟩:=ha;obtain ⟨ib,rfl⟩:=hk;obtain ⟨Oa,jd,GX⟩:=Cr;have hd:N.has d:=dZ (List.all_eq_true.1 hN oa (List.mem_of_getElem? GV)) d GW;refine N6 n ow (fun i=>i == ic || i == il) ⟨(d,.osl idb)::(KS++(st.s.filter fun y=>!sx (l.take n) y.1).map fun y=>(y.1,purge idb y.2)),fW idb 0 (st.h.set idb (some (.bag ti.elem sz false none (qs++[q]))))⟩
  (fun p a w i v w'=>if i=ic then OwnRow w w' (Mof M0 st.h p) e9 sz wy q v else ∃ b v9,v = .slice (some ⟨b,0,none⟩) 1 1∧(∃ cur t,w'.heap[b]? = some (.cells cur t (0,0))∧cur[0]? = some v9)∧OwnRow w w' (Mof M0 st.h p) e9 sz wy q v9) hm hB (fun p a w i v w1 w2 hv hb=>?_) ?_ jr
 ·split
  ·rename_i hi;rw [if_pos hi] at hv;exact hv.later hb
  ·rename_i hi;rw [if_neg hi] at hv;obtain ⟨b,v9,h1,⟨cur,t0,h2,h3⟩,h4⟩:=hv;exact ⟨b,v9,h1,⟨cur,t0,(hb.block b (Array.getElem?_eq_some_iff.1 h2).1).trans h2,h3⟩,h4.later hb⟩
 ·refine Cp h fun T ⟨hT,cK,nH,hx,Oc,aB⟩=>⟨?_,?_,aB⟩
  ·intro p a w R i o hi ef ho;have bD:i=ic∨i=il:=by simpa using ef
   have Od:∀ {w'},Below w.heap.size w w'→MOK w' (Mof M0 st.h p):=fun hb=>(R.later hb).mok;rcases bD with rfl|rfl
   ·rw [GU] at ho;obtain rfl:=Option.some.inj ho;refine ⟨oS,fun a' w' hb cG hold nR=>?_⟩;obtain ⟨dst,op,ty,pos,after,guard⟩:=oc;simp only at sy fO oS;subst sy fO oS;have R':=R.later hb;obtain ⟨lj,aJ,cJ,eA⟩:=g;obtain ⟨vs,wz,lS,gz⟩:=xg (P:=P) (a:=a') (w:=w') (M:=Mof M0 st.h p) (h:=st.h) (p:=p) (dst:=some dc) (ty:=ty) (pos:=pos) (after:=after) (guard:=none) (fun y hy=>by
     cases y with
     | tmp t0=>exact cG t0 (List.mem_append_left _ (List.mem_filterMap.2 ⟨.tmp t0,by simpa using hy,rfl⟩))
     | const v=>exact .base _ _ (.lit v)
     | global g=>exact .base _ _ (R'.evalG g)
     | func f=>exact .base _ _ (.lit _)) cK lj
    unfold gives;rw [wz];refine (eA w' (Mof M0 st.h p) vs (Od hb) lS fun i b v fI bF=>(gz i b v fI bF).pure 5 (List.all_eq_true.1 nH b (List.mem_of_getElem? fI))).mono ?_;rintro en w2 ⟨v,rfl,hb2,lP⟩;exact ⟨v,rfl,by rw [if_pos rfl];exact lP.base hb.size,hb2⟩
   ·rw [zf] at ho;obtain rfl:=Option.some.inj ho;refine ⟨fL,fun a' w' hb cG hold nR=>?_⟩;have h9:=nR ic oc dc cC.1 (by simp) GU fO hw;rw [if_pos rfl] at h9;obtain ⟨A,m,c,wA⟩ : ∃ A m c,a'.tmps.getD dc undef = .slice A m c:=by
     unfold OwnRow at h9;split at h9
     ·obtain ⟨⟨A,h5⟩,_⟩:=h9;exact ⟨A,0,0,h5⟩
     ·obtain ⟨g,cap,cur,h5,_⟩:=h9;exact ⟨_,_,_,h5⟩
    obtain ⟨us,aB,ca,_⟩:=yL (P:=P) (w:=w') (M:=fun _ _=>False) (h:=[]) (p:=p) (t:=t1) (n:=1) (parts:=[(0,.lit (.slice A m c))]) (vals:=#[(0,.slice A m c)]) rfl (fun i a v h1 h2=>by
     cases i with
     | zero=>simp at h1 h2;subst h1;subst h2;exact .base _ _ (.lit _)
     | succ i=>simp at h1) (aP A m c)
    have tL:us=[.slice A m c]:=by
     obtain ⟨g1,_,g3⟩:=ca;match us,g1 with
     | [u],_=>
      have:=(g3 0 _ u rfl rfl).lit_inv;rw [this]
    subst tL;have Cs:a'.eval (.tmp dc) = .slice A m c:=wA;unfold gives;simp only [execOp,wY,Sem.run_bind,List.map_toArray,List.map_cons,List.map_nil,Cs,aB,Result.andThen_ok,Sem.run_pure];refine ⟨?_,mm _ _⟩;rw [if_neg (Ne.symm cC.2.2)];rw [wA] at h9;exact ⟨_,.slice A m c,rfl,⟨#[.slice A m c],ti1.elem,by simp,rfl⟩,h9.later (mm _ _)⟩
  ·intro p a w a' w' R hb R' hold Oe;have h9:=Oe il ol dl cC.2.1 (by simp) zf fu;rw [if_neg (Ne.symm cC.2.2)] at h9;obtain ⟨b,v9,e9,⟨cur,t0,bL,kI⟩,ho⟩:=h9;have iN:=R'.eval x;rw [hx] at iN;obtain ⟨Ax,nx,cx,DT,_,br⟩:=iN.bag_inv;have br:=br _ _ _ _ _ (by rw [hT];exact hid);obtain ⟨dd,inf,z,ew,gD,hz,iO,gZ⟩:=ff fJ;have bK:inf.size=1:=by rw [←Oa,gZ]
   have gp:z.cells.size=1:=by rw [←jd,gZ,Array.length_toList]
   have l9:inf.bytes≤100000:=by rw [gZ] at GX;exact GX
   have hu:=lA aV ib;have aJ:=g.2.1;obtain ⟨v3,w3,p2,wC,R3,jj⟩:=R.pushRow (ty:=oa.type) (cy:=1) (ay:=⟨b,0,none⟩) hd hid hb br ho g.2.2.1 hu gD hz bK gp l9 (by
    show w'.cell? ⟨b,0,none⟩=some v9;rw [cell_of_row w' b _ cur t0 (0,0) bL];exact kI) hlen
   refine ⟨oa,d,v3,w3,p2,GV,N_,GW,?_,?_⟩
   ·have Of:a'.eval (.tmp dl) = .slice (some ⟨b,0,none⟩) 1 1:=e9;simp only [execOp,N9,resolve,invoke,builtin,Sem.run_bind,Sem.run_pure,Result.andThen_ok,List.map_toArray,List.map_cons,List.map_nil,Of,wC]
   ·have mb:=R'.size.put (v:=v3) hd;have uZ:=R'.size.lt hd;refine ⟨R'.defers,mb,R3.below,R3.m0,R3.x0,fun i=>?_,R3.objs,R3.inj⟩;rw [jx a' d _ i uZ];simp only [lkp];have h3:=R3.slots i;rw [jx a d _ i (R.size.lt hd)] at h3;simp only [lkp] at h3;split
    ·rename_i wD;rw [if_pos wD,if_pos wD] at h3;exact h3
    ·rename_i wD;rw [if_neg wD,if_neg wD] at h3;rcases qh KS ((st.s.filter fun y=>!sx (l.take n) y.1).map fun y=>(y.1,purge idb y.2)) i with h1|h1
     ·rw [h1];rcases GR KS i with h2|h2
      ·rw [h2];exact .base _ _ (.any _)
      ·obtain ⟨e1,e2⟩:=Oc _ h2;have hs:=R'.slots i;simp only at e1;rw [e1] at hs;generalize lkp KS i=av at *;generalize a'.tmps.getD i undef=uv at *;cases av<;>simp only [Cq,Bool.false_eq_true] at e2
       ·rw [hs.lit_inv];exact .base _ _ (.lit _)
       ·have aq:=(bne_iff_ne.1 e2)
        cases hs with
        | base _ _ h0=>cases h0
        | ref _ _ eB=>
         rw [←jj _ aq];exact .ref _ _ (by rw [hT] at eB;rw [yO];simpa using eB)
     ·rw [h1];rcases GS (fun t=>!sx (l.take n) t) (purge idb) st.s i with h2|⟨h2,h4⟩
      ·rw [h2];exact .base _ _ (.any _)
      ·rw [h4,hold i fun j q hj hq he=>?_]
       ·exact h3
       ·have:sx (l.take n) i=true:=by
         unfold sx;exact List.any_eq_true.2 ⟨q,List.mem_of_getElem? (by rw [List.getElem?_take_of_lt hj];exact hq),by simpa using he⟩
        rw [this] at h2;cases h2
end
section
variable {P:Program} {M0:Nat→Nat→Prop} {w0:Bas} {N:Nm} {p:Pl} {st:VS} {a:Act} {w:World} {Q:Exit→VS→Prop}
theorem Rel.grows {w':World} {p':Pl} {obs:Hp} (R:Rel M0 w0 N p st a w) (hb:Below w.heap.size w w') (hp:∀ i,i < st.h.length→p' i=p i∧p'.S i=p.S i)
  (hn:∀ (i:Nat) (ob:Ob),obs[i]? = some (some ob)→b_ ob=true→∀ x j,p'.O (st.h.length+i) x j→w.heap.size≤x)
  (hi:∀ (i i':Nat) (ob ob':Ob),obs[i]? = some (some ob)→obs[i']? = some (some ob')→b_ ob=true→b_ ob'=true→∀ x j j',p'.O (st.h.length+i) x j→p'.O (st.h.length+i') x j'→i=i')
  (iL:∀ (i:Nat) (ob:Ob),obs[i]? = some (some ob)→ObOK w0 w' (Mof M0 (st.h++obs) p') (st.h++obs) p' (st.h.length+i) ob) : Rel M0 w0 N p' ⟨st.s,st.h++obs⟩ a w':=by
 have kb:∀ {i x j},i < st.h.length→(p'.O i x j↔p.O i x j):=fun {i x j} h=>by unfold Pl.O;rw [(hp i h).1,(hp i h).2]
 have c_:∀ {id:Nat} {ob:Ob},(st.h++obs)[id]? = some (some ob)→(id < st.h.length∧st.h[id]? = some (some ob))∨∃ i,id=st.h.length+i∧obs[i]? = some (some ob):=fun {id ob} h=>by
  rcases Nat.lt_or_ge id st.h.length with hl|hl
  ·rw [List.getElem?_append_left hl] at h;exact .inl ⟨hl,h⟩
  ·rw [List.getElem?_append_right hl] at h;exact .inr ⟨id - st.h.length,by omega,h⟩
 have hold:∀ {id:Nat},id < st.h.length→(st.h++obs)[id]? = st.h[id]?:=fun h=>List.getElem?_append_left h;have hM:∀ c j,c < w.heap.size→¬Mof M0 st.h p c j→¬Mof M0 (st.h++obs) p' c j:=fun c j hc cU hm=>by
  rcases hm with hm|⟨id,ob',hid,hl,jN⟩
  ·exact cU (.inl hm)
  ·rcases c_ hid with ⟨ak,bo⟩|⟨i,rfl,bo⟩
   ·exact cU (.inr ⟨id,ob',bo,hl,(kb ak).1 jN⟩)
   ·have:=hn i ob' bo hl c j jN;omega
 have hV:∀ {x:AV} {u:Value},V1 w (Mof M0 st.h p) st.h p x u→V1 w' (Mof M0 (st.h++obs) p') (st.h++obs) p' x u:=fun hx=>
  hx.keep (.of_below hb) hM (by simp) (fun id h=>(hp id h).1) (fun id e sz nl es u hid he hv=>by
   rw [hold hid] at he;exact (hv e sz nl es he).below hb) (fun id e sz nl aj qs u hid he hv=>by
   rw [hold hid] at he;exact (hv e sz nl aj qs he).below hb) fun id k sz v hid hs=>hs.keep (fun e sz aj qs he=>by
   rw [hold hid] at he;exact ⟨he,(hp id hid).1,(hp id hid).2,fun b _ _ ak=>hb.block b ak⟩) hb.size
 refine ⟨R.defers,R.size,R.below.later hb,R.m0,R.x0,fun i=>hV (R.slots i),fun id ob' hid=>?_,fun id gI tT ob2 hid j0 hl bn x j j' hO cw=>?_⟩
 ·rcases c_ hid with ⟨ak,bo⟩|⟨i,rfl,bo⟩
  ·exact (R.objs id ob' bo).keep (fun _=>hp id ak) (fun _ b _ _ dk=>hb.block b dk) hb.size (fun hx=>hx.keep (.of_below hb) hM) fun _ _ _ _ _ hx=>hV hx
  ·exact iL i ob' bo
 ·rcases c_ hid with ⟨ak,mD⟩|⟨i,rfl,mD⟩<;>rcases c_ j0 with ⟨iU,bD⟩|⟨i',rfl,bD⟩
  ·exact R.inj id gI _ _ mD bD hl bn x j j' ((kb ak).1 hO) ((kb iU).1 cw)
  ·have h1:=((R.objs id tT mD).own hl x j ((kb ak).1 hO)).2;have h2:=hn i' ob2 bD bn x j' cw;omega
  ·have h1:=((R.objs gI ob2 bD).own bn x j' ((kb iU).1 cw)).2;have h2:=hn i tT mD hl x j hO;omega
  ·rw [hi i i' tT ob2 mD bD hl bn x j j' hO cw]
theorem OwnRow.ob {w':World} {e sz:Nat} {nl:Bool} {es:List (List AV)} {v:Value} {p':Pl} {M M':Nat→Nat→Prop} {h':Hp} {id:Nat} (ho:OwnRow w w' M e sz nl es v) (hw:w0.w.heap.size≤w.heap.size) (aJ:0 < sz) (cJ:∀ (k:Nat) (x:List AV),es[k]? = some x→x.length=sz∧∀ c∈x,cP c=true)
  (hg:nl=false→∀ g n c,v = .slice (some ⟨g,0,none⟩) n c→p' id=g) (hS:∀ b j,¬p'.S id b j) (hM:nl=false→∀ b j,b < w'.heap.size→b≠p' id→¬M b j→¬M' b j) : ObOK w0 w' M' h' p' id (.arr e sz nl es):=by
 refine ⟨aJ,cJ,?_⟩;unfold OwnRow at ho;split at ho
 ·rename_i hn;rw [if_pos hn];exact ho.2
 ·rename_i hn;have zg:nl=false:=by cases nl<;>simp at hn ⊢
  rw [if_neg hn];obtain ⟨g,cap,cur,rfl,h2,h3,h4,h5,h6,h7⟩:=ho;have ua:=hg zg g _ _ rfl;refine ⟨⟨fun j=>.inl (by rw [ua];omega),hS⟩,cur,by rw [ua];exact h3,by rw [h4];exact Nat.mul_le_mul_right _ h5,fun k x j c hk hj=>?_⟩;obtain ⟨u,hu,hv⟩:=h7 k x j c hk hj;exact ⟨u,hu,hv.keep (Keeps.refl _ _) fun b j ak hm=>hM zg b j ak (fun he=>hm (.inr (he.trans ua))) fun h=>hm (.inl h)⟩
theorem OwnRow.obL {w':World} {e sz:Nat} {nl:Bool} {es:List (List AV)} {v:Value} {p':Pl} {M M':Nat→Nat→Prop} {h':Hp} {id:Nat} (ho:OwnRow w w' M e sz nl es v) (hw:w0.w.heap.size≤w.heap.size) (aJ:0 < sz) (cJ:∀ (k:Nat) (x:List AV),es[k]? = some x→x.length=sz∧∀ c∈x,∃ u,c = .lit u∧u.oneCell'=true)
  (hg:nl=false→∀ g n c,v = .slice (some ⟨g,0,none⟩) n c→p' id=g) (hS:∀ b j,¬p'.S id b j) : ObOK w0 w' M' h' p' id (.arr e sz nl es):=by
 refine ⟨aJ,fun k x hk=>⟨(cJ k x hk).1,fun c hc=>by obtain ⟨u,rfl,hu⟩:=(cJ k x hk).2 c hc;exact hu⟩,?_⟩;unfold OwnRow at ho;split at ho
 ·rename_i hn;rw [if_pos hn];exact ho.2
 ·rename_i hn;have zg:nl=false:=by cases nl<;>simp at hn ⊢
  rw [if_neg hn];obtain ⟨g,cap,cur,rfl,h2,h3,h4,h5,h6,h7⟩:=ho;have ua:=hg zg g _ _ rfl;refine ⟨⟨fun j=>.inl (by rw [ua];omega),hS⟩,cur,by rw [ua];exact h3,by rw [h4];exact Nat.mul_le_mul_right _ h5,fun k x j c hk hj=>?_⟩;obtain ⟨u,hu,hv⟩:=h7 k x j c hk hj;obtain ⟨u2,rfl,_⟩:=(cJ k x hk).2 c (List.mem_of_getElem? hj);cases hv;exact ⟨_,hu,.lit _⟩
theorem Rel.nilBag (R:Rel M0 w0 N p st a w) {bi j e sz:Nat} {cs:List AV} (hb:st.h[bi]? = some (some (.box cs))) (hj:cs[j]? = some (.lit (.slice none 0 0))) (aJ:0 < sz) : Rel M0 w0 N p ⟨st.s,st.h.set bi (some (.box (cs.set j (.osl st.h.length))))++[some (.bag e sz true none [])]⟩ a w:=by
 have dk:bi < st.h.length:=(List.getElem?_eq_some_iff.1 hb).1;refine (R.reheap _ (by simp) (fun i ob hi hl=>?_) (fun i e sz nl es cC he=>?_) (fun i e sz nl pe qs cC he=>?_) fun i ob hi aq keep=>?_).1
 ·rcases p9 hi dk with ⟨rfl,rfl⟩|⟨_,bo⟩|⟨rfl,rfl⟩
  ·exact ⟨_,hb,rfl⟩
  ·exact ⟨ob,bo,hl⟩
  ·cases hl
 ·rcases p9 he dk with ⟨_,h⟩|⟨_,h⟩|⟨h,_⟩
  ·cases h
  ·exact h
  ·omega
 ·rcases p9 he dk with ⟨_,h⟩|⟨_,h⟩|⟨h,_⟩
  ·cases h
  ·exact h
  ·omega
 ·rcases p9 hi dk with ⟨rfl,rfl⟩|⟨_,bo⟩|⟨rfl,rfl⟩
  ·obtain ⟨h1,cur,e2,h2,h3,h4,h5⟩:=R.objs i _ hb;refine ⟨h1,cur,e2,h2,by simpa using h3,fun c hc=>?_,fun k c hk=>?_⟩
   ·rcases List.mem_or_eq_of_mem_set hc with h|rfl
    ·exact h4 c h
    ·rfl
   ·rw [List.getElem?_set] at hk;by_cases he:j=k
    ·subst he;have bM:j < cs.length:=(List.getElem?_eq_some_iff.1 hj).1;rw [if_pos rfl,if_pos bM] at hk;simp only [Option.some.injEq] at hk;subst hk;obtain ⟨u,hu,hv⟩:=h5 j _ hj;obtain rfl:=hv.lit_inv;refine ⟨_,hu,.osl _ _ _ _ (by simp) (fun e3 uy uz sT iZ=>?_) fun e3 uy uz DN DO iZ=>?_⟩
     ·rw [List.getElem?_append_right (by simp)] at iZ;simp at iZ
     ·rw [List.getElem?_append_right (by simp)] at iZ;simp at iZ;obtain ⟨rfl,rfl,rfl,rfl,rfl⟩:=iZ;exact ⟨⟨none,rfl⟩,rfl⟩
    ·rw [if_neg he] at hk;obtain ⟨u,hu,hv⟩:=h5 k c hk;exact ⟨u,hu,keep hv⟩
  ·exact absurd bo aq
  ·exact ⟨aJ,rfl⟩
theorem Og {f:FuncId} {args:List AV} {h':Hp} {r:AV} (h:VH P f [] args [] h' r) : VC P f args (jg 5 h' r):=by
 refine ⟨h.1,fun w M vs hM hl hv=>?_⟩;have sA:∀ p b j,¬M b j→¬Mof M [] p b j:=fun p b j hn hm=>hm.elim hn fun ⟨i,ob,hi,_⟩=>by simp at hi
 refine (h.2 w M (fun _ _=>False) ⟨fun _=>0,fun _ _ _=>False⟩ vs hM ⟨fun _ _ h=>h.elim,GOK.keep (X:=M) (Keeps.refl _ _) hM.2 (fun _ _ _ _ h=>h) hM.2⟩ (fun _ _ _ h=>h) hl (fun i a v ha zS=>.base _ _ ((hv i a v ha zS).keep (Keeps.refl _ _) fun b j _ hn=>sA _ b j hn)) (fun k ob hk=>by simp at hk) (fun id gI ob ob' h1=>by simp at h1)).mono ?_;rintro e w' ⟨v,q,rfl,hb,hv,hO,_,_⟩;refine ⟨v,rfl,hb.below fun _ _ h=>h,yM hO (fun b j hm hf=>hf.elim (fun hf=>absurd (hM.1 b j hm) (by simp only at hf;omega)) fun h=>h) (fun b j hm=>.inl hm) 5 r v hv⟩
end
attribute [go_sem] Cq sx
section
variable {P:Program} {M0 M1:Nat→Nat→Prop} {w0 w1:Bas} {N:Nm} {p:Pl} {st:VS} {a:Act} {w w':World}
def wE (h:Hp) (p:Pl) (b j:Nat) : Prop:=∃ id ob,h[id]? = some (some ob)∧b_ ob=true∧p.O id b j
theorem ObOK.rebase {M:Nat→Nat→Prop} {h:Hp} {id:Nat} {ob:Ob} (ho:ObOK w0 w M h p id ob) (hf:b_ ob=true→∀ b j,p.O id b j→Fr w1 b j) : ObOK w1 w M h p id ob:=by
 have own:b_ ob=true→Own w0 p id→Own w1 p id:=fun hl h1=>⟨fun j=>hf hl _ j (.inl rfl),h1.2⟩
 cases ob with
 | box cs=>exact ⟨own rfl ho.1,ho.2⟩
 | mpo kf kvs=>exact ⟨own rfl ho.1,ho.2⟩
 | arr e sz nl es=>
  cases nl
  ·obtain ⟨h1,h2,h3⟩:=ho;simp only [Bool.false_eq_true,if_false] at h3;exact ⟨h1,h2,by simp only [Bool.false_eq_true,if_false];exact ⟨own rfl h3.1,h3.2⟩⟩
  ·exact ho
 | bag e sz nl aj qs=>
  cases nl
  ·obtain ⟨h1,h3⟩:=ho;simp only [Bool.false_eq_true,if_false] at h3;obtain ⟨g1,g2⟩:=h3;exact ⟨h1,by simp only [Bool.false_eq_true,if_false];exact ⟨fun b j hO=>⟨hf rfl b j hO,(g1 b j hO).2⟩,g2⟩⟩
  ·exact ho
theorem Rel.jump {r:Nat} (R:Rel M1 w1 N p st a w) (aJ:w.heap.size≤w'.heap.size) (hk:∀ b,b < w.heap.size→b≠r→w'.heap[b]? = w.heap[b]?) (hr:∀ j,M1 r j) : Rel M1 ⟨w',wE st.h p⟩ N p st a w':=by
 have oT:Keeps (Mof M1 st.h p) w w':=⟨aJ,fun b hb hM=>hk b hb fun he=>hM 0 (.inl (he▸hr 0)),fun {b o v} hb hM hc=>tx (hk b hb fun he=>hM (.inl (he▸hr o))) hc⟩
 have bP:∀ id ob,st.h[id]? = some (some ob)→b_ ob=true→∀ b j,p.O id b j→b≠r∧b < w.heap.size:=fun id ob hi hl b j hO=>by
  obtain ⟨h1,h2⟩:=(R.objs id ob hi).own hl b j hO;refine ⟨fun he=>?_,h2⟩;subst he;exact R.h0 b j (hr j) h1
 have dj:∀ {x:AV} {u:Value},V0 w (Mof M1 st.h p) x u→V0 w' (Mof M1 st.h p) x u:=fun hx=>hx.keep oT fun b j _ h=>h;have kJ:∀ id ob,st.h[id]? = some (some ob)→b_ ob=true→∀ b j,p.O id b j→w'.heap[b]? = w.heap[b]?:=fun id ob hi hl b j hO=>hk b (bP id ob hi hl b j hO).2 (bP id ob hi hl b j hO).1;have hV:∀ {x:AV} {u:Value},V1 w (Mof M1 st.h p) st.h p x u→V1 w' (Mof M1 st.h p) st.h p x u:=fun hx=>
  hx.keep oT (fun _ _ _ h=>h) (Nat.le_refl _) (fun _ _=>rfl) (fun id e sz nl es v _ he hv=>by
   have h1:=hv e sz nl es he;unfold Osl at h1 ⊢;cases nl
   ·simp only [Bool.false_eq_true,if_false] at h1 ⊢;obtain ⟨cap,cur,q1,q2,q3⟩:=h1;exact ⟨cap,cur,q1,(kJ id _ he rfl (p id) 0 (.inl rfl)).trans q2,q3⟩
   ·exact h1) (fun id e sz nl aj qs v _ he hv=>by
   have h1:=hv e sz nl aj qs he;unfold Osl at h1 ⊢;cases nl
   ·simp only [Bool.false_eq_true,if_false] at h1 ⊢;obtain ⟨cap,cur,q1,q2,q3⟩:=h1;exact ⟨cap,cur,q1,(kJ id _ he rfl (p id) 0 (.inl rfl)).trans q2,q3⟩
   ·exact h1) fun id k sz v _ hs=>hs.keep (fun e sz aj qs he=>⟨he,rfl,rfl,fun b j hO _=>kJ id _ he rfl b j hO⟩) aJ
 have sA:∀ b j,wE st.h p b j→Mof M1 st.h p b j:=fun b j h=>.inr h;refine ⟨R.defers,R.size,Bel.start _,⟨fun b j hm=>Nat.lt_of_lt_of_le (Nat.lt_of_lt_of_le (R.m0.1 b j hm) R.below.size) aJ,GOK.keep oT R.globM (fun _ _ _ h=>h) R.glob⟩,
  ⟨⟨fun b j ⟨id,ob,hi,hl,hO⟩=>Nat.lt_of_lt_of_le (bP id ob hi hl b j hO).2 aJ,GOK.keep oT R.globM (fun b j _ h hx=>h (sA b j hx)) R.globM⟩,fun b j hm ⟨id,ob,hi,hl,hO⟩=>R.h0 b j hm ((R.objs id ob hi).own hl b j hO).1⟩,
  fun i=>hV (R.slots i),fun id ob hi=>?_,R.inj⟩
 refine ObOK.rebase (w0:=w1) ?_ fun hl b j hO=>.inr ⟨id,ob,hi,hl,hO⟩;exact (R.objs id ob hi).keep (fun _=>⟨rfl,rfl⟩) (fun hl b j hO _=>kJ id ob hi hl b j hO) aJ dj fun _ _ _ _ _ hx=>hV hx
theorem Rel.leave (R:Rel M1 w1 N p st a w) (h0:∀ b j,M0 b j→M1 b j) (hb:Bel w0 w1.w) (hX:∀ b j,w1.X b j→Fr w0 b j) (m0:MOK w0.w M0) (x0:MOK w0.w w0.X∧∀ b j,M0 b j→¬w0.X b j) : Rel M0 w0 N p st a w:=by
 have hF:∀ b j,Fr w1 b j→Fr w0 b j:=fun b j h=>h.elim (fun h=>.inl (Nat.le_trans hb.size h)) fun h=>hX b j h;have bz:∀ b j,b < w0.w.heap.size→¬w0.X b j→¬w1.X b j:=fun b j h1 h2 h3=>(hX b j h3).elim (fun h=>by omega) h2;have hM:∀ b j,¬Mof M1 st.h p b j→¬Mof M0 st.h p b j:=fun b j h hm=>h (hm.elim (fun h=>.inl (h0 b j h)) .inr);have dj:∀ {x:AV} {u:Value},V0 w (Mof M1 st.h p) x u→V0 w (Mof M0 st.h p) x u:=fun hx=>hx.keep (Keeps.refl _ _) fun b j _ h=>hM b j h;have hV:∀ {x:AV} {u:Value},V1 w (Mof M1 st.h p) st.h p x u→V1 w (Mof M0 st.h p) st.h p x u:=fun hx=>
  hx.keep (Keeps.refl _ _) (fun b j _ h=>hM b j h) (Nat.le_refl _) (fun _ _=>rfl) (fun id e sz nl es v _ he hv=>hv e sz nl es he) (fun id e sz nl aj qs v _ he hv=>hv e sz nl aj qs he) fun id k sz v _ hs=>hs
 refine ⟨R.defers,R.size,⟨R.below.os.trans hb.os,R.below.tape.trans hb.tape,R.below.output.trans hb.output,⟨Nat.le_trans hb.size R.below.size,fun b ak h=>?_,fun {b o v} ak h hc=>?_⟩⟩,m0,x0,fun i=>hV (R.slots i),fun id ob hi=>?_,R.inj⟩
 ·exact (R.below.keeps.block b (Nat.lt_of_lt_of_le ak hb.size) fun j=>bz b j ak (h j)).trans (hb.keeps.block b ak h)
 ·exact R.below.keeps.cell (Nat.lt_of_lt_of_le ak hb.size) (bz b o ak h) (hb.keeps.cell ak h hc)
 ·refine ObOK.rebase (w0:=w1) ?_ fun hl b j hO=>hF b j ((R.objs id ob hi).own hl b j hO).1;exact (R.objs id ob hi).keep (fun _=>⟨rfl,rfl⟩) (fun _ _ _ _ _=>rfl) (Nat.le_refl _) dj fun _ _ _ _ _ hx=>hV hx
end
section
variable {P:Program} {M0 M1:Nat→Nat→Prop} {w0 w1:Bas} {N:Nm} {p:Pl} {st:VS} {a:Act} {w w':World}
theorem Rel.enter (R:Rel M0 w0 N p st a w) (hb:Below w.heap.size w w') (ak:w.heap.size < w'.heap.size) : Rel (fun b j=>M0 b j∨b=w.heap.size) ⟨w',wE st.h p⟩ N p st a w':=by
 have uC:∀ b j,b < w.heap.size→¬Mof M0 st.h p b j→¬Mof (fun b j=>M0 b j∨b=w.heap.size) st.h p b j:=fun b j hl hn hm=>hm.elim (fun h=>h.elim (fun h=>hn (.inl h)) fun h=>by omega) fun h=>hn (.inr h);have bP:∀ id ob,st.h[id]? = some (some ob)→b_ ob=true→∀ b j,p.O id b j→Fr w0 b j∧b < w.heap.size:=fun id ob hi hl=>(R.objs id ob hi).own hl;have dj:∀ {x:AV} {u:Value},V0 w (Mof M0 st.h p) x u→V0 w' (Mof (fun b j=>M0 b j∨b=w.heap.size) st.h p) x u:=fun hx=>hx.keep (.of_below hb) uC;have hV:∀ {x:AV} {u:Value},V1 w (Mof M0 st.h p) st.h p x u→V1 w' (Mof (fun b j=>M0 b j∨b=w.heap.size) st.h p) st.h p x u:=fun hx=>
  hx.keep (.of_below hb) uC (Nat.le_refl _) (fun _ _=>rfl) (fun id e sz nl es u hid he hv=>(hv e sz nl es he).below hb) (fun id e sz nl aj qs u hid he hv=>(hv e sz nl aj qs he).below hb) fun id k sz v hid hs=>hs.keep (fun e sz aj qs he=>⟨he,rfl,rfl,fun b _ _ ak=>hb.block b ak⟩) hb.size
 have oT:Keeps (Mof M0 st.h p) w w':=.of_below hb;refine ⟨R.defers,R.size,Bel.start _,⟨fun b j hm=>?_,GOK.keep oT R.globM (fun b j hl hn hm=>hm.elim hn fun h=>by omega) R.glob⟩,
  ⟨⟨fun b j ⟨id,ob,hi,hl,hO⟩=>Nat.lt_trans (bP id ob hi hl b j hO).2 ak,GOK.keep oT R.globM (fun b j _ h hx=>h (.inr hx)) R.globM⟩,fun b j hm ⟨id,ob,hi,hl,hO⟩=>?_⟩,
  fun i=>hV (R.slots i),fun id ob hi=>?_,R.inj⟩
 ·rcases hm with hm|rfl
  ·exact Nat.lt_trans (Nat.lt_of_lt_of_le (R.m0.1 b j hm) R.below.size) ak
  ·exact ak
 ·have h1:=bP id ob hi hl b j hO;rcases hm with hm|rfl
  ·exact R.h0 b j hm h1.1
  ·omega
 ·refine ObOK.rebase (w0:=w0) ?_ fun hl b j hO=>.inr ⟨id,ob,hi,hl,hO⟩;exact (R.objs id ob hi).keep (fun _=>⟨rfl,rfl⟩) (fun _ b _ _ dk=>hb.block b dk) hb.size dj fun _ _ _ _ _ hx=>hV hx
end
end Go.Proofs.YtoibondihdhnoaaGreatDoor
