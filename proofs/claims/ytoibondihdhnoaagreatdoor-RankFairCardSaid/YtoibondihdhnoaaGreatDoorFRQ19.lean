/- Texts in one: A drawing region that makes several rows of the call's own, in no order to each other: of every program; no condition. -/
import Derived.Test.YtoibondihdhnoaaGreatDoorFRQ8
namespace Go.Proofs.YtoibondihdhnoaaGreatDoor
open Go.RowKit
section
variable {P:Program} {M0:Nat→Nat→Prop} {w0:Bas} {N:Nm} {p:Pl} {st:VS} {a:Act} {w:World} {Q:Exit→VS→Prop}
theorem Rel.fillRow {z:List Value} {m e id d:Nat} (R:Rel M0 w0 N p st a w) (hd:N.has d) (hid:st.h[id]? = some none) (hs:∀ t,cH id 5 (lkp st.s t)=true) (hh:∀ (i:Nat) (cs:List AV),st.h[i]? = some (some (Ob.box cs))→∀ c∈cs,cH id 5 c=true)
  (hz:0 < z.length) (iO:∀ u∈z,u.oneCell'=true) (hm:m≤1000000000) :
  Rel M0 w0 N (cO p id w.heap.size) ⟨(d,.osl id)::st.s,st.h.set id (some (.arr e z.length false (List.replicate m (z.map .lit))))⟩ (a.put (some d) (.slice (some ⟨w.heap.size,0,none⟩) m m)) { w with heap:=w.heap.push (.cells (fB z m).toArray e) }:=by
 have hb:=mm w (.cells (fB z m).toArray e);have eB:id < st.h.length:=(List.getElem?_eq_some_iff.1 hid).1;have hp:∀ i,i≠id→cO p id w.heap.size i=p i:=fun i hi=>(jS hi).1;have ll:cO p id w.heap.size id=w.heap.size:=(ln p _ _).1;have bB:∀ i o,(st.h.set id (some (.arr e z.length false (List.replicate m (z.map .lit)))))[i]? = some (some o)→(i=id∧o = .arr e z.length false (List.replicate m (z.map .lit)))∨(i≠id∧st.h[i]? = some (some o)):=by
  intro i o aG;rw [List.getElem?_set] at aG;by_cases he:id=i
  ·rw [if_pos he,if_pos (by omega)] at aG;simp only [Option.some.injEq] at aG;exact .inl ⟨he.symm,aG.symm⟩
  ·rw [if_neg he] at aG;exact .inr ⟨fun h=>he h.symm,aG⟩
 have hM:∀ c j,c < w.heap.size→¬Mof M0 st.h p c j→¬Mof M0 (st.h.set id (some (.arr e z.length false (List.replicate m (z.map .lit))))) (cO p id w.heap.size) c j:=by
  intro c j hc hn hm;rcases hm with hm|⟨i,o,hi,hl,jN⟩
  ·exact hn (.inl hm)
  ·rcases bB i o hi with ⟨rfl,_⟩|⟨aq,bo⟩
   ·have:=mn jN;omega
   ·exact hn (.inr ⟨i,o,bo,hl,(jw aq).1 jN⟩)
 have hV:∀ {x:AV} {u:Value},cH id 5 x=true→V1 w (Mof M0 st.h p) st.h p x u→V1 { w with heap:=w.heap.push (.cells (fB z m).toArray e) } (Mof M0 (st.h.set id (some (.arr e z.length false (List.replicate m (z.map .lit))))) (cO p id w.heap.size)) (st.h.set id (some (.arr e z.length false (List.replicate m (z.map .lit))))) (cO p id w.heap.size) x u:=fun hx hv=>
  V1.purge (.of_below hb) hM (by simp) hp (fun i e sz nl es v aq he hv=>by
   rcases bB i _ he with ⟨h1,_⟩|⟨_,h2⟩
   ·exact absurd h1 aq
   ·exact (hv _ _ _ _ h2).below hb) (fun i e sz nl pe qs v aq he hv=>by
   rcases bB i _ he with ⟨h1,_⟩|⟨_,h2⟩
   ·exact absurd h1 aq
   ·exact (hv _ _ _ _ _ h2).below hb) (fun i k sz v aq cC hs=>hs.keep (fun e sz pe qs he=>by
   rcases bB i _ he with ⟨h1,_⟩|⟨_,h2⟩
   ·exact absurd h1 aq
   ·exact ⟨h2,(jS aq).1,(jS aq).2,fun b _ _ ak=>hb.block b ak⟩) hb.size) 5 _ _ hv hx
 refine ⟨R.defers,R.size.put hd,R.below.later hb,R.m0,R.x0,fun i=>?_,fun i o hi=>?_,fun i i' o o' hi bo hl bn x j j' hO cw=>?_⟩
 ·rw [jx a d _ i (R.size.lt hd)];simp only [lkp];split
  ·refine .osl _ _ _ _ (by simpa using eB) (fun e' bE kC es' he=>?_) fun e' bE kC pe qs he=>?_
   ·rw [List.getElem?_set_self eB] at he;simp only [Option.some.injEq] at he;injection he with q1 q2 q3 q4
    subst q1 q2 q3 q4;unfold Osl;rw [if_neg (by simp),ll,List.length_replicate];exact ⟨m,(fB z m).toArray,rfl,by simp [-World.alloc_eq],by simp [s5],Nat.le_refl _,by simp only [maxLen];omega⟩
   ·rw [List.getElem?_set_self eB] at he;simp at he
  ·exact hV (hs i) (R.slots i)
 ·rcases bB i o hi with ⟨rfl,rfl⟩|⟨aq,bo⟩
  ·refine ⟨hz,fun k x hk=>?_,?_⟩
   ·obtain ⟨_,rfl⟩:=List.mem_replicate.1 (List.mem_of_getElem? hk);refine ⟨by simp,fun c hc=>?_⟩;obtain ⟨z',uQ,rfl⟩:=List.mem_map.1 hc;exact iO z' uQ
   ·rw [if_neg (by simp)];refine ⟨s6 R.below.size,(fB z m).toArray,by rw [ll];simp [-World.alloc_eq],by simp [s5],fun k x j c hk hj=>?_⟩;obtain ⟨_,rfl⟩:=List.mem_replicate.1 (List.mem_of_getElem? hk);have Eb:k < m:=by simpa using (List.getElem?_eq_some_iff.1 hk).1
    have bM:j < z.length:=by simpa using (List.getElem?_eq_some_iff.1 hj).1
    have ak:k*z.length+j < (fB z m).length:=by
     rw [s5];have:(k+1)*z.length≤m*z.length:=Nat.mul_le_mul_right _ Eb;rw [Nat.add_mul] at this;omega
    refine ⟨(fB z m)[k*z.length+j],by simp [ak],?_⟩;rw [Ec k j c _ Eb hj (List.getElem?_eq_getElem ak)];exact .lit _
  ·exact (R.objs i o bo).keep (fun _=>jS aq) (fun _ b _ _ dk=>hb.block b dk) hb.size (fun hx=>hx.keep (.of_below hb) hM) fun cs ca c eT _ hx=>hV (hh i cs (by rw [bo,ca]) c eT) hx
 ·rcases bB i o hi with ⟨rfl,rfl⟩|⟨hn,h1⟩<;>rcases bB i' o' bo with ⟨rfl,rfl⟩|⟨lp,h2⟩
  ·rfl
  ·have h3:=((R.objs i' o' h2).own bn x j' ((jw lp).1 cw)).2;have h4:=mn hO;omega
  ·have h3:=((R.objs i o h1).own hl x j ((jw hn).1 hO)).2;have h4:=mn cw;omega
  ·exact R.inj i i' o o' h1 h2 hl bn x j j' ((jw hn).1 hO) ((jw lp).1 cw)
end
structure Mk where
 ai:Nat
 d:Nat
 e:Nat
 z:List Value
 m:Nat
def Mk.ob (q:Mk) : Ob:=.arr q.e q.z.length false (List.replicate q.m (q.z.map .lit))
def Mk.at_ (q:Mk) (f:Nat→Bool) : Option Ob:=if f q.ai=true then some q.ob else none
def mkE:List Mk→Hp
 | []=>[]
 | q::r=>some (.arr q.e q.z.length false (List.replicate q.m (q.z.map .lit)))::mkE r
def mkS (k:Nat) : List Mk→List (Nat×AV)
 | []=>[]
 | q::r=>(q.d,.osl k)::mkS (k+1) r
def mkK (P:Program) (l:List Oper) (T:VS) (q:Mk) : Prop:=
 match l[q.ai]? with
 | some o=>(match o.op with
  | .makeSlice t x y=>∃ ti te,aU P t=some ti∧aU P ti.elem=some te∧ev T x = .lit (.int .i64 q.m)∧ev T y = .lit (.int .i64 q.m)∧ti.kind=1∧te.size=ti.esz∧te.zero.length=ti.esz∧ti.esz≠0∧q.m≤1000000000∧te.bytes≤100000∧q.e=ti.elem∧q.z=te.zero
  | _=>False)
 | none=>False
def Ed (P:Program) (l:List Oper) (T:VS) : List Mk→Prop
 | []=>True
 | q::r=>mkK P l T q∧Ed P l T r
section
variable {P:Program} {M0:Nat→Nat→Prop} {w0:Bas} {N:Nm} {p:Pl} {st:VS} {a:Act} {w:World} {Q:Exit→VS→Prop}
end
attribute [go_sem] mkS mkE Ed mkK
section
variable {P:Program} {M0:Nat→Nat→Prop} {w0:Bas} {N:Nm} {p:Pl} {st:VS} {a:Act} {w:World} {Q:Exit→VS→Prop}
end
structure Mc where
 ai:Nat
 d:Nat
 e:Nat
 z:List Value
 m:Nat
 al:Bool
def Mc.ob (q:Mc) : Ob:=if q.al=true then .box (q.z.map .lit) else .arr q.e q.z.length false (List.replicate q.m (q.z.map .lit))
def Mc.av (q:Mc) (k:Nat) : AV:=if q.al=true then .ref k 0 else .osl k
def Mc.at_ (q:Mc) (f:Nat→Bool) : Option Ob:=if f q.ai=true then some q.ob else none
def mcH (A:List Mc) (f:Nat→Bool) : Hp:=A.map fun q=>q.at_ f
def mcE:List Mc→Hp
 | []=>[]
 | q::r=>some q.ob::mcE r
def mcS (k:Nat) : List Mc→List (Nat×AV)
 | []=>[]
 | q::r=>(q.d,q.av k)::mcS (k+1) r
def kR (A:List Mc) (i:Nat) : Bool:=A.any fun q=>q.ai == i
def xr (l:List Oper) (n:Nat) (q:Mc) : Bool:=
 decide (q.ai < n)&&(match l[q.ai]? with|some o=>o.guard.isNone&&o.dst == some q.d&&(match o.op with | .makeSlice .. => !q.al | .alloc _=>q.al|_=>false)|none=>false)
def Ee (l:List Oper) (n:Nat) (A:List Mc) : Bool:=A.all (xr l n)&&decide (A.map (·.d)).Nodup
def mcK (P:Program) (l:List Oper) (T:VS) (q:Mc) : Prop:=
 match l[q.ai]? with
 | some o=>(match o.op with
  | .makeSlice t x y=>∃ ti te,aU P t=some ti∧aU P ti.elem=some te∧ev T x = .lit (.int .i64 q.m)∧ev T y = .lit (.int .i64 q.m)∧ti.kind=1∧te.size=ti.esz∧te.zero.length=ti.esz∧ti.esz≠0∧q.m≤1000000000∧te.bytes≤100000∧q.e=ti.elem∧q.z=te.zero
  | .alloc t=>∃ ti,aU P t=some ti∧ti.zero=q.z
  | _=>False)
 | none=>False
def xt (P:Program) (l:List Oper) (T:VS) : List Mc→Prop
 | []=>True
 | q::r=>mcK P l T q∧xt P l T r
def Aj (l:List Oper) (n:Nat) (A:List Mc) (b bd:Nat) (js:List Nat) : Bool:=
 decide (b < n)&&!kR A b&&(match l[b]? with|some o=>o.guard.isNone&&o.dst == some bd&&js.all fun j=>(match A[j]? with|some q=>o.op.operands.toList.any fun x=>(match x with | .tmp t=>t == q.d|_=>false)|none=>false)|none=>false)
theorem Je {l:List Oper} {n:Nat} {A:List Mc} {b bd:Nat} {js:List Nat} (h:Aj l n A b bd js=true) : b < n∧kR A b=false∧∃ o,l[b]? = some o∧o.guard=none∧o.dst=some bd∧∀ j,j∈js→∃ q,A[j]? = some q∧.tmp q.d∈o.op.operands.toList:=by
 simp only [Aj,Bool.and_eq_true,decide_eq_true_eq,Bool.not_eq_true'] at h;obtain ⟨⟨h1,h2⟩,h3⟩:=h;refine ⟨h1,h2,?_⟩;split at h3
 ·rename_i o ho;simp only [Bool.and_eq_true,beq_iff_eq,Option.isNone_iff_eq_none] at h3;obtain ⟨⟨a,b⟩,c⟩:=h3;refine ⟨o,ho,a,b,fun j hj=>?_⟩;have h4:=List.all_eq_true.1 c j hj;split at h4
  ·rename_i q hq;obtain ⟨x,hx,Ak⟩:=List.any_eq_true.1 h4;split at Ak
   ·rename_i t;have:t=q.d:=by simpa using Ak
    subst this;exact ⟨q,hq,hx⟩
   ·cases Ak
  ·cases h4
 ·cases h3
section
variable {P:Program} {M0:Nat→Nat→Prop} {w0:Bas} {N:Nm} {p:Pl} {st:VS} {a:Act} {w:World} {Q:Exit→VS→Prop}
theorem Al {l:List Oper} {T:VS} : ∀ {A:List Mc},xt P l T A→∀ {j:Nat} {q:Mc},A[j]? = some q→mcK P l T q
 | [],_,j,q,h=>by simp at h
 | x::A,hk,j,q,h=>by
  cases j with
  | zero=>simp at h;subst h;exact hk.1
  | succ j=>exact Al hk.2 (j:=j) (by simpa using h)
theorem Ef:∀ {A:List Mc} {j:Nat},(mcE A)[j]? = (A[j]?).map fun q=>some q.ob
 | [],j=>by simp [mcE]
 | q::A,0=>by simp [mcE]
 | q::A,j+1=>by simp [mcE,Ef (A:=A) (j:=j)]
theorem Jf (A:List Mc) (f:Nat→Bool) (hf:∀ i,kR A i=true→f i=true) : mcH A f=mcE A:=by
 apply List.ext_getElem?;intro j;rw [Ef];unfold mcH;rw [List.getElem?_map];cases hq:A[j]? with
 | none=>rfl
 | some q=>
  have h1:f q.ai=true:=hf _ (List.any_eq_true.2 ⟨q,List.mem_of_getElem? hq,by simp⟩);simp only [Option.map_some,Mc.at_,h1,if_true]
theorem Eg:∀ {A:List Mc} {k t:Nat},lkp (mcS k A) t≠.any→∃ (j:Nat) (q:Mc),A[j]? = some q∧q.d=t∧lkp (mcS k A) t=q.av (k+j)
 | [],k,t,h=>absurd rfl h
 | x::A,k,t,h=>by
  simp only [mcS,lkp] at h ⊢;by_cases hd:x.d=t
  ·exact ⟨0,x,rfl,hd,by rw [if_pos hd];rfl⟩
  ·rw [if_neg hd] at h ⊢;obtain ⟨j,q,h1,h2,h3⟩:=Eg (A:=A) (k:=k+1) h;exact ⟨j+1,q,by simpa using h1,h2,by rw [h3];congr 1;omega⟩
theorem Eh {A:List Mc} {f g:Nat→Bool} (h:∀ i,kR A i=true→f i=g i) : mcH A f=mcH A g:=by
 unfold mcH;refine List.map_congr_left fun q hq=>?_;have h1:f q.ai=g q.ai:=h _ (List.any_eq_true.2 ⟨q,hq,by simp⟩);unfold Mc.at_;rw [h1]
theorem Ei {l:List Oper} {n:Nat} {q:Mc} (h:xr l n q=true) : q.ai < n∧∃ o,l[q.ai]? = some o∧o.guard=none∧o.dst=some q.d∧((q.al=false∧∃ t x y,o.op = .makeSlice t x y)∨(q.al=true∧∃ t,o.op = .alloc t)):=by
 simp only [xr,Bool.and_eq_true,decide_eq_true_eq] at h;obtain ⟨h1,h2⟩:=h;refine ⟨h1,?_⟩;split at h2
 ·rename_i o ho;simp only [Bool.and_eq_true,beq_iff_eq,Option.isNone_iff_eq_none] at h2;obtain ⟨⟨a,b⟩,c⟩:=h2;split at c
  ·rename_i t x y ht;exact ⟨o,ho,a,b,.inl ⟨by simpa using c,t,x,y,ht⟩⟩
  ·rename_i t ht;exact ⟨o,ho,a,b,.inr ⟨c,t,ht⟩⟩
  ·cases c
 ·cases h2
theorem Jg {A:List Mc} (h:(A.map (·.d)).Nodup) {i j:Nat} {q r:Mc} (hi:A[i]? = some q) (hj:A[j]? = some r) (he:q.d=r.d) : i=j:=by
 have h1:(A.map (·.d))[i]? = some q.d:=by simp [hi]
 have h2:(A.map (·.d))[j]? = some q.d:=by simp [hj,he]
 obtain ⟨a1,b1⟩:=List.getElem?_eq_some_iff.1 h1;obtain ⟨a2,b2⟩:=List.getElem?_eq_some_iff.1 h2;rcases Nat.lt_trichotomy i j with hl|hl|hl
 ·exact absurd (b1.trans b2.symm) (List.pairwise_iff_getElem.1 h i j a1 a2 hl)
 ·exact hl
 ·exact absurd (b2.trans b1.symm) (List.pairwise_iff_getElem.1 h j i a2 a1 hl)
end
section
variable {P:Program} {M0:Nat→Nat→Prop} {w0:Bas} {N:Nm} {p:Pl} {st:VS} {a:Act} {w:World} {Q:Exit→VS→Prop}
theorem Jh {id:Nat} {l:List Oper} (n:Nat) (ow:List Nat) (A:List Mc) (b bd:Nat) (js:List Nat) (BV:AV) (hb:Aj l n A b bd js=true) (hG:∀ (h:Hp) (E:Operand→AV) (o:Oper),l[b]? = some o→(∀ j∈js,∀ q,A[j]? = some q→E (.tmp q.d)=q.av (st.h.length+j))→fT P h E o.op BV) (Ji:∀ j,j < A.length→j∉js→cH (st.h.length+j) 5 BV=true) (hm:P.follows .mixedOrders=true) (hB:Region.specB l.toArray n=true) (hA:Ee l n A=true) (hs:sOK st.h.length st.s) (hh:hOK st.h.length st.h)
  (h:iP P l (fun i=>kR A i || i == b) (l.take n) 0 st fun T=>xt P l T A∧dU P ow l (l.drop n) ⟨(bd,BV)::(mcS st.h.length A++T.s),T.h++mcE A⟩ (Q .normal)) : VWp P M0 w0 N (.region id l.toArray true) Q st:=fun jr p0 a0 rj R0=>by
 have hN:l.all (cR N)=true:=by simpa [e_] using jr
 obtain ⟨rs,dW,Y,S,lq⟩:=s7 _ _ _ h;obtain ⟨mg,hK⟩:=Y;obtain ⟨xu,lT,ob,uR,xv,lr,Am⟩:=Je hb;have dq:=hB;simp only [Region.specB,Bool.and_eq_true,decide_eq_true_eq] at dq;obtain ⟨⟨⟨⟨⟨⟨_,aK⟩,_⟩,_⟩,hd⟩,bh⟩,_⟩:=dq;have fb:n < l.length:=by simpa using aK
 have dw:ea (l.take n)=true:=by simpa using hd
 have hlen:(l.take n).length=n:=by simp;omega
 rw [hlen] at dW;obtain ⟨uS,qb⟩ : A.all (xr l n)=true∧(A.map (·.d)).Nodup:=by simpa [Ee] using hA
 have gJ:∀ {j:Nat} {q:Mc},A[j]? = some q→_:=fun {j q} hq=>Ei (List.all_eq_true.1 uS q (List.mem_of_getElem? hq));have bf:∀ {i:Nat} {o:Oper},i < n→l[i]? = some o→(l.take n)[i]? = some o:=fun {i o} hi ho=>by rw [List.getElem?_take_of_lt hi];exact ho
 have kx:∀ {i:Nat} {o:Oper},(l.take n)[i]? = some o→i < n∧l[i]? = some o:=fun {i o} ho=>by
  have hi:i < n:=by have:=(List.getElem?_eq_some_iff.1 ho).1;omega
  rw [List.getElem?_take_of_lt hi] at ho;exact ⟨hi,ho⟩
 have ep:∀ {i:Nat},i < n→rs[i]? = some (rs.getD i .any):=fun {i} hi=>by simp [List.getD,show i < rs.length by omega]
 have cG:∀ i,i < n→∀ o,l[i]? = some o→∀ t∈o.looksAt l.toArray,∀ j,j < n→∀ q,l[j]? = some q→q.dst=some t→Region.waitsFor .any l.toArray i j=true∧j < i:=by
  intro i hi o ho;have h:=List.all_eq_true.1 bh i (List.mem_range.2 hi);simp only [List.getElem?_toArray,ho,Bool.and_eq_true] at h;have fS:∀ e∈o.after,Region.binds .any e=true→e.on < i:=fun e he hb=>by
   have h1:=Array.all_eq_true'.1 h.2 e he;simp only [hb,Bool.not_true,Bool.false_or,decide_eq_true_eq] at h1;exact h1
  intro t ht j hj q hq aH;have h1:=List.all_eq_true.1 (List.all_eq_true.1 h.1 t ht) j (List.mem_range.2 hj);simp only [hq,Option.bind_some,aH,bne_self_eq_false,Bool.false_or] at h1;refine ⟨h1,?_⟩;obtain ⟨o',aT,e,he,hb,cL⟩:=Region.waitsFor_spec h1;have:o'=o:=Option.some.inj (aT.symm.trans (by simpa using ho));subst this;rw [←cL];exact fS e he hb
 have aY:∀ {i j:Nat} {q:Oper} {t:Nat},j < i→i≤n→l[j]? = some q→q.dst=some t→lkp (aM st ((l.take n).take i) (rs.take i)).s t=rs.getD j .any:=fun {i j q t} hj hi hq ht=>
  mW ((l.take n).take i) (rs.take i) st t j q (rs.getD j .any) (ot _ _ dw) (by rw [List.getElem?_take_of_lt hj];exact bf (by omega) hq) (by rw [List.getElem?_take_of_lt hj];exact ep (by omega)) ht
 have aX:∀ {i t:Nat},(∀ j q,j < n→l[j]? = some q→q.dst≠some t)→lkp (aM st ((l.take n).take i) (rs.take i)).s t=lkp st.s t:=fun {i t} ho=>
  ml _ _ _ _ fun q hq he=>by
   obtain ⟨j,hj⟩:=List.mem_iff_getElem?.1 (List.mem_of_mem_take hq);obtain ⟨h1,h2⟩:=kx hj;exact ho j q h1 h2 he
 have bs:aM st (l.take n) rs=aM st ((l.take n).take n) (rs.take n):=by
  rw [List.take_of_length_le (l:=l.take n) (by rw [hlen];exact Nat.le_refl _),List.take_of_length_le (l:=rs) (by omega)]
 have du:∀ {j:Nat} {q:Oper} {d:Nat},j < n→j≠b→kR A j=false→l[j]? = some q→q.dst=some d→bg st.h.length 5 (rs.getD j .any)=true:=fun {j q d} hj kS hc hq aH=>
  (S j q _ (by rw [Nat.zero_add];simp [hc,kS]) (bf hj hq) (ep hj)).2 d aH
 have iz:∀ {j:Nat} {q:Oper},j < n→kR A j=true→l[j]? = some q→rs.getD j .any = .any:=fun {j q} hj hc hq=>by
  have h1:=lq j q (by rw [Nat.zero_add];simp [hc]) (bf hj hq);rw [ep hj] at h1;exact Option.some.inj h1
 have An:rs.getD b .any = .any:=by
  have h1:=lq b ob (by rw [Nat.zero_add];simp) (bf xu uR);rw [ep xu] at h1;exact Option.some.inj h1
 have mo:∀ {j:Nat} {q:Oper} {d:Nat},j < n→j≠b→l[j]? = some q→q.dst=some d→d≠bd:=fun {j q d} hj kS hq aH he=>by
  subst he;exact kS (ou dw (bf hj hq) (bf xu uR) aH lr)
 refine wp_region_any hm ?_;refine sW (Inv:=fun listed a w=>HeadInv .any l.toArray n listed∧∃ (p:Pl) (s:List (Nat×AV)),Rel M0 w0 N p ⟨s,st.h++mcH A fun i=>listed.getD i false⟩ a w ∧
   (∀ (j:Nat) (q:Oper) (d:Nat),j < n→j≠b→kR A j=false→listed.getD j false=true→l[j]? = some q→q.dst=some d→lkp s d=rs.getD j .any)∧(listed.getD b false=true→lkp s bd=BV) ∧
   (∀ t,(∀ j q,j < n→l[j]? = some q→q.dst≠some t)→lkp s t=lkp st.s t)∧(∀ (j:Nat) (q:Mc),A[j]? = some q→listed.getD q.ai false=true→lkp s q.d=q.av (st.h.length+j)) ∧
   (∀ t,bg st.h.length 5 (lkp s t)=true∨(∃ (j:Nat) (q:Mc),A[j]? = some q∧listed.getD q.ai false=true∧lkp s t=q.av (st.h.length+j))∨(lkp s t=BV∧∀ j∈js,∀ q,A[j]? = some q→listed.getD q.ai false=true))) hB (fun _ _ _ inv=>inv.1) ?_ ?_ _ _ _ _ ?_ (by simp)
 ·rintro listed a w i o ⟨head,p,s,R,S1,S5,S2,S3,S4⟩ hi a_ ho fx;have aT:l[i]? = some o:=by simpa using ho
  obtain ⟨_,o2,lP,cZ⟩:=mem_ready.1 hi;have:o2=o:=Option.some.inj (lP.symm.trans ho);subst this;have bK:i < listed.size:=by rw [head.size];simpa using (by omega:i < l.length)
  have cn:(listed.setIfInBounds i true).getD i false=true:=by simp [bK]
  have aZ:∀ {j:Nat},i≠j→(listed.setIfInBounds i true).getD j false=listed.getD j false:=fun aq=>getD_set_ne false aq;have bZ:∀ j,Region.waitsFor .any l.toArray i j=true→listed.getD j false=true:=by
   intro j hj;obtain ⟨o3,m_,e,he,hb,cL⟩:=Region.waitsFor_spec hj;have:o3=o2:=Option.some.inj (m_.symm.trans ho);subst this;rw [←cL];exact cZ e he hb
  have cS:∀ {k:Nat},i≤k→k≤n→∀ t∈o2.looksAt l.toArray,lkp (aM st ((l.take n).take k) (rs.take k)).s t = .any∨(lkp (aM st ((l.take n).take k) (rs.take k)).s t=lkp s t∧bg st.h.length 5 (lkp s t)=true):=fun {k} rn lQ t ht=>by
   by_cases hex:∃ (j:Nat) (q:Oper),j < n∧l[j]? = some q∧q.dst=some t
   ·obtain ⟨j,q,hj,hq,aH⟩:=hex;obtain ⟨h1,h2⟩:=cG i a_ o2 aT t ht j hj q hq aH;rw [aY (by omega) lQ hq aH];by_cases kS:j=b
    ·subst kS;exact .inl An
    cases hc:kR A j
    ·have:=S1 j q t hj kS hc (bZ j h1) hq aH;exact .inr ⟨this.symm,by rw [this];exact du hj kS hc hq aH⟩
    ·exact .inl (iz hj hc hq)
   ·have bz:∀ j q,j < n→l[j]? = some q→q.dst≠some t:=fun j q hj hq he=>hex ⟨j,q,hj,hq,he⟩;rw [aX bz,S2 t bz];exact .inr ⟨rfl,pn hs t⟩
  have cE:∀ {j:Nat} {q:Oper} {d d':Nat},j < n→j≠i→l[j]? = some q→q.dst=some d→o2.dst=some d'→d'≠d:=fun {j q d d'} hj cT hq aH eb he=>by
   subst he;exact cT (ou dw (bf hj hq) (bf a_ aT) aH eb)
  cases ef:kR A i
  ·by_cases xw:i=b
   ·subst xw;have:o2=ob:=Option.some.inj (aT.symm.trans uR);subst this;have ng:∀ {j:Nat} {q:Mc},A[j]? = some q→i≠q.ai:=fun {j q} hq e=>by
     have:kR A i=true:=List.any_eq_true.2 ⟨q,List.mem_of_getElem? hq,by simp [e]⟩;rw [ef] at this;cases this
    have bI:(mcH A fun i=>listed.getD i false)=mcH A fun j=>(listed.setIfInBounds i true).getD j false:=Eh fun j hj=>by
     have aq:i≠j:=fun e=>by rw [←e,ef] at hj;cases hj
     exact (aZ aq).symm
    have Ej:∀ j∈js,∀ q,A[j]? = some q→listed.getD q.ai false=true:=fun j hj q hq=>by
     obtain ⟨q',Ek,hm⟩:=Am j hj;rw [hq] at Ek;obtain rfl:=Option.some.inj Ek;obtain ⟨Jj,oq,Jk,_,aH,_⟩:=gJ hq;exact bZ _ (cG i a_ o2 aT q.d (List.mem_append_left _ (List.mem_filterMap.2 ⟨.tmp q.d,hm,rfl⟩)) q.ai Jj oq Jk aH).1
    have hg:fT P (st.h++mcH A fun i=>listed.getD i false) (ev ⟨s,st.h++mcH A fun i=>listed.getD i false⟩) o2.op BV:=hG _ _ o2 uR fun j hj q hq=>S3 j q hq (Ej j hj q hq);unfold wpOp;simp only [ho];rw [if_pos (by simp [Region.wanted,xv])];refine Or.inl (kA (R.gives hg) rfl fun v w' hv=>?_);have R':=(R.later hv.2).put (d:=o2.dst) (dZ (List.all_eq_true.1 hN o2 (List.mem_of_getElem? aT))) hv.1;rw [lr] at R' ⊢;rw [bI] at R';refine ⟨head.set hi a_,p,_,R',fun j q d hj kS ia hl hq aH=>?_,fun _=>by simp [lkp],fun t ht=>?_,fun j q hq hl=>?_,fun t=>?_⟩
    ·simp only [lkp];rw [if_neg fun e=>mo hj kS hq aH e.symm];rw [aZ (Ne.symm kS)] at hl;exact S1 j q d hj kS ia hl hq aH
    ·simp only [lkp];rw [if_neg fun e=>ht i o2 a_ aT (by rw [lr,e])];exact S2 t ht
    ·obtain ⟨h1,o3,h2,_,h3,_⟩:=gJ hq;simp only [lkp];rw [if_neg fun e=>mo h1 (Ne.symm (ng hq)) h2 h3 e.symm];rw [aZ (ng hq)] at hl;exact S3 j q hq hl
    ·simp only [lkp];by_cases gh:bd=t
     ·rw [if_pos gh];exact .inr (.inr ⟨rfl,fun j hj q hq=>by rw [aZ (ng hq)];exact Ej j hj q hq⟩)
     ·rw [if_neg gh];rcases S4 t with h1|⟨j,q,h1,h2,h3⟩|⟨h1,h2⟩
      ·exact .inl h1
      ·exact .inr (.inl ⟨j,q,h1,by rw [aZ (ng h1)];exact h2,h3⟩)
      ·exact .inr (.inr ⟨h1,fun j hj q hq=>by rw [aZ (ng hq)];exact h2 j hj q hq⟩)
   obtain ⟨ao,nh⟩:=S i o2 (rs.getD i .any) (by rw [Nat.zero_add];simp [ef,xw]) (bf a_ aT) (ep a_);have bI:(mcH A fun i=>listed.getD i false)=mcH A fun j=>(listed.setIfInBounds i true).getD j false:=Eh fun j hj=>by
    have aq:i≠j:=fun e=>by rw [←e,ef] at hj;cases hj
    exact (aZ aq).symm
   have qf:∀ {j:Nat} {q:Mc},A[j]? = some q→i≠q.ai:=fun {j q} hq e=>by
    have:kR A i=true:=List.any_eq_true.2 ⟨q,List.mem_of_getElem? hq,by simp [e]⟩;rw [ef] at this;cases this
   have fin:∀ v w',V1 w' (Mof M0 (st.h++mcH A fun i=>listed.getD i false) p) st.h p (rs.getD i .any) v→Below w.heap.size w w'→(fun listed a w=>HeadInv .any l.toArray n listed∧∃ (p:Pl) (s:List (Nat×AV)),Rel M0 w0 N p ⟨s,st.h++mcH A fun i=>listed.getD i false⟩ a w ∧
     (∀ (j:Nat) (q:Oper) (d:Nat),j < n→j≠b→kR A j=false→listed.getD j false=true→l[j]? = some q→q.dst=some d→lkp s d=rs.getD j .any)∧(listed.getD b false=true→lkp s bd=BV) ∧
     (∀ t,(∀ j q,j < n→l[j]? = some q→q.dst≠some t)→lkp s t=lkp st.s t)∧(∀ (j:Nat) (q:Mc),A[j]? = some q→listed.getD q.ai false=true→lkp s q.d=q.av (st.h.length+j)) ∧
     (∀ t,bg st.h.length 5 (lkp s t)=true∨(∃ (j:Nat) (q:Mc),A[j]? = some q∧listed.getD q.ai false=true∧lkp s t=q.av (st.h.length+j))∨(lkp s t=BV∧∀ j∈js,∀ q,A[j]? = some q→listed.getD q.ai false=true))) (listed.setIfInBounds i true) (a.put o2.dst v) w':=fun v w' hv hb=>by
    have R':=(R.later hb).put (d:=o2.dst) (dZ (List.all_eq_true.1 hN o2 (List.mem_of_getElem? aT))) (V1.long hv);have cJ:(VS.put ⟨s,st.h++mcH A fun i=>listed.getD i false⟩ o2.dst (rs.getD i .any))=⟨(VS.put ⟨s,st.h++mcH A fun i=>listed.getD i false⟩ o2.dst (rs.getD i .any)).s,st.h++mcH A fun j=>(listed.setIfInBounds i true).getD j false⟩:=by rw [←bI];cases o2.dst<;>rfl
    rw [cJ] at R';refine ⟨head.set hi a_,p,_,R',fun j q d hj kS ia hl hq aH=>?_,fun hl=>?_,fun t ht=>?_,fun j q hq hl=>?_,fun t=>?_⟩
    ·rw [gP];by_cases cT:j=i
     ·subst cT;have:q=o2:=Option.some.inj (hq.symm.trans aT);subst this;rw [if_pos aH]
     ·rw [if_neg fun e=>cE hj cT hq aH e rfl];rw [aZ (Ne.symm cT)] at hl;exact S1 j q d hj kS ia hl hq aH
    ·rw [aZ xw] at hl;rw [gP,if_neg fun e=>mo a_ xw aT e rfl];exact S5 hl
    ·rw [gP,if_neg (ht i o2 a_ aT)];exact S2 t ht
    ·obtain ⟨h1,o3,h2,_,h3,_⟩:=gJ hq;rw [gP,if_neg fun e=>cE h1 (Ne.symm (qf hq)) h2 h3 e rfl];rw [aZ (qf hq)] at hl;exact S3 j q hq hl
    ·rw [gP];by_cases gh:o2.dst=some t
     ·rw [if_pos gh];exact .inl (nh t gh)
     ·rw [if_neg gh];rcases S4 t with h1|⟨j,q,h1,h2,h3⟩|⟨h1,h2⟩
      ·exact .inl h1
      ·exact .inr (.inl ⟨j,q,h1,by rw [aZ (qf h1)];exact h2,h3⟩)
      ·exact .inr (.inr ⟨h1,fun j hj q hq=>by rw [aZ (qf hq)];exact h2 j hj q hq⟩)
   have b8:fT P st.h (ev (aM st ((l.take n).take i) (rs.take i))) o2.op (rs.getD i .any)→gives P o2 a w fun v w''=>V1 w'' (Mof M0 (st.h++mcH A fun i=>listed.getD i false) p) st.h p (rs.getD i .any) v∧Below w.heap.size w w'':=by
    intro hg;refine pj (R.short_objs hh) R.mok R.h0 R.glob (fun _ _ hb=>.inl hb) (fun x hx=>?_) hg;cases x with
    | tmp t=>
     show V1 _ _ _ _ (lkp (aM st ((l.take n).take i) (rs.take i)).s t) _;rcases cS (Nat.le_refl i) (by omega) t (List.mem_append_left _ (List.mem_filterMap.2 ⟨.tmp t,by simpa using hx,rfl⟩)) with h1|⟨h1,h2⟩
     ·rw [h1];exact .base _ _ (.any _)
     ·rw [h1];exact V1.short (R.slots t) h2
    | const v=>exact .base _ _ (.lit v)
    | global g=>exact .base _ _ (R.evalG g)
    | func f=>exact .base _ _ (.lit _)
   have hy:=fun j=>pa (ops:=l) (j:=j) R hN;have b9:∀ (j:Nat) (want:Bool) (v:Value),o2.guard=some (j,want)→cY l (aM st ((l.take n).take i) (rs.take i)) j = .lit v→cY l ⟨s,st.h++mcH A fun i=>listed.getD i false⟩ j = .lit v:=by
    intro j want v hg hv;unfold cY at hv ⊢;cases hj:l[j]? with
    | none=>simpa [hj] using hv
    | some q=>
     cases hq:q.dst with
     | none=>simpa [hj,hq] using hv
     | some d=>
      have ec:d∈o2.looksAt l.toArray:=by
       unfold Oper.looksAt;refine List.mem_append_right _ ?_;simp [hg,hj,hq]
      simp only [hj,hq] at hv ⊢;rcases cS (Nat.le_refl i) (by omega) d ec with h1|⟨h1,_⟩
      ·rw [h1] at hv;cases hv
      ·rw [←h1];exact hv
   unfold wpOp;simp only [ho];unfold kz at ao;split at ao
   ·rename_i hg;rw [if_pos (by simp [Region.wanted,hg])];rw [fc] at ao;exact Or.inl (kA (b8 ao) rfl fun v w' hv=>fin v w' hv.1 hv.2)
   ·rename_i j want hg;split at ao
    ·rename_i b hb;have fA:=(hy j).1 b (b9 j want _ hg hb);split at ao
     ·rename_i hw;subst hw;rw [if_pos (by simp [Region.wanted,hg,fA])];rw [fc] at ao;exact Or.inl (kA (b8 ao) rfl fun v w' hv=>fin v w' hv.1 hv.2)
     ·rename_i hw;rw [if_neg (by simpa [Region.wanted,hg,fA] using hw)];exact fin undef w (by rw [ao];exact .base _ _ (.lit _)) (Below.refl _ _)
    ·rename_i us hb;have fA:=(hy j).2 us (b9 j want _ hg hb);rw [if_neg (by simp [Region.wanted,hg,fA])];exact fin undef w (by rw [ao];exact .base _ _ (.lit _)) (Below.refl _ _)
    ·exact ao.elim
  ·have dx:∀ {j j':Nat} {q q':Mc},A[j]? = some q→A[j']? = some q'→q.d=q'.d→j=j':=fun h1 h2 h3=>Jg qb h1 h2 h3;have fg:∀ {j:Nat} {x:Option Ob},j < A.length→(∀ k q,A[k]? = some q→k≠j→q.at_ (fun j=>(listed.setIfInBounds i true).getD j false)=q.at_ fun j=>listed.getD j false)→(∀ q,A[j]? = some q→q.at_ (fun j=>(listed.setIfInBounds i true).getD j false)=x) →
     (st.h++mcH A fun i=>listed.getD i false).set (st.h.length+j) x=st.h++mcH A fun j=>(listed.setIfInBounds i true).getD j false:=by
    intro j x hj h1 h2;rw [List.set_append_right _ _ (by omega),Nat.add_sub_cancel_left];congr 1;apply List.ext_getElem?;intro k;unfold mcH;by_cases hk:j=k
    ·subst hk;rw [List.getElem?_set_self (by simpa using hj),List.getElem?_map,List.getElem?_eq_getElem hj];simp only [Option.map_some,Option.some.injEq];exact (h2 _ (List.getElem?_eq_getElem hj)).symm
    ·rw [List.getElem?_set_ne hk,List.getElem?_map,List.getElem?_map];cases hq:A[k]? with
     | none=>rfl
     | some q=>simp only [Option.map_some,Option.some.injEq];exact (h1 k q hq (Ne.symm hk)).symm
   obtain ⟨q,hq,kT⟩:=List.any_eq_true.1 ef;obtain ⟨j,hj⟩:=List.mem_iff_getElem?.1 hq;have bM:=(List.getElem?_eq_some_iff.1 hj).1;obtain ⟨Ao,o3,fL,xx,gK,Ap⟩:=gJ hj;have gk:(st.h++mcH A fun i=>listed.getD i false)[st.h.length+j]? = some (q.at_ fun i=>listed.getD i false):=by
    rw [List.getElem?_append_right (by omega),Nat.add_sub_cancel_left];simp [mcH,hj]
   have xy:q.ai=i:=by simpa using kT
   subst xy;have:o3=o2:=Option.some.inj (fL.symm.trans aT);subst this;have dO:=getD_both fx;have ni:(q.at_ fun i=>listed.getD i false)=none:=by simp only [Mc.at_,dO,Bool.false_eq_true,if_false]
   rw [ni] at gk;have po:∀ t,cH (st.h.length+j) 5 (lkp s t)=true:=fun t=>by
    rcases S4 t with h1|⟨k,r,h1,h2,h3⟩|⟨h1,h2⟩
    ·exact rB (by omega) 5 _ h1
    rotate_left
    ·rw [h1];refine Ji j bM fun hm=>?_;have:=h2 j hm q hj;rw [dO] at this;cases this
    ·rw [h3];have kU:k≠j:=fun e=>by
      subst e;rw [hj] at h1;obtain rfl:=Option.some.inj h1;rw [dO] at h2;cases h2
     unfold Mc.av;split<;>(simp only [cH,bne_iff_ne,ne_eq];omega)
   have lM:∀ (k:Nat) (cs:List AV),(st.h++mcH A fun i=>listed.getD i false)[k]? = some (some (Ob.box cs))→∀ c∈cs,cH (st.h.length+j) 5 c=true:=fun k cs hk c hc=>by
    rcases Nat.lt_or_ge k st.h.length with ak|dr
    ·rw [List.getElem?_append_left ak] at hk;exact rB (by omega) 5 _ (List.all_eq_true.1 (uT hh k _ hk) c hc)
    ·rw [List.getElem?_append_right dr] at hk;unfold mcH at hk;rw [List.getElem?_map,Option.map_eq_some_iff] at hk;obtain ⟨r,hr,he⟩:=hk;unfold Mc.at_ at he;split at he
     ·simp only [Option.some.injEq] at he;unfold Mc.ob at he;split at he
      ·simp only [Ob.box.injEq] at he;subst he;obtain ⟨z,_,rfl⟩:=List.mem_map.1 hc;rfl
      ·cases he
     ·cases he
   have ky:∀ z:Operand,z∈o3.op.operands→ev (aM st (l.take n) rs) z≠.any→a.eval z=a.eval z∧ev (aM st (l.take n) rs) z=ev ⟨s,st.h++mcH A fun i=>listed.getD i false⟩ z:=fun z hz aq=>⟨rfl,by
    cases z with
    | tmp t=>
     have ht:t∈o3.looksAt l.toArray:=List.mem_append_left _ (List.mem_filterMap.2 ⟨.tmp t,by simpa using hz,rfl⟩);show lkp _ t=lkp _ t;rcases cS (k:=n) (by omega) (Nat.le_refl _) t ht with h1|⟨h1,_⟩
     ·rw [←bs] at h1;exact absurd h1 aq
     ·rw [←bs] at h1;exact h1
    | const v=>rfl
    | global g=>rfl
    | func f=>rfl⟩
   rcases Ap with ⟨nj,t3,x3,y3,iA⟩|⟨nj,t3,iA⟩
   ·have fU:=Al mg hj;unfold mcK at fU;rw [fL] at fU;simp only [iA] at fU;obtain ⟨ti,te,aV,fJ,xz,El,ib,cI,oD,qg,Em,rC,Jl,Aq⟩:=fU;have e1:a.eval x3 = .int .i64 q.m:=by
     have:=R.eval x3;rw [←(ky x3 (by rw [iA];simp [Op.operands]) (by rw [xz];simp)).2,xz] at this;exact this.lit_inv
    have e2:a.eval y3 = .int .i64 q.m:=by
     have:=R.eval y3;rw [←(ky y3 (by rw [iA];simp [Op.operands]) (by rw [El];simp)).2,El] at this;exact this.lit_inv
    obtain ⟨z,xA,iO,kD⟩:=pq fJ;have aB:=En (P:=P) (w:=w) aV fJ ib cI oD qg (n:=q.m) Em rC;have R':=R.fillRow (z:=q.z) (m:=q.m) (e:=q.e) (d:=q.d) (dZ (List.all_eq_true.1 hN o3 (List.mem_of_getElem? fL)) q.d gK) gk po lM (by rw [Aq,oD];exact Nat.pos_of_ne_zero qg) (by rw [Aq];exact fun u hu=>List.all_eq_true.1 iO u hu) Em;simp only at R';rw [fg bM (fun k r hr kU=>?_) (fun r hr=>?_)] at R'
    ·unfold wpOp;simp only [ho];rw [if_pos (by simp [Region.wanted,xx])];refine Or.inl ?_;unfold Oper.wp;have gb:(execOp a.eval o3).run P w = .ok (.value (.slice (some ⟨w.heap.size,0,none⟩) q.m q.m)) { w with heap:=w.heap.push (.cells (fB q.z q.m).toArray q.e) }:=by
      simp only [execOp,iA,e1,e2,Sem.run_bind,aB,Result.andThen_ok,Sem.run_pure,Jl,Aq]
     rw [gb];simp only [Oper.upon];rw [gK];refine ⟨head.set hi a_,_,_,R',fun k r d hk Ar eP hl hr oE=>?_,fun hl=>?_,fun t ht=>?_,fun k r hr hl=>?_,fun t=>?_⟩
     ·have jy:k≠q.ai:=fun e=>by rw [e,ef] at eP;cases eP
      simp only [lkp];rw [if_neg (cE hk jy hr oE gK)];rw [aZ (Ne.symm jy)] at hl;exact S1 k r d hk Ar eP hl hr oE
     ·have nk:q.ai≠b:=fun e=>by rw [e,lT] at ef;cases ef
      rw [aZ nk] at hl;simp only [lkp];rw [if_neg (mo a_ nk fL gK)];exact S5 hl
     ·simp only [lkp];rw [if_neg fun e=>ht q.ai o3 a_ fL (by rw [gK,e])];exact S2 t ht
     ·simp only [lkp];by_cases he:q.d=r.d
      ·rw [if_pos he,←dx hj hr he];rw [dx hj hr he,hr] at hj;obtain rfl:=Option.some.inj hj;simp [Mc.av,nj]
      ·rw [if_neg he];refine S3 k r hr ?_;rw [aZ fun e=>he ?_] at hl
       ·exact hl
       ·obtain ⟨_,o4,a2,_,a4,_⟩:=gJ hr;rw [←e,fL] at a2;obtain rfl:=Option.some.inj a2;rw [gK] at a4;exact Option.some.inj a4
     ·simp only [lkp];by_cases he:q.d=t
      ·rw [if_pos he];exact .inr (.inl ⟨j,q,hj,cn,by simp [Mc.av,nj]⟩)
      ·rw [if_neg he];rcases S4 t with h1|⟨k,r,h1,h2,h3⟩|⟨h1,h2⟩
       ·exact .inl h1
       ·refine .inr (.inl ⟨k,r,h1,?_,h3⟩);by_cases e:q.ai=r.ai
        ·rw [←e];exact cn
        ·rw [aZ e];exact h2
       ·refine .inr (.inr ⟨h1,fun k hk r hr=>?_⟩);by_cases e:q.ai=r.ai
        ·rw [←e];exact cn
        ·rw [aZ e];exact h2 k hk r hr
    ·have aq:q.ai≠r.ai:=fun e=>by
      obtain ⟨_,o4,a2,_,a4,_⟩:=gJ hr;rw [←e,fL] at a2;obtain rfl:=Option.some.inj a2;rw [gK] at a4;exact kU (dx hr hj (Option.some.inj a4).symm)
     simp only [Mc.at_,aZ aq]
    ·rw [hj] at hr;obtain rfl:=Option.some.inj hr;simp only [Mc.at_,cn,if_true,Mc.ob,nj];rfl
   ·have fU:=Al mg hj;unfold mcK at fU;rw [fL] at fU;simp only [iA] at fU;obtain ⟨ti,aV,hz⟩:=fU;obtain ⟨z,xA,iO,kD⟩:=pq aV;have hc:Cells w (Mof M0 (st.h++mcH A fun i=>listed.getD i false) p) (st.h++mcH A fun i=>listed.getD i false) p (q.z.map .lit) z.cells.toList:=by rw [xA,←hz];exact Cells.of_lits _ iO
    have R':=R.fill (d:=q.d) (dZ (List.all_eq_true.1 hN o3 (List.mem_of_getElem? fL)) q.d gK) gk po lM hc t3;simp only at R';rw [fg bM (fun k r hr kU=>?_) (fun r hr=>?_)] at R'
    ·unfold wpOp;simp only [ho];rw [if_pos (by simp [Region.wanted,xx])];refine Or.inl ?_;unfold Oper.wp;have aB:(execOp a.eval o3).run P w = .ok (.value (.pointer (some ⟨w.heap.size,0,none⟩))) { w with heap:=w.heap.push (.cells z.cells.toList.toArray t3) }:=by
      simp [execOp,iA,Instr.alloc,kD,newVar,newRow]
     rw [aB];simp only [Oper.upon];rw [gK];refine ⟨head.set hi a_,_,_,R',fun k r d hk Ar eP hl hr oE=>?_,fun hl=>?_,fun t ht=>?_,fun k r hr hl=>?_,fun t=>?_⟩
     ·have jy:k≠q.ai:=fun e=>by rw [e,ef] at eP;cases eP
      simp only [lkp];rw [if_neg (cE hk jy hr oE gK)];rw [aZ (Ne.symm jy)] at hl;exact S1 k r d hk Ar eP hl hr oE
     ·have nk:q.ai≠b:=fun e=>by rw [e,lT] at ef;cases ef
      rw [aZ nk] at hl;simp only [lkp];rw [if_neg (mo a_ nk fL gK)];exact S5 hl
     ·simp only [lkp];rw [if_neg fun e=>ht q.ai o3 a_ fL (by rw [gK,e])];exact S2 t ht
     ·simp only [lkp];by_cases he:q.d=r.d
      ·rw [if_pos he,←dx hj hr he];rw [dx hj hr he,hr] at hj;obtain rfl:=Option.some.inj hj;simp [Mc.av,nj]
      ·rw [if_neg he];refine S3 k r hr ?_;rw [aZ fun e=>he ?_] at hl
       ·exact hl
       ·obtain ⟨_,o4,a2,_,a4,_⟩:=gJ hr;rw [←e,fL] at a2;obtain rfl:=Option.some.inj a2;rw [gK] at a4;exact Option.some.inj a4
     ·simp only [lkp];by_cases he:q.d=t
      ·rw [if_pos he];exact .inr (.inl ⟨j,q,hj,cn,by simp [Mc.av,nj]⟩)
      ·rw [if_neg he];rcases S4 t with h1|⟨k,r,h1,h2,h3⟩|⟨h1,h2⟩
       ·exact .inl h1
       ·refine .inr (.inl ⟨k,r,h1,?_,h3⟩);by_cases e:q.ai=r.ai
        ·rw [←e];exact cn
        ·rw [aZ e];exact h2
       ·refine .inr (.inr ⟨h1,fun k hk r hr=>?_⟩);by_cases e:q.ai=r.ai
        ·rw [←e];exact cn
        ·rw [aZ e];exact h2 k hk r hr
    ·have aq:q.ai≠r.ai:=fun e=>by
      obtain ⟨_,o4,a2,_,a4,_⟩:=gJ hr;rw [←e,fL] at a2;obtain rfl:=Option.some.inj a2;rw [gK] at a4;exact kU (dx hr hj (Option.some.inj a4).symm)
     simp only [Mc.at_,aZ aq]
    ·rw [hj] at hr;obtain rfl:=Option.some.inj hr;simp only [Mc.at_,cn,if_true,Mc.ob,nj]
 ·rintro listed a w ⟨head,p,s,R,S1,S5,S2,S3,S4⟩ aD;have a_:∀ i,kR A i=true→i < n:=fun i hi=>by
   obtain ⟨q,hq,kT⟩:=List.any_eq_true.1 hi;obtain ⟨h1,_⟩:=Ei (List.all_eq_true.1 uS q hq);have:q.ai=i:=by simpa using kT
   omega
  rw [Jf A _ fun i hi=>aD i (a_ i hi)] at R;rw [fc] at hK;have ie:∀ t,t≠bd→(lkp (mcS st.h.length A++(aM st (l.take n) rs).s) t=lkp s t∨lkp (mcS st.h.length A++(aM st (l.take n) rs).s) t = .any):=fun t Jm=>by
   rcases qh (mcS st.h.length A) (aM st (l.take n) rs).s t with h1|h1
   ·rw [h1];by_cases aq:lkp (mcS st.h.length A) t = .any
    ·exact .inr aq
    ·obtain ⟨j,q,g1,g2,g3⟩:=Eg aq;rw [g3,←g2];exact .inl (S3 j q g1 (aD _ (gJ g1).1)).symm
   ·rw [h1,bs];by_cases hex:∃ (j:Nat) (q:Oper),j < n∧l[j]? = some q∧q.dst=some t
    ·obtain ⟨j,q,hj,hq,aH⟩:=hex;rw [aY hj (Nat.le_refl _) hq aH];have kS:j≠b:=fun e=>by
      subst e;rw [uR] at hq;obtain rfl:=Option.some.inj hq;rw [lr] at aH;exact Jm (Option.some.inj aH).symm
     cases hc:kR A j
     ·exact .inl (S1 j q t hj kS hc (aD j hj) hq aH).symm
     ·exact .inr (iz hj hc hq)
    ·have bz:∀ j q,j < n→l[j]? = some q→q.dst≠some t:=fun j q hj hq he=>hex ⟨j,q,hj,hq,he⟩;rw [aX bz,S2 t bz];exact .inl rfl
  have R':=R.weak (s':=(bd,BV)::(mcS st.h.length A++(aM st (l.take n) rs).s)) fun t=>by
   show lkp ((bd,BV)::(mcS st.h.length A++(aM st (l.take n) rs).s)) t=lkp s t∨_;simp only [lkp];by_cases he:bd=t
   ·rw [if_pos he,←he];exact .inl (S5 (aD b xu)).symm
   ·rw [if_neg he];exact ie t fun e=>he e.symm
  have ix:(l.drop n).all (cR N)=true:=List.all_eq_true.2 fun q hq=>List.all_eq_true.1 hN q (List.mem_of_mem_drop hq);exact mS (ow:=ow) hN (fun p st a w R h=>⟨st,p,R,h⟩) (l.drop n) p _ _ w ix R' hK
 ·have rD:(mcH A fun i=>(Array.replicate l.toArray.size false).getD i false)=List.replicate A.length none:=by
   apply List.ext_getElem?;intro k;unfold mcH;rw [List.getElem?_map,List.getElem?_replicate];cases hq:A[k]? with
   | none=>
    have:=List.getElem?_eq_none_iff.1 hq;rw [if_neg (by omega)];rfl
   | some q=>
    have:=(List.getElem?_eq_some_iff.1 hq).1;rw [if_pos this];simp only [Option.map_some,Mc.at_,getD_replicate_false];rfl
  refine ⟨⟨by simp,fun j oj _ hl=>(by rw [getD_replicate_false] at hl;cases hl),fun t _ ht=>getD_in (by simpa using ht) (getD_replicate_false _ _)⟩,p0,st.s,?_,fun j q d _ _ _ hl=>(by rw [getD_replicate_false] at hl;cases hl),fun hl=>(by rw [getD_replicate_false] at hl;cases hl),fun _ _=>rfl,fun j q _ hl=>(by rw [getD_replicate_false] at hl;cases hl),fun t=>.inl (pn hs t)⟩;rw [rD];exact (R0.later (Below.refl _ _).drew).pad A.length
end
end Go.Proofs.YtoibondihdhnoaaGreatDoor
