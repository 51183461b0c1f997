/- Texts in one: A drawing region that makes several rows of the call's own, in no order to each other: of every program; no condition. -/
import Derived.Test.YtoibondihdhnoaaGreatDoorFRY7
namespace Go.Proofs.YtoibondihdhnoaaGreatDoor
open Go.RowKit
section
variable {P:Program} {M0:Nat→Nat→Prop} {w0:Bas} {N:Nm} {p:Pl} {st:VS} {a:Act} {w:World} {Q:Exit→VS→Prop}
theorem Rel.fillRow {z:List Value} {m e id d:Nat} (R:Rel M0 w0 N p st a w) (hd:N.has d) (hid:st.h[id]? = some none) (hs:∀ t,cE id 5 (lkp st.s t)=true) (hh:∀ (i:Nat) (cs:List AV),st.h[i]? = some (some (Ob.box cs))→∀ c∈cs,cE id 5 c=true)
  (hz:0 < z.length) (iM:∀ u∈z,u.oneCell'=true) (hm:m≤1000000000) :
  Rel M0 w0 N (cP p id w.heap.size) ⟨(d,.osl id)::st.s,st.h.set id (some (.arr e z.length false (List.replicate m (z.map .lit))))⟩ (a.put (some d) (.slice (some ⟨w.heap.size,0,none⟩) m m)) { w with heap:=w.heap.push (.cells (fu z m).toArray e) }:=by
 have hb:=mo w (.cells (fu z m).toArray e);have eD:id < st.h.length:=(List.getElem?_eq_some_iff.1 hid).1;have hp:∀ i,i≠id→cP p id w.heap.size i=p i:=fun i hi=>(jP hi).1;have k9:cP p id w.heap.size id=w.heap.size:=(k_ p _ _).1;have bu:∀ i o,(st.h.set id (some (.arr e z.length false (List.replicate m (z.map .lit)))))[i]? = some (some o)→(i=id∧o = .arr e z.length false (List.replicate m (z.map .lit)))∨(i≠id∧st.h[i]? = some (some o)):=by
  intro i o aG;rw [List.getElem?_set] at aG;by_cases he:id=i
  ·rw [if_pos he,if_pos (by omega)] at aG;simp only [Option.some.injEq] at aG;exact .inl ⟨he.symm,aG.symm⟩
  ·rw [if_neg he] at aG;exact .inr ⟨fun h=>he h.symm,aG⟩
 have hM:∀ c j,c < w.heap.size→¬Mof M0 st.h p c j→¬Mof M0 (st.h.set id (some (.arr e z.length false (List.replicate m (z.map .lit))))) (cP p id w.heap.size) c j:=by
  intro c j hc hn hm;rcases hm with hm|⟨i,o,hi,hl,jM⟩
  ·exact hn (.inl hm)
  ·rcases bu i o hi with ⟨rfl,_⟩|⟨ax,br⟩
   ·have:=mq jM;omega
   ·exact hn (.inr ⟨i,o,br,hl,(jx ax).1 jM⟩)
 have hV:∀ {x:AV} {u:Value},cE id 5 x=true→V1 w (Mof M0 st.h p) st.h p x u→V1 { w with heap:=w.heap.push (.cells (fu z m).toArray e) } (Mof M0 (st.h.set id (some (.arr e z.length false (List.replicate m (z.map .lit))))) (cP p id w.heap.size)) (st.h.set id (some (.arr e z.length false (List.replicate m (z.map .lit))))) (cP p id w.heap.size) x u:=fun hx hv=>
  V1.purge (.of_below hb) hM (by simp) hp (fun i e sz nl es v ax he hv=>by
   rcases bu i _ he with ⟨h1,_⟩|⟨_,h2⟩
   ·exact absurd h1 ax
   ·exact (hv _ _ _ _ h2).below hb) (fun i e sz nl pe qs v ax he hv=>by
   rcases bu i _ he with ⟨h1,_⟩|⟨_,h2⟩
   ·exact absurd h1 ax
   ·exact (hv _ _ _ _ _ h2).below hb) (fun i k sz v ax cu hs=>hs.keep (fun e sz pe qs he=>by
   rcases bu i _ he with ⟨h1,_⟩|⟨_,h2⟩
   ·exact absurd h1 ax
   ·exact ⟨h2,(jP ax).1,(jP ax).2,fun b _ _ aq=>hb.block b aq⟩) hb.size) 5 _ _ hv hx
 refine ⟨R.defers,R.size.put hd,R.below.later hb,R.m0,R.x0,fun i=>?_,fun i o hi=>?_,fun i i' o o' hi br hl bj x j j' hO ct=>?_⟩
 ·rw [mr a d _ i (R.size.lt hd)];simp only [lkp];split
  ·refine .osl _ _ _ _ (by simpa using eD) (fun e' bw kl es' he=>?_) fun e' bw kl pe qs he=>?_
   ·rw [List.getElem?_set_self eD] at he;simp only [Option.some.injEq] at he;injection he with q1 q2 q3 q4
    subst q1 q2 q3 q4;unfold Osl;rw [if_neg (by simp),k9,List.length_replicate];exact ⟨m,(fu z m).toArray,rfl,by simp [-World.alloc_eq],by simp [tG],Nat.le_refl _,by simp only [maxLen];omega⟩
   ·rw [List.getElem?_set_self eD] at he;simp at he
  ·exact hV (hs i) (R.slots i)
 ·rcases bu i o hi with ⟨rfl,rfl⟩|⟨ax,br⟩
  ·refine ⟨hz,fun k x hk=>?_,?_⟩
   ·obtain ⟨_,rfl⟩:=List.mem_replicate.1 (List.mem_of_getElem? hk);refine ⟨by simp,fun c hc=>?_⟩;obtain ⟨z',vl,rfl⟩:=List.mem_map.1 hc;exact iM z' vl
   ·rw [if_neg (by simp)];refine ⟨tH R.below.size,(fu z m).toArray,by rw [k9];simp [-World.alloc_eq],by simp [tG],fun k x j c hk hj=>?_⟩;obtain ⟨_,rfl⟩:=List.mem_replicate.1 (List.mem_of_getElem? hk);have Ef:k < m:=by simpa using (List.getElem?_eq_some_iff.1 hk).1
    have bB:j < z.length:=by simpa using (List.getElem?_eq_some_iff.1 hj).1
    have aq:k*z.length+j < (fu z m).length:=by
     rw [tG];have:(k+1)*z.length≤m*z.length:=Nat.mul_le_mul_right _ Ef;rw [Nat.add_mul] at this;omega
    refine ⟨(fu z m)[k*z.length+j],by simp [aq],?_⟩;rw [Eg k j c _ Ef hj (List.getElem?_eq_getElem aq)];exact .lit _
  ·exact (R.objs i o br).keep (fun _=>jP ax) (fun _ b _ _ dq=>hb.block b dq) hb.size (fun hx=>hx.keep (.of_below hb) hM) fun cs bW c gb _ hx=>hV (hh i cs (by rw [br,bW]) c gb) hx
 ·rcases bu i o hi with ⟨rfl,rfl⟩|⟨hn,h1⟩<;>rcases bu i' o' br with ⟨rfl,rfl⟩|⟨la,h2⟩
  ·rfl
  ·have h3:=((R.objs i' o' h2).own bj x j' ((jx la).1 ct)).2;have h4:=mq hO;omega
  ·have h3:=((R.objs i o h1).own hl x j ((jx hn).1 hO)).2;have h4:=mq ct;omega
  ·exact R.inj i i' o o' h1 h2 hl bj x j j' ((jx hn).1 hO) ((jx la).1 ct)
end
structure Mk where
 ai:Nat
 d:Nat
 e:Nat
 z:List Value
 m:Nat
def Mk.ob (q:Mk) : Ob:=.arr q.e q.z.length false (List.replicate q.m (q.z.map .lit))
def Mk.at_ (q:Mk) (f:Nat→Bool) : Option Ob:=if f q.ai=true then some q.ob else none
def mkE:List Mk→Hp
 | []=>[]
 | q::r=>some (.arr q.e q.z.length false (List.replicate q.m (q.z.map .lit)))::mkE r
def mkS (k:Nat) : List Mk→List (Nat×AV)
 | []=>[]
 | q::r=>(q.d,.osl k)::mkS (k+1) r
def mkK (P:Program) (l:List Oper) (T:VS) (q:Mk) : Prop:=
 match l[q.ai]? with
 | some o=>(match o.op with
  | .makeSlice t x y=>∃ ti te,aU P t=some ti∧aU P ti.elem=some te∧ev T x = .lit (.int .i64 q.m)∧ev T y = .lit (.int .i64 q.m)∧ti.kind=1∧te.size=ti.esz∧te.zero.length=ti.esz∧ti.esz≠0∧q.m≤1000000000∧te.bytes≤100000∧q.e=ti.elem∧q.z=te.zero
  | _=>False)
 | none=>False
def Eh (P:Program) (l:List Oper) (T:VS) : List Mk→Prop
 | []=>True
 | q::r=>mkK P l T q∧Eh P l T r
section
variable {P:Program} {M0:Nat→Nat→Prop} {w0:Bas} {N:Nm} {p:Pl} {st:VS} {a:Act} {w:World} {Q:Exit→VS→Prop}
end
attribute [go_sem] mkS mkE Eh mkK
section
variable {P:Program} {M0:Nat→Nat→Prop} {w0:Bas} {N:Nm} {p:Pl} {st:VS} {a:Act} {w:World} {Q:Exit→VS→Prop}
end
structure Mc where
 ai:Nat
 d:Nat
 e:Nat
 z:List Value
 m:Nat
 al:Bool
def Mc.ob (q:Mc) : Ob:=if q.al=true then .box (q.z.map .lit) else .arr q.e q.z.length false (List.replicate q.m (q.z.map .lit))
def Mc.av (q:Mc) (k:Nat) : AV:=if q.al=true then .ref k 0 else .osl k
def Mc.at_ (q:Mc) (f:Nat→Bool) : Option Ob:=if f q.ai=true then some q.ob else none
def mcH (A:List Mc) (f:Nat→Bool) : Hp:=A.map fun q=>q.at_ f
def mcE:List Mc→Hp
 | []=>[]
 | q::r=>some q.ob::mcE r
def mcS (k:Nat) : List Mc→List (Nat×AV)
 | []=>[]
 | q::r=>(q.d,q.av k)::mcS (k+1) r
def kB (A:List Mc) (i:Nat) : Bool:=A.any fun q=>q.ai == i
def xB (l:List Oper) (n:Nat) (q:Mc) : Bool:=
 decide (q.ai < n)&&(match l[q.ai]? with|some o=>o.guard.isNone&&o.dst == some q.d&&(match o.op with | .makeSlice .. => !q.al | .alloc _=>q.al|_=>false)|none=>false)
def Ei (l:List Oper) (n:Nat) (A:List Mc) : Bool:=A.all (xB l n)&&decide (A.map (·.d)).Nodup
def mcK (P:Program) (l:List Oper) (T:VS) (q:Mc) : Prop:=
 match l[q.ai]? with
 | some o=>(match o.op with
  | .makeSlice t x y=>∃ ti te,aU P t=some ti∧aU P ti.elem=some te∧ev T x = .lit (.int .i64 q.m)∧ev T y = .lit (.int .i64 q.m)∧ti.kind=1∧te.size=ti.esz∧te.zero.length=ti.esz∧ti.esz≠0∧q.m≤1000000000∧te.bytes≤100000∧q.e=ti.elem∧q.z=te.zero
  | .alloc t=>∃ ti,aU P t=some ti∧ti.zero=q.z
  | _=>False)
 | none=>False
def xC (P:Program) (l:List Oper) (T:VS) : List Mc→Prop
 | []=>True
 | q::r=>mcK P l T q∧xC P l T r
def AN (l:List Oper) (n:Nat) (A:List Mc) (b bd:Nat) (js:List Nat) : Bool:=
 decide (b < n)&&!kB A b&&(match l[b]? with|some o=>o.guard.isNone&&o.dst == some bd&&js.all fun j=>(match A[j]? with|some q=>o.op.operands.toList.any fun x=>(match x with | .tmp t=>t == q.d|_=>false)|none=>false)|none=>false)
theorem Ji {l:List Oper} {n:Nat} {A:List Mc} {b bd:Nat} {js:List Nat} (h:AN l n A b bd js=true) : b < n∧kB A b=false∧∃ o,l[b]? = some o∧o.guard=none∧o.dst=some bd∧∀ j,j∈js→∃ q,A[j]? = some q∧.tmp q.d∈o.op.operands.toList:=by
 simp only [AN,Bool.and_eq_true,decide_eq_true_eq,Bool.not_eq_true'] at h;obtain ⟨⟨h1,h2⟩,h3⟩:=h;refine ⟨h1,h2,?_⟩;split at h3
 ·rename_i o ho;simp only [Bool.and_eq_true,beq_iff_eq,Option.isNone_iff_eq_none] at h3;obtain ⟨⟨a,b⟩,c⟩:=h3;refine ⟨o,ho,a,b,fun j hj=>?_⟩;have h4:=List.all_eq_true.1 c j hj;split at h4
  ·rename_i q hq;obtain ⟨x,hx,AO⟩:=List.any_eq_true.1 h4;split at AO
   ·rename_i t;have:t=q.d:=by simpa using AO
    subst this;exact ⟨q,hq,hx⟩
   ·cases AO
  ·cases h4
 ·cases h3
section
variable {P:Program} {M0:Nat→Nat→Prop} {w0:Bas} {N:Nm} {p:Pl} {st:VS} {a:Act} {w:World} {Q:Exit→VS→Prop}
theorem AP {l:List Oper} {T:VS} : ∀ {A:List Mc},xC P l T A→∀ {j:Nat} {q:Mc},A[j]? = some q→mcK P l T q
 | [],_,j,q,h=>by simp at h
 | x::A,hk,j,q,h=>by
  cases j with
  | zero=>simp at h;subst h;exact hk.1
  | succ j=>exact AP hk.2 (j:=j) (by simpa using h)
theorem Ej:∀ {A:List Mc} {j:Nat},(mcE A)[j]? = (A[j]?).map fun q=>some q.ob
 | [],j=>by simp [mcE]
 | q::A,0=>by simp [mcE]
 | q::A,j+1=>by simp [mcE,Ej (A:=A) (j:=j)]
theorem Jj (A:List Mc) (f:Nat→Bool) (hf:∀ i,kB A i=true→f i=true) : mcH A f=mcE A:=by
 apply List.ext_getElem?;intro j;rw [Ej];unfold mcH;rw [List.getElem?_map];cases hq:A[j]? with
 | none=>rfl
 | some q=>
  have h1:f q.ai=true:=hf _ (List.any_eq_true.2 ⟨q,List.mem_of_getElem? hq,by simp⟩);simp only [Option.map_some,Mc.at_,h1,if_true]
theorem Ek:∀ {A:List Mc} {k t:Nat},lkp (mcS k A) t≠.any→∃ (j:Nat) (q:Mc),A[j]? = some q∧q.d=t∧lkp (mcS k A) t=q.av (k+j)
 | [],k,t,h=>absurd rfl h
 | x::A,k,t,h=>by
  simp only [mcS,lkp] at h ⊢;by_cases hd:x.d=t
  ·exact ⟨0,x,rfl,hd,by rw [if_pos hd];rfl⟩
  ·rw [if_neg hd] at h ⊢;obtain ⟨j,q,h1,h2,h3⟩:=Ek (A:=A) (k:=k+1) h;exact ⟨j+1,q,by simpa using h1,h2,by rw [h3];congr 1;omega⟩
theorem El {A:List Mc} {f g:Nat→Bool} (h:∀ i,kB A i=true→f i=g i) : mcH A f=mcH A g:=by
 unfold mcH;refine List.map_congr_left fun q hq=>?_;have h1:f q.ai=g q.ai:=h _ (List.any_eq_true.2 ⟨q,hq,by simp⟩);unfold Mc.at_;rw [h1]
theorem Em {l:List Oper} {n:Nat} {q:Mc} (h:xB l n q=true) : q.ai < n∧∃ o,l[q.ai]? = some o∧o.guard=none∧o.dst=some q.d∧((q.al=false∧∃ t x y,o.op = .makeSlice t x y)∨(q.al=true∧∃ t,o.op = .alloc t)):=by
 simp only [xB,Bool.and_eq_true,decide_eq_true_eq] at h;obtain ⟨h1,h2⟩:=h;refine ⟨h1,?_⟩;split at h2
 ·rename_i o ho;simp only [Bool.and_eq_true,beq_iff_eq,Option.isNone_iff_eq_none] at h2;obtain ⟨⟨a,b⟩,c⟩:=h2;split at c
  ·rename_i t x y ht;exact ⟨o,ho,a,b,.inl ⟨by simpa using c,t,x,y,ht⟩⟩
  ·rename_i t ht;exact ⟨o,ho,a,b,.inr ⟨c,t,ht⟩⟩
  ·cases c
 ·cases h2
theorem Jk {A:List Mc} (h:(A.map (·.d)).Nodup) {i j:Nat} {q r:Mc} (hi:A[i]? = some q) (hj:A[j]? = some r) (he:q.d=r.d) : i=j:=by
 have h1:(A.map (·.d))[i]? = some q.d:=by simp [hi]
 have h2:(A.map (·.d))[j]? = some q.d:=by simp [hj,he]
 obtain ⟨a1,b1⟩:=List.getElem?_eq_some_iff.1 h1;obtain ⟨a2,b2⟩:=List.getElem?_eq_some_iff.1 h2;rcases Nat.lt_trichotomy i j with hl|hl|hl
 ·exact absurd (b1.trans b2.symm) (List.pairwise_iff_getElem.1 h i j a1 a2 hl)
 ·exact hl
 ·exact absurd (b2.trans b1.symm) (List.pairwise_iff_getElem.1 h j i a2 a1 hl)
end
section
variable {P:Program} {M0:Nat→Nat→Prop} {w0:Bas} {N:Nm} {p:Pl} {st:VS} {a:Act} {w:World} {Q:Exit→VS→Prop}
theorem Jl {id:Nat} {l:List Oper} (n:Nat) (ow:List Nat) (A:List Mc) (b bd:Nat) (js:List Nat) (BV:AV) (hb:AN l n A b bd js=true) (hG:∀ (h:Hp) (E:Operand→AV) (o:Oper),l[b]? = some o→(∀ j∈js,∀ q,A[j]? = some q→E (.tmp q.d)=q.av (st.h.length+j))→fi P h E o.op BV) (Jm:∀ j,j < A.length→j∉js→cE (st.h.length+j) 5 BV=true) (hm:P.follows .mixedOrders=true) (hB:Region.specB l.toArray n=true) (hA:Ei l n A=true) (hs:sOK st.h.length st.s) (hh:hOK st.h.length st.h)
  (h:iN P l (fun i=>kB A i || i == b) (l.take n) 0 st fun T=>xC P l T A∧dP P ow l (l.drop n) ⟨(bd,BV)::(mcS st.h.length A++T.s),T.h++mcE A⟩ (Q .normal)) : VWp P M0 w0 N (.region id l.toArray true) Q st:=fun ju p0 a0 va R0=>by
 have hN:l.all (cW N)=true:=by simpa [fg] using ju
 obtain ⟨rs,eb,Y,S,ld⟩:=tI _ _ _ h;obtain ⟨mi,hK⟩:=Y;obtain ⟨xD,vm,ob,vn,xE,lf,AQ⟩:=Ji hb;have dp:=hB;simp only [Region.specB,Bool.and_eq_true,decide_eq_true_eq] at dp;obtain ⟨⟨⟨⟨⟨⟨_,aL⟩,_⟩,_⟩,hd⟩,bb⟩,_⟩:=dp;have eY:n < l.length:=by simpa using aL
 have du:dS (l.take n)=true:=by simpa using hd
 have hlen:(l.take n).length=n:=by simp;omega
 rw [hlen] at eb;obtain ⟨vo,mW⟩ : A.all (xB l n)=true∧(A.map (·.d)).Nodup:=by simpa [Ei] using hA
 have gJ:∀ {j:Nat} {q:Mc},A[j]? = some q→_:=fun {j q} hq=>Em (List.all_eq_true.1 vo q (List.mem_of_getElem? hq));have bm:∀ {i:Nat} {o:Oper},i < n→l[i]? = some o→(l.take n)[i]? = some o:=fun {i o} hi ho=>by rw [List.getElem?_take_of_lt hi];exact ho
 have kg:∀ {i:Nat} {o:Oper},(l.take n)[i]? = some o→i < n∧l[i]? = some o:=fun {i o} ho=>by
  have hi:i < n:=by have:=(List.getElem?_eq_some_iff.1 ho).1;omega
  rw [List.getElem?_take_of_lt hi] at ho;exact ⟨hi,ho⟩
 have ee:∀ {i:Nat},i < n→rs[i]? = some (rs.getD i .any):=fun {i} hi=>by simp [List.getD,show i < rs.length by omega]
 have cC:∀ i,i < n→∀ o,l[i]? = some o→∀ t∈o.looksAt l.toArray,∀ j,j < n→∀ q,l[j]? = some q→q.dst=some t→Region.waitsFor .any l.toArray i j=true∧j < i:=by
  intro i hi o ho;have h:=List.all_eq_true.1 bb i (List.mem_range.2 hi);simp only [List.getElem?_toArray,ho,Bool.and_eq_true] at h;have fK:∀ e∈o.after,Region.binds .any e=true→e.on < i:=fun e he hb=>by
   have h1:=Array.all_eq_true'.1 h.2 e he;simp only [hb,Bool.not_true,Bool.false_or,decide_eq_true_eq] at h1;exact h1
  intro t ht j hj q hq aH;have h1:=List.all_eq_true.1 (List.all_eq_true.1 h.1 t ht) j (List.mem_range.2 hj);simp only [hq,Option.bind_some,aH,bne_self_eq_false,Bool.false_or] at h1;refine ⟨h1,?_⟩;obtain ⟨o',aT,e,he,hb,cD⟩:=Region.waitsFor_spec h1;have:o'=o:=Option.some.inj (aT.symm.trans (by simpa using ho));subst this;rw [←cD];exact fK e he hb
 have aX:∀ {i j:Nat} {q:Oper} {t:Nat},j < i→i≤n→l[j]? = some q→q.dst=some t→lkp (aQ st ((l.take n).take i) (rs.take i)).s t=rs.getD j .any:=fun {i j q t} hj hi hq ht=>
  mR ((l.take n).take i) (rs.take i) st t j q (rs.getD j .any) (ot _ _ du) (by rw [List.getElem?_take_of_lt hj];exact bm (by omega) hq) (by rw [List.getElem?_take_of_lt hj];exact ee (by omega)) ht
 have aW:∀ {i t:Nat},(∀ j q,j < n→l[j]? = some q→q.dst≠some t)→lkp (aQ st ((l.take n).take i) (rs.take i)).s t=lkp st.s t:=fun {i t} ho=>
  mn _ _ _ _ fun q hq he=>by
   obtain ⟨j,hj⟩:=List.mem_iff_getElem?.1 (List.mem_of_mem_take hq);obtain ⟨h1,h2⟩:=kg hj;exact ho j q h1 h2 he
 have bp:aQ st (l.take n) rs=aQ st ((l.take n).take n) (rs.take n):=by
  rw [List.take_of_length_le (l:=l.take n) (by rw [hlen];exact Nat.le_refl _),List.take_of_length_le (l:=rs) (by omega)]
 have dt:∀ {j:Nat} {q:Oper} {d:Nat},j < n→j≠b→kB A j=false→l[j]? = some q→q.dst=some d→bc st.h.length 5 (rs.getD j .any)=true:=fun {j q d} hj kC hc hq aH=>
  (S j q _ (by rw [Nat.zero_add];simp [hc,kC]) (bm hj hq) (ee hj)).2 d aH
 have iy:∀ {j:Nat} {q:Oper},j < n→kB A j=true→l[j]? = some q→rs.getD j .any = .any:=fun {j q} hj hc hq=>by
  have h1:=ld j q (by rw [Nat.zero_add];simp [hc]) (bm hj hq);rw [ee hj] at h1;exact Option.some.inj h1
 have AR:rs.getD b .any = .any:=by
  have h1:=ld b ob (by rw [Nat.zero_add];simp) (bm xD vn);rw [ee xD] at h1;exact Option.some.inj h1
 have mu:∀ {j:Nat} {q:Oper} {d:Nat},j < n→j≠b→l[j]? = some q→q.dst=some d→d≠bd:=fun {j q d} hj kC hq aH he=>by
  subst he;exact kC (ou du (bm hj hq) (bm xD vn) aH lf)
 refine wp_region_any hm ?_;refine tu (Inv:=fun listed a w=>HeadInv .any l.toArray n listed∧∃ (p:Pl) (s:List (Nat×AV)),Rel M0 w0 N p ⟨s,st.h++mcH A fun i=>listed.getD i false⟩ a w ∧
   (∀ (j:Nat) (q:Oper) (d:Nat),j < n→j≠b→kB A j=false→listed.getD j false=true→l[j]? = some q→q.dst=some d→lkp s d=rs.getD j .any)∧(listed.getD b false=true→lkp s bd=BV) ∧
   (∀ t,(∀ j q,j < n→l[j]? = some q→q.dst≠some t)→lkp s t=lkp st.s t)∧(∀ (j:Nat) (q:Mc),A[j]? = some q→listed.getD q.ai false=true→lkp s q.d=q.av (st.h.length+j)) ∧
   (∀ t,bc st.h.length 5 (lkp s t)=true∨(∃ (j:Nat) (q:Mc),A[j]? = some q∧listed.getD q.ai false=true∧lkp s t=q.av (st.h.length+j))∨(lkp s t=BV∧∀ j∈js,∀ q,A[j]? = some q→listed.getD q.ai false=true))) hB (fun _ _ _ inv=>inv.1) ?_ ?_ _ _ _ _ ?_ (by simp)
 ·rintro listed a w i o ⟨head,p,s,R,S1,S5,S2,S3,S4⟩ hi bg ho fm;have aT:l[i]? = some o:=by simpa using ho
  obtain ⟨_,o2,lN,c_⟩:=mem_ready.1 hi;have:o2=o:=Option.some.inj (lN.symm.trans ho);subst this;have bI:i < listed.size:=by rw [head.size];simpa using (by omega:i < l.length)
  have cg:(listed.setIfInBounds i true).getD i false=true:=by simp [bI]
  have aZ:∀ {j:Nat},i≠j→(listed.setIfInBounds i true).getD j false=listed.getD j false:=fun ax=>getD_set_ne false ax;have bT:∀ j,Region.waitsFor .any l.toArray i j=true→listed.getD j false=true:=by
   intro j hj;obtain ⟨o3,mV,e,he,hb,cD⟩:=Region.waitsFor_spec hj;have:o3=o2:=Option.some.inj (mV.symm.trans ho);subst this;rw [←cD];exact c_ e he hb
  have cT:∀ {k:Nat},i≤k→k≤n→∀ t∈o2.looksAt l.toArray,lkp (aQ st ((l.take n).take k) (rs.take k)).s t = .any∨(lkp (aQ st ((l.take n).take k) (rs.take k)).s t=lkp s t∧bc st.h.length 5 (lkp s t)=true):=fun {k} rG lO t ht=>by
   by_cases hex:∃ (j:Nat) (q:Oper),j < n∧l[j]? = some q∧q.dst=some t
   ·obtain ⟨j,q,hj,hq,aH⟩:=hex;obtain ⟨h1,h2⟩:=cC i bg o2 aT t ht j hj q hq aH;rw [aX (by omega) lO hq aH];by_cases kC:j=b
    ·subst kC;exact .inl AR
    cases hc:kB A j
    ·have:=S1 j q t hj kC hc (bT j h1) hq aH;exact .inr ⟨this.symm,by rw [this];exact dt hj kC hc hq aH⟩
    ·exact .inl (iy hj hc hq)
   ·have bD:∀ j q,j < n→l[j]? = some q→q.dst≠some t:=fun j q hj hq he=>hex ⟨j,q,hj,hq,he⟩;rw [aW bD,S2 t bD];exact .inr ⟨rfl,po hs t⟩
  have cA:∀ {j:Nat} {q:Oper} {d d':Nat},j < n→j≠i→l[j]? = some q→q.dst=some d→o2.dst=some d'→d'≠d:=fun {j q d d'} hj cU hq aH dT he=>by
   subst he;exact cU (ou du (bm hj hq) (bm bg aT) aH dT)
  cases dY:kB A i
  ·by_cases xF:i=b
   ·subst xF;have:o2=ob:=Option.some.inj (aT.symm.trans vn);subst this;have nb:∀ {j:Nat} {q:Mc},A[j]? = some q→i≠q.ai:=fun {j q} hq e=>by
     have:kB A i=true:=List.any_eq_true.2 ⟨q,List.mem_of_getElem? hq,by simp [e]⟩;rw [dY] at this;cases this
    have b8:(mcH A fun i=>listed.getD i false)=mcH A fun j=>(listed.setIfInBounds i true).getD j false:=El fun j hj=>by
     have ax:i≠j:=fun e=>by rw [←e,dY] at hj;cases hj
     exact (aZ ax).symm
    have En:∀ j∈js,∀ q,A[j]? = some q→listed.getD q.ai false=true:=fun j hj q hq=>by
     obtain ⟨q',Eo,hm⟩:=AQ j hj;rw [hq] at Eo;obtain rfl:=Option.some.inj Eo;obtain ⟨Jo,oq,Jp,_,aH,_⟩:=gJ hq;exact bT _ (cC i bg o2 aT q.d (List.mem_append_left _ (List.mem_filterMap.2 ⟨.tmp q.d,hm,rfl⟩)) q.ai Jo oq Jp aH).1
    have hg:fi P (st.h++mcH A fun i=>listed.getD i false) (ev ⟨s,st.h++mcH A fun i=>listed.getD i false⟩) o2.op BV:=hG _ _ o2 vn fun j hj q hq=>S3 j q hq (En j hj q hq);unfold wpOp;simp only [ho];rw [if_pos (by simp [Region.wanted,xE])];refine Or.inl (ka (R.gives hg) rfl fun v w' hv=>?_);have R':=(R.later hv.2).put (d:=o2.dst) (fh (List.all_eq_true.1 hN o2 (List.mem_of_getElem? aT))) hv.1;rw [lf] at R' ⊢;rw [b8] at R';refine ⟨head.set hi bg,p,_,R',fun j q d hj kC ig hl hq aH=>?_,fun _=>by simp [lkp],fun t ht=>?_,fun j q hq hl=>?_,fun t=>?_⟩
    ·simp only [lkp];rw [if_neg fun e=>mu hj kC hq aH e.symm];rw [aZ (Ne.symm kC)] at hl;exact S1 j q d hj kC ig hl hq aH
    ·simp only [lkp];rw [if_neg fun e=>ht i o2 bg aT (by rw [lf,e])];exact S2 t ht
    ·obtain ⟨h1,o3,h2,_,h3,_⟩:=gJ hq;simp only [lkp];rw [if_neg fun e=>mu h1 (Ne.symm (nb hq)) h2 h3 e.symm];rw [aZ (nb hq)] at hl;exact S3 j q hq hl
    ·simp only [lkp];by_cases gg:bd=t
     ·rw [if_pos gg];exact .inr (.inr ⟨rfl,fun j hj q hq=>by rw [aZ (nb hq)];exact En j hj q hq⟩)
     ·rw [if_neg gg];rcases S4 t with h1|⟨j,q,h1,h2,h3⟩|⟨h1,h2⟩
      ·exact .inl h1
      ·exact .inr (.inl ⟨j,q,h1,by rw [aZ (nb h1)];exact h2,h3⟩)
      ·exact .inr (.inr ⟨h1,fun j hj q hq=>by rw [aZ (nb hq)];exact h2 j hj q hq⟩)
   obtain ⟨ar,nc⟩:=S i o2 (rs.getD i .any) (by rw [Nat.zero_add];simp [dY,xF]) (bm bg aT) (ee bg);have b8:(mcH A fun i=>listed.getD i false)=mcH A fun j=>(listed.setIfInBounds i true).getD j false:=El fun j hj=>by
    have ax:i≠j:=fun e=>by rw [←e,dY] at hj;cases hj
    exact (aZ ax).symm
   have qj:∀ {j:Nat} {q:Mc},A[j]? = some q→i≠q.ai:=fun {j q} hq e=>by
    have:kB A i=true:=List.any_eq_true.2 ⟨q,List.mem_of_getElem? hq,by simp [e]⟩;rw [dY] at this;cases this
   have fin:∀ v w',V1 w' (Mof M0 (st.h++mcH A fun i=>listed.getD i false) p) st.h p (rs.getD i .any) v→Below w.heap.size w w'→(fun listed a w=>HeadInv .any l.toArray n listed∧∃ (p:Pl) (s:List (Nat×AV)),Rel M0 w0 N p ⟨s,st.h++mcH A fun i=>listed.getD i false⟩ a w ∧
     (∀ (j:Nat) (q:Oper) (d:Nat),j < n→j≠b→kB A j=false→listed.getD j false=true→l[j]? = some q→q.dst=some d→lkp s d=rs.getD j .any)∧(listed.getD b false=true→lkp s bd=BV) ∧
     (∀ t,(∀ j q,j < n→l[j]? = some q→q.dst≠some t)→lkp s t=lkp st.s t)∧(∀ (j:Nat) (q:Mc),A[j]? = some q→listed.getD q.ai false=true→lkp s q.d=q.av (st.h.length+j)) ∧
     (∀ t,bc st.h.length 5 (lkp s t)=true∨(∃ (j:Nat) (q:Mc),A[j]? = some q∧listed.getD q.ai false=true∧lkp s t=q.av (st.h.length+j))∨(lkp s t=BV∧∀ j∈js,∀ q,A[j]? = some q→listed.getD q.ai false=true))) (listed.setIfInBounds i true) (a.put o2.dst v) w':=fun v w' hv hb=>by
    have R':=(R.later hb).put (d:=o2.dst) (fh (List.all_eq_true.1 hN o2 (List.mem_of_getElem? aT))) (V1.long hv);have cO:(VS.put ⟨s,st.h++mcH A fun i=>listed.getD i false⟩ o2.dst (rs.getD i .any))=⟨(VS.put ⟨s,st.h++mcH A fun i=>listed.getD i false⟩ o2.dst (rs.getD i .any)).s,st.h++mcH A fun j=>(listed.setIfInBounds i true).getD j false⟩:=by rw [←b8];cases o2.dst<;>rfl
    rw [cO] at R';refine ⟨head.set hi bg,p,_,R',fun j q d hj kC ig hl hq aH=>?_,fun hl=>?_,fun t ht=>?_,fun j q hq hl=>?_,fun t=>?_⟩
    ·rw [gW];by_cases cU:j=i
     ·subst cU;have:q=o2:=Option.some.inj (hq.symm.trans aT);subst this;rw [if_pos aH]
     ·rw [if_neg fun e=>cA hj cU hq aH e rfl];rw [aZ (Ne.symm cU)] at hl;exact S1 j q d hj kC ig hl hq aH
    ·rw [aZ xF] at hl;rw [gW,if_neg fun e=>mu bg xF aT e rfl];exact S5 hl
    ·rw [gW,if_neg (ht i o2 bg aT)];exact S2 t ht
    ·obtain ⟨h1,o3,h2,_,h3,_⟩:=gJ hq;rw [gW,if_neg fun e=>cA h1 (Ne.symm (qj hq)) h2 h3 e rfl];rw [aZ (qj hq)] at hl;exact S3 j q hq hl
    ·rw [gW];by_cases gg:o2.dst=some t
     ·rw [if_pos gg];exact .inl (nc t gg)
     ·rw [if_neg gg];rcases S4 t with h1|⟨j,q,h1,h2,h3⟩|⟨h1,h2⟩
      ·exact .inl h1
      ·exact .inr (.inl ⟨j,q,h1,by rw [aZ (qj h1)];exact h2,h3⟩)
      ·exact .inr (.inr ⟨h1,fun j hj q hq=>by rw [aZ (qj hq)];exact h2 j hj q hq⟩)
   have bU:fi P st.h (ev (aQ st ((l.take n).take i) (rs.take i))) o2.op (rs.getD i .any)→gives P o2 a w fun v w''=>V1 w'' (Mof M0 (st.h++mcH A fun i=>listed.getD i false) p) st.h p (rs.getD i .any) v∧Below w.heap.size w w'':=by
    intro hg;refine pk (R.short_objs hh) R.mok R.h0 R.glob (fun _ _ hb=>.inl hb) (fun x hx=>?_) hg;cases x with
    | tmp t=>
     show V1 _ _ _ _ (lkp (aQ st ((l.take n).take i) (rs.take i)).s t) _;rcases cT (Nat.le_refl i) (by omega) t (List.mem_append_left _ (List.mem_filterMap.2 ⟨.tmp t,by simpa using hx,rfl⟩)) with h1|⟨h1,h2⟩
     ·rw [h1];exact .base _ _ (.any _)
     ·rw [h1];exact V1.short (R.slots t) h2
    | const v=>exact .base _ _ (.lit v)
    | global g=>exact .base _ _ (R.evalG g)
    | func f=>exact .base _ _ (.lit _)
   have hy:=fun j=>pb (ops:=l) (j:=j) R hN;have bV:∀ (j:Nat) (want:Bool) (v:Value),o2.guard=some (j,want)→cI l (aQ st ((l.take n).take i) (rs.take i)) j = .lit v→cI l ⟨s,st.h++mcH A fun i=>listed.getD i false⟩ j = .lit v:=by
    intro j want v hg hv;unfold cI at hv ⊢;cases hj:l[j]? with
    | none=>simpa [hj] using hv
    | some q=>
     cases hq:q.dst with
     | none=>simpa [hj,hq] using hv
     | some d=>
      have dW:d∈o2.looksAt l.toArray:=by
       unfold Oper.looksAt;refine List.mem_append_right _ ?_;simp [hg,hj,hq]
      simp only [hj,hq] at hv ⊢;rcases cT (Nat.le_refl i) (by omega) d dW with h1|⟨h1,_⟩
      ·rw [h1] at hv;cases hv
      ·rw [←h1];exact hv
   unfold wpOp;simp only [ho];unfold kh at ar;split at ar
   ·rename_i hg;rw [if_pos (by simp [Region.wanted,hg])];rw [eZ] at ar;exact Or.inl (ka (bU ar) rfl fun v w' hv=>fin v w' hv.1 hv.2)
   ·rename_i j want hg;split at ar
    ·rename_i b hb;have ft:=(hy j).1 b (bV j want _ hg hb);split at ar
     ·rename_i hw;subst hw;rw [if_pos (by simp [Region.wanted,hg,ft])];rw [eZ] at ar;exact Or.inl (ka (bU ar) rfl fun v w' hv=>fin v w' hv.1 hv.2)
     ·rename_i hw;rw [if_neg (by simpa [Region.wanted,hg,ft] using hw)];exact fin undef w (by rw [ar];exact .base _ _ (.lit _)) (Below.refl _ _)
    ·rename_i us hb;have ft:=(hy j).2 us (bV j want _ hg hb);rw [if_neg (by simp [Region.wanted,hg,ft])];exact fin undef w (by rw [ar];exact .base _ _ (.lit _)) (Below.refl _ _)
    ·exact ar.elim
  ·have dv:∀ {j j':Nat} {q q':Mc},A[j]? = some q→A[j']? = some q'→q.d=q'.d→j=j':=fun h1 h2 h3=>Jk mW h1 h2 h3;have fa:∀ {j:Nat} {x:Option Ob},j < A.length→(∀ k q,A[k]? = some q→k≠j→q.at_ (fun j=>(listed.setIfInBounds i true).getD j false)=q.at_ fun j=>listed.getD j false)→(∀ q,A[j]? = some q→q.at_ (fun j=>(listed.setIfInBounds i true).getD j false)=x) →
     (st.h++mcH A fun i=>listed.getD i false).set (st.h.length+j) x=st.h++mcH A fun j=>(listed.setIfInBounds i true).getD j false:=by
    intro j x hj h1 h2;rw [List.set_append_right _ _ (by omega),Nat.add_sub_cancel_left];congr 1;apply List.ext_getElem?;intro k;unfold mcH;by_cases hk:j=k
    ·subst hk;rw [List.getElem?_set_self (by simpa using hj),List.getElem?_map,List.getElem?_eq_getElem hj];simp only [Option.map_some,Option.some.injEq];exact (h2 _ (List.getElem?_eq_getElem hj)).symm
    ·rw [List.getElem?_set_ne hk,List.getElem?_map,List.getElem?_map];cases hq:A[k]? with
     | none=>rfl
     | some q=>simp only [Option.map_some,Option.some.injEq];exact (h1 k q hq (Ne.symm hk)).symm
   obtain ⟨q,hq,kD⟩:=List.any_eq_true.1 dY;obtain ⟨j,hj⟩:=List.mem_iff_getElem?.1 hq;have bB:=(List.getElem?_eq_some_iff.1 hj).1;obtain ⟨AS,o3,gy,xG,gK,AT⟩:=gJ hj;have gh:(st.h++mcH A fun i=>listed.getD i false)[st.h.length+j]? = some (q.at_ fun i=>listed.getD i false):=by
    rw [List.getElem?_append_right (by omega),Nat.add_sub_cancel_left];simp [mcH,hj]
   have xH:q.ai=i:=by simpa using kD
   subst xH;have:o3=o2:=Option.some.inj (gy.symm.trans aT);subst this;have dK:=getD_both fm;have nf:(q.at_ fun i=>listed.getD i false)=none:=by simp only [Mc.at_,dK,Bool.false_eq_true,if_false]
   rw [nf] at gh;have pq:∀ t,cE (st.h.length+j) 5 (lkp s t)=true:=fun t=>by
    rcases S4 t with h1|⟨k,r,h1,h2,h3⟩|⟨h1,h2⟩
    ·exact rO (by omega) 5 _ h1
    rotate_left
    ·rw [h1];refine Jm j bB fun hm=>?_;have:=h2 j hm q hj;rw [dK] at this;cases this
    ·rw [h3];have kE:k≠j:=fun e=>by
      subst e;rw [hj] at h1;obtain rfl:=Option.some.inj h1;rw [dK] at h2;cases h2
     unfold Mc.av;split<;>(simp only [cE,bne_iff_ne,ne_eq];omega)
   have lK:∀ (k:Nat) (cs:List AV),(st.h++mcH A fun i=>listed.getD i false)[k]? = some (some (Ob.box cs))→∀ c∈cs,cE (st.h.length+j) 5 c=true:=fun k cs hk c hc=>by
    rcases Nat.lt_or_ge k st.h.length with aq|dr
    ·rw [List.getElem?_append_left aq] at hk;exact rO (by omega) 5 _ (List.all_eq_true.1 (vq hh k _ hk) c hc)
    ·rw [List.getElem?_append_right dr] at hk;unfold mcH at hk;rw [List.getElem?_map,Option.map_eq_some_iff] at hk;obtain ⟨r,hr,he⟩:=hk;unfold Mc.at_ at he;split at he
     ·simp only [Option.some.injEq] at he;unfold Mc.ob at he;split at he
      ·simp only [Ob.box.injEq] at he;subst he;obtain ⟨z,_,rfl⟩:=List.mem_map.1 hc;rfl
      ·cases he
     ·cases he
   have rH:∀ z:Operand,z∈o3.op.operands→ev (aQ st (l.take n) rs) z≠.any→a.eval z=a.eval z∧ev (aQ st (l.take n) rs) z=ev ⟨s,st.h++mcH A fun i=>listed.getD i false⟩ z:=fun z hz ax=>⟨rfl,by
    cases z with
    | tmp t=>
     have ht:t∈o3.looksAt l.toArray:=List.mem_append_left _ (List.mem_filterMap.2 ⟨.tmp t,by simpa using hz,rfl⟩);show lkp _ t=lkp _ t;rcases cT (k:=n) (by omega) (Nat.le_refl _) t ht with h1|⟨h1,_⟩
     ·rw [←bp] at h1;exact absurd h1 ax
     ·rw [←bp] at h1;exact h1
    | const v=>rfl
    | global g=>rfl
    | func f=>rfl⟩
   rcases AT with ⟨ng,t3,x3,y3,iz⟩|⟨ng,t3,iz⟩
   ·have fN:=AP mi hj;unfold mcK at fN;rw [gy] at fN;simp only [iz] at fN;obtain ⟨ti,te,aV,fD,xI,Ep,iA,cw,lg,mw,vr,rP,Jq,AU⟩:=fN;have e1:a.eval x3 = .int .i64 q.m:=by
     have:=R.eval x3;rw [←(rH x3 (by rw [iz];simp [Op.operands]) (by rw [xI];simp)).2,xI] at this;exact this.lit_inv
    have e2:a.eval y3 = .int .i64 q.m:=by
     have:=R.eval y3;rw [←(rH y3 (by rw [iz];simp [Op.operands]) (by rw [Ep];simp)).2,Ep] at this;exact this.lit_inv
    obtain ⟨z,xJ,iM,km⟩:=pr fD;have aD:=Er (P:=P) (w:=w) aV fD iA cw lg mw (n:=q.m) vr rP;have R':=R.fillRow (z:=q.z) (m:=q.m) (e:=q.e) (d:=q.d) (fh (List.all_eq_true.1 hN o3 (List.mem_of_getElem? gy)) q.d gK) gh pq lK (by rw [AU,lg];exact Nat.pos_of_ne_zero mw) (by rw [AU];exact fun u hu=>List.all_eq_true.1 iM u hu) vr;simp only at R';rw [fa bB (fun k r hr kE=>?_) (fun r hr=>?_)] at R'
    ·unfold wpOp;simp only [ho];rw [if_pos (by simp [Region.wanted,xG])];refine Or.inl ?_;unfold Oper.wp;have f_:(execOp a.eval o3).run P w = .ok (.value (.slice (some ⟨w.heap.size,0,none⟩) q.m q.m)) { w with heap:=w.heap.push (.cells (fu q.z q.m).toArray q.e) }:=by
      simp only [execOp,iz,e1,e2,Sem.run_bind,aD,Result.andThen_ok,Sem.run_pure,Jq,AU]
     rw [f_];simp only [Oper.upon];rw [gK];refine ⟨head.set hi bg,_,_,R',fun k r d hk AW eP hl hr oC=>?_,fun hl=>?_,fun t ht=>?_,fun k r hr hl=>?_,fun t=>?_⟩
     ·have jy:k≠q.ai:=fun e=>by rw [e,dY] at eP;cases eP
      simp only [lkp];rw [if_neg (cA hk jy hr oC gK)];rw [aZ (Ne.symm jy)] at hl;exact S1 k r d hk AW eP hl hr oC
     ·have nh:q.ai≠b:=fun e=>by rw [e,vm] at dY;cases dY
      rw [aZ nh] at hl;simp only [lkp];rw [if_neg (mu bg nh gy gK)];exact S5 hl
     ·simp only [lkp];rw [if_neg fun e=>ht q.ai o3 bg gy (by rw [gK,e])];exact S2 t ht
     ·simp only [lkp];by_cases he:q.d=r.d
      ·rw [if_pos he,←dv hj hr he];rw [dv hj hr he,hr] at hj;obtain rfl:=Option.some.inj hj;simp [Mc.av,ng]
      ·rw [if_neg he];refine S3 k r hr ?_;rw [aZ fun e=>he ?_] at hl
       ·exact hl
       ·obtain ⟨_,o4,a2,_,a4,_⟩:=gJ hr;rw [←e,gy] at a2;obtain rfl:=Option.some.inj a2;rw [gK] at a4;exact Option.some.inj a4
     ·simp only [lkp];by_cases he:q.d=t
      ·rw [if_pos he];exact .inr (.inl ⟨j,q,hj,cg,by simp [Mc.av,ng]⟩)
      ·rw [if_neg he];rcases S4 t with h1|⟨k,r,h1,h2,h3⟩|⟨h1,h2⟩
       ·exact .inl h1
       ·refine .inr (.inl ⟨k,r,h1,?_,h3⟩);by_cases e:q.ai=r.ai
        ·rw [←e];exact cg
        ·rw [aZ e];exact h2
       ·refine .inr (.inr ⟨h1,fun k hk r hr=>?_⟩);by_cases e:q.ai=r.ai
        ·rw [←e];exact cg
        ·rw [aZ e];exact h2 k hk r hr
    ·have ax:q.ai≠r.ai:=fun e=>by
      obtain ⟨_,o4,a2,_,a4,_⟩:=gJ hr;rw [←e,gy] at a2;obtain rfl:=Option.some.inj a2;rw [gK] at a4;exact kE (dv hr hj (Option.some.inj a4).symm)
     simp only [Mc.at_,aZ ax]
    ·rw [hj] at hr;obtain rfl:=Option.some.inj hr;simp only [Mc.at_,cg,if_true,Mc.ob,ng];rfl
   ·have fN:=AP mi hj;unfold mcK at fN;rw [gy] at fN;simp only [iz] at fN;obtain ⟨ti,aV,hz⟩:=fN;obtain ⟨z,xJ,iM,km⟩:=pr aV;have hc:Cells w (Mof M0 (st.h++mcH A fun i=>listed.getD i false) p) (st.h++mcH A fun i=>listed.getD i false) p (q.z.map .lit) z.cells.toList:=by rw [xJ,←hz];exact Cells.of_lits _ iM
    have R':=R.fill (d:=q.d) (fh (List.all_eq_true.1 hN o3 (List.mem_of_getElem? gy)) q.d gK) gh pq lK hc t3;simp only at R';rw [fa bB (fun k r hr kE=>?_) (fun r hr=>?_)] at R'
    ·unfold wpOp;simp only [ho];rw [if_pos (by simp [Region.wanted,xG])];refine Or.inl ?_;unfold Oper.wp;have aD:(execOp a.eval o3).run P w = .ok (.value (.pointer (some ⟨w.heap.size,0,none⟩))) { w with heap:=w.heap.push (.cells z.cells.toList.toArray t3) }:=by
      simp [execOp,iz,Instr.alloc,km,newVar,newRow]
     rw [aD];simp only [Oper.upon];rw [gK];refine ⟨head.set hi bg,_,_,R',fun k r d hk AW eP hl hr oC=>?_,fun hl=>?_,fun t ht=>?_,fun k r hr hl=>?_,fun t=>?_⟩
     ·have jy:k≠q.ai:=fun e=>by rw [e,dY] at eP;cases eP
      simp only [lkp];rw [if_neg (cA hk jy hr oC gK)];rw [aZ (Ne.symm jy)] at hl;exact S1 k r d hk AW eP hl hr oC
     ·have nh:q.ai≠b:=fun e=>by rw [e,vm] at dY;cases dY
      rw [aZ nh] at hl;simp only [lkp];rw [if_neg (mu bg nh gy gK)];exact S5 hl
     ·simp only [lkp];rw [if_neg fun e=>ht q.ai o3 bg gy (by rw [gK,e])];exact S2 t ht
     ·simp only [lkp];by_cases he:q.d=r.d
      ·rw [if_pos he,←dv hj hr he];rw [dv hj hr he,hr] at hj;obtain rfl:=Option.some.inj hj;simp [Mc.av,ng]
      ·rw [if_neg he];refine S3 k r hr ?_;rw [aZ fun e=>he ?_] at hl
       ·exact hl
       ·obtain ⟨_,o4,a2,_,a4,_⟩:=gJ hr;rw [←e,gy] at a2;obtain rfl:=Option.some.inj a2;rw [gK] at a4;exact Option.some.inj a4
     ·simp only [lkp];by_cases he:q.d=t
      ·rw [if_pos he];exact .inr (.inl ⟨j,q,hj,cg,by simp [Mc.av,ng]⟩)
      ·rw [if_neg he];rcases S4 t with h1|⟨k,r,h1,h2,h3⟩|⟨h1,h2⟩
       ·exact .inl h1
       ·refine .inr (.inl ⟨k,r,h1,?_,h3⟩);by_cases e:q.ai=r.ai
        ·rw [←e];exact cg
        ·rw [aZ e];exact h2
       ·refine .inr (.inr ⟨h1,fun k hk r hr=>?_⟩);by_cases e:q.ai=r.ai
        ·rw [←e];exact cg
        ·rw [aZ e];exact h2 k hk r hr
    ·have ax:q.ai≠r.ai:=fun e=>by
      obtain ⟨_,o4,a2,_,a4,_⟩:=gJ hr;rw [←e,gy] at a2;obtain rfl:=Option.some.inj a2;rw [gK] at a4;exact kE (dv hr hj (Option.some.inj a4).symm)
     simp only [Mc.at_,aZ ax]
    ·rw [hj] at hr;obtain rfl:=Option.some.inj hr;simp only [Mc.at_,cg,if_true,Mc.ob,ng]
 ·rintro listed a w ⟨head,p,s,R,S1,S5,S2,S3,S4⟩ aF;have bg:∀ i,kB A i=true→i < n:=fun i hi=>by
   obtain ⟨q,hq,kD⟩:=List.any_eq_true.1 hi;obtain ⟨h1,_⟩:=Em (List.all_eq_true.1 vo q hq);have:q.ai=i:=by simpa using kD
   omega
  rw [Jj A _ fun i hi=>aF i (bg i hi)] at R;rw [eZ] at hK;have ij:∀ t,t≠bd→(lkp (mcS st.h.length A++(aQ st (l.take n) rs).s) t=lkp s t∨lkp (mcS st.h.length A++(aQ st (l.take n) rs).s) t = .any):=fun t Jr=>by
   rcases qk (mcS st.h.length A) (aQ st (l.take n) rs).s t with h1|h1
   ·rw [h1];by_cases ax:lkp (mcS st.h.length A) t = .any
    ·exact .inr ax
    ·obtain ⟨j,q,g1,g2,g3⟩:=Ek ax;rw [g3,←g2];exact .inl (S3 j q g1 (aF _ (gJ g1).1)).symm
   ·rw [h1,bp];by_cases hex:∃ (j:Nat) (q:Oper),j < n∧l[j]? = some q∧q.dst=some t
    ·obtain ⟨j,q,hj,hq,aH⟩:=hex;rw [aX hj (Nat.le_refl _) hq aH];have kC:j≠b:=fun e=>by
      subst e;rw [vn] at hq;obtain rfl:=Option.some.inj hq;rw [lf] at aH;exact Jr (Option.some.inj aH).symm
     cases hc:kB A j
     ·exact .inl (S1 j q t hj kC hc (aF j hj) hq aH).symm
     ·exact .inr (iy hj hc hq)
    ·have bD:∀ j q,j < n→l[j]? = some q→q.dst≠some t:=fun j q hj hq he=>hex ⟨j,q,hj,hq,he⟩;rw [aW bD,S2 t bD];exact .inl rfl
  have R':=R.weak (s':=(bd,BV)::(mcS st.h.length A++(aQ st (l.take n) rs).s)) fun t=>by
   show lkp ((bd,BV)::(mcS st.h.length A++(aQ st (l.take n) rs).s)) t=lkp s t∨_;simp only [lkp];by_cases he:bd=t
   ·rw [if_pos he,←he];exact .inl (S5 (aF b xD)).symm
   ·rw [if_neg he];exact ij t fun e=>he e.symm
  have ja:(l.drop n).all (cW N)=true:=List.all_eq_true.2 fun q hq=>List.all_eq_true.1 hN q (List.mem_of_mem_drop hq);exact mP (ow:=ow) hN (fun p st a w R h=>⟨st,p,R,h⟩) (l.drop n) p _ _ w ja R' hK
 ·have rQ:(mcH A fun i=>(Array.replicate l.toArray.size false).getD i false)=List.replicate A.length none:=by
   apply List.ext_getElem?;intro k;unfold mcH;rw [List.getElem?_map,List.getElem?_replicate];cases hq:A[k]? with
   | none=>
    have:=List.getElem?_eq_none_iff.1 hq;rw [if_neg (by omega)];rfl
   | some q=>
    have:=(List.getElem?_eq_some_iff.1 hq).1;rw [if_pos this];simp only [Option.map_some,Mc.at_,getD_replicate_false];rfl
  refine ⟨⟨by simp,fun j oj _ hl=>(by rw [getD_replicate_false] at hl;cases hl),fun t _ ht=>getD_in (by simpa using ht) (getD_replicate_false _ _)⟩,p0,st.s,?_,fun j q d _ _ _ hl=>(by rw [getD_replicate_false] at hl;cases hl),fun hl=>(by rw [getD_replicate_false] at hl;cases hl),fun _ _=>rfl,fun j q _ hl=>(by rw [getD_replicate_false] at hl;cases hl),fun t=>.inl (po hs t)⟩;rw [rQ];exact (R0.later (Below.refl _ _).drew).pad A.length
end
end Go.Proofs.YtoibondihdhnoaaGreatDoor
