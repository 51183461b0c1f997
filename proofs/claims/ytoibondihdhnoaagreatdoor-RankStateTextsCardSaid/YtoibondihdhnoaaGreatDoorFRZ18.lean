/- Texts in one: A drawing region that makes several rows of the call's own, in no order to each other: of every program; no condition. -/
import Derived.Test.YtoibondihdhnoaaGreatDoorFRZ7
namespace Go.Proofs.YtoibondihdhnoaaGreatDoor
open Go.RowKit
section
variable {P:Program} {M0:Nat→Nat→Prop} {w0:Bas} {N:Nm} {p:Pl} {st:VS} {a:Act} {w:World} {Q:Exit→VS→Prop}
theorem Rel.fillRow {z:List Value} {m e id d:Nat} (R:Rel M0 w0 N p st a w) (hd:N.has d) (hid:st.h[id]? = some none) (hs:∀ t,cu id 5 (lkp st.s t)=true) (hh:∀ (i:Nat) (cs:List AV),st.h[i]? = some (some (Ob.box cs))→∀ c∈cs,cu id 5 c=true)
  (hz:0 < z.length) (iX:∀ u∈z,u.oneCell'=true) (hm:m≤1000000000) :
  Rel M0 w0 N (cq p id w.heap.size) ⟨(d,.osl id)::st.s,st.h.set id (some (.arr e z.length false (List.replicate m (z.map .lit))))⟩ (a.put (some d) (.slice (some ⟨w.heap.size,0,none⟩) m m)) { w with heap:=w.heap.push (.cells (eW z m).toArray e) }:=by
 have hb:=nO w (.cells (eW z m).toArray e);have fk:id < st.h.length:=(List.getElem?_eq_some_iff.1 hid).1;have hp:∀ i,i≠id→cq p id w.heap.size i=p i:=fun i hi=>(jO hi).1;have jP:cq p id w.heap.size id=w.heap.size:=(ko p _ _).1;have bN:∀ i o,(st.h.set id (some (.arr e z.length false (List.replicate m (z.map .lit)))))[i]? = some (some o)→(i=id∧o = .arr e z.length false (List.replicate m (z.map .lit)))∨(i≠id∧st.h[i]? = some (some o)):=by
  intro i o aL;rw [List.getElem?_set] at aL;by_cases he:id=i
  ·rw [if_pos he,if_pos (by omega)] at aL;simp only [Option.some.injEq] at aL;exact .inl ⟨he.symm,aL.symm⟩
  ·rw [if_neg he] at aL;exact .inr ⟨fun h=>he h.symm,aL⟩
 have hM:∀ c j,c < w.heap.size→¬Mof M0 st.h p c j→¬Mof M0 (st.h.set id (some (.arr e z.length false (List.replicate m (z.map .lit))))) (cq p id w.heap.size) c j:=by
  intro c j hc hn hm;rcases hm with hm|⟨i,o,hi,hl,kL⟩
  ·exact hn (.inl hm)
  ·rcases bN i o hi with ⟨rfl,_⟩|⟨aC,bF⟩
   ·have:=lx kL;omega
   ·exact hn (.inr ⟨i,o,bF,hl,(iY aC).1 kL⟩)
 have hV:∀ {x:AV} {u:Value},cu id 5 x=true→V1 w (Mof M0 st.h p) st.h p x u→V1 { w with heap:=w.heap.push (.cells (eW z m).toArray e) } (Mof M0 (st.h.set id (some (.arr e z.length false (List.replicate m (z.map .lit))))) (cq p id w.heap.size)) (st.h.set id (some (.arr e z.length false (List.replicate m (z.map .lit))))) (cq p id w.heap.size) x u:=fun hx hv=>
  V1.purge (.of_below hb) hM (by simp) hp (fun i e sz nl es v aC he hv=>by
   rcases bN i _ he with ⟨h1,_⟩|⟨_,h2⟩
   ·exact absurd h1 aC
   ·exact (hv _ _ _ _ h2).below hb) (fun i e sz nl pe qs v aC he hv=>by
   rcases bN i _ he with ⟨h1,_⟩|⟨_,h2⟩
   ·exact absurd h1 aC
   ·exact (hv _ _ _ _ _ h2).below hb) (fun i k sz v aC cK hs=>hs.keep (fun e sz pe qs he=>by
   rcases bN i _ he with ⟨h1,_⟩|⟨_,h2⟩
   ·exact absurd h1 aC
   ·exact ⟨h2,(jO aC).1,(jO aC).2,fun b _ _ aw=>hb.block b aw⟩) hb.size) 5 _ _ hv hx
 refine ⟨R.defers,R.size.put hd,R.below.later hb,R.m0,R.x0,fun i=>?_,fun i o hi=>?_,fun i i' o o' hi bF hl bp x j j' hO cO=>?_⟩
 ·rw [mI a d _ i (R.size.lt hd)];simp only [lkp];split
  ·refine .osl _ _ _ _ (by simpa using fk) (fun e' bm kQ bQ he=>?_) fun e' bm kQ pe qs he=>?_
   ·rw [List.getElem?_set_self fk] at he;simp only [Option.some.injEq] at he;injection he with q1 q2 q3 q4
    subst q1 q2 q3 q4;unfold Osl;rw [if_neg (by simp),jP,List.length_replicate];exact ⟨m,(eW z m).toArray,rfl,by simp [-World.alloc_eq],by simp [tf],Nat.le_refl _,by simp only [maxLen];omega⟩
   ·rw [List.getElem?_set_self fk] at he;simp at he
  ·exact hV (hs i) (R.slots i)
 ·rcases bN i o hi with ⟨rfl,rfl⟩|⟨aC,bF⟩
  ·refine ⟨hz,fun k x hk=>?_,?_⟩
   ·obtain ⟨_,rfl⟩:=List.mem_replicate.1 (List.mem_of_getElem? hk);refine ⟨by simp,fun c hc=>?_⟩;obtain ⟨z',uM,rfl⟩:=List.mem_map.1 hc;exact iX z' uM
   ·rw [if_neg (by simp)];refine ⟨rB R.below.size,(eW z m).toArray,by rw [jP];simp [-World.alloc_eq],by simp [tf],fun k x j c hk hj=>?_⟩;obtain ⟨_,rfl⟩:=List.mem_replicate.1 (List.mem_of_getElem? hk);have Ex:k < m:=by simpa using (List.getElem?_eq_some_iff.1 hk).1
    have bK:j < z.length:=by simpa using (List.getElem?_eq_some_iff.1 hj).1
    have aw:k*z.length+j < (eW z m).length:=by
     rw [tf];have:(k+1)*z.length≤m*z.length:=Nat.mul_le_mul_right _ Ex;rw [Nat.add_mul] at this;omega
    refine ⟨(eW z m)[k*z.length+j],by simp [aw],?_⟩;rw [Ey k j c _ Ex hj (List.getElem?_eq_getElem aw)];exact .lit _
  ·exact (R.objs i o bF).keep (fun _=>jO aC) (fun _ b _ _ eN=>hb.block b eN) hb.size (fun hx=>hx.keep (.of_below hb) hM) fun cs bV c gP _ hx=>hV (hh i cs (by rw [bF,bV]) c gP) hx
 ·rcases bN i o hi with ⟨rfl,rfl⟩|⟨hn,h1⟩<;>rcases bN i' o' bF with ⟨rfl,rfl⟩|⟨nP,h2⟩
  ·rfl
  ·have h3:=((R.objs i' o' h2).own bp x j' ((iY nP).1 cO)).2;have h4:=lx hO;omega
  ·have h3:=((R.objs i o h1).own hl x j ((iY hn).1 hO)).2;have h4:=lx cO;omega
  ·exact R.inj i i' o o' h1 h2 hl bp x j j' ((iY hn).1 hO) ((iY nP).1 cO)
end
structure Mk where
 ai:Nat
 d:Nat
 e:Nat
 z:List Value
 m:Nat
def Mk.ob (q:Mk) : Ob:=.arr q.e q.z.length false (List.replicate q.m (q.z.map .lit))
def Mk.at_ (q:Mk) (f:Nat→Bool) : Option Ob:=if f q.ai=true then some q.ob else none
def mkE:List Mk→Hp
 | []=>[]
 | q::r=>some (.arr q.e q.z.length false (List.replicate q.m (q.z.map .lit)))::mkE r
def mkS (k:Nat) : List Mk→List (Nat×AV)
 | []=>[]
 | q::r=>(q.d,.osl k)::mkS (k+1) r
def mkK (P:Program) (l:List Oper) (T:VS) (q:Mk) : Prop:=
 match l[q.ai]? with
 | some o=>(match o.op with
  | .makeSlice t x y=>∃ ti te,aU P t=some ti∧aU P ti.elem=some te∧ev T x = .lit (.int .i64 q.m)∧ev T y = .lit (.int .i64 q.m)∧ti.kind=1∧te.size=ti.esz∧te.zero.length=ti.esz∧ti.esz≠0∧q.m≤1000000000∧te.bytes≤100000∧q.e=ti.elem∧q.z=te.zero
  | _=>False)
 | none=>False
def Ez (P:Program) (l:List Oper) (T:VS) : List Mk→Prop
 | []=>True
 | q::r=>mkK P l T q∧Ez P l T r
section
variable {P:Program} {M0:Nat→Nat→Prop} {w0:Bas} {N:Nm} {p:Pl} {st:VS} {a:Act} {w:World} {Q:Exit→VS→Prop}
end
attribute [go_sem] mkS mkE Ez mkK
section
variable {P:Program} {M0:Nat→Nat→Prop} {w0:Bas} {N:Nm} {p:Pl} {st:VS} {a:Act} {w:World} {Q:Exit→VS→Prop}
end
structure Mc where
 ai:Nat
 d:Nat
 e:Nat
 z:List Value
 m:Nat
 al:Bool
def Mc.ob (q:Mc) : Ob:=if q.al=true then .box (q.z.map .lit) else .arr q.e q.z.length false (List.replicate q.m (q.z.map .lit))
def Mc.av (q:Mc) (k:Nat) : AV:=if q.al=true then .ref k 0 else .osl k
def Mc.at_ (q:Mc) (f:Nat→Bool) : Option Ob:=if f q.ai=true then some q.ob else none
def mcH (A:List Mc) (f:Nat→Bool) : Hp:=A.map fun q=>q.at_ f
def mcE:List Mc→Hp
 | []=>[]
 | q::r=>some q.ob::mcE r
def mcS (k:Nat) : List Mc→List (Nat×AV)
 | []=>[]
 | q::r=>(q.d,q.av k)::mcS (k+1) r
def kp (A:List Mc) (i:Nat) : Bool:=A.any fun q=>q.ai == i
def xN (l:List Oper) (n:Nat) (q:Mc) : Bool:=
 decide (q.ai < n)&&(match l[q.ai]? with|some o=>o.guard.isNone&&o.dst == some q.d&&(match o.op with | .makeSlice .. => !q.al | .alloc _=>q.al|_=>false)|none=>false)
def EA (l:List Oper) (n:Nat) (A:List Mc) : Bool:=A.all (xN l n)&&decide (A.map (·.d)).Nodup
def mcK (P:Program) (l:List Oper) (T:VS) (q:Mc) : Prop:=
 match l[q.ai]? with
 | some o=>(match o.op with
  | .makeSlice t x y=>∃ ti te,aU P t=some ti∧aU P ti.elem=some te∧ev T x = .lit (.int .i64 q.m)∧ev T y = .lit (.int .i64 q.m)∧ti.kind=1∧te.size=ti.esz∧te.zero.length=ti.esz∧ti.esz≠0∧q.m≤1000000000∧te.bytes≤100000∧q.e=ti.elem∧q.z=te.zero
  | .alloc t=>∃ ti,aU P t=some ti∧ti.zero=q.z
  | _=>False)
 | none=>False
def xO (P:Program) (l:List Oper) (T:VS) : List Mc→Prop
 | []=>True
 | q::r=>mcK P l T q∧xO P l T r
def AS (l:List Oper) (n:Nat) (A:List Mc) (b bd:Nat) (js:List Nat) : Bool:=
 decide (b < n)&&!kp A b&&(match l[b]? with|some o=>o.guard.isNone&&o.dst == some bd&&js.all fun j=>(match A[j]? with|some q=>o.op.operands.toList.any fun x=>(match x with | .tmp t=>t == q.d|_=>false)|none=>false)|none=>false)
theorem Kc {l:List Oper} {n:Nat} {A:List Mc} {b bd:Nat} {js:List Nat} (h:AS l n A b bd js=true) : b < n∧kp A b=false∧∃ o,l[b]? = some o∧o.guard=none∧o.dst=some bd∧∀ j,j∈js→∃ q,A[j]? = some q∧.tmp q.d∈o.op.operands.toList:=by
 simp only [AS,Bool.and_eq_true,decide_eq_true_eq,Bool.not_eq_true'] at h;obtain ⟨⟨h1,h2⟩,h3⟩:=h;refine ⟨h1,h2,?_⟩;split at h3
 ·rename_i o ho;simp only [Bool.and_eq_true,beq_iff_eq,Option.isNone_iff_eq_none] at h3;obtain ⟨⟨a,b⟩,c⟩:=h3;refine ⟨o,ho,a,b,fun j hj=>?_⟩;have h4:=List.all_eq_true.1 c j hj;split at h4
  ·rename_i q hq;obtain ⟨x,hx,AT⟩:=List.any_eq_true.1 h4;split at AT
   ·rename_i t;have:t=q.d:=by simpa using AT
    subst this;exact ⟨q,hq,hx⟩
   ·cases AT
  ·cases h4
 ·cases h3
section
variable {P:Program} {M0:Nat→Nat→Prop} {w0:Bas} {N:Nm} {p:Pl} {st:VS} {a:Act} {w:World} {Q:Exit→VS→Prop}
theorem AU {l:List Oper} {T:VS} : ∀ {A:List Mc},xO P l T A→∀ {j:Nat} {q:Mc},A[j]? = some q→mcK P l T q
 | [],_,j,q,h=>by simp at h
 | x::A,hk,j,q,h=>by
  cases j with
  | zero=>simp at h;subst h;exact hk.1
  | succ j=>exact AU hk.2 (j:=j) (by simpa using h)
theorem EB:∀ {A:List Mc} {j:Nat},(mcE A)[j]? = (A[j]?).map fun q=>some q.ob
 | [],j=>by simp [mcE]
 | q::A,0=>by simp [mcE]
 | q::A,j+1=>by simp [mcE,EB (A:=A) (j:=j)]
theorem Ke (A:List Mc) (f:Nat→Bool) (hf:∀ i,kp A i=true→f i=true) : mcH A f=mcE A:=by
 apply List.ext_getElem?;intro j;rw [EB];unfold mcH;rw [List.getElem?_map];cases hq:A[j]? with
 | none=>rfl
 | some q=>
  have h1:f q.ai=true:=hf _ (List.any_eq_true.2 ⟨q,List.mem_of_getElem? hq,by simp⟩);simp only [Option.map_some,Mc.at_,h1,if_true]
theorem EC:∀ {A:List Mc} {k t:Nat},lkp (mcS k A) t≠.any→∃ (j:Nat) (q:Mc),A[j]? = some q∧q.d=t∧lkp (mcS k A) t=q.av (k+j)
 | [],k,t,h=>absurd rfl h
 | x::A,k,t,h=>by
  simp only [mcS,lkp] at h ⊢;by_cases hd:x.d=t
  ·exact ⟨0,x,rfl,hd,by rw [if_pos hd];rfl⟩
  ·rw [if_neg hd] at h ⊢;obtain ⟨j,q,h1,h2,h3⟩:=EC (A:=A) (k:=k+1) h;exact ⟨j+1,q,by simpa using h1,h2,by rw [h3];congr 1;omega⟩
theorem ED {A:List Mc} {f g:Nat→Bool} (h:∀ i,kp A i=true→f i=g i) : mcH A f=mcH A g:=by
 unfold mcH;refine List.map_congr_left fun q hq=>?_;have h1:f q.ai=g q.ai:=h _ (List.any_eq_true.2 ⟨q,hq,by simp⟩);unfold Mc.at_;rw [h1]
theorem EE {l:List Oper} {n:Nat} {q:Mc} (h:xN l n q=true) : q.ai < n∧∃ o,l[q.ai]? = some o∧o.guard=none∧o.dst=some q.d∧((q.al=false∧∃ t x y,o.op = .makeSlice t x y)∨(q.al=true∧∃ t,o.op = .alloc t)):=by
 simp only [xN,Bool.and_eq_true,decide_eq_true_eq] at h;obtain ⟨h1,h2⟩:=h;refine ⟨h1,?_⟩;split at h2
 ·rename_i o ho;simp only [Bool.and_eq_true,beq_iff_eq,Option.isNone_iff_eq_none] at h2;obtain ⟨⟨a,b⟩,c⟩:=h2;split at c
  ·rename_i t x y ht;exact ⟨o,ho,a,b,.inl ⟨by simpa using c,t,x,y,ht⟩⟩
  ·rename_i t ht;exact ⟨o,ho,a,b,.inr ⟨c,t,ht⟩⟩
  ·cases c
 ·cases h2
theorem Kf {A:List Mc} (h:(A.map (·.d)).Nodup) {i j:Nat} {q r:Mc} (hi:A[i]? = some q) (hj:A[j]? = some r) (he:q.d=r.d) : i=j:=by
 have h1:(A.map (·.d))[i]? = some q.d:=by simp [hi]
 have h2:(A.map (·.d))[j]? = some q.d:=by simp [hj,he]
 obtain ⟨a1,b1⟩:=List.getElem?_eq_some_iff.1 h1;obtain ⟨a2,b2⟩:=List.getElem?_eq_some_iff.1 h2;rcases Nat.lt_trichotomy i j with hl|hl|hl
 ·exact absurd (b1.trans b2.symm) (List.pairwise_iff_getElem.1 h i j a1 a2 hl)
 ·exact hl
 ·exact absurd (b2.trans b1.symm) (List.pairwise_iff_getElem.1 h j i a2 a1 hl)
end
section
variable {P:Program} {M0:Nat→Nat→Prop} {w0:Bas} {N:Nm} {p:Pl} {st:VS} {a:Act} {w:World} {Q:Exit→VS→Prop}
theorem Kg {id:Nat} {l:List Oper} (n:Nat) (ow:List Nat) (A:List Mc) (b bd:Nat) (js:List Nat) (BV:AV) (hb:AS l n A b bd js=true) (hG:∀ (h:Hp) (E:Operand→AV) (o:Oper),l[b]? = some o→(∀ j∈js,∀ q,A[j]? = some q→E (.tmp q.d)=q.av (st.h.length+j))→fN P h E o.op BV) (Kh:∀ j,j < A.length→j∉js→cu (st.h.length+j) 5 BV=true) (hm:P.follows .mixedOrders=true) (hB:Region.specB l.toArray n=true) (hA:EA l n A=true) (hs:sOK st.h.length st.s) (hh:hOK st.h.length st.h)
  (h:kq P l (fun i=>kp A i || i == b) (l.take n) 0 st fun T=>xO P l T A∧eA P ow l (l.drop n) ⟨(bd,BV)::(mcS st.h.length A++T.s),T.h++mcE A⟩ (Q .normal)) : VWp P M0 w0 N (.region id l.toArray true) Q st:=fun oK p0 a0 AL R0=>by
 have hN:l.all (dz N)=true:=by simpa [fJ] using oK
 obtain ⟨rs,fB,Y,S,kR⟩:=uN _ _ _ h;obtain ⟨l6,hK⟩:=Y;obtain ⟨xP,uO,ob,uP,Ki,kS,AW⟩:=Kc hb;have fb:=hB;simp only [Region.specB,Bool.and_eq_true,decide_eq_true_eq] at fb;obtain ⟨⟨⟨⟨⟨⟨_,bg⟩,_⟩,_⟩,hd⟩,bz⟩,_⟩:=fb;have iS:n < l.length:=by simpa using bg
 have eB:d_ (l.take n)=true:=by simpa using hd
 have hlen:(l.take n).length=n:=by simp;omega
 rw [hlen] at fB;obtain ⟨uQ,l9⟩ : A.all (xN l n)=true∧(A.map (·.d)).Nodup:=by simpa [EA] using hA
 have iz:∀ {j:Nat} {q:Mc},A[j]? = some q→_:=fun {j q} hq=>EE (List.all_eq_true.1 uQ q (List.mem_of_getElem? hq));have bo:∀ {i:Nat} {o:Oper},i < n→l[i]? = some o→(l.take n)[i]? = some o:=fun {i o} hi ho=>by rw [List.getElem?_take_of_lt hi];exact ho
 have pZ:∀ {i:Nat} {o:Oper},(l.take n)[i]? = some o→i < n∧l[i]? = some o:=fun {i o} ho=>by
  have hi:i < n:=by have:=(List.getElem?_eq_some_iff.1 ho).1;omega
  rw [List.getElem?_take_of_lt hi] at ho;exact ⟨hi,ho⟩
 have fZ:∀ {i:Nat},i < n→rs[i]? = some (rs.getD i .any):=fun {i} hi=>by simp [List.getD,show i < rs.length by omega]
 have cS:∀ i,i < n→∀ o,l[i]? = some o→∀ t∈o.looksAt l.toArray,∀ j,j < n→∀ q,l[j]? = some q→q.dst=some t→Region.waitsFor .any l.toArray i j=true∧j < i:=by
  intro i hi o ho;have h:=List.all_eq_true.1 bz i (List.mem_range.2 hi);simp only [List.getElem?_toArray,ho,Bool.and_eq_true] at h;have iL:∀ e∈o.after,Region.binds .any e=true→e.on < i:=fun e he hb=>by
   have h1:=Array.all_eq_true'.1 h.2 e he;simp only [hb,Bool.not_true,Bool.false_or,decide_eq_true_eq] at h1;exact h1
  intro t ht j hj q hq aS;have h1:=List.all_eq_true.1 (List.all_eq_true.1 h.1 t ht) j (List.mem_range.2 hj);simp only [hq,Option.bind_some,aS,bne_self_eq_false,Bool.false_or] at h1;refine ⟨h1,?_⟩;obtain ⟨o',bA,e,he,hb,cX⟩:=Region.waitsFor_spec h1;have:o'=o:=Option.some.inj (bA.symm.trans (by simpa using ho));subst this;rw [←cX];exact iL e he hb
 have bn:∀ {i j:Nat} {q:Oper} {t:Nat},j < i→i≤n→l[j]? = some q→q.dst=some t→lkp (a_ st ((l.take n).take i) (rs.take i)).s t=rs.getD j .any:=fun {i j q t} hj hi hq ht=>
  p5 ((l.take n).take i) (rs.take i) st t j q (rs.getD j .any) (pY _ _ eB) (by rw [List.getElem?_take_of_lt hj];exact bo (by omega) hq) (by rw [List.getElem?_take_of_lt hj];exact fZ (by omega)) ht
 have bh:∀ {i t:Nat},(∀ j q,j < n→l[j]? = some q→q.dst≠some t)→lkp (a_ st ((l.take n).take i) (rs.take i)).s t=lkp st.s t:=fun {i t} ho=>
  oL _ _ _ _ fun q hq he=>by
   obtain ⟨j,hj⟩:=List.mem_iff_getElem?.1 (List.mem_of_mem_take hq);obtain ⟨h1,h2⟩:=pZ hj;exact ho j q h1 h2 he
 have cn:a_ st (l.take n) rs=a_ st ((l.take n).take n) (rs.take n):=by
  rw [List.take_of_length_le (l:=l.take n) (by rw [hlen];exact Nat.le_refl _),List.take_of_length_le (l:=rs) (by omega)]
 have eH:∀ {j:Nat} {q:Oper} {d:Nat},j < n→j≠b→kp A j=false→l[j]? = some q→q.dst=some d→bj st.h.length 5 (rs.getD j .any)=true:=fun {j q d} hj kr hc hq aS=>
  (S j q _ (by rw [Nat.zero_add];simp [hc,kr]) (bo hj hq) (fZ hj)).2 d aS
 have b9:∀ {j:Nat} {q:Oper},j < n→kp A j=true→l[j]? = some q→rs.getD j .any = .any:=fun {j q} hj hc hq=>by
  have h1:=kR j q (by rw [Nat.zero_add];simp [hc]) (bo hj hq);rw [fZ hj] at h1;exact Option.some.inj h1
 have AX:rs.getD b .any = .any:=by
  have h1:=kR b ob (by rw [Nat.zero_add];simp) (bo xP uP);rw [fZ xP] at h1;exact Option.some.inj h1
 have kt:∀ {j:Nat} {q:Oper} {d:Nat},j < n→j≠b→l[j]? = some q→q.dst=some d→d≠bd:=fun {j q d} hj kr hq aS he=>by
  subst he;exact kr (p6 eB (bo hj hq) (bo xP uP) aS kS)
 refine wp_region_any hm ?_;refine xt (Inv:=fun listed a w=>HeadInv .any l.toArray n listed∧∃ (p:Pl) (s:List (Nat×AV)),Rel M0 w0 N p ⟨s,st.h++mcH A fun i=>listed.getD i false⟩ a w ∧
   (∀ (j:Nat) (q:Oper) (d:Nat),j < n→j≠b→kp A j=false→listed.getD j false=true→l[j]? = some q→q.dst=some d→lkp s d=rs.getD j .any)∧(listed.getD b false=true→lkp s bd=BV) ∧
   (∀ t,(∀ j q,j < n→l[j]? = some q→q.dst≠some t)→lkp s t=lkp st.s t)∧(∀ (j:Nat) (q:Mc),A[j]? = some q→listed.getD q.ai false=true→lkp s q.d=q.av (st.h.length+j)) ∧
   (∀ t,bj st.h.length 5 (lkp s t)=true∨(∃ (j:Nat) (q:Mc),A[j]? = some q∧listed.getD q.ai false=true∧lkp s t=q.av (st.h.length+j))∨(lkp s t=BV∧∀ j∈js,∀ q,A[j]? = some q→listed.getD q.ai false=true))) hB (fun _ _ _ inv=>inv.1) ?_ ?_ _ _ _ _ ?_ (by simp)
 ·rintro listed a w i o ⟨head,p,s,R,S1,S5,S2,S3,S4⟩ hi bT ho fI;have bA:l[i]? = some o:=by simpa using ho
  obtain ⟨_,o2,rn,dS⟩:=mem_ready.1 hi;have:o2=o:=Option.some.inj (rn.symm.trans ho);subst this;have cG:i < listed.size:=by rw [head.size];simpa using (by omega:i < l.length)
  have bW:(listed.setIfInBounds i true).getD i false=true:=by simp [cG]
  have bb:∀ {j:Nat},i≠j→(listed.setIfInBounds i true).getD j false=listed.getD j false:=fun aC=>getD_set_ne false aC;have cT:∀ j,Region.waitsFor .any l.toArray i j=true→listed.getD j false=true:=by
   intro j hj;obtain ⟨o3,rp,e,he,hb,cX⟩:=Region.waitsFor_spec hj;have:o3=o2:=Option.some.inj (rp.symm.trans ho);subst this;rw [←cX];exact dS e he hb
  have dm:∀ {k:Nat},i≤k→k≤n→∀ t∈o2.looksAt l.toArray,lkp (a_ st ((l.take n).take k) (rs.take k)).s t = .any∨(lkp (a_ st ((l.take n).take k) (rs.take k)).s t=lkp s t∧bj st.h.length 5 (lkp s t)=true):=fun {k} p7 kM t ht=>by
   by_cases hex:∃ (j:Nat) (q:Oper),j < n∧l[j]? = some q∧q.dst=some t
   ·obtain ⟨j,q,hj,hq,aS⟩:=hex;obtain ⟨h1,h2⟩:=cS i bT o2 bA t ht j hj q hq aS;rw [bn (by omega) kM hq aS];by_cases kr:j=b
    ·subst kr;exact .inl AX
    cases hc:kp A j
    ·have:=S1 j q t hj kr hc (cT j h1) hq aS;exact .inr ⟨this.symm,by rw [this];exact eH hj kr hc hq aS⟩
    ·exact .inl (b9 hj hc hq)
   ·have bw:∀ j q,j < n→l[j]? = some q→q.dst≠some t:=fun j q hj hq he=>hex ⟨j,q,hj,hq,he⟩;rw [bh bw,S2 t bw];exact .inr ⟨rfl,uR hs t⟩
  have dt:∀ {j:Nat} {q:Oper} {d d':Nat},j < n→j≠i→l[j]? = some q→q.dst=some d→o2.dst=some d'→d'≠d:=fun {j q d d'} hj eG hq aS lf he=>by
   subst he;exact eG (p6 eB (bo hj hq) (bo bT bA) aS lf)
  cases gZ:kp A i
  ·by_cases xQ:i=b
   ·subst xQ;have:o2=ob:=Option.some.inj (bA.symm.trans uP);subst this;have mJ:∀ {j:Nat} {q:Mc},A[j]? = some q→i≠q.ai:=fun {j q} hq e=>by
     have:kp A i=true:=List.any_eq_true.2 ⟨q,List.mem_of_getElem? hq,by simp [e]⟩;rw [gZ] at this;cases this
    have cm:(mcH A fun i=>listed.getD i false)=mcH A fun j=>(listed.setIfInBounds i true).getD j false:=ED fun j hj=>by
     have aC:i≠j:=fun e=>by rw [←e,gZ] at hj;cases hj
     exact (bb aC).symm
    have EF:∀ j∈js,∀ q,A[j]? = some q→listed.getD q.ai false=true:=fun j hj q hq=>by
     obtain ⟨q',EG,hm⟩:=AW j hj;rw [hq] at EG;obtain rfl:=Option.some.inj EG;obtain ⟨Kj,oq,Kl,_,aS,_⟩:=iz hq;exact cT _ (cS i bT o2 bA q.d (List.mem_append_left _ (List.mem_filterMap.2 ⟨.tmp q.d,hm,rfl⟩)) q.ai Kj oq Kl aS).1
    have hg:fN P (st.h++mcH A fun i=>listed.getD i false) (ev ⟨s,st.h++mcH A fun i=>listed.getD i false⟩) o2.op BV:=hG _ _ o2 uP fun j hj q hq=>S3 j q hq (EF j hj q hq);unfold wpOp;simp only [ho];rw [if_pos (by simp [Region.wanted,Ki])];refine Or.inl (lY (R.gives hg) rfl fun v w' hv=>?_);have R':=(R.later hv.2).put (d:=o2.dst) (fL (List.all_eq_true.1 hN o2 (List.mem_of_getElem? bA))) hv.1;rw [kS] at R' ⊢;rw [cm] at R';refine ⟨head.set hi bT,p,_,R',fun j q d hj kr gQ hl hq aS=>?_,fun _=>by simp [lkp],fun t ht=>?_,fun j q hq hl=>?_,fun t=>?_⟩
    ·simp only [lkp];rw [if_neg fun e=>kt hj kr hq aS e.symm];rw [bb (Ne.symm kr)] at hl;exact S1 j q d hj kr gQ hl hq aS
    ·simp only [lkp];rw [if_neg fun e=>ht i o2 bT bA (by rw [kS,e])];exact S2 t ht
    ·obtain ⟨h1,o3,h2,_,h3,_⟩:=iz hq;simp only [lkp];rw [if_neg fun e=>kt h1 (Ne.symm (mJ hq)) h2 h3 e.symm];rw [bb (mJ hq)] at hl;exact S3 j q hq hl
    ·simp only [lkp];by_cases kT:bd=t
     ·rw [if_pos kT];exact .inr (.inr ⟨rfl,fun j hj q hq=>by rw [bb (mJ hq)];exact EF j hj q hq⟩)
     ·rw [if_neg kT];rcases S4 t with h1|⟨j,q,h1,h2,h3⟩|⟨h1,h2⟩
      ·exact .inl h1
      ·exact .inr (.inl ⟨j,q,h1,by rw [bb (mJ h1)];exact h2,h3⟩)
      ·exact .inr (.inr ⟨h1,fun j hj q hq=>by rw [bb (mJ hq)];exact h2 j hj q hq⟩)
   obtain ⟨aD,rC⟩:=S i o2 (rs.getD i .any) (by rw [Nat.zero_add];simp [gZ,xQ]) (bo bT bA) (fZ bT);have cm:(mcH A fun i=>listed.getD i false)=mcH A fun j=>(listed.setIfInBounds i true).getD j false:=ED fun j hj=>by
    have aC:i≠j:=fun e=>by rw [←e,gZ] at hj;cases hj
    exact (bb aC).symm
   have p_:∀ {j:Nat} {q:Mc},A[j]? = some q→i≠q.ai:=fun {j q} hq e=>by
    have:kp A i=true:=List.any_eq_true.2 ⟨q,List.mem_of_getElem? hq,by simp [e]⟩;rw [gZ] at this;cases this
   have fin:∀ v w',V1 w' (Mof M0 (st.h++mcH A fun i=>listed.getD i false) p) st.h p (rs.getD i .any) v→Below w.heap.size w w'→(fun listed a w=>HeadInv .any l.toArray n listed∧∃ (p:Pl) (s:List (Nat×AV)),Rel M0 w0 N p ⟨s,st.h++mcH A fun i=>listed.getD i false⟩ a w ∧
     (∀ (j:Nat) (q:Oper) (d:Nat),j < n→j≠b→kp A j=false→listed.getD j false=true→l[j]? = some q→q.dst=some d→lkp s d=rs.getD j .any)∧(listed.getD b false=true→lkp s bd=BV) ∧
     (∀ t,(∀ j q,j < n→l[j]? = some q→q.dst≠some t)→lkp s t=lkp st.s t)∧(∀ (j:Nat) (q:Mc),A[j]? = some q→listed.getD q.ai false=true→lkp s q.d=q.av (st.h.length+j)) ∧
     (∀ t,bj st.h.length 5 (lkp s t)=true∨(∃ (j:Nat) (q:Mc),A[j]? = some q∧listed.getD q.ai false=true∧lkp s t=q.av (st.h.length+j))∨(lkp s t=BV∧∀ j∈js,∀ q,A[j]? = some q→listed.getD q.ai false=true))) (listed.setIfInBounds i true) (a.put o2.dst v) w':=fun v w' hv hb=>by
    have R':=(R.later hb).put (d:=o2.dst) (fL (List.all_eq_true.1 hN o2 (List.mem_of_getElem? bA))) (V1.long hv);have dp:(VS.put ⟨s,st.h++mcH A fun i=>listed.getD i false⟩ o2.dst (rs.getD i .any))=⟨(VS.put ⟨s,st.h++mcH A fun i=>listed.getD i false⟩ o2.dst (rs.getD i .any)).s,st.h++mcH A fun j=>(listed.setIfInBounds i true).getD j false⟩:=by rw [←cm];cases o2.dst<;>rfl
    rw [dp] at R';refine ⟨head.set hi bT,p,_,R',fun j q d hj kr gQ hl hq aS=>?_,fun hl=>?_,fun t ht=>?_,fun j q hq hl=>?_,fun t=>?_⟩
    ·rw [jJ];by_cases eG:j=i
     ·subst eG;have:q=o2:=Option.some.inj (hq.symm.trans bA);subst this;rw [if_pos aS]
     ·rw [if_neg fun e=>dt hj eG hq aS e rfl];rw [bb (Ne.symm eG)] at hl;exact S1 j q d hj kr gQ hl hq aS
    ·rw [bb xQ] at hl;rw [jJ,if_neg fun e=>kt bT xQ bA e rfl];exact S5 hl
    ·rw [jJ,if_neg (ht i o2 bT bA)];exact S2 t ht
    ·obtain ⟨h1,o3,h2,_,h3,_⟩:=iz hq;rw [jJ,if_neg fun e=>dt h1 (Ne.symm (p_ hq)) h2 h3 e rfl];rw [bb (p_ hq)] at hl;exact S3 j q hq hl
    ·rw [jJ];by_cases kT:o2.dst=some t
     ·rw [if_pos kT];exact .inl (rC t kT)
     ·rw [if_neg kT];rcases S4 t with h1|⟨j,q,h1,h2,h3⟩|⟨h1,h2⟩
      ·exact .inl h1
      ·exact .inr (.inl ⟨j,q,h1,by rw [bb (p_ h1)];exact h2,h3⟩)
      ·exact .inr (.inr ⟨h1,fun j hj q hq=>by rw [bb (p_ hq)];exact h2 j hj q hq⟩)
   have cE:fN P st.h (ev (a_ st ((l.take n).take i) (rs.take i))) o2.op (rs.getD i .any)→gives P o2 a w fun v w''=>V1 w'' (Mof M0 (st.h++mcH A fun i=>listed.getD i false) p) st.h p (rs.getD i .any) v∧Below w.heap.size w w'':=by
    intro hg;refine rv (R.short_objs hh) R.mok R.h0 R.glob (fun _ _ hb=>.inl hb) (fun x hx=>?_) hg;cases x with
    | tmp t=>
     show V1 _ _ _ _ (lkp (a_ st ((l.take n).take i) (rs.take i)).s t) _;rcases dm (Nat.le_refl i) (by omega) t (List.mem_append_left _ (List.mem_filterMap.2 ⟨.tmp t,by simpa using hx,rfl⟩)) with h1|⟨h1,h2⟩
     ·rw [h1];exact .base _ _ (.any _)
     ·rw [h1];exact V1.short (R.slots t) h2
    | const v=>exact .base _ _ (.lit v)
    | global g=>exact .base _ _ (R.evalG g)
    | func f=>exact .base _ _ (.lit _)
   have hy:=fun j=>rf (ops:=l) (j:=j) R hN;have cV:∀ (j:Nat) (want:Bool) (v:Value),o2.guard=some (j,want)→df l (a_ st ((l.take n).take i) (rs.take i)) j = .lit v→df l ⟨s,st.h++mcH A fun i=>listed.getD i false⟩ j = .lit v:=by
    intro j want v hg hv;unfold df at hv ⊢;cases hj:l[j]? with
    | none=>simpa [hj] using hv
    | some q=>
     cases hq:q.dst with
     | none=>simpa [hj,hq] using hv
     | some d=>
      have eV:d∈o2.looksAt l.toArray:=by
       unfold Oper.looksAt;refine List.mem_append_right _ ?_;simp [hg,hj,hq]
      simp only [hj,hq] at hv ⊢;rcases dm (Nat.le_refl i) (by omega) d eV with h1|⟨h1,_⟩
      ·rw [h1] at hv;cases hv
      ·rw [←h1];exact hv
   unfold wpOp;simp only [ho];unfold kO at aD;split at aD
   ·rename_i hg;rw [if_pos (by simp [Region.wanted,hg])];rw [gY] at aD;exact Or.inl (lY (cE aD) rfl fun v w' hv=>fin v w' hv.1 hv.2)
   ·rename_i j want hg;split at aD
    ·rename_i b hb;have iV:=(hy j).1 b (cV j want _ hg hb);split at aD
     ·rename_i hw;subst hw;rw [if_pos (by simp [Region.wanted,hg,iV])];rw [gY] at aD;exact Or.inl (lY (cE aD) rfl fun v w' hv=>fin v w' hv.1 hv.2)
     ·rename_i hw;rw [if_neg (by simpa [Region.wanted,hg,iV] using hw)];exact fin undef w (by rw [aD];exact .base _ _ (.lit _)) (Below.refl _ _)
    ·rename_i us hb;have iV:=(hy j).2 us (cV j want _ hg hb);rw [if_neg (by simp [Region.wanted,hg,iV])];exact fin undef w (by rw [aD];exact .base _ _ (.lit _)) (Below.refl _ _)
    ·exact aD.elim
  ·have db:∀ {j j':Nat} {q q':Mc},A[j]? = some q→A[j']? = some q'→q.d=q'.d→j=j':=fun h1 h2 h3=>Kf l9 h1 h2 h3;have ku:∀ {j:Nat} {x:Option Ob},j < A.length→(∀ k q,A[k]? = some q→k≠j→q.at_ (fun j=>(listed.setIfInBounds i true).getD j false)=q.at_ fun j=>listed.getD j false)→(∀ q,A[j]? = some q→q.at_ (fun j=>(listed.setIfInBounds i true).getD j false)=x) →
     (st.h++mcH A fun i=>listed.getD i false).set (st.h.length+j) x=st.h++mcH A fun j=>(listed.setIfInBounds i true).getD j false:=by
    intro j x hj h1 h2;rw [List.set_append_right _ _ (by omega),Nat.add_sub_cancel_left];congr 1;apply List.ext_getElem?;intro k;unfold mcH;by_cases hk:j=k
    ·subst hk;rw [List.getElem?_set_self (by simpa using hj),List.getElem?_map,List.getElem?_eq_getElem hj];simp only [Option.map_some,Option.some.injEq];exact (h2 _ (List.getElem?_eq_getElem hj)).symm
    ·rw [List.getElem?_set_ne hk,List.getElem?_map,List.getElem?_map];cases hq:A[k]? with
     | none=>rfl
     | some q=>simp only [Option.map_some,Option.some.injEq];exact (h1 k q hq (Ne.symm hk)).symm
   obtain ⟨q,hq,mK⟩:=List.any_eq_true.1 gZ;obtain ⟨j,hj⟩:=List.mem_iff_getElem?.1 hq;have bK:=(List.getElem?_eq_some_iff.1 hj).1;obtain ⟨AY,o3,gE,xR,gk,AZ⟩:=iz hj;have fD:(st.h++mcH A fun i=>listed.getD i false)[st.h.length+j]? = some (q.at_ fun i=>listed.getD i false):=by
    rw [List.getElem?_append_right (by omega),Nat.add_sub_cancel_left];simp [mcH,hj]
   have nQ:q.ai=i:=by simpa using mK
   subst nQ;have:o3=o2:=Option.some.inj (gE.symm.trans bA);subst this;have du:=getD_both fI;have mL:(q.at_ fun i=>listed.getD i false)=none:=by simp only [Mc.at_,du,Bool.false_eq_true,if_false]
   rw [mL] at fD;have oO:∀ t,cu (st.h.length+j) 5 (lkp s t)=true:=fun t=>by
    rcases S4 t with h1|⟨k,r,h1,h2,h3⟩|⟨h1,h2⟩
    ·exact tg (by omega) 5 _ h1
    rotate_left
    ·rw [h1];refine Kh j bK fun hm=>?_;have:=h2 j hm q hj;rw [du] at this;cases this
    ·rw [h3];have kv:k≠j:=fun e=>by
      subst e;rw [hj] at h1;obtain rfl:=Option.some.inj h1;rw [du] at h2;cases h2
     unfold Mc.av;split<;>(simp only [cu,bne_iff_ne,ne_eq];omega)
   have lj:∀ (k:Nat) (cs:List AV),(st.h++mcH A fun i=>listed.getD i false)[k]? = some (some (Ob.box cs))→∀ c∈cs,cu (st.h.length+j) 5 c=true:=fun k cs hk c hc=>by
    rcases Nat.lt_or_ge k st.h.length with aw|dn
    ·rw [List.getElem?_append_left aw] at hk;exact tg (by omega) 5 _ (List.all_eq_true.1 (uS hh k _ hk) c hc)
    ·rw [List.getElem?_append_right dn] at hk;unfold mcH at hk;rw [List.getElem?_map,Option.map_eq_some_iff] at hk;obtain ⟨r,hr,he⟩:=hk;unfold Mc.at_ at he;split at he
     ·simp only [Option.some.injEq] at he;unfold Mc.ob at he;split at he
      ·simp only [Ob.box.injEq] at he;subst he;obtain ⟨z,_,rfl⟩:=List.mem_map.1 hc;rfl
      ·cases he
     ·cases he
   have rq:∀ z:Operand,z∈o3.op.operands→ev (a_ st (l.take n) rs) z≠.any→a.eval z=a.eval z∧ev (a_ st (l.take n) rs) z=ev ⟨s,st.h++mcH A fun i=>listed.getD i false⟩ z:=fun z hz aC=>⟨rfl,by
    cases z with
    | tmp t=>
     have ht:t∈o3.looksAt l.toArray:=List.mem_append_left _ (List.mem_filterMap.2 ⟨.tmp t,by simpa using hz,rfl⟩);show lkp _ t=lkp _ t;rcases dm (k:=n) (by omega) (Nat.le_refl _) t ht with h1|⟨h1,_⟩
     ·rw [←cn] at h1;exact absurd h1 aC
     ·rw [←cn] at h1;exact h1
    | const v=>rfl
    | global g=>rfl
    | func f=>rfl⟩
   rcases AZ with ⟨mM,t3,x3,y3,g_⟩|⟨mM,t3,g_⟩
   ·have fm:=AU l6 hj;unfold mcK at fm;rw [gE] at fm;simp only [g_] at fm;obtain ⟨ti,te,aV,f_,xS,EH,dC,cp,nR,qa,EI,qb,Km,A8⟩:=fm;have e1:a.eval x3 = .int .i64 q.m:=by
     have:=R.eval x3;rw [←(rq x3 (by rw [g_];simp [Op.operands]) (by rw [xS];simp)).2,xS] at this;exact this.lit_inv
    have e2:a.eval y3 = .int .i64 q.m:=by
     have:=R.eval y3;rw [←(rq y3 (by rw [g_];simp [Op.operands]) (by rw [EH];simp)).2,EH] at this;exact this.lit_inv
    obtain ⟨z,xT,iX,ka⟩:=oP f_;have aG:=EJ (P:=P) (w:=w) aV f_ dC cp nR qa (n:=q.m) EI qb;have R':=R.fillRow (z:=q.z) (m:=q.m) (e:=q.e) (d:=q.d) (fL (List.all_eq_true.1 hN o3 (List.mem_of_getElem? gE)) q.d gk) fD oO lj (by rw [A8,nR];exact Nat.pos_of_ne_zero qa) (by rw [A8];exact fun u hu=>List.all_eq_true.1 iX u hu) EI;simp only at R';rw [ku bK (fun k r hr kv=>?_) (fun r hr=>?_)] at R'
    ·unfold wpOp;simp only [ho];rw [if_pos (by simp [Region.wanted,xR])];refine Or.inl ?_;unfold Oper.wp;have fC:(execOp a.eval o3).run P w = .ok (.value (.slice (some ⟨w.heap.size,0,none⟩) q.m q.m)) { w with heap:=w.heap.push (.cells (eW q.z q.m).toArray q.e) }:=by
      simp only [execOp,g_,e1,e2,Sem.run_bind,aG,Result.andThen_ok,Sem.run_pure,Km,A8]
     rw [fC];simp only [Oper.upon];rw [gk];refine ⟨head.set hi bT,_,_,R',fun k r d hk A9 iZ hl hr nS=>?_,fun hl=>?_,fun t ht=>?_,fun k r hr hl=>?_,fun t=>?_⟩
     ·have fO:k≠q.ai:=fun e=>by rw [e,gZ] at iZ;cases iZ
      simp only [lkp];rw [if_neg (dt hk fO hr nS gk)];rw [bb (Ne.symm fO)] at hl;exact S1 k r d hk A9 iZ hl hr nS
     ·have mN:q.ai≠b:=fun e=>by rw [e,uO] at gZ;cases gZ
      rw [bb mN] at hl;simp only [lkp];rw [if_neg (kt bT mN gE gk)];exact S5 hl
     ·simp only [lkp];rw [if_neg fun e=>ht q.ai o3 bT gE (by rw [gk,e])];exact S2 t ht
     ·simp only [lkp];by_cases he:q.d=r.d
      ·rw [if_pos he,←db hj hr he];rw [db hj hr he,hr] at hj;obtain rfl:=Option.some.inj hj;simp [Mc.av,mM]
      ·rw [if_neg he];refine S3 k r hr ?_;rw [bb fun e=>he ?_] at hl
       ·exact hl
       ·obtain ⟨_,o4,a2,_,a4,_⟩:=iz hr;rw [←e,gE] at a2;obtain rfl:=Option.some.inj a2;rw [gk] at a4;exact Option.some.inj a4
     ·simp only [lkp];by_cases he:q.d=t
      ·rw [if_pos he];exact .inr (.inl ⟨j,q,hj,bW,by simp [Mc.av,mM]⟩)
      ·rw [if_neg he];rcases S4 t with h1|⟨k,r,h1,h2,h3⟩|⟨h1,h2⟩
       ·exact .inl h1
       ·refine .inr (.inl ⟨k,r,h1,?_,h3⟩);by_cases e:q.ai=r.ai
        ·rw [←e];exact bW
        ·rw [bb e];exact h2
       ·refine .inr (.inr ⟨h1,fun k hk r hr=>?_⟩);by_cases e:q.ai=r.ai
        ·rw [←e];exact bW
        ·rw [bb e];exact h2 k hk r hr
    ·have aC:q.ai≠r.ai:=fun e=>by
      obtain ⟨_,o4,a2,_,a4,_⟩:=iz hr;rw [←e,gE] at a2;obtain rfl:=Option.some.inj a2;rw [gk] at a4;exact kv (db hr hj (Option.some.inj a4).symm)
     simp only [Mc.at_,bb aC]
    ·rw [hj] at hr;obtain rfl:=Option.some.inj hr;simp only [Mc.at_,bW,if_true,Mc.ob,mM];rfl
   ·have fm:=AU l6 hj;unfold mcK at fm;rw [gE] at fm;simp only [g_] at fm;obtain ⟨ti,aV,hz⟩:=fm;obtain ⟨z,xT,iX,ka⟩:=oP aV;have hc:Cells w (Mof M0 (st.h++mcH A fun i=>listed.getD i false) p) (st.h++mcH A fun i=>listed.getD i false) p (q.z.map .lit) z.cells.toList:=by rw [xT,←hz];exact Cells.of_lits _ iX
    have R':=R.fill (d:=q.d) (fL (List.all_eq_true.1 hN o3 (List.mem_of_getElem? gE)) q.d gk) fD oO lj hc t3;simp only at R';rw [ku bK (fun k r hr kv=>?_) (fun r hr=>?_)] at R'
    ·unfold wpOp;simp only [ho];rw [if_pos (by simp [Region.wanted,xR])];refine Or.inl ?_;unfold Oper.wp;have aG:(execOp a.eval o3).run P w = .ok (.value (.pointer (some ⟨w.heap.size,0,none⟩))) { w with heap:=w.heap.push (.cells z.cells.toList.toArray t3) }:=by
      simp [execOp,g_,Instr.alloc,ka,newVar,newRow]
     rw [aG];simp only [Oper.upon];rw [gk];refine ⟨head.set hi bT,_,_,R',fun k r d hk A9 iZ hl hr nS=>?_,fun hl=>?_,fun t ht=>?_,fun k r hr hl=>?_,fun t=>?_⟩
     ·have fO:k≠q.ai:=fun e=>by rw [e,gZ] at iZ;cases iZ
      simp only [lkp];rw [if_neg (dt hk fO hr nS gk)];rw [bb (Ne.symm fO)] at hl;exact S1 k r d hk A9 iZ hl hr nS
     ·have mN:q.ai≠b:=fun e=>by rw [e,uO] at gZ;cases gZ
      rw [bb mN] at hl;simp only [lkp];rw [if_neg (kt bT mN gE gk)];exact S5 hl
     ·simp only [lkp];rw [if_neg fun e=>ht q.ai o3 bT gE (by rw [gk,e])];exact S2 t ht
     ·simp only [lkp];by_cases he:q.d=r.d
      ·rw [if_pos he,←db hj hr he];rw [db hj hr he,hr] at hj;obtain rfl:=Option.some.inj hj;simp [Mc.av,mM]
      ·rw [if_neg he];refine S3 k r hr ?_;rw [bb fun e=>he ?_] at hl
       ·exact hl
       ·obtain ⟨_,o4,a2,_,a4,_⟩:=iz hr;rw [←e,gE] at a2;obtain rfl:=Option.some.inj a2;rw [gk] at a4;exact Option.some.inj a4
     ·simp only [lkp];by_cases he:q.d=t
      ·rw [if_pos he];exact .inr (.inl ⟨j,q,hj,bW,by simp [Mc.av,mM]⟩)
      ·rw [if_neg he];rcases S4 t with h1|⟨k,r,h1,h2,h3⟩|⟨h1,h2⟩
       ·exact .inl h1
       ·refine .inr (.inl ⟨k,r,h1,?_,h3⟩);by_cases e:q.ai=r.ai
        ·rw [←e];exact bW
        ·rw [bb e];exact h2
       ·refine .inr (.inr ⟨h1,fun k hk r hr=>?_⟩);by_cases e:q.ai=r.ai
        ·rw [←e];exact bW
        ·rw [bb e];exact h2 k hk r hr
    ·have aC:q.ai≠r.ai:=fun e=>by
      obtain ⟨_,o4,a2,_,a4,_⟩:=iz hr;rw [←e,gE] at a2;obtain rfl:=Option.some.inj a2;rw [gk] at a4;exact kv (db hr hj (Option.some.inj a4).symm)
     simp only [Mc.at_,bb aC]
    ·rw [hj] at hr;obtain rfl:=Option.some.inj hr;simp only [Mc.at_,bW,if_true,Mc.ob,mM]
 ·rintro listed a w ⟨head,p,s,R,S1,S5,S2,S3,S4⟩ ax;have bT:∀ i,kp A i=true→i < n:=fun i hi=>by
   obtain ⟨q,hq,mK⟩:=List.any_eq_true.1 hi;obtain ⟨h1,_⟩:=EE (List.all_eq_true.1 uQ q hq);have:q.ai=i:=by simpa using mK
   omega
  rw [Ke A _ fun i hi=>ax i (bT i hi)] at R;rw [gY] at hK;have xU:∀ t,t≠bd→(lkp (mcS st.h.length A++(a_ st (l.take n) rs).s) t=lkp s t∨lkp (mcS st.h.length A++(a_ st (l.take n) rs).s) t = .any):=fun t Kn=>by
   rcases A_ (mcS st.h.length A) (a_ st (l.take n) rs).s t with h1|h1
   ·rw [h1];by_cases aC:lkp (mcS st.h.length A) t = .any
    ·exact .inr aC
    ·obtain ⟨j,q,g1,g2,g3⟩:=EC aC;rw [g3,←g2];exact .inl (S3 j q g1 (ax _ (iz g1).1)).symm
   ·rw [h1,cn];by_cases hex:∃ (j:Nat) (q:Oper),j < n∧l[j]? = some q∧q.dst=some t
    ·obtain ⟨j,q,hj,hq,aS⟩:=hex;rw [bn hj (Nat.le_refl _) hq aS];have kr:j≠b:=fun e=>by
      subst e;rw [uP] at hq;obtain rfl:=Option.some.inj hq;rw [kS] at aS;exact Kn (Option.some.inj aS).symm
     cases hc:kp A j
     ·exact .inl (S1 j q t hj kr hc (ax j hj) hq aS).symm
     ·exact .inr (b9 hj hc hq)
    ·have bw:∀ j q,j < n→l[j]? = some q→q.dst≠some t:=fun j q hj hq he=>hex ⟨j,q,hj,hq,he⟩;rw [bh bw,S2 t bw];exact .inl rfl
  have R':=R.weak (s':=(bd,BV)::(mcS st.h.length A++(a_ st (l.take n) rs).s)) fun t=>by
   show lkp ((bd,BV)::(mcS st.h.length A++(a_ st (l.take n) rs).s)) t=lkp s t∨_;simp only [lkp];by_cases he:bd=t
   ·rw [if_pos he,←he];exact .inl (S5 (ax b xP)).symm
   ·rw [if_neg he];exact xU t fun e=>he e.symm
  have lu:(l.drop n).all (dz N)=true:=List.all_eq_true.2 fun q hq=>List.all_eq_true.1 hN q (List.mem_of_mem_drop hq);exact rD (ow:=ow) hN (fun p st a w R h=>⟨st,p,R,h⟩) (l.drop n) p _ _ w lu R' hK
 ·have rE:(mcH A fun i=>(Array.replicate l.toArray.size false).getD i false)=List.replicate A.length none:=by
   apply List.ext_getElem?;intro k;unfold mcH;rw [List.getElem?_map,List.getElem?_replicate];cases hq:A[k]? with
   | none=>
    have:=List.getElem?_eq_none_iff.1 hq;rw [if_neg (by omega)];rfl
   | some q=>
    have:=(List.getElem?_eq_some_iff.1 hq).1;rw [if_pos this];simp only [Option.map_some,Mc.at_,getD_replicate_false];rfl
  refine ⟨⟨by simp,fun j oj _ hl=>(by rw [getD_replicate_false] at hl;cases hl),fun t _ ht=>getD_in (by simpa using ht) (getD_replicate_false _ _)⟩,p0,st.s,?_,fun j q d _ _ _ hl=>(by rw [getD_replicate_false] at hl;cases hl),fun hl=>(by rw [getD_replicate_false] at hl;cases hl),fun _ _=>rfl,fun j q _ hl=>(by rw [getD_replicate_false] at hl;cases hl),fun t=>.inl (uR hs t)⟩;rw [rE];exact (R0.later (Below.refl _ _).drew).pad A.length
end
end Go.Proofs.YtoibondihdhnoaaGreatDoor
