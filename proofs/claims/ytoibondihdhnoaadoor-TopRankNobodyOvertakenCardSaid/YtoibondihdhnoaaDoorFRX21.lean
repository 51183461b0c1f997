/- Texts in one: A drawing region that makes several rows of the call's own, in no order to each other: of every program; no condition. -/
import Derived.Test.YtoibondihdhnoaaDoorFRX12
namespace Go.Proofs.YtoibondihdhnoaaDoor
open Go.RowKit
section
variable {P:Program} {M0:Nat→Nat→Prop} {w0:Bas} {N:Nm} {p:Pl} {st:VS} {a:Act} {w:World} {Q:Exit→VS→Prop}
theorem Rel.fillRow {z:List Value} {m e id d:Nat} (R:Rel M0 w0 N p st a w) (hd:N.has d) (hid:st.h[id]? = some none) (hs:∀ t,g0_ id 5 (lkp st.s t)=true) (hh:∀ (i:Nat) (cs:List AV),st.h[i]? = some (some (Ob.box cs))→∀ c∈cs,g0_ id 5 c=true)
  (hz:0 < z.length) (hz1:∀ u∈z,u.oneCell'=true) (hm:m≤1000000000) :
  Rel M0 w0 N (p1_ p id w.heap.size) ⟨(d,.osl id)::st.s,st.h.set id (some (.arr e z.length false (List.replicate m (z.map .lit))))⟩ (a.put (some d) (.slice (some ⟨w.heap.size,0,none⟩) m m)) { w with heap:=w.heap.push (.cells (a2c z m).toArray e) }:=by
 have hb:=g9_ w (.cells (a2c z m).toArray e);have hidl:id < st.h.length:=(List.getElem?_eq_some_iff.1 hid).1;have hp:∀ i,i≠id→p1_ p id w.heap.size i=p i:=fun i hi=>(i2_ hi).1;have hpn:p1_ p id w.heap.size id=w.heap.size:=(k0_ p _ _).1;have hobs:∀ i o,(st.h.set id (some (.arr e z.length false (List.replicate m (z.map .lit)))))[i]? = some (some o)→(i=id∧o = .arr e z.length false (List.replicate m (z.map .lit)))∨(i≠id∧st.h[i]? = some (some o)):=by
  intro i o hio;rw [List.getElem?_set] at hio;by_cases he:id=i
  ·rw [if_pos he,if_pos (by omega)] at hio;simp only [Option.some.injEq] at hio;exact .inl ⟨he.symm,hio.symm⟩
  ·rw [if_neg he] at hio;exact .inr ⟨fun h=>he h.symm,hio⟩
 have hM:∀ c j,c < w.heap.size→¬Mof M0 st.h p c j→¬Mof M0 (st.h.set id (some (.arr e z.length false (List.replicate m (z.map .lit))))) (p1_ p id w.heap.size) c j:=by
  intro c j hc hn hm;rcases hm with hm|⟨i,o,hi,hl,hpc⟩
  ·exact hn (.inl hm)
  ·rcases hobs i o hi with ⟨rfl,_⟩|⟨hne,hi'⟩
   ·have:=p3_ hpc;omega
   ·exact hn (.inr ⟨i,o,hi',hl,(o4_ hne).1 hpc⟩)
 have hV:∀ {x:AV} {u:Value},g0_ id 5 x=true→V1 w (Mof M0 st.h p) st.h p x u→V1 { w with heap:=w.heap.push (.cells (a2c z m).toArray e) } (Mof M0 (st.h.set id (some (.arr e z.length false (List.replicate m (z.map .lit))))) (p1_ p id w.heap.size)) (st.h.set id (some (.arr e z.length false (List.replicate m (z.map .lit))))) (p1_ p id w.heap.size) x u:=fun hx hv=>
  V1.purge (.of_below hb) hM (by simp) hp (fun i e sz nl es v hne he hv=>by
   rcases hobs i _ he with ⟨h1,_⟩|⟨_,h2⟩
   ·exact absurd h1 hne
   ·exact (hv _ _ _ _ h2).below hb) (fun i e sz nl pe qs v hne he hv=>by
   rcases hobs i _ he with ⟨h1,_⟩|⟨_,h2⟩
   ·exact absurd h1 hne
   ·exact (hv _ _ _ _ _ h2).below hb) (fun i k sz v hne hil hs=>hs.keep (fun e sz pe qs he=>by
   rcases hobs i _ he with ⟨h1,_⟩|⟨_,h2⟩
   ·exact absurd h1 hne
   ·exact ⟨h2,(i2_ hne).1,(i2_ hne).2,fun b _ _ hlt=>hb.block b hlt⟩) hb.size) 5 _ _ hv hx
 refine ⟨R.defers,R.size.put hd,R.below.later hb,R.m0,R.x0,fun i=>?_,fun i o hi=>?_,fun i i' o o' hi hi' hl hl' x j j' hO hO'=>?_⟩
 ·rw [k9_ a d _ i (R.size.lt hd)];simp only [lkp];split
  ·refine .osl _ _ _ _ (by simpa using hidl) (fun e' sz' nl' es' he=>?_) fun e' sz' nl' pe qs he=>?_
   ·rw [List.getElem?_set_self hidl] at he;simp only [Option.some.injEq] at he;injection he with q1 q2 q3 q4
    subst q1 q2 q3 q4;unfold Osl;rw [if_neg (by simp),hpn,List.length_replicate];exact ⟨m,(a2c z m).toArray,rfl,by simp [-World.alloc_eq],by simp [a0m],Nat.le_refl _,by simp only [maxLen];omega⟩
   ·rw [List.getElem?_set_self hidl] at he;simp at he
  ·exact hV (hs i) (R.slots i)
 ·rcases hobs i o hi with ⟨rfl,rfl⟩|⟨hne,hi'⟩
  ·refine ⟨hz,fun k x hk=>?_,?_⟩
   ·obtain ⟨_,rfl⟩:=List.mem_replicate.1 (List.mem_of_getElem? hk);refine ⟨by simp,fun c hc=>?_⟩;obtain ⟨z',hz',rfl⟩:=List.mem_map.1 hc;exact hz1 z' hz'
   ·rw [if_neg (by simp)];refine ⟨a1k R.below.size,(a2c z m).toArray,by rw [hpn];simp [-World.alloc_eq],by simp [a0m],fun k x j c hk hj=>?_⟩;obtain ⟨_,rfl⟩:=List.mem_replicate.1 (List.mem_of_getElem? hk);have hkm:k < m:=by simpa using (List.getElem?_eq_some_iff.1 hk).1
    have hjl:j < z.length:=by simpa using (List.getElem?_eq_some_iff.1 hj).1
    have hlt:k*z.length+j < (a2c z m).length:=by
     rw [a0m];have:(k+1)*z.length≤m*z.length:=Nat.mul_le_mul_right _ hkm;rw [Nat.add_mul] at this;omega
    refine ⟨(a2c z m)[k*z.length+j],by simp [hlt],?_⟩;rw [a6y k j c _ hkm hj (List.getElem?_eq_getElem hlt)];exact .lit _
  ·exact (R.objs i o hi').keep (fun _=>i2_ hne) (fun _ b _ _ hbl=>hb.block b hbl) hb.size (fun hx=>hx.keep (.of_below hb) hM) fun cs hcs c hcm _ hx=>hV (hh i cs (by rw [hi',hcs]) c hcm) hx
 ·rcases hobs i o hi with ⟨rfl,rfl⟩|⟨hn,h1⟩<;>rcases hobs i' o' hi' with ⟨rfl,rfl⟩|⟨hn',h2⟩
  ·rfl
  ·have h3:=((R.objs i' o' h2).own hl' x j' ((o4_ hn').1 hO')).2;have h4:=p3_ hO;omega
  ·have h3:=((R.objs i o h1).own hl x j ((o4_ hn).1 hO)).2;have h4:=p3_ hO';omega
  ·exact R.inj i i' o o' h1 h2 hl hl' x j j' ((o4_ hn).1 hO) ((o4_ hn').1 hO')
end
structure Mk where
 ai:Nat
 d:Nat
 e:Nat
 z:List Value
 m:Nat
def Mk.ob (q:Mk) : Ob:=.arr q.e q.z.length false (List.replicate q.m (q.z.map .lit))
def Mk.at_ (q:Mk) (f:Nat→Bool) : Option Ob:=if f q.ai=true then some q.ob else none
def mkE:List Mk→Hp
 | []=>[]
 | q::r=>some (.arr q.e q.z.length false (List.replicate q.m (q.z.map .lit)))::mkE r
def mkS (k:Nat) : List Mk→List (Nat×AV)
 | []=>[]
 | q::r=>(q.d,.osl k)::mkS (k+1) r
def mkK (P:Program) (l:List Oper) (T:VS) (q:Mk) : Prop:=
 match l[q.ai]? with
 | some o=>(match o.op with
  | .makeSlice t x y=>∃ ti te,c3_ P t=some ti∧c3_ P ti.elem=some te∧ev T x = .lit (.int .i64 q.m)∧ev T y = .lit (.int .i64 q.m)∧ti.kind=1∧te.size=ti.esz∧te.zero.length=ti.esz∧ti.esz≠0∧q.m≤1000000000∧te.bytes≤100000∧q.e=ti.elem∧q.z=te.zero
  | _=>False)
 | none=>False
def d4g (P:Program) (l:List Oper) (T:VS) : List Mk→Prop
 | []=>True
 | q::r=>mkK P l T q∧d4g P l T r
section
variable {P:Program} {M0:Nat→Nat→Prop} {w0:Bas} {N:Nm} {p:Pl} {st:VS} {a:Act} {w:World} {Q:Exit→VS→Prop}
end
attribute [go_sem] mkS mkE d4g mkK
section
variable {P:Program} {M0:Nat→Nat→Prop} {w0:Bas} {N:Nm} {p:Pl} {st:VS} {a:Act} {w:World} {Q:Exit→VS→Prop}
end
structure Mc where
 ai:Nat
 d:Nat
 e:Nat
 z:List Value
 m:Nat
 al:Bool
def Mc.ob (q:Mc) : Ob:=if q.al=true then .box (q.z.map .lit) else .arr q.e q.z.length false (List.replicate q.m (q.z.map .lit))
def Mc.av (q:Mc) (k:Nat) : AV:=if q.al=true then .ref k 0 else .osl k
def Mc.at_ (q:Mc) (f:Nat→Bool) : Option Ob:=if f q.ai=true then some q.ob else none
def mcH (A:List Mc) (f:Nat→Bool) : Hp:=A.map fun q=>q.at_ f
def mcE:List Mc→Hp
 | []=>[]
 | q::r=>some q.ob::mcE r
def mcS (k:Nat) : List Mc→List (Nat×AV)
 | []=>[]
 | q::r=>(q.d,q.av k)::mcS (k+1) r
def b1x (A:List Mc) (i:Nat) : Bool:=A.any fun q=>q.ai == i
def d2c (l:List Oper) (n:Nat) (q:Mc) : Bool:=
 decide (q.ai < n)&&(match l[q.ai]? with|some o=>o.guard.isNone&&o.dst == some q.d&&(match o.op with | .makeSlice .. => !q.al | .alloc _=>q.al|_=>false)|none=>false)
def d4h (l:List Oper) (n:Nat) (A:List Mc) : Bool:=A.all (d2c l n)&&decide (A.map (·.d)).Nodup
def mcK (P:Program) (l:List Oper) (T:VS) (q:Mc) : Prop:=
 match l[q.ai]? with
 | some o=>(match o.op with
  | .makeSlice t x y=>∃ ti te,c3_ P t=some ti∧c3_ P ti.elem=some te∧ev T x = .lit (.int .i64 q.m)∧ev T y = .lit (.int .i64 q.m)∧ti.kind=1∧te.size=ti.esz∧te.zero.length=ti.esz∧ti.esz≠0∧q.m≤1000000000∧te.bytes≤100000∧q.e=ti.elem∧q.z=te.zero
  | .alloc t=>∃ ti,c3_ P t=some ti∧ti.zero=q.z
  | _=>False)
 | none=>False
def d2d (P:Program) (l:List Oper) (T:VS) : List Mc→Prop
 | []=>True
 | q::r=>mcK P l T q∧d2d P l T r
def b1y (l:List Oper) (n:Nat) (A:List Mc) (b bd:Nat) (js:List Nat) : Bool:=
 decide (b < n)&&!b1x A b&&(match l[b]? with|some o=>o.guard.isNone&&o.dst == some bd&&js.all fun j=>(match A[j]? with|some q=>o.op.operands.toList.any fun x=>(match x with | .tmp t=>t == q.d|_=>false)|none=>false)|none=>false)
theorem a7v {l:List Oper} {n:Nat} {A:List Mc} {b bd:Nat} {js:List Nat} (h:b1y l n A b bd js=true) : b < n∧b1x A b=false∧∃ o,l[b]? = some o∧o.guard=none∧o.dst=some bd∧∀ j,j∈js→∃ q,A[j]? = some q∧.tmp q.d∈o.op.operands.toList:=by
 simp only [b1y,Bool.and_eq_true,decide_eq_true_eq,Bool.not_eq_true'] at h;obtain ⟨⟨h1,h2⟩,h3⟩:=h;refine ⟨h1,h2,?_⟩;split at h3
 ·rename_i o ho;simp only [Bool.and_eq_true,beq_iff_eq,Option.isNone_iff_eq_none] at h3;obtain ⟨⟨a,b⟩,c⟩:=h3;refine ⟨o,ho,a,b,fun j hj=>?_⟩;have h4:=List.all_eq_true.1 c j hj;split at h4
  ·rename_i q hq;obtain ⟨x,hx,hxt⟩:=List.any_eq_true.1 h4;split at hxt
   ·rename_i t;have:t=q.d:=by simpa using hxt
    subst this;exact ⟨q,hq,hx⟩
   ·cases hxt
  ·cases h4
 ·cases h3
section
variable {P:Program} {M0:Nat→Nat→Prop} {w0:Bas} {N:Nm} {p:Pl} {st:VS} {a:Act} {w:World} {Q:Exit→VS→Prop}
theorem b1z {l:List Oper} {T:VS} : ∀ {A:List Mc},d2d P l T A→∀ {j:Nat} {q:Mc},A[j]? = some q→mcK P l T q
 | [],_,j,q,h=>by simp at h
 | x::A,hk,j,q,h=>by
  cases j with
  | zero=>simp at h;subst h;exact hk.1
  | succ j=>exact b1z hk.2 (j:=j) (by simpa using h)
theorem c5v:∀ {A:List Mc} {j:Nat},(mcE A)[j]? = (A[j]?).map fun q=>some q.ob
 | [],j=>by simp [mcE]
 | q::A,0=>by simp [mcE]
 | q::A,j+1=>by simp [mcE,c5v (A:=A) (j:=j)]
theorem c6w (A:List Mc) (f:Nat→Bool) (hf:∀ i,b1x A i=true→f i=true) : mcH A f=mcE A:=by
 apply List.ext_getElem?;intro j;rw [c5v];unfold mcH;rw [List.getElem?_map];cases hq:A[j]? with
 | none=>rfl
 | some q=>
  have h1:f q.ai=true:=hf _ (List.any_eq_true.2 ⟨q,List.mem_of_getElem? hq,by simp⟩);simp only [Option.map_some,Mc.at_,h1,if_true]
theorem b8j:∀ {A:List Mc} {k t:Nat},lkp (mcS k A) t≠.any→∃ (j:Nat) (q:Mc),A[j]? = some q∧q.d=t∧lkp (mcS k A) t=q.av (k+j)
 | [],k,t,h=>absurd rfl h
 | x::A,k,t,h=>by
  simp only [mcS,lkp] at h ⊢;by_cases hd:x.d=t
  ·exact ⟨0,x,rfl,hd,by rw [if_pos hd];rfl⟩
  ·rw [if_neg hd] at h ⊢;obtain ⟨j,q,h1,h2,h3⟩:=b8j (A:=A) (k:=k+1) h;exact ⟨j+1,q,by simpa using h1,h2,by rw [h3];congr 1;omega⟩
theorem a9h {A:List Mc} {f g:Nat→Bool} (h:∀ i,b1x A i=true→f i=g i) : mcH A f=mcH A g:=by
 unfold mcH;refine List.map_congr_left fun q hq=>?_;have h1:f q.ai=g q.ai:=h _ (List.any_eq_true.2 ⟨q,hq,by simp⟩);unfold Mc.at_;rw [h1]
theorem b3q {l:List Oper} {n:Nat} {q:Mc} (h:d2c l n q=true) : q.ai < n∧∃ o,l[q.ai]? = some o∧o.guard=none∧o.dst=some q.d∧((q.al=false∧∃ t x y,o.op = .makeSlice t x y)∨(q.al=true∧∃ t,o.op = .alloc t)):=by
 simp only [d2c,Bool.and_eq_true,decide_eq_true_eq] at h;obtain ⟨h1,h2⟩:=h;refine ⟨h1,?_⟩;split at h2
 ·rename_i o ho;simp only [Bool.and_eq_true,beq_iff_eq,Option.isNone_iff_eq_none] at h2;obtain ⟨⟨a,b⟩,c⟩:=h2;split at c
  ·rename_i t x y ht;exact ⟨o,ho,a,b,.inl ⟨by simpa using c,t,x,y,ht⟩⟩
  ·rename_i t ht;exact ⟨o,ho,a,b,.inr ⟨c,t,ht⟩⟩
  ·cases c
 ·cases h2
theorem c3a {A:List Mc} (h:(A.map (·.d)).Nodup) {i j:Nat} {q r:Mc} (hi:A[i]? = some q) (hj:A[j]? = some r) (he:q.d=r.d) : i=j:=by
 have h1:(A.map (·.d))[i]? = some q.d:=by simp [hi]
 have h2:(A.map (·.d))[j]? = some q.d:=by simp [hj,he]
 obtain ⟨a1,b1⟩:=List.getElem?_eq_some_iff.1 h1;obtain ⟨a2,b2⟩:=List.getElem?_eq_some_iff.1 h2;rcases Nat.lt_trichotomy i j with hl|hl|hl
 ·exact absurd (b1.trans b2.symm) (List.pairwise_iff_getElem.1 h i j a1 a2 hl)
 ·exact hl
 ·exact absurd (b2.trans b1.symm) (List.pairwise_iff_getElem.1 h j i a2 a1 hl)
end
section
variable {P:Program} {M0:Nat→Nat→Prop} {w0:Bas} {N:Nm} {p:Pl} {st:VS} {a:Act} {w:World} {Q:Exit→VS→Prop}
theorem c6x {id:Nat} {l:List Oper} (n:Nat) (ow:List Nat) (A:List Mc) (b bd:Nat) (js:List Nat) (BV:AV) (hb:b1y l n A b bd js=true) (hG:∀ (h:Hp) (E:Operand→AV) (o:Oper),l[b]? = some o→(∀ j∈js,∀ q,A[j]? = some q→E (.tmp q.d)=q.av (st.h.length+j))→j2_ P h E o.op BV) (hBV:∀ j,j < A.length→j∉js→g0_ (st.h.length+j) 5 BV=true) (hm:P.follows .mixedOrders=true) (hB:Region.specB l.toArray n=true) (hA:d4h l n A=true) (hs:sOK st.h.length st.s) (hh:hOK st.h.length st.h)
  (h:n1_ P l (fun i=>b1x A i || i == b) (l.take n) 0 st fun T=>d2d P l T A∧y2_ P ow l (l.drop n) ⟨(bd,BV)::(mcS st.h.length A++T.s),T.h++mcE A⟩ (Q .normal)) : VWp P M0 w0 N (.region id l.toArray true) Q st:=fun hCd p0 a0 wst R0=>by
 have hN:l.all (q9_ N)=true:=by simpa [n7_] using hCd
 obtain ⟨rs,hrl,Y,S,hany0⟩:=l2_ _ _ _ h;obtain ⟨hsk,hK⟩:=Y;obtain ⟨hbn,hbc,ob,hlb,hbg,hbdst,hbop⟩:=a7v hb;have hB':=hB;simp only [Region.specB,Bool.and_eq_true,decide_eq_true_eq] at hB';obtain ⟨⟨⟨⟨⟨⟨_,hnl⟩,_⟩,_⟩,hd⟩,hlook⟩,_⟩:=hB';have hnl':n < l.length:=by simpa using hnl
 have hd':j5_ (l.take n)=true:=by simpa using hd
 have hlen:(l.take n).length=n:=by simp;omega
 rw [hlen] at hrl;obtain ⟨hAB,hnd⟩ : A.all (d2c l n)=true∧(A.map (·.d)).Nodup:=by simpa [d4h] using hA
 have hpt:∀ {j:Nat} {q:Mc},A[j]? = some q→_:=fun {j q} hq=>b3q (List.all_eq_true.1 hAB q (List.mem_of_getElem? hq));have hat:∀ {i:Nat} {o:Oper},i < n→l[i]? = some o→(l.take n)[i]? = some o:=fun {i o} hi ho=>by rw [List.getElem?_take_of_lt hi];exact ho
 have hta:∀ {i:Nat} {o:Oper},(l.take n)[i]? = some o→i < n∧l[i]? = some o:=fun {i o} ho=>by
  have hi:i < n:=by have:=(List.getElem?_eq_some_iff.1 ho).1;omega
  rw [List.getElem?_take_of_lt hi] at ho;exact ⟨hi,ho⟩
 have hrs:∀ {i:Nat},i < n→rs[i]? = some (rs.getD i .any):=fun {i} hi=>by simp [List.getD,show i < rs.length by omega]
 have hlk:∀ i,i < n→∀ o,l[i]? = some o→∀ t∈o.looksAt l.toArray,∀ j,j < n→∀ q,l[j]? = some q→q.dst=some t→Region.waitsFor .any l.toArray i j=true∧j < i:=by
  intro i hi o ho;have h:=List.all_eq_true.1 hlook i (List.mem_range.2 hi);simp only [List.getElem?_toArray,ho,Bool.and_eq_true] at h;have haft:∀ e∈o.after,Region.binds .any e=true→e.on < i:=fun e he hb=>by
   have h1:=Array.all_eq_true'.1 h.2 e he;simp only [hb,Bool.not_true,Bool.false_or,decide_eq_true_eq] at h1;exact h1
  intro t ht j hj q hq hqd;have h1:=List.all_eq_true.1 (List.all_eq_true.1 h.1 t ht) j (List.mem_range.2 hj);simp only [hq,Option.bind_some,hqd,bne_self_eq_false,Bool.false_or] at h1;refine ⟨h1,?_⟩;obtain ⟨o',ho',e,he,hb,hon⟩:=Region.waitsFor_spec h1;have:o'=o:=Option.some.inj (ho'.symm.trans (by simpa using ho));subst this;rw [←hon];exact haft e he hb
 have txt_in:∀ {i j:Nat} {q:Oper} {t:Nat},j < i→i≤n→l[j]? = some q→q.dst=some t→lkp (d5_ st ((l.take n).take i) (rs.take i)).s t=rs.getD j .any:=fun {i j q t} hj hi hq ht=>
  r1_ ((l.take n).take i) (rs.take i) st t j q (rs.getD j .any) (i0_ _ _ hd') (by rw [List.getElem?_take_of_lt hj];exact hat (by omega) hq) (by rw [List.getElem?_take_of_lt hj];exact hrs (by omega)) ht
 have txt_out:∀ {i t:Nat},(∀ j q,j < n→l[j]? = some q→q.dst≠some t)→lkp (d5_ st ((l.take n).take i) (rs.take i)).s t=lkp st.s t:=fun {i t} ho=>
  p6_ _ _ _ _ fun q hq he=>by
   obtain ⟨j,hj⟩:=List.mem_iff_getElem?.1 (List.mem_of_mem_take hq);obtain ⟨h1,h2⟩:=hta hj;exact ho j q h1 h2 he
 have hfull:d5_ st (l.take n) rs=d5_ st ((l.take n).take n) (rs.take n):=by
  rw [List.take_of_length_le (l:=l.take n) (by rw [hlen];exact Nat.le_refl _),List.take_of_length_le (l:=rs) (by omega)]
 have hids:∀ {j:Nat} {q:Oper} {d:Nat},j < n→j≠b→b1x A j=false→l[j]? = some q→q.dst=some d→h5_ st.h.length 5 (rs.getD j .any)=true:=fun {j q d} hj hjb hc hq hqd=>
  (S j q _ (by rw [Nat.zero_add];simp [hc,hjb]) (hat hj hq) (hrs hj)).2 d hqd
 have hany:∀ {j:Nat} {q:Oper},j < n→b1x A j=true→l[j]? = some q→rs.getD j .any = .any:=fun {j q} hj hc hq=>by
  have h1:=hany0 j q (by rw [Nat.zero_add];simp [hc]) (hat hj hq);rw [hrs hj] at h1;exact Option.some.inj h1
 have hbrs:rs.getD b .any = .any:=by
  have h1:=hany0 b ob (by rw [Nat.zero_add];simp) (hat hbn hlb);rw [hrs hbn] at h1;exact Option.some.inj h1
 have hbd:∀ {j:Nat} {q:Oper} {d:Nat},j < n→j≠b→l[j]? = some q→q.dst=some d→d≠bd:=fun {j q d} hj hjb hq hqd he=>by
  subst he;exact hjb (l4_ hd' (hat hj hq) (hat hbn hlb) hqd hbdst)
 refine wp_region_any hm ?_;refine p2_ (Inv:=fun listed a w=>HeadInv .any l.toArray n listed∧∃ (p:Pl) (s:List (Nat×AV)),Rel M0 w0 N p ⟨s,st.h++mcH A fun i=>listed.getD i false⟩ a w ∧
   (∀ (j:Nat) (q:Oper) (d:Nat),j < n→j≠b→b1x A j=false→listed.getD j false=true→l[j]? = some q→q.dst=some d→lkp s d=rs.getD j .any)∧(listed.getD b false=true→lkp s bd=BV) ∧
   (∀ t,(∀ j q,j < n→l[j]? = some q→q.dst≠some t)→lkp s t=lkp st.s t)∧(∀ (j:Nat) (q:Mc),A[j]? = some q→listed.getD q.ai false=true→lkp s q.d=q.av (st.h.length+j)) ∧
   (∀ t,h5_ st.h.length 5 (lkp s t)=true∨(∃ (j:Nat) (q:Mc),A[j]? = some q∧listed.getD q.ai false=true∧lkp s t=q.av (st.h.length+j))∨(lkp s t=BV∧∀ j∈js,∀ q,A[j]? = some q→listed.getD q.ai false=true))) hB (fun _ _ _ inv=>inv.1) ?_ ?_ _ _ _ _ ?_ (by simp)
 ·rintro listed a w i o ⟨head,p,s,R,S1,S5,S2,S3,S4⟩ hi hin ho hiu;have ho':l[i]? = some o:=by simpa using ho
  obtain ⟨_,o2,ho2,hdone⟩:=mem_ready.1 hi;have:o2=o:=Option.some.inj (ho2.symm.trans ho);subst this;have hisz:i < listed.size:=by rw [head.size];simpa using (by omega:i < l.length)
  have hself:(listed.setIfInBounds i true).getD i false=true:=by simp [hisz]
  have hoth:∀ {j:Nat},i≠j→(listed.setIfInBounds i true).getD j false=listed.getD j false:=fun hne=>getD_set_ne false hne;have hwait:∀ j,Region.waitsFor .any l.toArray i j=true→listed.getD j false=true:=by
   intro j hj;obtain ⟨o3,ho3,e,he,hb,hon⟩:=Region.waitsFor_spec hj;have:o3=o2:=Option.some.inj (ho3.symm.trans ho);subst this;rw [←hon];exact hdone e he hb
  have hop:∀ {k:Nat},i≤k→k≤n→∀ t∈o2.looksAt l.toArray,lkp (d5_ st ((l.take n).take k) (rs.take k)).s t = .any∨(lkp (d5_ st ((l.take n).take k) (rs.take k)).s t=lkp s t∧h5_ st.h.length 5 (lkp s t)=true):=fun {k} hik hkn t ht=>by
   by_cases hex:∃ (j:Nat) (q:Oper),j < n∧l[j]? = some q∧q.dst=some t
   ·obtain ⟨j,q,hj,hq,hqd⟩:=hex;obtain ⟨h1,h2⟩:=hlk i hin o2 ho' t ht j hj q hq hqd;rw [txt_in (by omega) hkn hq hqd];by_cases hjb:j=b
    ·subst hjb;exact .inl hbrs
    cases hc:b1x A j
    ·have:=S1 j q t hj hjb hc (hwait j h1) hq hqd;exact .inr ⟨this.symm,by rw [this];exact hids hj hjb hc hq hqd⟩
    ·exact .inl (hany hj hc hq)
   ·have hno:∀ j q,j < n→l[j]? = some q→q.dst≠some t:=fun j q hj hq he=>hex ⟨j,q,hj,hq,he⟩;rw [txt_out hno,S2 t hno];exact .inr ⟨rfl,a2r hs t⟩
  have hnot:∀ {j:Nat} {q:Oper} {d d':Nat},j < n→j≠i→l[j]? = some q→q.dst=some d→o2.dst=some d'→d'≠d:=fun {j q d d'} hj hji hq hqd hd2 he=>by
   subst he;exact hji (l4_ hd' (hat hj hq) (hat hin ho') hqd hd2)
  cases hci:b1x A i
  ·by_cases hib:i=b
   ·subst hib;have:o2=ob:=Option.some.inj (ho'.symm.trans hlb);subst this;have hai0:∀ {j:Nat} {q:Mc},A[j]? = some q→i≠q.ai:=fun {j q} hq e=>by
     have:b1x A i=true:=List.any_eq_true.2 ⟨q,List.mem_of_getElem? hq,by simp [e]⟩;rw [hci] at this;cases this
    have hsame:(mcH A fun i=>listed.getD i false)=mcH A fun j=>(listed.setIfInBounds i true).getD j false:=a9h fun j hj=>by
     have hne:i≠j:=fun e=>by rw [←e,hci] at hj;cases hj
     exact (hoth hne).symm
    have hjs:∀ j∈js,∀ q,A[j]? = some q→listed.getD q.ai false=true:=fun j hj q hq=>by
     obtain ⟨q',hq',hm⟩:=hbop j hj;rw [hq] at hq';obtain rfl:=Option.some.inj hq';obtain ⟨hqn,oq,hlq,_,hqd,_⟩:=hpt hq;exact hwait _ (hlk i hin o2 ho' q.d (List.mem_append_left _ (List.mem_filterMap.2 ⟨.tmp q.d,hm,rfl⟩)) q.ai hqn oq hlq hqd).1
    have hg:j2_ P (st.h++mcH A fun i=>listed.getD i false) (ev ⟨s,st.h++mcH A fun i=>listed.getD i false⟩) o2.op BV:=hG _ _ o2 hlb fun j hj q hq=>S3 j q hq (hjs j hj q hq);unfold wpOp;simp only [ho];rw [if_pos (by simp [Region.wanted,hbg])];refine Or.inl (e2_ (R.gives hg) rfl fun v w' hv=>?_);have R':=(R.later hv.2).put (d:=o2.dst) (f8_ (List.all_eq_true.1 hN o2 (List.mem_of_getElem? ho'))) hv.1;rw [hbdst] at R' ⊢;rw [hsame] at R';refine ⟨head.set hi hin,p,_,R',fun j q d hj hjb hjc hl hq hqd=>?_,fun _=>by simp [lkp],fun t ht=>?_,fun j q hq hl=>?_,fun t=>?_⟩
    ·simp only [lkp];rw [if_neg fun e=>hbd hj hjb hq hqd e.symm];rw [hoth (Ne.symm hjb)] at hl;exact S1 j q d hj hjb hjc hl hq hqd
    ·simp only [lkp];rw [if_neg fun e=>ht i o2 hin ho' (by rw [hbdst,e])];exact S2 t ht
    ·obtain ⟨h1,o3,h2,_,h3,_⟩:=hpt hq;simp only [lkp];rw [if_neg fun e=>hbd h1 (Ne.symm (hai0 hq)) h2 h3 e.symm];rw [hoth (hai0 hq)] at hl;exact S3 j q hq hl
    ·simp only [lkp];by_cases hdt:bd=t
     ·rw [if_pos hdt];exact .inr (.inr ⟨rfl,fun j hj q hq=>by rw [hoth (hai0 hq)];exact hjs j hj q hq⟩)
     ·rw [if_neg hdt];rcases S4 t with h1|⟨j,q,h1,h2,h3⟩|⟨h1,h2⟩
      ·exact .inl h1
      ·exact .inr (.inl ⟨j,q,h1,by rw [hoth (hai0 h1)];exact h2,h3⟩)
      ·exact .inr (.inr ⟨h1,fun j hj q hq=>by rw [hoth (hai0 hq)];exact h2 j hj q hq⟩)
   obtain ⟨hstep,hidr⟩:=S i o2 (rs.getD i .any) (by rw [Nat.zero_add];simp [hci,hib]) (hat hin ho') (hrs hin);have hsame:(mcH A fun i=>listed.getD i false)=mcH A fun j=>(listed.setIfInBounds i true).getD j false:=a9h fun j hj=>by
    have hne:i≠j:=fun e=>by rw [←e,hci] at hj;cases hj
    exact (hoth hne).symm
   have hai:∀ {j:Nat} {q:Mc},A[j]? = some q→i≠q.ai:=fun {j q} hq e=>by
    have:b1x A i=true:=List.any_eq_true.2 ⟨q,List.mem_of_getElem? hq,by simp [e]⟩;rw [hci] at this;cases this
   have fin:∀ v w',V1 w' (Mof M0 (st.h++mcH A fun i=>listed.getD i false) p) st.h p (rs.getD i .any) v→Below w.heap.size w w'→(fun listed a w=>HeadInv .any l.toArray n listed∧∃ (p:Pl) (s:List (Nat×AV)),Rel M0 w0 N p ⟨s,st.h++mcH A fun i=>listed.getD i false⟩ a w ∧
     (∀ (j:Nat) (q:Oper) (d:Nat),j < n→j≠b→b1x A j=false→listed.getD j false=true→l[j]? = some q→q.dst=some d→lkp s d=rs.getD j .any)∧(listed.getD b false=true→lkp s bd=BV) ∧
     (∀ t,(∀ j q,j < n→l[j]? = some q→q.dst≠some t)→lkp s t=lkp st.s t)∧(∀ (j:Nat) (q:Mc),A[j]? = some q→listed.getD q.ai false=true→lkp s q.d=q.av (st.h.length+j)) ∧
     (∀ t,h5_ st.h.length 5 (lkp s t)=true∨(∃ (j:Nat) (q:Mc),A[j]? = some q∧listed.getD q.ai false=true∧lkp s t=q.av (st.h.length+j))∨(lkp s t=BV∧∀ j∈js,∀ q,A[j]? = some q→listed.getD q.ai false=true))) (listed.setIfInBounds i true) (a.put o2.dst v) w':=fun v w' hv hb=>by
    have R':=(R.later hb).put (d:=o2.dst) (f8_ (List.all_eq_true.1 hN o2 (List.mem_of_getElem? ho'))) (V1.long hv);have hes:(VS.put ⟨s,st.h++mcH A fun i=>listed.getD i false⟩ o2.dst (rs.getD i .any))=⟨(VS.put ⟨s,st.h++mcH A fun i=>listed.getD i false⟩ o2.dst (rs.getD i .any)).s,st.h++mcH A fun j=>(listed.setIfInBounds i true).getD j false⟩:=by rw [←hsame];cases o2.dst<;>rfl
    rw [hes] at R';refine ⟨head.set hi hin,p,_,R',fun j q d hj hjb hjc hl hq hqd=>?_,fun hl=>?_,fun t ht=>?_,fun j q hq hl=>?_,fun t=>?_⟩
    ·rw [g7_];by_cases hji:j=i
     ·subst hji;have:q=o2:=Option.some.inj (hq.symm.trans ho');subst this;rw [if_pos hqd]
     ·rw [if_neg fun e=>hnot hj hji hq hqd e rfl];rw [hoth (Ne.symm hji)] at hl;exact S1 j q d hj hjb hjc hl hq hqd
    ·rw [hoth hib] at hl;rw [g7_,if_neg fun e=>hbd hin hib ho' e rfl];exact S5 hl
    ·rw [g7_,if_neg (ht i o2 hin ho')];exact S2 t ht
    ·obtain ⟨h1,o3,h2,_,h3,_⟩:=hpt hq;rw [g7_,if_neg fun e=>hnot h1 (Ne.symm (hai hq)) h2 h3 e rfl];rw [hoth (hai hq)] at hl;exact S3 j q hq hl
    ·rw [g7_];by_cases hdt:o2.dst=some t
     ·rw [if_pos hdt];exact .inl (hidr t hdt)
     ·rw [if_neg hdt];rcases S4 t with h1|⟨j,q,h1,h2,h3⟩|⟨h1,h2⟩
      ·exact .inl h1
      ·exact .inr (.inl ⟨j,q,h1,by rw [hoth (hai h1)];exact h2,h3⟩)
      ·exact .inr (.inr ⟨h1,fun j hj q hq=>by rw [hoth (hai hq)];exact h2 j hj q hq⟩)
   have hgive:j2_ P st.h (ev (d5_ st ((l.take n).take i) (rs.take i))) o2.op (rs.getD i .any)→gives P o2 a w fun v w''=>V1 w'' (Mof M0 (st.h++mcH A fun i=>listed.getD i false) p) st.h p (rs.getD i .any) v∧Below w.heap.size w w'':=by
    intro hg;refine q1_ (R.short_objs hh) R.mok R.h0 R.glob (fun _ _ hb=>.inl hb) (fun x hx=>?_) hg;cases x with
    | tmp t=>
     show V1 _ _ _ _ (lkp (d5_ st ((l.take n).take i) (rs.take i)).s t) _;rcases hop (Nat.le_refl i) (by omega) t (List.mem_append_left _ (List.mem_filterMap.2 ⟨.tmp t,by simpa using hx,rfl⟩)) with h1|⟨h1,h2⟩
     ·rw [h1];exact .base _ _ (.any _)
     ·rw [h1];exact V1.short (R.slots t) h2
    | const v=>exact .base _ _ (.lit v)
    | global g=>exact .base _ _ (R.evalG g)
    | func f=>exact .base _ _ (.lit _)
   have hy:=fun j=>i6_ (ops:=l) (j:=j) R hN;have hguard:∀ (j:Nat) (want:Bool) (v:Value),o2.guard=some (j,want)→e1_ l (d5_ st ((l.take n).take i) (rs.take i)) j = .lit v→e1_ l ⟨s,st.h++mcH A fun i=>listed.getD i false⟩ j = .lit v:=by
    intro j want v hg hv;unfold e1_ at hv ⊢;cases hj:l[j]? with
    | none=>simpa [hj] using hv
    | some q=>
     cases hq:q.dst with
     | none=>simpa [hj,hq] using hv
     | some d=>
      have hmem:d∈o2.looksAt l.toArray:=by
       unfold Oper.looksAt;refine List.mem_append_right _ ?_;simp [hg,hj,hq]
      simp only [hj,hq] at hv ⊢;rcases hop (Nat.le_refl i) (by omega) d hmem with h1|⟨h1,_⟩
      ·rw [h1] at hv;cases hv
      ·rw [←h1];exact hv
   unfold wpOp;simp only [ho];unfold q4_ at hstep;split at hstep
   ·rename_i hg;rw [if_pos (by simp [Region.wanted,hg])];rw [h0_] at hstep;exact Or.inl (e2_ (hgive hstep) rfl fun v w' hv=>fin v w' hv.1 hv.2)
   ·rename_i j want hg;split at hstep
    ·rename_i b hb;have hyb:=(hy j).1 b (hguard j want _ hg hb);split at hstep
     ·rename_i hw;subst hw;rw [if_pos (by simp [Region.wanted,hg,hyb])];rw [h0_] at hstep;exact Or.inl (e2_ (hgive hstep) rfl fun v w' hv=>fin v w' hv.1 hv.2)
     ·rename_i hw;rw [if_neg (by simpa [Region.wanted,hg,hyb] using hw)];exact fin undef w (by rw [hstep];exact .base _ _ (.lit _)) (Below.refl _ _)
    ·rename_i us hb;have hyb:=(hy j).2 us (hguard j want _ hg hb);rw [if_neg (by simp [Region.wanted,hg,hyb])];exact fin undef w (by rw [hstep];exact .base _ _ (.lit _)) (Below.refl _ _)
    ·exact hstep.elim
  ·have hstale:∀ {j j':Nat} {q q':Mc},A[j]? = some q→A[j']? = some q'→q.d=q'.d→j=j':=fun h1 h2 h3=>c3a hnd h1 h2 h3;have hnew:∀ {j:Nat} {x:Option Ob},j < A.length→(∀ k q,A[k]? = some q→k≠j→q.at_ (fun j=>(listed.setIfInBounds i true).getD j false)=q.at_ fun j=>listed.getD j false)→(∀ q,A[j]? = some q→q.at_ (fun j=>(listed.setIfInBounds i true).getD j false)=x) →
     (st.h++mcH A fun i=>listed.getD i false).set (st.h.length+j) x=st.h++mcH A fun j=>(listed.setIfInBounds i true).getD j false:=by
    intro j x hj h1 h2;rw [List.set_append_right _ _ (by omega),Nat.add_sub_cancel_left];congr 1;apply List.ext_getElem?;intro k;unfold mcH;by_cases hk:j=k
    ·subst hk;rw [List.getElem?_set_self (by simpa using hj),List.getElem?_map,List.getElem?_eq_getElem hj];simp only [Option.map_some,Option.some.injEq];exact (h2 _ (List.getElem?_eq_getElem hj)).symm
    ·rw [List.getElem?_set_ne hk,List.getElem?_map,List.getElem?_map];cases hq:A[k]? with
     | none=>rfl
     | some q=>simp only [Option.map_some,Option.some.injEq];exact (h1 k q hq (Ne.symm hk)).symm
   obtain ⟨q,hq,hqi⟩:=List.any_eq_true.1 hci;obtain ⟨j,hj⟩:=List.mem_iff_getElem?.1 hq;have hjl:=(List.getElem?_eq_some_iff.1 hj).1;obtain ⟨hain,o3,hl3,hg3,hd3,hopc⟩:=hpt hj;have hcurr:(st.h++mcH A fun i=>listed.getD i false)[st.h.length+j]? = some (q.at_ fun i=>listed.getD i false):=by
    rw [List.getElem?_append_right (by omega),Nat.add_sub_cancel_left];simp [mcH,hj]
   have hqa:q.ai=i:=by simpa using hqi
   subst hqa;have:o3=o2:=Option.some.inj (hl3.symm.trans ho');subst this;have hiu':=getD_both hiu;have hnone:(q.at_ fun i=>listed.getD i false)=none:=by simp only [Mc.at_,hiu',Bool.false_eq_true,if_false]
   rw [hnone] at hcurr;have hnsl:∀ t,g0_ (st.h.length+j) 5 (lkp s t)=true:=fun t=>by
    rcases S4 t with h1|⟨k,r,h1,h2,h3⟩|⟨h1,h2⟩
    ·exact s7_ (by omega) 5 _ h1
    rotate_left
    ·rw [h1];refine hBV j hjl fun hm=>?_;have:=h2 j hm q hj;rw [hiu'] at this;cases this
    ·rw [h3];have hkj:k≠j:=fun e=>by
      subst e;rw [hj] at h1;obtain rfl:=Option.some.inj h1;rw [hiu'] at h2;cases h2
     unfold Mc.av;split<;>(simp only [g0_,bne_iff_ne,ne_eq];omega)
   have hbox:∀ (k:Nat) (cs:List AV),(st.h++mcH A fun i=>listed.getD i false)[k]? = some (some (Ob.box cs))→∀ c∈cs,g0_ (st.h.length+j) 5 c=true:=fun k cs hk c hc=>by
    rcases Nat.lt_or_ge k st.h.length with hlt|hge
    ·rw [List.getElem?_append_left hlt] at hk;exact s7_ (by omega) 5 _ (List.all_eq_true.1 (b0w hh k _ hk) c hc)
    ·rw [List.getElem?_append_right hge] at hk;unfold mcH at hk;rw [List.getElem?_map,Option.map_eq_some_iff] at hk;obtain ⟨r,hr,he⟩:=hk;unfold Mc.at_ at he;split at he
     ·simp only [Option.some.injEq] at he;unfold Mc.ob at he;split at he
      ·simp only [Ob.box.injEq] at he;subst he;obtain ⟨z,_,rfl⟩:=List.mem_map.1 hc;rfl
      ·cases he
     ·cases he
   have hev:∀ z:Operand,z∈o3.op.operands→ev (d5_ st (l.take n) rs) z≠.any→a.eval z=a.eval z∧ev (d5_ st (l.take n) rs) z=ev ⟨s,st.h++mcH A fun i=>listed.getD i false⟩ z:=fun z hz hne=>⟨rfl,by
    cases z with
    | tmp t=>
     have ht:t∈o3.looksAt l.toArray:=List.mem_append_left _ (List.mem_filterMap.2 ⟨.tmp t,by simpa using hz,rfl⟩);show lkp _ t=lkp _ t;rcases hop (k:=n) (by omega) (Nat.le_refl _) t ht with h1|⟨h1,_⟩
     ·rw [←hfull] at h1;exact absurd h1 hne
     ·rw [←hfull] at h1;exact h1
    | const v=>rfl
    | global g=>rfl
    | func f=>rfl⟩
   rcases hopc with ⟨hal,t3,x3,y3,hop3⟩|⟨hal,t3,hop3⟩
   ·have hsk1:=b1z hsk hj;unfold mcK at hsk1;rw [hl3] at hsk1;simp only [hop3] at hsk1;obtain ⟨ti,te,hti,hte,hx3,hy3,hk1,hk2,hk3,hk4,hk5,hk6,hk7,hk8⟩:=hsk1;have e1:a.eval x3 = .int .i64 q.m:=by
     have:=R.eval x3;rw [←(hev x3 (by rw [hop3];simp [Op.operands]) (by rw [hx3];simp)).2,hx3] at this;exact this.lit_inv
    have e2:a.eval y3 = .int .i64 q.m:=by
     have:=R.eval y3;rw [←(hev y3 (by rw [hop3];simp [Op.operands]) (by rw [hy3];simp)).2,hy3] at this;exact this.lit_inv
    obtain ⟨z,hzz,hz1,hzr⟩:=u1_ hte;have hrun:=b4t (P:=P) (w:=w) hti hte hk1 hk2 hk3 hk4 (n:=q.m) hk5 hk6;have R':=R.fillRow (z:=q.z) (m:=q.m) (e:=q.e) (d:=q.d) (f8_ (List.all_eq_true.1 hN o3 (List.mem_of_getElem? hl3)) q.d hd3) hcurr hnsl hbox (by rw [hk8,hk3];exact Nat.pos_of_ne_zero hk4) (by rw [hk8];exact fun u hu=>List.all_eq_true.1 hz1 u hu) hk5;simp only at R';rw [hnew hjl (fun k r hr hkj=>?_) (fun r hr=>?_)] at R'
    ·unfold wpOp;simp only [ho];rw [if_pos (by simp [Region.wanted,hg3])];refine Or.inl ?_;unfold Oper.wp;have hrun2:(execOp a.eval o3).run P w = .ok (.value (.slice (some ⟨w.heap.size,0,none⟩) q.m q.m)) { w with heap:=w.heap.push (.cells (a2c q.z q.m).toArray q.e) }:=by
      simp only [execOp,hop3,e1,e2,Sem.run_bind,hrun,Result.andThen_ok,Sem.run_pure,hk7,hk8]
     rw [hrun2];simp only [Oper.upon];rw [hd3];refine ⟨head.set hi hin,_,_,R',fun k r d hk hkb hkc hl hr hrd=>?_,fun hl=>?_,fun t ht=>?_,fun k r hr hl=>?_,fun t=>?_⟩
     ·have hki:k≠q.ai:=fun e=>by rw [e,hci] at hkc;cases hkc
      simp only [lkp];rw [if_neg (hnot hk hki hr hrd hd3)];rw [hoth (Ne.symm hki)] at hl;exact S1 k r d hk hkb hkc hl hr hrd
     ·have hqb':q.ai≠b:=fun e=>by rw [e,hbc] at hci;cases hci
      rw [hoth hqb'] at hl;simp only [lkp];rw [if_neg (hbd hin hqb' hl3 hd3)];exact S5 hl
     ·simp only [lkp];rw [if_neg fun e=>ht q.ai o3 hin hl3 (by rw [hd3,e])];exact S2 t ht
     ·simp only [lkp];by_cases he:q.d=r.d
      ·rw [if_pos he,←hstale hj hr he];rw [hstale hj hr he,hr] at hj;obtain rfl:=Option.some.inj hj;simp [Mc.av,hal]
      ·rw [if_neg he];refine S3 k r hr ?_;rw [hoth fun e=>he ?_] at hl
       ·exact hl
       ·obtain ⟨_,o4,a2,_,a4,_⟩:=hpt hr;rw [←e,hl3] at a2;obtain rfl:=Option.some.inj a2;rw [hd3] at a4;exact Option.some.inj a4
     ·simp only [lkp];by_cases he:q.d=t
      ·rw [if_pos he];exact .inr (.inl ⟨j,q,hj,hself,by simp [Mc.av,hal]⟩)
      ·rw [if_neg he];rcases S4 t with h1|⟨k,r,h1,h2,h3⟩|⟨h1,h2⟩
       ·exact .inl h1
       ·refine .inr (.inl ⟨k,r,h1,?_,h3⟩);by_cases e:q.ai=r.ai
        ·rw [←e];exact hself
        ·rw [hoth e];exact h2
       ·refine .inr (.inr ⟨h1,fun k hk r hr=>?_⟩);by_cases e:q.ai=r.ai
        ·rw [←e];exact hself
        ·rw [hoth e];exact h2 k hk r hr
    ·have hne:q.ai≠r.ai:=fun e=>by
      obtain ⟨_,o4,a2,_,a4,_⟩:=hpt hr;rw [←e,hl3] at a2;obtain rfl:=Option.some.inj a2;rw [hd3] at a4;exact hkj (hstale hr hj (Option.some.inj a4).symm)
     simp only [Mc.at_,hoth hne]
    ·rw [hj] at hr;obtain rfl:=Option.some.inj hr;simp only [Mc.at_,hself,if_true,Mc.ob,hal];rfl
   ·have hsk1:=b1z hsk hj;unfold mcK at hsk1;rw [hl3] at hsk1;simp only [hop3] at hsk1;obtain ⟨ti,hti,hz⟩:=hsk1;obtain ⟨z,hzz,hz1,hzr⟩:=u1_ hti;have hc:Cells w (Mof M0 (st.h++mcH A fun i=>listed.getD i false) p) (st.h++mcH A fun i=>listed.getD i false) p (q.z.map .lit) z.cells.toList:=by rw [hzz,←hz];exact Cells.of_lits _ hz1
    have R':=R.fill (d:=q.d) (f8_ (List.all_eq_true.1 hN o3 (List.mem_of_getElem? hl3)) q.d hd3) hcurr hnsl hbox hc t3;simp only at R';rw [hnew hjl (fun k r hr hkj=>?_) (fun r hr=>?_)] at R'
    ·unfold wpOp;simp only [ho];rw [if_pos (by simp [Region.wanted,hg3])];refine Or.inl ?_;unfold Oper.wp;have hrun:(execOp a.eval o3).run P w = .ok (.value (.pointer (some ⟨w.heap.size,0,none⟩))) { w with heap:=w.heap.push (.cells z.cells.toList.toArray t3) }:=by
      simp [execOp,hop3,Instr.alloc,hzr,newVar,newRow]
     rw [hrun];simp only [Oper.upon];rw [hd3];refine ⟨head.set hi hin,_,_,R',fun k r d hk hkb hkc hl hr hrd=>?_,fun hl=>?_,fun t ht=>?_,fun k r hr hl=>?_,fun t=>?_⟩
     ·have hki:k≠q.ai:=fun e=>by rw [e,hci] at hkc;cases hkc
      simp only [lkp];rw [if_neg (hnot hk hki hr hrd hd3)];rw [hoth (Ne.symm hki)] at hl;exact S1 k r d hk hkb hkc hl hr hrd
     ·have hqb':q.ai≠b:=fun e=>by rw [e,hbc] at hci;cases hci
      rw [hoth hqb'] at hl;simp only [lkp];rw [if_neg (hbd hin hqb' hl3 hd3)];exact S5 hl
     ·simp only [lkp];rw [if_neg fun e=>ht q.ai o3 hin hl3 (by rw [hd3,e])];exact S2 t ht
     ·simp only [lkp];by_cases he:q.d=r.d
      ·rw [if_pos he,←hstale hj hr he];rw [hstale hj hr he,hr] at hj;obtain rfl:=Option.some.inj hj;simp [Mc.av,hal]
      ·rw [if_neg he];refine S3 k r hr ?_;rw [hoth fun e=>he ?_] at hl
       ·exact hl
       ·obtain ⟨_,o4,a2,_,a4,_⟩:=hpt hr;rw [←e,hl3] at a2;obtain rfl:=Option.some.inj a2;rw [hd3] at a4;exact Option.some.inj a4
     ·simp only [lkp];by_cases he:q.d=t
      ·rw [if_pos he];exact .inr (.inl ⟨j,q,hj,hself,by simp [Mc.av,hal]⟩)
      ·rw [if_neg he];rcases S4 t with h1|⟨k,r,h1,h2,h3⟩|⟨h1,h2⟩
       ·exact .inl h1
       ·refine .inr (.inl ⟨k,r,h1,?_,h3⟩);by_cases e:q.ai=r.ai
        ·rw [←e];exact hself
        ·rw [hoth e];exact h2
       ·refine .inr (.inr ⟨h1,fun k hk r hr=>?_⟩);by_cases e:q.ai=r.ai
        ·rw [←e];exact hself
        ·rw [hoth e];exact h2 k hk r hr
    ·have hne:q.ai≠r.ai:=fun e=>by
      obtain ⟨_,o4,a2,_,a4,_⟩:=hpt hr;rw [←e,hl3] at a2;obtain rfl:=Option.some.inj a2;rw [hd3] at a4;exact hkj (hstale hr hj (Option.some.inj a4).symm)
     simp only [Mc.at_,hoth hne]
    ·rw [hj] at hr;obtain rfl:=Option.some.inj hr;simp only [Mc.at_,hself,if_true,Mc.ob,hal]
 ·rintro listed a w ⟨head,p,s,R,S1,S5,S2,S3,S4⟩ hall;have hin:∀ i,b1x A i=true→i < n:=fun i hi=>by
   obtain ⟨q,hq,hqi⟩:=List.any_eq_true.1 hi;obtain ⟨h1,_⟩:=b3q (List.all_eq_true.1 hAB q hq);have:q.ai=i:=by simpa using hqi
   omega
  rw [c6w A _ fun i hi=>hall i (hin i hi)] at R;rw [h0_] at hK;have hmb:∀ t,t≠bd→(lkp (mcS st.h.length A++(d5_ st (l.take n) rs).s) t=lkp s t∨lkp (mcS st.h.length A++(d5_ st (l.take n) rs).s) t = .any):=fun t htb=>by
   rcases z9_ (mcS st.h.length A) (d5_ st (l.take n) rs).s t with h1|h1
   ·rw [h1];by_cases hne:lkp (mcS st.h.length A) t = .any
    ·exact .inr hne
    ·obtain ⟨j,q,g1,g2,g3⟩:=b8j hne;rw [g3,←g2];exact .inl (S3 j q g1 (hall _ (hpt g1).1)).symm
   ·rw [h1,hfull];by_cases hex:∃ (j:Nat) (q:Oper),j < n∧l[j]? = some q∧q.dst=some t
    ·obtain ⟨j,q,hj,hq,hqd⟩:=hex;rw [txt_in hj (Nat.le_refl _) hq hqd];have hjb:j≠b:=fun e=>by
      subst e;rw [hlb] at hq;obtain rfl:=Option.some.inj hq;rw [hbdst] at hqd;exact htb (Option.some.inj hqd).symm
     cases hc:b1x A j
     ·exact .inl (S1 j q t hj hjb hc (hall j hj) hq hqd).symm
     ·exact .inr (hany hj hc hq)
    ·have hno:∀ j q,j < n→l[j]? = some q→q.dst≠some t:=fun j q hj hq he=>hex ⟨j,q,hj,hq,he⟩;rw [txt_out hno,S2 t hno];exact .inl rfl
  have R':=R.weak (s':=(bd,BV)::(mcS st.h.length A++(d5_ st (l.take n) rs).s)) fun t=>by
   show lkp ((bd,BV)::(mcS st.h.length A++(d5_ st (l.take n) rs).s)) t=lkp s t∨_;simp only [lkp];by_cases he:bd=t
   ·rw [if_pos he,←he];exact .inl (S5 (hall b hbn)).symm
   ·rw [if_neg he];exact hmb t fun e=>he e.symm
  have hNd:(l.drop n).all (q9_ N)=true:=List.all_eq_true.2 fun q hq=>List.all_eq_true.1 hN q (List.mem_of_mem_drop hq);exact r0_ (ow:=ow) hN (fun p st a w R h=>⟨st,p,R,h⟩) (l.drop n) p _ _ w hNd R' hK
 ·have hrep:(mcH A fun i=>(Array.replicate l.toArray.size false).getD i false)=List.replicate A.length none:=by
   apply List.ext_getElem?;intro k;unfold mcH;rw [List.getElem?_map,List.getElem?_replicate];cases hq:A[k]? with
   | none=>
    have:=List.getElem?_eq_none_iff.1 hq;rw [if_neg (by omega)];rfl
   | some q=>
    have:=(List.getElem?_eq_some_iff.1 hq).1;rw [if_pos this];simp only [Option.map_some,Mc.at_,getD_replicate_false];rfl
  refine ⟨⟨by simp,fun j oj _ hl=>(by rw [getD_replicate_false] at hl;cases hl),fun t _ ht=>getD_in (by simpa using ht) (getD_replicate_false _ _)⟩,p0,st.s,?_,fun j q d _ _ _ hl=>(by rw [getD_replicate_false] at hl;cases hl),fun hl=>(by rw [getD_replicate_false] at hl;cases hl),fun _ _=>rfl,fun j q _ hl=>(by rw [getD_replicate_false] at hl;cases hl),fun t=>.inl (a2r hs t)⟩;rw [hrep];exact (R0.later (Below.refl _ _).drew).pad A.length
end
end Go.Proofs.YtoibondihdhnoaaDoor
