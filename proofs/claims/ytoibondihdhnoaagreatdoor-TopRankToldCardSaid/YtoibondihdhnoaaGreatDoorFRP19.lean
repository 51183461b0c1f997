/- Texts in one: A drawing region that makes several rows of the call's own, in no order to each other: of every program; no condition. -/
import Derived.Test.YtoibondihdhnoaaGreatDoorFRP8
namespace Go.Proofs.YtoibondihdhnoaaGreatDoor
open Go.RowKit
section
variable {P:Program} {M0:Nat→Nat→Prop} {w0:Bas} {N:Nm} {p:Pl} {st:VS} {a:Act} {w:World} {Q:Exit→VS→Prop}
theorem Rel.fillRow {z:List Value} {m e id d:Nat} (R:Rel M0 w0 N p st a w) (hd:N.has d) (hid:st.h[id]? = some none) (hs:∀ t,cJ id 5 (lkp st.s t)=true) (hh:∀ (i:Nat) (cs:List AV),st.h[i]? = some (some (Ob.box cs))→∀ c∈cs,cJ id 5 c=true)
  (hz:0 < z.length) (fO:∀ u∈z,u.oneCell'=true) (hm:m≤1000000000) :
  Rel M0 w0 N (cS p id w.heap.size) ⟨(d,.osl id)::st.s,st.h.set id (some (.arr e z.length false (List.replicate m (z.map .lit))))⟩ (a.put (some d) (.slice (some ⟨w.heap.size,0,none⟩) m m)) { w with heap:=w.heap.push (.cells (fE z m).toArray e) }:=by
 have hb:=mO w (.cells (fE z m).toArray e);have eD:id < st.h.length:=(List.getElem?_eq_some_iff.1 hid).1;have hp:∀ i,i≠id→cS p id w.heap.size i=p i:=fun i hi=>(j1 hi).1;have lB:cS p id w.heap.size id=w.heap.size:=(lC p _ _).1;have bA:∀ i o,(st.h.set id (some (.arr e z.length false (List.replicate m (z.map .lit)))))[i]? = some (some o)→(i=id∧o = .arr e z.length false (List.replicate m (z.map .lit)))∨(i≠id∧st.h[i]? = some (some o)):=by
  intro i o aG;rw [List.getElem?_set] at aG;by_cases he:id=i
  ·rw [if_pos he,if_pos (by omega)] at aG;simp only [Option.some.injEq] at aG;exact .inl ⟨he.symm,aG.symm⟩
  ·rw [if_neg he] at aG;exact .inr ⟨fun h=>he h.symm,aG⟩
 have hM:∀ c j,c < w.heap.size→¬Mof M0 st.h p c j→¬Mof M0 (st.h.set id (some (.arr e z.length false (List.replicate m (z.map .lit))))) (cS p id w.heap.size) c j:=by
  intro c j hc hn hm;rcases hm with hm|⟨i,o,hi,hl,jV⟩
  ·exact hn (.inl hm)
  ·rcases bA i o hi with ⟨rfl,_⟩|⟨aq,bw⟩
   ·have:=mP jV;omega
   ·exact hn (.inr ⟨i,o,bw,hl,(jF aq).1 jV⟩)
 have hV:∀ {x:AV} {u:Value},cJ id 5 x=true→V1 w (Mof M0 st.h p) st.h p x u→V1 { w with heap:=w.heap.push (.cells (fE z m).toArray e) } (Mof M0 (st.h.set id (some (.arr e z.length false (List.replicate m (z.map .lit))))) (cS p id w.heap.size)) (st.h.set id (some (.arr e z.length false (List.replicate m (z.map .lit))))) (cS p id w.heap.size) x u:=fun hx hv=>
  V1.purge (.of_below hb) hM (by simp) hp (fun i e sz nl es v aq he hv=>by
   rcases bA i _ he with ⟨h1,_⟩|⟨_,h2⟩
   ·exact absurd h1 aq
   ·exact (hv _ _ _ _ h2).below hb) (fun i e sz nl pe qs v aq he hv=>by
   rcases bA i _ he with ⟨h1,_⟩|⟨_,h2⟩
   ·exact absurd h1 aq
   ·exact (hv _ _ _ _ _ h2).below hb) (fun i k sz v aq cz hs=>hs.keep (fun e sz pe qs he=>by
   rcases bA i _ he with ⟨h1,_⟩|⟨_,h2⟩
   ·exact absurd h1 aq
   ·exact ⟨h2,(j1 aq).1,(j1 aq).2,fun b _ _ ao=>hb.block b ao⟩) hb.size) 5 _ _ hv hx
 refine ⟨R.defers,R.size.put hd,R.below.later hb,R.m0,R.x0,fun i=>?_,fun i o hi=>?_,fun i i' o o' hi bw hl bm x j j' hO cw=>?_⟩
 ·rw [mQ a d _ i (R.size.lt hd)];simp only [lkp];split
  ·refine .osl _ _ _ _ (by simpa using eD) (fun e' bD kz es' he=>?_) fun e' bD kz pe qs he=>?_
   ·rw [List.getElem?_set_self eD] at he;simp only [Option.some.injEq] at he;injection he with q1 q2 q3 q4
    subst q1 q2 q3 q4;unfold Osl;rw [if_neg (by simp),lB,List.length_replicate];exact ⟨m,(fE z m).toArray,rfl,by simp [-World.alloc_eq],by simp [tu],Nat.le_refl _,by simp only [maxLen];omega⟩
   ·rw [List.getElem?_set_self eD] at he;simp at he
  ·exact hV (hs i) (R.slots i)
 ·rcases bA i o hi with ⟨rfl,rfl⟩|⟨aq,bw⟩
  ·refine ⟨hz,fun k x hk=>?_,?_⟩
   ·obtain ⟨_,rfl⟩:=List.mem_replicate.1 (List.mem_of_getElem? hk);refine ⟨by simp,fun c hc=>?_⟩;obtain ⟨z',u_,rfl⟩:=List.mem_map.1 hc;exact fO z' u_
   ·rw [if_neg (by simp)];refine ⟨tv R.below.size,(fE z m).toArray,by rw [lB];simp [-World.alloc_eq],by simp [tu],fun k x j c hk hj=>?_⟩;obtain ⟨_,rfl⟩:=List.mem_replicate.1 (List.mem_of_getElem? hk);have EP:k < m:=by simpa using (List.getElem?_eq_some_iff.1 hk).1
    have b_:j < z.length:=by simpa using (List.getElem?_eq_some_iff.1 hj).1
    have ao:k*z.length+j < (fE z m).length:=by
     rw [tu];have:(k+1)*z.length≤m*z.length:=Nat.mul_le_mul_right _ EP;rw [Nat.add_mul] at this;omega
    refine ⟨(fE z m)[k*z.length+j],by simp [ao],?_⟩;rw [ER k j c _ EP hj (List.getElem?_eq_getElem ao)];exact .lit _
  ·exact (R.objs i o bw).keep (fun _=>j1 aq) (fun _ b _ _ dv=>hb.block b dv) hb.size (fun hx=>hx.keep (.of_below hb) hM) fun cs bI c fN _ hx=>hV (hh i cs (by rw [bw,bI]) c fN) hx
 ·rcases bA i o hi with ⟨rfl,rfl⟩|⟨hn,h1⟩<;>rcases bA i' o' bw with ⟨rfl,rfl⟩|⟨lD,h2⟩
  ·rfl
  ·have h3:=((R.objs i' o' h2).own bm x j' ((jF lD).1 cw)).2;have h4:=mP hO;omega
  ·have h3:=((R.objs i o h1).own hl x j ((jF hn).1 hO)).2;have h4:=mP cw;omega
  ·exact R.inj i i' o o' h1 h2 hl bm x j j' ((jF hn).1 hO) ((jF lD).1 cw)
end
structure Mk where
 ai:Nat
 d:Nat
 e:Nat
 z:List Value
 m:Nat
def Mk.ob (q:Mk) : Ob:=.arr q.e q.z.length false (List.replicate q.m (q.z.map .lit))
def Mk.at_ (q:Mk) (f:Nat→Bool) : Option Ob:=if f q.ai=true then some q.ob else none
def mkE:List Mk→Hp
 | []=>[]
 | q::r=>some (.arr q.e q.z.length false (List.replicate q.m (q.z.map .lit)))::mkE r
def mkS (k:Nat) : List Mk→List (Nat×AV)
 | []=>[]
 | q::r=>(q.d,.osl k)::mkS (k+1) r
def mkK (P:Program) (l:List Oper) (T:VS) (q:Mk) : Prop:=
 match l[q.ai]? with
 | some o=>(match o.op with
  | .makeSlice t x y=>∃ ti te,aY P t=some ti∧aY P ti.elem=some te∧ev T x = .lit (.int .i64 q.m)∧ev T y = .lit (.int .i64 q.m)∧ti.kind=1∧te.size=ti.esz∧te.zero.length=ti.esz∧ti.esz≠0∧q.m≤1000000000∧te.bytes≤100000∧q.e=ti.elem∧q.z=te.zero
  | _=>False)
 | none=>False
def ES (P:Program) (l:List Oper) (T:VS) : List Mk→Prop
 | []=>True
 | q::r=>mkK P l T q∧ES P l T r
section
variable {P:Program} {M0:Nat→Nat→Prop} {w0:Bas} {N:Nm} {p:Pl} {st:VS} {a:Act} {w:World} {Q:Exit→VS→Prop}
end
attribute [go_sem] mkS mkE ES mkK
section
variable {P:Program} {M0:Nat→Nat→Prop} {w0:Bas} {N:Nm} {p:Pl} {st:VS} {a:Act} {w:World} {Q:Exit→VS→Prop}
end
structure Mc where
 ai:Nat
 d:Nat
 e:Nat
 z:List Value
 m:Nat
 al:Bool
def Mc.ob (q:Mc) : Ob:=if q.al=true then .box (q.z.map .lit) else .arr q.e q.z.length false (List.replicate q.m (q.z.map .lit))
def Mc.av (q:Mc) (k:Nat) : AV:=if q.al=true then .ref k 0 else .osl k
def Mc.at_ (q:Mc) (f:Nat→Bool) : Option Ob:=if f q.ai=true then some q.ob else none
def mcH (A:List Mc) (f:Nat→Bool) : Hp:=A.map fun q=>q.at_ f
def mcE:List Mc→Hp
 | []=>[]
 | q::r=>some q.ob::mcE r
def mcS (k:Nat) : List Mc→List (Nat×AV)
 | []=>[]
 | q::r=>(q.d,q.av k)::mcS (k+1) r
def kR (A:List Mc) (i:Nat) : Bool:=A.any fun q=>q.ai == i
def xK (l:List Oper) (n:Nat) (q:Mc) : Bool:=
 decide (q.ai < n)&&(match l[q.ai]? with|some o=>o.guard.isNone&&o.dst == some q.d&&(match o.op with | .makeSlice .. => !q.al | .alloc _=>q.al|_=>false)|none=>false)
def ET (l:List Oper) (n:Nat) (A:List Mc) : Bool:=A.all (xK l n)&&decide (A.map (·.d)).Nodup
def mcK (P:Program) (l:List Oper) (T:VS) (q:Mc) : Prop:=
 match l[q.ai]? with
 | some o=>(match o.op with
  | .makeSlice t x y=>∃ ti te,aY P t=some ti∧aY P ti.elem=some te∧ev T x = .lit (.int .i64 q.m)∧ev T y = .lit (.int .i64 q.m)∧ti.kind=1∧te.size=ti.esz∧te.zero.length=ti.esz∧ti.esz≠0∧q.m≤1000000000∧te.bytes≤100000∧q.e=ti.elem∧q.z=te.zero
  | .alloc t=>∃ ti,aY P t=some ti∧ti.zero=q.z
  | _=>False)
 | none=>False
def xL (P:Program) (l:List Oper) (T:VS) : List Mc→Prop
 | []=>True
 | q::r=>mcK P l T q∧xL P l T r
def AI (l:List Oper) (n:Nat) (A:List Mc) (b bd:Nat) (js:List Nat) : Bool:=
 decide (b < n)&&!kR A b&&(match l[b]? with|some o=>o.guard.isNone&&o.dst == some bd&&js.all fun j=>(match A[j]? with|some q=>o.op.operands.toList.any fun x=>(match x with | .tmp t=>t == q.d|_=>false)|none=>false)|none=>false)
theorem Kg {l:List Oper} {n:Nat} {A:List Mc} {b bd:Nat} {js:List Nat} (h:AI l n A b bd js=true) : b < n∧kR A b=false∧∃ o,l[b]? = some o∧o.guard=none∧o.dst=some bd∧∀ j,j∈js→∃ q,A[j]? = some q∧.tmp q.d∈o.op.operands.toList:=by
 simp only [AI,Bool.and_eq_true,decide_eq_true_eq,Bool.not_eq_true'] at h;obtain ⟨⟨h1,h2⟩,h3⟩:=h;refine ⟨h1,h2,?_⟩;split at h3
 ·rename_i o ho;simp only [Bool.and_eq_true,beq_iff_eq,Option.isNone_iff_eq_none] at h3;obtain ⟨⟨a,b⟩,c⟩:=h3;refine ⟨o,ho,a,b,fun j hj=>?_⟩;have h4:=List.all_eq_true.1 c j hj;split at h4
  ·rename_i q hq;obtain ⟨x,hx,AJ⟩:=List.any_eq_true.1 h4;split at AJ
   ·rename_i t;have:t=q.d:=by simpa using AJ
    subst this;exact ⟨q,hq,hx⟩
   ·cases AJ
  ·cases h4
 ·cases h3
section
variable {P:Program} {M0:Nat→Nat→Prop} {w0:Bas} {N:Nm} {p:Pl} {st:VS} {a:Act} {w:World} {Q:Exit→VS→Prop}
theorem AK {l:List Oper} {T:VS} : ∀ {A:List Mc},xL P l T A→∀ {j:Nat} {q:Mc},A[j]? = some q→mcK P l T q
 | [],_,j,q,h=>by simp at h
 | x::A,hk,j,q,h=>by
  cases j with
  | zero=>simp at h;subst h;exact hk.1
  | succ j=>exact AK hk.2 (j:=j) (by simpa using h)
theorem EU:∀ {A:List Mc} {j:Nat},(mcE A)[j]? = (A[j]?).map fun q=>some q.ob
 | [],j=>by simp [mcE]
 | q::A,0=>by simp [mcE]
 | q::A,j+1=>by simp [mcE,EU (A:=A) (j:=j)]
theorem Kh (A:List Mc) (f:Nat→Bool) (hf:∀ i,kR A i=true→f i=true) : mcH A f=mcE A:=by
 apply List.ext_getElem?;intro j;rw [EU];unfold mcH;rw [List.getElem?_map];cases hq:A[j]? with
 | none=>rfl
 | some q=>
  have h1:f q.ai=true:=hf _ (List.any_eq_true.2 ⟨q,List.mem_of_getElem? hq,by simp⟩);simp only [Option.map_some,Mc.at_,h1,if_true]
theorem EV:∀ {A:List Mc} {k t:Nat},lkp (mcS k A) t≠.any→∃ (j:Nat) (q:Mc),A[j]? = some q∧q.d=t∧lkp (mcS k A) t=q.av (k+j)
 | [],k,t,h=>absurd rfl h
 | x::A,k,t,h=>by
  simp only [mcS,lkp] at h ⊢;by_cases hd:x.d=t
  ·exact ⟨0,x,rfl,hd,by rw [if_pos hd];rfl⟩
  ·rw [if_neg hd] at h ⊢;obtain ⟨j,q,h1,h2,h3⟩:=EV (A:=A) (k:=k+1) h;exact ⟨j+1,q,by simpa using h1,h2,by rw [h3];congr 1;omega⟩
theorem EW {A:List Mc} {f g:Nat→Bool} (h:∀ i,kR A i=true→f i=g i) : mcH A f=mcH A g:=by
 unfold mcH;refine List.map_congr_left fun q hq=>?_;have h1:f q.ai=g q.ai:=h _ (List.any_eq_true.2 ⟨q,hq,by simp⟩);unfold Mc.at_;rw [h1]
theorem EX {l:List Oper} {n:Nat} {q:Mc} (h:xK l n q=true) : q.ai < n∧∃ o,l[q.ai]? = some o∧o.guard=none∧o.dst=some q.d∧((q.al=false∧∃ t x y,o.op = .makeSlice t x y)∨(q.al=true∧∃ t,o.op = .alloc t)):=by
 simp only [xK,Bool.and_eq_true,decide_eq_true_eq] at h;obtain ⟨h1,h2⟩:=h;refine ⟨h1,?_⟩;split at h2
 ·rename_i o ho;simp only [Bool.and_eq_true,beq_iff_eq,Option.isNone_iff_eq_none] at h2;obtain ⟨⟨a,b⟩,c⟩:=h2;split at c
  ·rename_i t x y ht;exact ⟨o,ho,a,b,.inl ⟨by simpa using c,t,x,y,ht⟩⟩
  ·rename_i t ht;exact ⟨o,ho,a,b,.inr ⟨c,t,ht⟩⟩
  ·cases c
 ·cases h2
theorem Ki {A:List Mc} (h:(A.map (·.d)).Nodup) {i j:Nat} {q r:Mc} (hi:A[i]? = some q) (hj:A[j]? = some r) (he:q.d=r.d) : i=j:=by
 have h1:(A.map (·.d))[i]? = some q.d:=by simp [hi]
 have h2:(A.map (·.d))[j]? = some q.d:=by simp [hj,he]
 obtain ⟨a1,b1⟩:=List.getElem?_eq_some_iff.1 h1;obtain ⟨a2,b2⟩:=List.getElem?_eq_some_iff.1 h2;rcases Nat.lt_trichotomy i j with hl|hl|hl
 ·exact absurd (b1.trans b2.symm) (List.pairwise_iff_getElem.1 h i j a1 a2 hl)
 ·exact hl
 ·exact absurd (b2.trans b1.symm) (List.pairwise_iff_getElem.1 h j i a2 a1 hl)
end
section
variable {P:Program} {M0:Nat→Nat→Prop} {w0:Bas} {N:Nm} {p:Pl} {st:VS} {a:Act} {w:World} {Q:Exit→VS→Prop}
theorem Kj {id:Nat} {l:List Oper} (n:Nat) (ow:List Nat) (A:List Mc) (b bd:Nat) (js:List Nat) (BV:AV) (hb:AI l n A b bd js=true) (hG:∀ (h:Hp) (E:Operand→AV) (o:Oper),l[b]? = some o→(∀ j∈js,∀ q,A[j]? = some q→E (.tmp q.d)=q.av (st.h.length+j))→dt P h E o.op BV) (Kk:∀ j,j < A.length→j∉js→cJ (st.h.length+j) 5 BV=true) (hm:P.follows .mixedOrders=true) (hB:Region.specB l.toArray n=true) (hA:ET l n A=true) (hs:sOK st.h.length st.s) (hh:hOK st.h.length st.h)
  (h:iI P l (fun i=>kR A i || i == b) (l.take n) 0 st fun T=>xL P l T A∧dS P ow l (l.drop n) ⟨(bd,BV)::(mcS st.h.length A++T.s),T.h++mcE A⟩ (Q .normal)) : VWp P M0 w0 N (.region id l.toArray true) Q st:=fun iw p0 a0 rE R0=>by
 have hN:l.all (cU N)=true:=by simpa [eY] using iw
 obtain ⟨rs,dO,Y,S,lE⟩:=rN _ _ _ h;obtain ⟨mG,hK⟩:=Y;obtain ⟨xM,va,ob,vb,xN,lF,AL⟩:=Kg hb;have cZ:=hB;simp only [Region.specB,Bool.and_eq_true,decide_eq_true_eq] at cZ;obtain ⟨⟨⟨⟨⟨⟨_,aK⟩,_⟩,_⟩,hd⟩,a_⟩,_⟩:=cZ;have eB:n < l.length:=by simpa using aK
 have c_:dF (l.take n)=true:=by simpa using hd
 have hlen:(l.take n).length=n:=by simp;omega
 rw [hlen] at dO;obtain ⟨vc,qv⟩ : A.all (xK l n)=true∧(A.map (·.d)).Nodup:=by simpa [ET] using hA
 have gW:∀ {j:Nat} {q:Mc},A[j]? = some q→_:=fun {j q} hq=>EX (List.all_eq_true.1 vc q (List.mem_of_getElem? hq));have bb:∀ {i:Nat} {o:Oper},i < n→l[i]? = some o→(l.take n)[i]? = some o:=fun {i o} hi ho=>by rw [List.getElem?_take_of_lt hi];exact ho
 have iR:∀ {i:Nat} {o:Oper},(l.take n)[i]? = some o→i < n∧l[i]? = some o:=fun {i o} ho=>by
  have hi:i < n:=by have:=(List.getElem?_eq_some_iff.1 ho).1;omega
  rw [List.getElem?_take_of_lt hi] at ho;exact ⟨hi,ho⟩
 have dB:∀ {i:Nat},i < n→rs[i]? = some (rs.getD i .any):=fun {i} hi=>by simp [List.getD,show i < rs.length by omega]
 have cm:∀ i,i < n→∀ o,l[i]? = some o→∀ t∈o.looksAt l.toArray,∀ j,j < n→∀ q,l[j]? = some q→q.dst=some t→Region.waitsFor .any l.toArray i j=true∧j < i:=by
  intro i hi o ho;have h:=List.all_eq_true.1 a_ i (List.mem_range.2 hi);simp only [List.getElem?_toArray,ho,Bool.and_eq_true] at h;have eC:∀ e∈o.after,Region.binds .any e=true→e.on < i:=fun e he hb=>by
   have h1:=Array.all_eq_true'.1 h.2 e he;simp only [hb,Bool.not_true,Bool.false_or,decide_eq_true_eq] at h1;exact h1
  intro t ht j hj q hq aA;have h1:=List.all_eq_true.1 (List.all_eq_true.1 h.1 t ht) j (List.mem_range.2 hj);simp only [hq,Option.bind_some,aA,bne_self_eq_false,Bool.false_or] at h1;refine ⟨h1,?_⟩;obtain ⟨o',aJ,e,he,hb,cf⟩:=Region.waitsFor_spec h1;have:o'=o:=Option.some.inj (aJ.symm.trans (by simpa using ho));subst this;rw [←cf];exact eC e he hb
 have aO:∀ {i j:Nat} {q:Oper} {t:Nat},j < i→i≤n→l[j]? = some q→q.dst=some t→lkp (aH st ((l.take n).take i) (rs.take i)).s t=rs.getD j .any:=fun {i j q t} hj hi hq ht=>
  ma ((l.take n).take i) (rs.take i) st t j q (rs.getD j .any) (ly _ _ c_) (by rw [List.getElem?_take_of_lt hj];exact bb (by omega) hq) (by rw [List.getElem?_take_of_lt hj];exact dB (by omega)) ht
 have aI:∀ {i t:Nat},(∀ j q,j < n→l[j]? = some q→q.dst≠some t)→lkp (aH st ((l.take n).take i) (rs.take i)).s t=lkp st.s t:=fun {i t} ho=>
  lz _ _ _ _ fun q hq he=>by
   obtain ⟨j,hj⟩:=List.mem_iff_getElem?.1 (List.mem_of_mem_take hq);obtain ⟨h1,h2⟩:=iR hj;exact ho j q h1 h2 he
 have aW:aH st (l.take n) rs=aH st ((l.take n).take n) (rs.take n):=by
  rw [List.take_of_length_le (l:=l.take n) (by rw [hlen];exact Nat.le_refl _),List.take_of_length_le (l:=rs) (by omega)]
 have dx:∀ {j:Nat} {q:Oper} {d:Nat},j < n→j≠b→kR A j=false→l[j]? = some q→q.dst=some d→bh st.h.length 5 (rs.getD j .any)=true:=fun {j q d} hj kS hc hq aA=>
  (S j q _ (by rw [Nat.zero_add];simp [hc,kS]) (bb hj hq) (dB hj)).2 d aA
 have iJ:∀ {j:Nat} {q:Oper},j < n→kR A j=true→l[j]? = some q→rs.getD j .any = .any:=fun {j q} hj hc hq=>by
  have h1:=lE j q (by rw [Nat.zero_add];simp [hc]) (bb hj hq);rw [dB hj] at h1;exact Option.some.inj h1
 have AM:rs.getD b .any = .any:=by
  have h1:=lE b ob (by rw [Nat.zero_add];simp) (bb xM vb);rw [dB xM] at h1;exact Option.some.inj h1
 have kT:∀ {j:Nat} {q:Oper} {d:Nat},j < n→j≠b→l[j]? = some q→q.dst=some d→d≠bd:=fun {j q d} hj kS hq aA he=>by
  subst he;exact kS (mK c_ (bb hj hq) (bb xM vb) aA lF)
 refine wp_region_any hm ?_;refine qu (Inv:=fun listed a w=>HeadInv .any l.toArray n listed∧∃ (p:Pl) (s:List (Nat×AV)),Rel M0 w0 N p ⟨s,st.h++mcH A fun i=>listed.getD i false⟩ a w ∧
   (∀ (j:Nat) (q:Oper) (d:Nat),j < n→j≠b→kR A j=false→listed.getD j false=true→l[j]? = some q→q.dst=some d→lkp s d=rs.getD j .any)∧(listed.getD b false=true→lkp s bd=BV) ∧
   (∀ t,(∀ j q,j < n→l[j]? = some q→q.dst≠some t)→lkp s t=lkp st.s t)∧(∀ (j:Nat) (q:Mc),A[j]? = some q→listed.getD q.ai false=true→lkp s q.d=q.av (st.h.length+j)) ∧
   (∀ t,bh st.h.length 5 (lkp s t)=true∨(∃ (j:Nat) (q:Mc),A[j]? = some q∧listed.getD q.ai false=true∧lkp s t=q.av (st.h.length+j))∨(lkp s t=BV∧∀ j∈js,∀ q,A[j]? = some q→listed.getD q.ai false=true))) hB (fun _ _ _ inv=>inv.1) ?_ ?_ _ _ _ _ ?_ (by simp)
 ·rintro listed a w i o ⟨head,p,s,R,S1,S5,S2,S3,S4⟩ hi ba ho ep;have aJ:l[i]? = some o:=by simpa using ho
  obtain ⟨_,o2,jX,cG⟩:=mem_ready.1 hi;have:o2=o:=Option.some.inj (jX.symm.trans ho);subst this;have bz:i < listed.size:=by rw [head.size];simpa using (by omega:i < l.length)
  have bH:(listed.setIfInBounds i true).getD i false=true:=by simp [bz]
  have aV:∀ {j:Nat},i≠j→(listed.setIfInBounds i true).getD j false=listed.getD j false:=fun aq=>getD_set_ne false aq;have bB:∀ j,Region.waitsFor .any l.toArray i j=true→listed.getD j false=true:=by
   intro j hj;obtain ⟨o3,kP,e,he,hb,cf⟩:=Region.waitsFor_spec hj;have:o3=o2:=Option.some.inj (kP.symm.trans ho);subst this;rw [←cf];exact cG e he hb
  have cj:∀ {k:Nat},i≤k→k≤n→∀ t∈o2.looksAt l.toArray,lkp (aH st ((l.take n).take k) (rs.take k)).s t = .any∨(lkp (aH st ((l.take n).take k) (rs.take k)).s t=lkp s t∧bh st.h.length 5 (lkp s t)=true):=fun {k} pD jf t ht=>by
   by_cases hex:∃ (j:Nat) (q:Oper),j < n∧l[j]? = some q∧q.dst=some t
   ·obtain ⟨j,q,hj,hq,aA⟩:=hex;obtain ⟨h1,h2⟩:=cm i ba o2 aJ t ht j hj q hq aA;rw [aO (by omega) jf hq aA];by_cases kS:j=b
    ·subst kS;exact .inl AM
    cases hc:kR A j
    ·have:=S1 j q t hj kS hc (bB j h1) hq aA;exact .inr ⟨this.symm,by rw [this];exact dx hj kS hc hq aA⟩
    ·exact .inl (iJ hj hc hq)
   ·have bg:∀ j q,j < n→l[j]? = some q→q.dst≠some t:=fun j q hj hq he=>hex ⟨j,q,hj,hq,he⟩;rw [aI bg,S2 t bg];exact .inr ⟨rfl,pH hs t⟩
  have bW:∀ {j:Nat} {q:Oper} {d d':Nat},j < n→j≠i→l[j]? = some q→q.dst=some d→o2.dst=some d'→d'≠d:=fun {j q d d'} hj cq hq aA dC he=>by
   subst he;exact cq (mK c_ (bb hj hq) (bb ba aJ) aA dC)
  cases eg:kR A i
  ·by_cases xO:i=b
   ·subst xO;have:o2=ob:=Option.some.inj (aJ.symm.trans vb);subst this;have nH:∀ {j:Nat} {q:Mc},A[j]? = some q→i≠q.ai:=fun {j q} hq e=>by
     have:kR A i=true:=List.any_eq_true.2 ⟨q,List.mem_of_getElem? hq,by simp [e]⟩;rw [eg] at this;cases this
    have bZ:(mcH A fun i=>listed.getD i false)=mcH A fun j=>(listed.setIfInBounds i true).getD j false:=EW fun j hj=>by
     have aq:i≠j:=fun e=>by rw [←e,eg] at hj;cases hj
     exact (aV aq).symm
    have EY:∀ j∈js,∀ q,A[j]? = some q→listed.getD q.ai false=true:=fun j hj q hq=>by
     obtain ⟨q',EZ,hm⟩:=AL j hj;rw [hq] at EZ;obtain rfl:=Option.some.inj EZ;obtain ⟨E0,oq,Kl,_,aA,_⟩:=gW hq;exact bB _ (cm i ba o2 aJ q.d (List.mem_append_left _ (List.mem_filterMap.2 ⟨.tmp q.d,hm,rfl⟩)) q.ai E0 oq Kl aA).1
    have hg:dt P (st.h++mcH A fun i=>listed.getD i false) (ev ⟨s,st.h++mcH A fun i=>listed.getD i false⟩) o2.op BV:=hG _ _ o2 vb fun j hj q hq=>S3 j q hq (EY j hj q hq);unfold wpOp;simp only [ho];rw [if_pos (by simp [Region.wanted,xN])];refine Or.inl (iS (R.gives hg) rfl fun v w' hv=>?_);have R':=(R.later hv.2).put (d:=o2.dst) (eZ (List.all_eq_true.1 hN o2 (List.mem_of_getElem? aJ))) hv.1;rw [lF] at R' ⊢;rw [bZ] at R';refine ⟨head.set hi ba,p,_,R',fun j q d hj kS jG hl hq aA=>?_,fun _=>by simp [lkp],fun t ht=>?_,fun j q hq hl=>?_,fun t=>?_⟩
    ·simp only [lkp];rw [if_neg fun e=>kT hj kS hq aA e.symm];rw [aV (Ne.symm kS)] at hl;exact S1 j q d hj kS jG hl hq aA
    ·simp only [lkp];rw [if_neg fun e=>ht i o2 ba aJ (by rw [lF,e])];exact S2 t ht
    ·obtain ⟨h1,o3,h2,_,h3,_⟩:=gW hq;simp only [lkp];rw [if_neg fun e=>kT h1 (Ne.symm (nH hq)) h2 h3 e.symm];rw [aV (nH hq)] at hl;exact S3 j q hq hl
    ·simp only [lkp];by_cases gx:bd=t
     ·rw [if_pos gx];exact .inr (.inr ⟨rfl,fun j hj q hq=>by rw [aV (nH hq)];exact EY j hj q hq⟩)
     ·rw [if_neg gx];rcases S4 t with h1|⟨j,q,h1,h2,h3⟩|⟨h1,h2⟩
      ·exact .inl h1
      ·exact .inr (.inl ⟨j,q,h1,by rw [aV (nH h1)];exact h2,h3⟩)
      ·exact .inr (.inr ⟨h1,fun j hj q hq=>by rw [aV (nH hq)];exact h2 j hj q hq⟩)
   obtain ⟨aj,nI⟩:=S i o2 (rs.getD i .any) (by rw [Nat.zero_add];simp [eg,xO]) (bb ba aJ) (dB ba);have bZ:(mcH A fun i=>listed.getD i false)=mcH A fun j=>(listed.setIfInBounds i true).getD j false:=EW fun j hj=>by
    have aq:i≠j:=fun e=>by rw [←e,eg] at hj;cases hj
    exact (aV aq).symm
   have qy:∀ {j:Nat} {q:Mc},A[j]? = some q→i≠q.ai:=fun {j q} hq e=>by
    have:kR A i=true:=List.any_eq_true.2 ⟨q,List.mem_of_getElem? hq,by simp [e]⟩;rw [eg] at this;cases this
   have fin:∀ v w',V1 w' (Mof M0 (st.h++mcH A fun i=>listed.getD i false) p) st.h p (rs.getD i .any) v→Below w.heap.size w w'→(fun listed a w=>HeadInv .any l.toArray n listed∧∃ (p:Pl) (s:List (Nat×AV)),Rel M0 w0 N p ⟨s,st.h++mcH A fun i=>listed.getD i false⟩ a w ∧
     (∀ (j:Nat) (q:Oper) (d:Nat),j < n→j≠b→kR A j=false→listed.getD j false=true→l[j]? = some q→q.dst=some d→lkp s d=rs.getD j .any)∧(listed.getD b false=true→lkp s bd=BV) ∧
     (∀ t,(∀ j q,j < n→l[j]? = some q→q.dst≠some t)→lkp s t=lkp st.s t)∧(∀ (j:Nat) (q:Mc),A[j]? = some q→listed.getD q.ai false=true→lkp s q.d=q.av (st.h.length+j)) ∧
     (∀ t,bh st.h.length 5 (lkp s t)=true∨(∃ (j:Nat) (q:Mc),A[j]? = some q∧listed.getD q.ai false=true∧lkp s t=q.av (st.h.length+j))∨(lkp s t=BV∧∀ j∈js,∀ q,A[j]? = some q→listed.getD q.ai false=true))) (listed.setIfInBounds i true) (a.put o2.dst v) w':=fun v w' hv hb=>by
    have R':=(R.later hb).put (d:=o2.dst) (eZ (List.all_eq_true.1 hN o2 (List.mem_of_getElem? aJ))) (V1.long hv);have cI:(VS.put ⟨s,st.h++mcH A fun i=>listed.getD i false⟩ o2.dst (rs.getD i .any))=⟨(VS.put ⟨s,st.h++mcH A fun i=>listed.getD i false⟩ o2.dst (rs.getD i .any)).s,st.h++mcH A fun j=>(listed.setIfInBounds i true).getD j false⟩:=by rw [←bZ];cases o2.dst<;>rfl
    rw [cI] at R';refine ⟨head.set hi ba,p,_,R',fun j q d hj kS jG hl hq aA=>?_,fun hl=>?_,fun t ht=>?_,fun j q hq hl=>?_,fun t=>?_⟩
    ·rw [fL];by_cases cq:j=i
     ·subst cq;have:q=o2:=Option.some.inj (hq.symm.trans aJ);subst this;rw [if_pos aA]
     ·rw [if_neg fun e=>bW hj cq hq aA e rfl];rw [aV (Ne.symm cq)] at hl;exact S1 j q d hj kS jG hl hq aA
    ·rw [aV xO] at hl;rw [fL,if_neg fun e=>kT ba xO aJ e rfl];exact S5 hl
    ·rw [fL,if_neg (ht i o2 ba aJ)];exact S2 t ht
    ·obtain ⟨h1,o3,h2,_,h3,_⟩:=gW hq;rw [fL,if_neg fun e=>bW h1 (Ne.symm (qy hq)) h2 h3 e rfl];rw [aV (qy hq)] at hl;exact S3 j q hq hl
    ·rw [fL];by_cases gx:o2.dst=some t
     ·rw [if_pos gx];exact .inl (nI t gx)
     ·rw [if_neg gx];rcases S4 t with h1|⟨j,q,h1,h2,h3⟩|⟨h1,h2⟩
      ·exact .inl h1
      ·exact .inr (.inl ⟨j,q,h1,by rw [aV (qy h1)];exact h2,h3⟩)
      ·exact .inr (.inr ⟨h1,fun j hj q hq=>by rw [aV (qy hq)];exact h2 j hj q hq⟩)
   have bx:dt P st.h (ev (aH st ((l.take n).take i) (rs.take i))) o2.op (rs.getD i .any)→gives P o2 a w fun v w''=>V1 w'' (Mof M0 (st.h++mcH A fun i=>listed.getD i false) p) st.h p (rs.getD i .any) v∧Below w.heap.size w w'':=by
    intro hg;refine nC (R.short_objs hh) R.mok R.h0 R.glob (fun _ _ hb=>.inl hb) (fun x hx=>?_) hg;cases x with
    | tmp t=>
     show V1 _ _ _ _ (lkp (aH st ((l.take n).take i) (rs.take i)).s t) _;rcases cj (Nat.le_refl i) (by omega) t (List.mem_append_left _ (List.mem_filterMap.2 ⟨.tmp t,by simpa using hx,rfl⟩)) with h1|⟨h1,h2⟩
     ·rw [h1];exact .base _ _ (.any _)
     ·rw [h1];exact V1.short (R.slots t) h2
    | const v=>exact .base _ _ (.lit v)
    | global g=>exact .base _ _ (R.evalG g)
    | func f=>exact .base _ _ (.lit _)
   have hy:=fun j=>nv (ops:=l) (j:=j) R hN;have bj:∀ (j:Nat) (want:Bool) (v:Value),o2.guard=some (j,want)→cV l (aH st ((l.take n).take i) (rs.take i)) j = .lit v→cV l ⟨s,st.h++mcH A fun i=>listed.getD i false⟩ j = .lit v:=by
    intro j want v hg hv;unfold cV at hv ⊢;cases hj:l[j]? with
    | none=>simpa [hj] using hv
    | some q=>
     cases hq:q.dst with
     | none=>simpa [hj,hq] using hv
     | some d=>
      have cH:d∈o2.looksAt l.toArray:=by
       unfold Oper.looksAt;refine List.mem_append_right _ ?_;simp [hg,hj,hq]
      simp only [hj,hq] at hv ⊢;rcases cj (Nat.le_refl i) (by omega) d cH with h1|⟨h1,_⟩
      ·rw [h1] at hv;cases hv
      ·rw [←h1];exact hv
   unfold wpOp;simp only [ho];unfold jB at aj;split at aj
   ·rename_i hg;rw [if_pos (by simp [Region.wanted,hg])];rw [ea] at aj;exact Or.inl (iS (bx aj) rfl fun v w' hv=>fin v w' hv.1 hv.2)
   ·rename_i j want hg;split at aj
    ·rename_i b hb;have dU:=(hy j).1 b (bj j want _ hg hb);split at aj
     ·rename_i hw;subst hw;rw [if_pos (by simp [Region.wanted,hg,dU])];rw [ea] at aj;exact Or.inl (iS (bx aj) rfl fun v w' hv=>fin v w' hv.1 hv.2)
     ·rename_i hw;rw [if_neg (by simpa [Region.wanted,hg,dU] using hw)];exact fin undef w (by rw [aj];exact .base _ _ (.lit _)) (Below.refl _ _)
    ·rename_i us hb;have dU:=(hy j).2 us (bj j want _ hg hb);rw [if_neg (by simp [Region.wanted,hg,dU])];exact fin undef w (by rw [aj];exact .base _ _ (.lit _)) (Below.refl _ _)
    ·exact aj.elim
  ·have dz:∀ {j j':Nat} {q q':Mc},A[j]? = some q→A[j']? = some q'→q.d=q'.d→j=j':=fun h1 h2 h3=>Ki qv h1 h2 h3;have fo:∀ {j:Nat} {x:Option Ob},j < A.length→(∀ k q,A[k]? = some q→k≠j→q.at_ (fun j=>(listed.setIfInBounds i true).getD j false)=q.at_ fun j=>listed.getD j false)→(∀ q,A[j]? = some q→q.at_ (fun j=>(listed.setIfInBounds i true).getD j false)=x) →
     (st.h++mcH A fun i=>listed.getD i false).set (st.h.length+j) x=st.h++mcH A fun j=>(listed.setIfInBounds i true).getD j false:=by
    intro j x hj h1 h2;rw [List.set_append_right _ _ (by omega),Nat.add_sub_cancel_left];congr 1;apply List.ext_getElem?;intro k;unfold mcH;by_cases hk:j=k
    ·subst hk;rw [List.getElem?_set_self (by simpa using hj),List.getElem?_map,List.getElem?_eq_getElem hj];simp only [Option.map_some,Option.some.injEq];exact (h2 _ (List.getElem?_eq_getElem hj)).symm
    ·rw [List.getElem?_set_ne hk,List.getElem?_map,List.getElem?_map];cases hq:A[k]? with
     | none=>rfl
     | some q=>simp only [Option.map_some,Option.some.injEq];exact (h1 k q hq (Ne.symm hk)).symm
   obtain ⟨q,hq,kU⟩:=List.any_eq_true.1 eg;obtain ⟨j,hj⟩:=List.mem_iff_getElem?.1 hq;have b_:=(List.getElem?_eq_some_iff.1 hj).1;obtain ⟨AN,o3,gX,xP,gY,AO⟩:=gW hj;have gy:(st.h++mcH A fun i=>listed.getD i false)[st.h.length+j]? = some (q.at_ fun i=>listed.getD i false):=by
    rw [List.getElem?_append_right (by omega),Nat.add_sub_cancel_left];simp [mcH,hj]
   have rO:q.ai=i:=by simpa using kU
   subst rO;have:o3=o2:=Option.some.inj (gX.symm.trans aJ);subst this;have cP:=getD_both ep;have nJ:(q.at_ fun i=>listed.getD i false)=none:=by simp only [Mc.at_,cP,Bool.false_eq_true,if_false]
   rw [nJ] at gy;have pI:∀ t,cJ (st.h.length+j) 5 (lkp s t)=true:=fun t=>by
    rcases S4 t with h1|⟨k,r,h1,h2,h3⟩|⟨h1,h2⟩
    ·exact rP (by omega) 5 _ h1
    rotate_left
    ·rw [h1];refine Kk j b_ fun hm=>?_;have:=h2 j hm q hj;rw [cP] at this;cases this
    ·rw [h3];have kV:k≠j:=fun e=>by
      subst e;rw [hj] at h1;obtain rfl:=Option.some.inj h1;rw [cP] at h2;cases h2
     unfold Mc.av;split<;>(simp only [cJ,bne_iff_ne,ne_eq];omega)
   have l7:∀ (k:Nat) (cs:List AV),(st.h++mcH A fun i=>listed.getD i false)[k]? = some (some (Ob.box cs))→∀ c∈cs,cJ (st.h.length+j) 5 c=true:=fun k cs hk c hc=>by
    rcases Nat.lt_or_ge k st.h.length with ao|dq
    ·rw [List.getElem?_append_left ao] at hk;exact rP (by omega) 5 _ (List.all_eq_true.1 (vd hh k _ hk) c hc)
    ·rw [List.getElem?_append_right dq] at hk;unfold mcH at hk;rw [List.getElem?_map,Option.map_eq_some_iff] at hk;obtain ⟨r,hr,he⟩:=hk;unfold Mc.at_ at he;split at he
     ·simp only [Option.some.injEq] at he;unfold Mc.ob at he;split at he
      ·simp only [Ob.box.injEq] at he;subst he;obtain ⟨z,_,rfl⟩:=List.mem_map.1 hc;rfl
      ·cases he
     ·cases he
   have jY:∀ z:Operand,z∈o3.op.operands→ev (aH st (l.take n) rs) z≠.any→a.eval z=a.eval z∧ev (aH st (l.take n) rs) z=ev ⟨s,st.h++mcH A fun i=>listed.getD i false⟩ z:=fun z hz aq=>⟨rfl,by
    cases z with
    | tmp t=>
     have ht:t∈o3.looksAt l.toArray:=List.mem_append_left _ (List.mem_filterMap.2 ⟨.tmp t,by simpa using hz,rfl⟩);show lkp _ t=lkp _ t;rcases cj (k:=n) (by omega) (Nat.le_refl _) t ht with h1|⟨h1,_⟩
     ·rw [←aW] at h1;exact absurd h1 aq
     ·rw [←aW] at h1;exact h1
    | const v=>rfl
    | global g=>rfl
    | func f=>rfl⟩
   rcases AO with ⟨nK,t3,x3,y3,iK⟩|⟨nK,t3,iK⟩
   ·have fX:=AK mG hj;unfold mcK at fX;rw [gX] at fX;simp only [iK] at fX;obtain ⟨ti,te,aX,fM,xQ,E4,jj,cA,oU,qz,E5,pJ,Km,AP⟩:=fX;have e1:a.eval x3 = .int .i64 q.m:=by
     have:=R.eval x3;rw [←(jY x3 (by rw [iK];simp [Op.operands]) (by rw [xQ];simp)).2,xQ] at this;exact this.lit_inv
    have e2:a.eval y3 = .int .i64 q.m:=by
     have:=R.eval y3;rw [←(jY y3 (by rw [iK];simp [Op.operands]) (by rw [E4];simp)).2,E4] at this;exact this.lit_inv
    obtain ⟨z,xR,fO,kA⟩:=pK fM;have aC:=E6 (P:=P) (w:=w) aX fM jj cA oU qz (n:=q.m) E5 pJ;have R':=R.fillRow (z:=q.z) (m:=q.m) (e:=q.e) (d:=q.d) (eZ (List.all_eq_true.1 hN o3 (List.mem_of_getElem? gX)) q.d gY) gy pI l7 (by rw [AP,oU];exact Nat.pos_of_ne_zero qz) (by rw [AP];exact fun u hu=>List.all_eq_true.1 fO u hu) E5;simp only at R';rw [fo b_ (fun k r hr kV=>?_) (fun r hr=>?_)] at R'
    ·unfold wpOp;simp only [ho];rw [if_pos (by simp [Region.wanted,xP])];refine Or.inl ?_;unfold Oper.wp;have gr:(execOp a.eval o3).run P w = .ok (.value (.slice (some ⟨w.heap.size,0,none⟩) q.m q.m)) { w with heap:=w.heap.push (.cells (fE q.z q.m).toArray q.e) }:=by
      simp only [execOp,iK,e1,e2,Sem.run_bind,aC,Result.andThen_ok,Sem.run_pure,Km,AP]
     rw [gr];simp only [Oper.upon];rw [gY];refine ⟨head.set hi ba,_,_,R',fun k r d hk AQ eV hl hr oV=>?_,fun hl=>?_,fun t ht=>?_,fun k r hr hl=>?_,fun t=>?_⟩
     ·have jH:k≠q.ai:=fun e=>by rw [e,eg] at eV;cases eV
      simp only [lkp];rw [if_neg (bW hk jH hr oV gY)];rw [aV (Ne.symm jH)] at hl;exact S1 k r d hk AQ eV hl hr oV
     ·have nL:q.ai≠b:=fun e=>by rw [e,va] at eg;cases eg
      rw [aV nL] at hl;simp only [lkp];rw [if_neg (kT ba nL gX gY)];exact S5 hl
     ·simp only [lkp];rw [if_neg fun e=>ht q.ai o3 ba gX (by rw [gY,e])];exact S2 t ht
     ·simp only [lkp];by_cases he:q.d=r.d
      ·rw [if_pos he,←dz hj hr he];rw [dz hj hr he,hr] at hj;obtain rfl:=Option.some.inj hj;simp [Mc.av,nK]
      ·rw [if_neg he];refine S3 k r hr ?_;rw [aV fun e=>he ?_] at hl
       ·exact hl
       ·obtain ⟨_,o4,a2,_,a4,_⟩:=gW hr;rw [←e,gX] at a2;obtain rfl:=Option.some.inj a2;rw [gY] at a4;exact Option.some.inj a4
     ·simp only [lkp];by_cases he:q.d=t
      ·rw [if_pos he];exact .inr (.inl ⟨j,q,hj,bH,by simp [Mc.av,nK]⟩)
      ·rw [if_neg he];rcases S4 t with h1|⟨k,r,h1,h2,h3⟩|⟨h1,h2⟩
       ·exact .inl h1
       ·refine .inr (.inl ⟨k,r,h1,?_,h3⟩);by_cases e:q.ai=r.ai
        ·rw [←e];exact bH
        ·rw [aV e];exact h2
       ·refine .inr (.inr ⟨h1,fun k hk r hr=>?_⟩);by_cases e:q.ai=r.ai
        ·rw [←e];exact bH
        ·rw [aV e];exact h2 k hk r hr
    ·have aq:q.ai≠r.ai:=fun e=>by
      obtain ⟨_,o4,a2,_,a4,_⟩:=gW hr;rw [←e,gX] at a2;obtain rfl:=Option.some.inj a2;rw [gY] at a4;exact kV (dz hr hj (Option.some.inj a4).symm)
     simp only [Mc.at_,aV aq]
    ·rw [hj] at hr;obtain rfl:=Option.some.inj hr;simp only [Mc.at_,bH,if_true,Mc.ob,nK];rfl
   ·have fX:=AK mG hj;unfold mcK at fX;rw [gX] at fX;simp only [iK] at fX;obtain ⟨ti,aX,hz⟩:=fX;obtain ⟨z,xR,fO,kA⟩:=pK aX;have hc:Cells w (Mof M0 (st.h++mcH A fun i=>listed.getD i false) p) (st.h++mcH A fun i=>listed.getD i false) p (q.z.map .lit) z.cells.toList:=by rw [xR,←hz];exact Cells.of_lits _ fO
    have R':=R.fill (d:=q.d) (eZ (List.all_eq_true.1 hN o3 (List.mem_of_getElem? gX)) q.d gY) gy pI l7 hc t3;simp only at R';rw [fo b_ (fun k r hr kV=>?_) (fun r hr=>?_)] at R'
    ·unfold wpOp;simp only [ho];rw [if_pos (by simp [Region.wanted,xP])];refine Or.inl ?_;unfold Oper.wp;have aC:(execOp a.eval o3).run P w = .ok (.value (.pointer (some ⟨w.heap.size,0,none⟩))) { w with heap:=w.heap.push (.cells z.cells.toList.toArray t3) }:=by
      simp [execOp,iK,Instr.alloc,kA,newVar,newRow]
     rw [aC];simp only [Oper.upon];rw [gY];refine ⟨head.set hi ba,_,_,R',fun k r d hk AQ eV hl hr oV=>?_,fun hl=>?_,fun t ht=>?_,fun k r hr hl=>?_,fun t=>?_⟩
     ·have jH:k≠q.ai:=fun e=>by rw [e,eg] at eV;cases eV
      simp only [lkp];rw [if_neg (bW hk jH hr oV gY)];rw [aV (Ne.symm jH)] at hl;exact S1 k r d hk AQ eV hl hr oV
     ·have nL:q.ai≠b:=fun e=>by rw [e,va] at eg;cases eg
      rw [aV nL] at hl;simp only [lkp];rw [if_neg (kT ba nL gX gY)];exact S5 hl
     ·simp only [lkp];rw [if_neg fun e=>ht q.ai o3 ba gX (by rw [gY,e])];exact S2 t ht
     ·simp only [lkp];by_cases he:q.d=r.d
      ·rw [if_pos he,←dz hj hr he];rw [dz hj hr he,hr] at hj;obtain rfl:=Option.some.inj hj;simp [Mc.av,nK]
      ·rw [if_neg he];refine S3 k r hr ?_;rw [aV fun e=>he ?_] at hl
       ·exact hl
       ·obtain ⟨_,o4,a2,_,a4,_⟩:=gW hr;rw [←e,gX] at a2;obtain rfl:=Option.some.inj a2;rw [gY] at a4;exact Option.some.inj a4
     ·simp only [lkp];by_cases he:q.d=t
      ·rw [if_pos he];exact .inr (.inl ⟨j,q,hj,bH,by simp [Mc.av,nK]⟩)
      ·rw [if_neg he];rcases S4 t with h1|⟨k,r,h1,h2,h3⟩|⟨h1,h2⟩
       ·exact .inl h1
       ·refine .inr (.inl ⟨k,r,h1,?_,h3⟩);by_cases e:q.ai=r.ai
        ·rw [←e];exact bH
        ·rw [aV e];exact h2
       ·refine .inr (.inr ⟨h1,fun k hk r hr=>?_⟩);by_cases e:q.ai=r.ai
        ·rw [←e];exact bH
        ·rw [aV e];exact h2 k hk r hr
    ·have aq:q.ai≠r.ai:=fun e=>by
      obtain ⟨_,o4,a2,_,a4,_⟩:=gW hr;rw [←e,gX] at a2;obtain rfl:=Option.some.inj a2;rw [gY] at a4;exact kV (dz hr hj (Option.some.inj a4).symm)
     simp only [Mc.at_,aV aq]
    ·rw [hj] at hr;obtain rfl:=Option.some.inj hr;simp only [Mc.at_,bH,if_true,Mc.ob,nK]
 ·rintro listed a w ⟨head,p,s,R,S1,S5,S2,S3,S4⟩ aE;have ba:∀ i,kR A i=true→i < n:=fun i hi=>by
   obtain ⟨q,hq,kU⟩:=List.any_eq_true.1 hi;obtain ⟨h1,_⟩:=EX (List.all_eq_true.1 vc q hq);have:q.ai=i:=by simpa using kU
   omega
  rw [Kh A _ fun i hi=>aE i (ba i hi)] at R;rw [ea] at hK;have ix:∀ t,t≠bd→(lkp (mcS st.h.length A++(aH st (l.take n) rs).s) t=lkp s t∨lkp (mcS st.h.length A++(aH st (l.take n) rs).s) t = .any):=fun t Kn=>by
   rcases qA (mcS st.h.length A) (aH st (l.take n) rs).s t with h1|h1
   ·rw [h1];by_cases aq:lkp (mcS st.h.length A) t = .any
    ·exact .inr aq
    ·obtain ⟨j,q,g1,g2,g3⟩:=EV aq;rw [g3,←g2];exact .inl (S3 j q g1 (aE _ (gW g1).1)).symm
   ·rw [h1,aW];by_cases hex:∃ (j:Nat) (q:Oper),j < n∧l[j]? = some q∧q.dst=some t
    ·obtain ⟨j,q,hj,hq,aA⟩:=hex;rw [aO hj (Nat.le_refl _) hq aA];have kS:j≠b:=fun e=>by
      subst e;rw [vb] at hq;obtain rfl:=Option.some.inj hq;rw [lF] at aA;exact Kn (Option.some.inj aA).symm
     cases hc:kR A j
     ·exact .inl (S1 j q t hj kS hc (aE j hj) hq aA).symm
     ·exact .inr (iJ hj hc hq)
    ·have bg:∀ j q,j < n→l[j]? = some q→q.dst≠some t:=fun j q hj hq he=>hex ⟨j,q,hj,hq,he⟩;rw [aI bg,S2 t bg];exact .inl rfl
  have R':=R.weak (s':=(bd,BV)::(mcS st.h.length A++(aH st (l.take n) rs).s)) fun t=>by
   show lkp ((bd,BV)::(mcS st.h.length A++(aH st (l.take n) rs).s)) t=lkp s t∨_;simp only [lkp];by_cases he:bd=t
   ·rw [if_pos he,←he];exact .inl (S5 (aE b xM)).symm
   ·rw [if_neg he];exact ix t fun e=>he e.symm
  have ia:(l.drop n).all (cU N)=true:=List.all_eq_true.2 fun q hq=>List.all_eq_true.1 hN q (List.mem_of_mem_drop hq);exact l9 (ow:=ow) hN (fun p st a w R h=>⟨st,p,R,h⟩) (l.drop n) p _ _ w ia R' hK
 ·have kW:(mcH A fun i=>(Array.replicate l.toArray.size false).getD i false)=List.replicate A.length none:=by
   apply List.ext_getElem?;intro k;unfold mcH;rw [List.getElem?_map,List.getElem?_replicate];cases hq:A[k]? with
   | none=>
    have:=List.getElem?_eq_none_iff.1 hq;rw [if_neg (by omega)];rfl
   | some q=>
    have:=(List.getElem?_eq_some_iff.1 hq).1;rw [if_pos this];simp only [Option.map_some,Mc.at_,getD_replicate_false];rfl
  refine ⟨⟨by simp,fun j oj _ hl=>(by rw [getD_replicate_false] at hl;cases hl),fun t _ ht=>getD_in (by simpa using ht) (getD_replicate_false _ _)⟩,p0,st.s,?_,fun j q d _ _ _ hl=>(by rw [getD_replicate_false] at hl;cases hl),fun hl=>(by rw [getD_replicate_false] at hl;cases hl),fun _ _=>rfl,fun j q _ hl=>(by rw [getD_replicate_false] at hl;cases hl),fun t=>.inl (pH hs t)⟩;rw [kW];exact (R0.later (Below.refl _ _).drew).pad A.length
end
end Go.Proofs.YtoibondihdhnoaaGreatDoor
