/- Texts in one: A drawing region that makes several variables of the call's own, in no order to each other: of every program; no condition. -/
import Derived.Test.YtoibondihdhnoaaGreatDoorFRP6
namespace Go.Proofs.YtoibondihdhnoaaGreatDoor
open Go.RowKit
section
variable {P:Program} {M0:Nat→Nat→Prop} {w0:Bas} {N:Nm} {p:Pl} {st:VS} {a:Act} {w:World} {Q:Exit→VS→Prop}
theorem s5 {h:Hp} {m id:Nat} {ob:Ob} (hi:(h++List.replicate m none)[id]? = some (some ob)) : h[id]? = some (some ob):=by
 rcases Nat.lt_or_ge id h.length with ao|dq
 ·rwa [List.getElem?_append_left ao] at hi
 ·rw [List.getElem?_append_right dq,List.getElem?_replicate] at hi;split at hi<;>cases hi
theorem Rel.pad (R:Rel M0 w0 N p st a w) (m:Nat) : Rel M0 w0 N p ⟨st.s,st.h++List.replicate m none⟩ a w:=by
 have hM:∀ b j,¬Mof M0 st.h p b j→¬Mof M0 (st.h++List.replicate m none) p b j:=fun b j hb eQ=>by
  rcases eQ with h|⟨i,ob,hi,hl,hp⟩
  ·exact hb (.inl h)
  ·exact hb (.inr ⟨i,ob,s5 hi,hl,hp⟩)
 have keep:∀ {av:AV} {v:Value},V1 w (Mof M0 st.h p) st.h p av v→V1 w (Mof M0 (st.h++List.replicate m none) p) (st.h++List.replicate m none) p av v:=fun hv=>
  hv.keep (Keeps.refl _ _) (fun b j _ h=>hM b j h) (by simp) (fun _ _=>rfl) (fun i e sz nl es v _ he hv=>hv _ _ _ _ (s5 he)) (fun i e sz nl pe qs v _ he hv=>hv _ _ _ _ _ (s5 he)) fun i k sz v hid hs=>hs.keep (fun e sz pe qs he=>⟨s5 he,rfl,rfl,fun _ _ _ _=>rfl⟩) (Nat.le_refl _)
 exact ⟨R.defers,R.size,R.below,R.m0,R.x0,fun i=>keep (R.slots i),fun i ob hi=>(R.objs i ob (s5 hi)).keep (fun _=>⟨rfl,rfl⟩) (fun _ _ _ _ _=>rfl) (Nat.le_refl _) (fun hx=>hx.keep (Keeps.refl _ _) fun b j _=>hM b j) fun _ _ _ _ _ hx=>keep hx,
  fun i i' ob ob' hi bw=>R.inj i i' ob ob' (s5 hi) (s5 bw)⟩
theorem Rel.fill {us:List Value} {zs:List Value} {id d:Nat} (R:Rel M0 w0 N p st a w) (hd:N.has d) (hid:st.h[id]? = some none) (hs:∀ t,cJ id 5 (lkp st.s t)=true) (hh:∀ (i:Nat) (cs:List AV),st.h[i]? = some (some (Ob.box cs))→∀ c∈cs,cJ id 5 c=true)
  (hc:Cells w (Mof M0 st.h p) st.h p (zs.map .lit) us) (t:TypeId) :
  Rel M0 w0 N (cS p id w.heap.size) ⟨(d,.ref id 0)::st.s,st.h.set id (some (.box (zs.map .lit)))⟩ (a.put (some d) (.pointer (some ⟨w.heap.size,0,none⟩))) { w with heap:=w.heap.push (.cells us.toArray t) }:=by
 have hb:=mO w (.cells us.toArray t);have eD:id < st.h.length:=(List.getElem?_eq_some_iff.1 hid).1;have hp:∀ i,i≠id→cS p id w.heap.size i=p i:=fun i hi=>(j1 hi).1;have lB:cS p id w.heap.size id=w.heap.size:=(lC p _ _).1;have bA:∀ i o,(st.h.set id (some (.box (zs.map .lit))))[i]? = some (some o)→(i=id∧o = .box (zs.map .lit))∨(i≠id∧st.h[i]? = some (some o)):=by
  intro i o aG;rw [List.getElem?_set] at aG;by_cases he:id=i
  ·rw [if_pos he,if_pos (by omega)] at aG;simp only [Option.some.injEq] at aG;exact .inl ⟨he.symm,aG.symm⟩
  ·rw [if_neg he] at aG;exact .inr ⟨fun h=>he h.symm,aG⟩
 have hM:∀ c j,c < w.heap.size→¬Mof M0 st.h p c j→¬Mof M0 (st.h.set id (some (.box (zs.map .lit)))) (cS p id w.heap.size) c j:=by
  intro c j hc hn hm;rcases hm with hm|⟨i,o,hi,hl,jV⟩
  ·exact hn (.inl hm)
  ·rcases bA i o hi with ⟨rfl,_⟩|⟨aq,bw⟩
   ·have:=mP jV;omega
   ·exact hn (.inr ⟨i,o,bw,hl,(jF aq).1 jV⟩)
 have hV:∀ {x:AV} {u:Value},cJ id 5 x=true→V1 w (Mof M0 st.h p) st.h p x u→V1 { w with heap:=w.heap.push (.cells us.toArray t) } (Mof M0 (st.h.set id (some (.box (zs.map .lit)))) (cS p id w.heap.size)) (st.h.set id (some (.box (zs.map .lit)))) (cS p id w.heap.size) x u:=fun hx hv=>
  V1.purge (.of_below hb) hM (by simp) hp (fun i e sz nl es v aq he hv=>by
   rcases bA i _ he with ⟨h1,_⟩|⟨_,h2⟩
   ·exact absurd h1 aq
   ·exact (hv _ _ _ _ h2).below hb) (fun i e sz nl pe qs v aq he hv=>by
   rcases bA i _ he with ⟨h1,_⟩|⟨_,h2⟩
   ·exact absurd h1 aq
   ·exact (hv _ _ _ _ _ h2).below hb) (fun i k sz v aq cz hs=>hs.keep (fun e sz pe qs he=>by
   rcases bA i _ he with ⟨h1,_⟩|⟨_,h2⟩
   ·exact absurd h1 aq
   ·exact ⟨h2,(j1 aq).1,(j1 aq).2,fun b _ _ ao=>hb.block b ao⟩) hb.size) 5 _ _ hv hx
 refine ⟨R.defers,R.size.put hd,R.below.later hb,R.m0,R.x0,fun i=>?_,fun i o hi=>?_,fun i i' o o' hi bw hl bm x j j' hO cw=>?_⟩
 ·rw [mQ a d _ i (R.size.lt hd)];simp only [lkp];split
  ·have:=V1.ref (w:={ w with heap:=w.heap.push (.cells us.toArray t) }) (M:=Mof M0 (st.h.set id (some (.box (zs.map .lit)))) (cS p id w.heap.size)) (h:=st.h.set id (some (.box (zs.map .lit)))) (p:=cS p id w.heap.size) id 0 (by simpa using eD);rwa [lB] at this
  ·exact hV (hs i) (R.slots i)
 ·rcases bA i o hi with ⟨rfl,rfl⟩|⟨aq,bw⟩
  ·refine ⟨tv R.below.size,us.toArray,t,by rw [lB];simp [-World.alloc_eq],by simpa using hc.1,hc.2.1,fun j c hj=>?_⟩;have eN:j < us.length:=by rw [hc.1];exact (List.getElem?_eq_some_iff.1 hj).1
   refine ⟨us[j],by simp [eN],hV ?_ (hc.2.2 j c us[j] hj (List.getElem?_eq_getElem eN))⟩;rw [List.getElem?_map,Option.map_eq_some_iff] at hj;obtain ⟨z,_,rfl⟩:=hj;rfl
  ·exact (R.objs i o bw).keep (fun _=>j1 aq) (fun _ b _ _ dv=>hb.block b dv) hb.size (fun hx=>hx.keep (.of_below hb) hM) fun cs bI c fN _ hx=>hV (hh i cs (by rw [bw,bI]) c fN) hx
 ·rcases bA i o hi with ⟨rfl,rfl⟩|⟨hn,h1⟩<;>rcases bA i' o' bw with ⟨rfl,rfl⟩|⟨lD,h2⟩
  ·rfl
  ·have h3:=((R.objs i' o' h2).own bm x j' ((jF lD).1 cw)).2;have h4:=mP hO;omega
  ·have h3:=((R.objs i o h1).own hl x j ((jF hn).1 hO)).2;have h4:=mP cw;omega
  ·exact R.inj i i' o o' h1 h2 hl bm x j j' ((jF hn).1 hO) ((jF lD).1 cw)
end
structure Slot where
 ai:Nat
 d:Nat
 z:List Value
 si:Option Nat
 c:List AV
def Slot.end_ (q:Slot) : List AV:=match q.si with|some _=>q.c|none=>q.z.map .lit
def Slot.at_ (q:Slot) (f:Nat→Bool) : Option Ob:=if f q.ai=true then some (.box (match q.si with|some s=>if f s=true then q.c else q.z.map .lit|none=>q.z.map .lit)) else none
def fG (A:List Slot) (f:Nat→Bool) : Hp:=A.map fun q=>q.at_ f
def eh:List Slot→Hp
 | []=>[]
 | q::r=>some (.box q.end_)::eh r
def dV (k:Nat) : List Slot→List (Nat×AV)
 | []=>[]
 | q::r=>(q.d,.ref k 0)::dV (k+1) r
def isA (A:List Slot) (i:Nat) : Bool:=A.any fun q=>q.ai == i || q.si == some i
def zU (l:List Oper) (n:Nat) (q:Slot) : Bool:=
 decide (q.ai < n)&&(match l[q.ai]? with|some o=>o.guard.isNone&&o.dst == some q.d&&(match o.op with | .alloc _=>true|_=>false)|none=>false) &&
 (match q.si with|none=>true|some s=>decide (s < n)&&(match l[s]? with|some o=>o.guard.isNone&&o.dst.isNone&&(match o.op with | .store _ (.tmp x) _=>x == q.d|_=>false)|none=>false))
def DO (l:List Oper) (n:Nat) (A:List Slot) : Bool:=A.all (zU l n)&&decide (A.map (·.d)).Nodup
def DP (P:Program) (l:List Oper) (T:VS) (q:Slot) : Prop:=
 (match l[q.ai]? with|some o=>(match o.op with | .alloc t=>∃ ti,aY P t=some ti∧ti.zero=q.z|_=>False)|none=>False) ∧
 (match q.si with|none=>True|some s=>(match l[s]? with|some o=>(match o.op with | .store t _ y=>∃ ti,aY P t=some ti∧ev T y≠.any∧pb (ev T y)=true∧fY (ev T y)=q.c∧q.c.length=ti.size∧q.z.length=ti.size∧q.c.all (bh T.h.length 5)=true|_=>False)|none=>False))
def xj (P:Program) (l:List Oper) (T:VS) : List Slot→Prop
 | []=>True
 | q::r=>DP P l T q∧xj P l T r
section
variable (P:Program)
def iI (ops:List Oper) (bf:Nat→Bool) : List Oper→Nat→VS→(VS→Prop)→Prop
 | [],_,T,K=>K T
 | o::l,i,T,K=>
  if bf i=true then iI ops bf l (i+1) (T.put o.dst .any) K
  else m_ P ops o T fun T'=>(∀ d,o.dst=some d→bh T.h.length 5 (lkp T'.s d)=true)∧iI ops bf l (i+1) T' K
end
section
variable {P:Program} {M0:Nat→Nat→Prop} {w0:Bas} {N:Nm} {p:Pl} {st:VS} {a:Act} {w:World} {Q:Exit→VS→Prop}
theorem rN {ops:List Oper} {bf:Nat→Bool} {K:VS→Prop} : ∀ (l:List Oper) (i0:Nat) (T:VS),iI P ops bf l i0 T K →
  ∃ rs:List AV,rs.length=l.length∧K (aH T l rs) ∧
   (∀ (i:Nat) (o:Oper) (r:AV),bf (i0+i)=false→l[i]? = some o→rs[i]? = some r→jB P ops o (aH T (l.take i) (rs.take i)) r∧∀ d,o.dst=some d→bh T.h.length 5 r=true) ∧
   (∀ (i:Nat) (o:Oper),bf (i0+i)=true→l[i]? = some o→rs[i]? = some .any)
 | [],i0,T,h=>⟨[],rfl,h,by simp,by simp⟩
 | o::l,i0,T,h=>by
  unfold iI at h;by_cases hc:bf i0=true
  ·rw [if_pos hc] at h;obtain ⟨rs,e1,hK,hp,hh⟩:=rN l (i0+1) _ h;refine ⟨.any::rs,by simp [e1],by simpa [aH] using hK,fun i q r hi hq hr=>?_,fun i q hi hq=>?_⟩
   ·cases i with
    | zero=>rw [Nat.add_zero,hc] at hi;cases hi
    | succ i=>
     have:=hp i q r (by rw [←hi];congr 1;omega) (by simpa using hq) (by simpa using hr);rw [rj] at this;simpa [aH] using this
   ·cases i with
    | zero=>rfl
    | succ i=>exact hh i q (by rw [←hi];congr 1;omega) (by simpa using hq)
  ·rw [if_neg hc] at h;obtain ⟨r,h1,h2,h3⟩:=Dk h;obtain ⟨rs,e1,hK,hp,hh⟩:=rN l (i0+1) _ h3;refine ⟨r::rs,by simp [e1],by simpa [aH] using hK,fun i q x hi hq hr=>?_,fun i q hi hq=>?_⟩
   ·cases i with
    | zero=>
     simp at hq hr;subst hq;subst hr;refine ⟨h1,fun d hd=>?_⟩;have:=h2 d hd;rw [hd,Ix] at this;simpa using this
    | succ i=>
     have:=hp i q x (by rw [←hi];congr 1;omega) (by simpa using hq) (by simpa using hr);rw [rj] at this;simpa [aH] using this
   ·cases i with
    | zero=>rw [Nat.add_zero] at hi;exact absurd hi hc
    | succ i=>exact hh i q (by rw [←hi];congr 1;omega) (by simpa using hq)
theorem zV {l:List Oper} {T:VS} : ∀ {A:List Slot},xj P l T A→∀ {j:Nat} {q:Slot},A[j]? = some q→DP P l T q
 | [],_,j,q,h=>by simp at h
 | x::A,hk,j,q,h=>by
  cases j with
  | zero=>simp at h;subst h;exact hk.1
  | succ j=>exact zV hk.2 (j:=j) (by simpa using h)
theorem I3:∀ {A:List Slot} {j:Nat},(eh A)[j]? = (A[j]?).map fun q=>some (.box q.end_)
 | [],j=>by simp [eh]
 | q::A,0=>by simp [eh]
 | q::A,j+1=>by simp [eh,I3 (A:=A) (j:=j)]
theorem Ro (A:List Slot) (f:Nat→Bool) (hf:∀ i,isA A i=true→f i=true) : fG A f=eh A:=by
 apply List.ext_getElem?;intro j;rw [I3];unfold fG;rw [List.getElem?_map];cases hq:A[j]? with
 | none=>rfl
 | some q=>
  have hm:=List.mem_of_getElem? hq;have h1:f q.ai=true:=hf _ (List.any_eq_true.2 ⟨q,hm,by simp⟩);simp only [Option.map_some,Slot.at_,h1,if_true,Slot.end_];cases hs:q.si with
  | none=>rfl
  | some s=>
   have h2:f s=true:=hf _ (List.any_eq_true.2 ⟨q,hm,by simp [hs]⟩);simp [h2]
theorem I4:∀ {A:List Slot} {k t:Nat},lkp (dV k A) t≠.any→∃ (j:Nat) (q:Slot),A[j]? = some q∧q.d=t∧lkp (dV k A) t = .ref (k+j) 0
 | [],k,t,h=>absurd rfl h
 | x::A,k,t,h=>by
  simp only [dV,lkp] at h ⊢;by_cases hd:x.d=t
  ·exact ⟨0,x,rfl,hd,by rw [if_pos hd];rfl⟩
  ·rw [if_neg hd] at h ⊢;obtain ⟨j,q,h1,h2,h3⟩:=I4 (A:=A) (k:=k+1) h;exact ⟨j+1,q,by simpa using h1,h2,by rw [h3];congr 1;omega⟩
theorem Rp {A:List Slot} {f g:Nat→Bool} (h:∀ i,isA A i=true→f i=g i) : fG A f=fG A g:=by
 unfold fG;refine List.map_congr_left fun q hq=>?_;have h1:f q.ai=g q.ai:=h _ (List.any_eq_true.2 ⟨q,hq,by simp⟩);unfold Slot.at_;rw [h1];cases hs:q.si with
 | none=>rfl
 | some s=>simp only [h s (List.any_eq_true.2 ⟨q,hq,by simp [hs]⟩)]
theorem I5 {l:List Oper} {n:Nat} {q:Slot} (h:zU l n q=true) : (q.ai < n∧∃ o t,l[q.ai]? = some o∧o.guard=none∧o.dst=some q.d∧o.op = .alloc t) ∧
  ∀ s,q.si=some s→s < n∧∃ o t y,l[s]? = some o∧o.guard=none∧o.dst=none∧o.op = .store t (.tmp q.d) y:=by
 simp only [zU,Bool.and_eq_true,decide_eq_true_eq] at h;obtain ⟨⟨h1,h2⟩,h3⟩:=h;refine ⟨⟨h1,?_⟩,fun s hs=>?_⟩
 ·split at h2
  ·rename_i o ho;simp only [Bool.and_eq_true,beq_iff_eq,Option.isNone_iff_eq_none] at h2;obtain ⟨⟨a,b⟩,c⟩:=h2;split at c
   ·rename_i t ht;exact ⟨o,t,ho,a,b,ht⟩
   ·cases c
  ·cases h2
 ·rw [hs] at h3;simp only [Bool.and_eq_true,decide_eq_true_eq] at h3;obtain ⟨h4,h5⟩:=h3;refine ⟨h4,?_⟩;split at h5
  ·rename_i o ho;simp only [Bool.and_eq_true,Option.isNone_iff_eq_none] at h5;obtain ⟨⟨a,b⟩,c⟩:=h5;split at c
   ·rename_i t x y hx;simp only [beq_iff_eq] at c;subst c;exact ⟨o,t,y,ho,a,b,hx⟩
   ·cases c
  ·cases h5
theorem Rq {A:List Slot} (h:(A.map (·.d)).Nodup) {i j:Nat} {q r:Slot} (hi:A[i]? = some q) (hj:A[j]? = some r) (he:q.d=r.d) : i=j:=by
 have h1:(A.map (·.d))[i]? = some q.d:=by simp [hi]
 have h2:(A.map (·.d))[j]? = some q.d:=by simp [hj,he]
 obtain ⟨a1,b1⟩:=List.getElem?_eq_some_iff.1 h1;obtain ⟨a2,b2⟩:=List.getElem?_eq_some_iff.1 h2;rcases Nat.lt_trichotomy i j with hl|hl|hl
 ·exact absurd (b1.trans b2.symm) (List.pairwise_iff_getElem.1 h i j a1 a2 hl)
 ·exact hl
 ·exact absurd (b2.trans b1.symm) (List.pairwise_iff_getElem.1 h j i a2 a1 hl)
theorem Rr {cs vs:List AV} (h:vs.length=cs.length) : mn cs 0 vs=vs:=by
 unfold mn;rw [List.take_zero,List.nil_append,Nat.zero_add,h,List.drop_length,List.append_nil]
theorem Rs {id:Nat} {l:List Oper} (n:Nat) (ow:List Nat) (A:List Slot) (hm:P.follows .mixedOrders=true) (hB:Region.specB l.toArray n=true) (hA:DO l n A=true) (hs:sOK st.h.length st.s) (hh:hOK st.h.length st.h)
  (h:iI P l (isA A) (l.take n) 0 st fun T=>xj P l T A∧dS P ow l (l.drop n) ⟨dV st.h.length A++T.s,T.h++eh A⟩ (Q .normal)) : VWp P M0 w0 N (.region id l.toArray true) Q st:=fun iw p0 a0 rE R0=>by
 have hN:l.all (cU N)=true:=by simpa [eY] using iw
 obtain ⟨rs,dO,Y,S,lE⟩:=rN _ _ _ h;obtain ⟨mG,hK⟩:=Y;have cZ:=hB;simp only [Region.specB,Bool.and_eq_true,decide_eq_true_eq] at cZ;obtain ⟨⟨⟨⟨⟨⟨_,aK⟩,_⟩,_⟩,hd⟩,a_⟩,_⟩:=cZ;have eB:n < l.length:=by simpa using aK
 have c_:dF (l.take n)=true:=by simpa using hd
 have hlen:(l.take n).length=n:=by simp;omega
 rw [hlen] at dO;obtain ⟨vc,qv⟩ : A.all (zU l n)=true∧(A.map (·.d)).Nodup:=by simpa [DO] using hA
 have gW:∀ {j:Nat} {q:Slot},A[j]? = some q→_:=fun {j q} hq=>I5 (List.all_eq_true.1 vc q (List.mem_of_getElem? hq));have bb:∀ {i:Nat} {o:Oper},i < n→l[i]? = some o→(l.take n)[i]? = some o:=fun {i o} hi ho=>by rw [List.getElem?_take_of_lt hi];exact ho
 have iR:∀ {i:Nat} {o:Oper},(l.take n)[i]? = some o→i < n∧l[i]? = some o:=fun {i o} ho=>by
  have hi:i < n:=by have:=(List.getElem?_eq_some_iff.1 ho).1;omega
  rw [List.getElem?_take_of_lt hi] at ho;exact ⟨hi,ho⟩
 have dB:∀ {i:Nat},i < n→rs[i]? = some (rs.getD i .any):=fun {i} hi=>by simp [List.getD,show i < rs.length by omega]
 have cm:∀ i,i < n→∀ o,l[i]? = some o→∀ t∈o.looksAt l.toArray,∀ j,j < n→∀ q,l[j]? = some q→q.dst=some t→Region.waitsFor .any l.toArray i j=true∧j < i:=by
  intro i hi o ho;have h:=List.all_eq_true.1 a_ i (List.mem_range.2 hi);simp only [List.getElem?_toArray,ho,Bool.and_eq_true] at h;have eC:∀ e∈o.after,Region.binds .any e=true→e.on < i:=fun e he hb=>by
   have h1:=Array.all_eq_true'.1 h.2 e he;simp only [hb,Bool.not_true,Bool.false_or,decide_eq_true_eq] at h1;exact h1
  intro t ht j hj q hq aA;have h1:=List.all_eq_true.1 (List.all_eq_true.1 h.1 t ht) j (List.mem_range.2 hj);simp only [hq,Option.bind_some,aA,bne_self_eq_false,Bool.false_or] at h1;refine ⟨h1,?_⟩;obtain ⟨o',aJ,e,he,hb,cf⟩:=Region.waitsFor_spec h1;have:o'=o:=Option.some.inj (aJ.symm.trans (by simpa using ho));subst this;rw [←cf];exact eC e he hb
 have aO:∀ {i j:Nat} {q:Oper} {t:Nat},j < i→i≤n→l[j]? = some q→q.dst=some t→lkp (aH st ((l.take n).take i) (rs.take i)).s t=rs.getD j .any:=fun {i j q t} hj hi hq ht=>
  ma ((l.take n).take i) (rs.take i) st t j q (rs.getD j .any) (ly _ _ c_) (by rw [List.getElem?_take_of_lt hj];exact bb (by omega) hq) (by rw [List.getElem?_take_of_lt hj];exact dB (by omega)) ht
 have aI:∀ {i t:Nat},(∀ j q,j < n→l[j]? = some q→q.dst≠some t)→lkp (aH st ((l.take n).take i) (rs.take i)).s t=lkp st.s t:=fun {i t} ho=>
  lz _ _ _ _ fun q hq he=>by
   obtain ⟨j,hj⟩:=List.mem_iff_getElem?.1 (List.mem_of_mem_take hq);obtain ⟨h1,h2⟩:=iR hj;exact ho j q h1 h2 he
 have aW:aH st (l.take n) rs=aH st ((l.take n).take n) (rs.take n):=by
  rw [List.take_of_length_le (l:=l.take n) (by rw [hlen];exact Nat.le_refl _),List.take_of_length_le (l:=rs) (by omega)]
 have dx:∀ {j:Nat} {q:Oper} {d:Nat},j < n→isA A j=false→l[j]? = some q→q.dst=some d→bh st.h.length 5 (rs.getD j .any)=true:=fun {j q d} hj hc hq aA=>
  (S j q _ (by rw [Nat.zero_add];exact hc) (bb hj hq) (dB hj)).2 d aA
 have iJ:∀ {j:Nat} {q:Oper},j < n→isA A j=true→l[j]? = some q→rs.getD j .any = .any:=fun {j q} hj hc hq=>by
  have h1:=lE j q (by rw [Nat.zero_add];exact hc) (bb hj hq);rw [dB hj] at h1;exact Option.some.inj h1
 refine wp_region_any hm ?_;refine qu (Inv:=fun listed a w=>HeadInv .any l.toArray n listed∧∃ (p:Pl) (s:List (Nat×AV)),Rel M0 w0 N p ⟨s,st.h++fG A fun i=>listed.getD i false⟩ a w ∧
   (∀ (j:Nat) (q:Oper) (d:Nat),j < n→isA A j=false→listed.getD j false=true→l[j]? = some q→q.dst=some d→lkp s d=rs.getD j .any) ∧
   (∀ t,(∀ j q,j < n→l[j]? = some q→q.dst≠some t)→lkp s t=lkp st.s t)∧(∀ (j:Nat) (q:Slot),A[j]? = some q→listed.getD q.ai false=true→lkp s q.d = .ref (st.h.length+j) 0) ∧
   (∀ t,bh st.h.length 5 (lkp s t)=true∨∃ (j:Nat) (q:Slot),A[j]? = some q∧listed.getD q.ai false=true∧lkp s t = .ref (st.h.length+j) 0)) hB (fun _ _ _ inv=>inv.1) ?_ ?_ _ _ _ _ ?_ (by simp)
 ·rintro listed a w i o ⟨head,p,s,R,S1,S2,S3,S4⟩ hi ba ho ep;have aJ:l[i]? = some o:=by simpa using ho
  obtain ⟨_,o2,jX,cG⟩:=mem_ready.1 hi;have:o2=o:=Option.some.inj (jX.symm.trans ho);subst this;have bz:i < listed.size:=by rw [head.size];simpa using (by omega:i < l.length)
  have bH:(listed.setIfInBounds i true).getD i false=true:=by simp [bz]
  have aV:∀ {j:Nat},i≠j→(listed.setIfInBounds i true).getD j false=listed.getD j false:=fun aq=>getD_set_ne false aq;have bB:∀ j,Region.waitsFor .any l.toArray i j=true→listed.getD j false=true:=by
   intro j hj;obtain ⟨o3,kP,e,he,hb,cf⟩:=Region.waitsFor_spec hj;have:o3=o2:=Option.some.inj (kP.symm.trans ho);subst this;rw [←cf];exact cG e he hb
  have cj:∀ {k:Nat},i≤k→k≤n→∀ t∈o2.looksAt l.toArray,lkp (aH st ((l.take n).take k) (rs.take k)).s t = .any∨(lkp (aH st ((l.take n).take k) (rs.take k)).s t=lkp s t∧bh st.h.length 5 (lkp s t)=true):=fun {k} pD jf t ht=>by
   by_cases hex:∃ (j:Nat) (q:Oper),j < n∧l[j]? = some q∧q.dst=some t
   ·obtain ⟨j,q,hj,hq,aA⟩:=hex;obtain ⟨h1,h2⟩:=cm i ba o2 aJ t ht j hj q hq aA;rw [aO (by omega) jf hq aA];cases hc:isA A j
    ·have:=S1 j q t hj hc (bB j h1) hq aA;exact .inr ⟨this.symm,by rw [this];exact dx hj hc hq aA⟩
    ·exact .inl (iJ hj hc hq)
   ·have bg:∀ j q,j < n→l[j]? = some q→q.dst≠some t:=fun j q hj hq he=>hex ⟨j,q,hj,hq,he⟩;rw [aI bg,S2 t bg];exact .inr ⟨rfl,pH hs t⟩
  have bW:∀ {j:Nat} {q:Oper} {d d':Nat},j < n→j≠i→l[j]? = some q→q.dst=some d→o2.dst=some d'→d'≠d:=fun {j q d d'} hj cq hq aA dC he=>by
   subst he;exact cq (mK c_ (bb hj hq) (bb ba aJ) aA dC)
  cases eg:isA A i
  ·obtain ⟨aj,nI⟩:=S i o2 (rs.getD i .any) (by rw [Nat.zero_add];exact eg) (bb ba aJ) (dB ba);have bZ:(fG A fun i=>listed.getD i false)=fG A fun j=>(listed.setIfInBounds i true).getD j false:=Rp fun j hj=>by
    have aq:i≠j:=fun e=>by rw [←e,eg] at hj;cases hj
    exact (aV aq).symm
   have qy:∀ {j:Nat} {q:Slot},A[j]? = some q→i≠q.ai:=fun {j q} hq e=>by
    have:isA A i=true:=List.any_eq_true.2 ⟨q,List.mem_of_getElem? hq,by simp [e]⟩;rw [eg] at this;cases this
   have fin:∀ v w',V1 w' (Mof M0 (st.h++fG A fun i=>listed.getD i false) p) st.h p (rs.getD i .any) v→Below w.heap.size w w'→(fun listed a w=>HeadInv .any l.toArray n listed∧∃ (p:Pl) (s:List (Nat×AV)),Rel M0 w0 N p ⟨s,st.h++fG A fun i=>listed.getD i false⟩ a w ∧
     (∀ (j:Nat) (q:Oper) (d:Nat),j < n→isA A j=false→listed.getD j false=true→l[j]? = some q→q.dst=some d→lkp s d=rs.getD j .any) ∧
     (∀ t,(∀ j q,j < n→l[j]? = some q→q.dst≠some t)→lkp s t=lkp st.s t)∧(∀ (j:Nat) (q:Slot),A[j]? = some q→listed.getD q.ai false=true→lkp s q.d = .ref (st.h.length+j) 0) ∧
     (∀ t,bh st.h.length 5 (lkp s t)=true∨∃ (j:Nat) (q:Slot),A[j]? = some q∧listed.getD q.ai false=true∧lkp s t = .ref (st.h.length+j) 0)) (listed.setIfInBounds i true) (a.put o2.dst v) w':=fun v w' hv hb=>by
    have R':=(R.later hb).put (d:=o2.dst) (eZ (List.all_eq_true.1 hN o2 (List.mem_of_getElem? aJ))) (V1.long hv);have cI:(VS.put ⟨s,st.h++fG A fun i=>listed.getD i false⟩ o2.dst (rs.getD i .any))=⟨(VS.put ⟨s,st.h++fG A fun i=>listed.getD i false⟩ o2.dst (rs.getD i .any)).s,st.h++fG A fun j=>(listed.setIfInBounds i true).getD j false⟩:=by rw [←bZ];cases o2.dst<;>rfl
    rw [cI] at R';refine ⟨head.set hi ba,p,_,R',fun j q d hj jG hl hq aA=>?_,fun t ht=>?_,fun j q hq hl=>?_,fun t=>?_⟩
    ·rw [fL];by_cases cq:j=i
     ·subst cq;have:q=o2:=Option.some.inj (hq.symm.trans aJ);subst this;rw [if_pos aA]
     ·rw [if_neg fun e=>bW hj cq hq aA e rfl];rw [aV (Ne.symm cq)] at hl;exact S1 j q d hj jG hl hq aA
    ·rw [fL,if_neg (ht i o2 ba aJ)];exact S2 t ht
    ·obtain ⟨⟨h1,o3,t3,h2,_,h3,_⟩,_⟩:=gW hq;rw [fL,if_neg fun e=>bW h1 (Ne.symm (qy hq)) h2 h3 e rfl];rw [aV (qy hq)] at hl;exact S3 j q hq hl
    ·rw [fL];by_cases gx:o2.dst=some t
     ·rw [if_pos gx];exact .inl (nI t gx)
     ·rw [if_neg gx];rcases S4 t with h1|⟨j,q,h1,h2,h3⟩
      ·exact .inl h1
      ·exact .inr ⟨j,q,h1,by rw [aV (qy h1)];exact h2,h3⟩
   have bx:dt P st.h (ev (aH st ((l.take n).take i) (rs.take i))) o2.op (rs.getD i .any)→gives P o2 a w fun v w''=>V1 w'' (Mof M0 (st.h++fG A fun i=>listed.getD i false) p) st.h p (rs.getD i .any) v∧Below w.heap.size w w'':=by
    intro hg;refine nC (R.short_objs hh) R.mok R.h0 R.glob (fun _ _ hb=>.inl hb) (fun x hx=>?_) hg;cases x with
    | tmp t=>
     show V1 _ _ _ _ (lkp (aH st ((l.take n).take i) (rs.take i)).s t) _;rcases cj (Nat.le_refl i) (by omega) t (List.mem_append_left _ (List.mem_filterMap.2 ⟨.tmp t,by simpa using hx,rfl⟩)) with h1|⟨h1,h2⟩
     ·rw [h1];exact .base _ _ (.any _)
     ·rw [h1];exact V1.short (R.slots t) h2
    | const v=>exact .base _ _ (.lit v)
    | global g=>exact .base _ _ (R.evalG g)
    | func f=>exact .base _ _ (.lit _)
   have hy:=fun j=>nv (ops:=l) (j:=j) R hN;have bj:∀ (j:Nat) (want:Bool) (v:Value),o2.guard=some (j,want)→cV l (aH st ((l.take n).take i) (rs.take i)) j = .lit v→cV l ⟨s,st.h++fG A fun i=>listed.getD i false⟩ j = .lit v:=by
    intro j want v hg hv;unfold cV at hv ⊢;cases hj:l[j]? with
    | none=>simpa [hj] using hv
    | some q=>
     cases hq:q.dst with
     | none=>simpa [hj,hq] using hv
     | some d=>
      have cH:d∈o2.looksAt l.toArray:=by
       unfold Oper.looksAt;refine List.mem_append_right _ ?_;simp [hg,hj,hq]
      simp only [hj,hq] at hv ⊢;rcases cj (Nat.le_refl i) (by omega) d cH with h1|⟨h1,_⟩
      ·rw [h1] at hv;cases hv
      ·rw [←h1];exact hv
   unfold wpOp;simp only [ho];unfold jB at aj;split at aj
   ·rename_i hg;rw [if_pos (by simp [Region.wanted,hg])];rw [ea] at aj;exact Or.inl (iS (bx aj) rfl fun v w' hv=>fin v w' hv.1 hv.2)
   ·rename_i j want hg;split at aj
    ·rename_i b hb;have dU:=(hy j).1 b (bj j want _ hg hb);split at aj
     ·rename_i hw;subst hw;rw [if_pos (by simp [Region.wanted,hg,dU])];rw [ea] at aj;exact Or.inl (iS (bx aj) rfl fun v w' hv=>fin v w' hv.1 hv.2)
     ·rename_i hw;rw [if_neg (by simpa [Region.wanted,hg,dU] using hw)];exact fin undef w (by rw [aj];exact .base _ _ (.lit _)) (Below.refl _ _)
    ·rename_i us hb;have dU:=(hy j).2 us (bj j want _ hg hb);rw [if_neg (by simp [Region.wanted,hg,dU])];exact fin undef w (by rw [aj];exact .base _ _ (.lit _)) (Below.refl _ _)
    ·exact aj.elim
  · -- one Rt makes or DQ
   have dz:∀ {j j':Nat} {q q':Slot},A[j]? = some q→A[j']? = some q'→q.d=q'.d→j=j':=fun h1 h2 h3=>Rq qv h1 h2 h3;have fo:∀ {j:Nat} {x:Option Ob},j < A.length→(∀ k q,A[k]? = some q→k≠j→q.at_ (fun j=>(listed.setIfInBounds i true).getD j false)=q.at_ fun j=>listed.getD j false)→(∀ q,A[j]? = some q→q.at_ (fun j=>(listed.setIfInBounds i true).getD j false)=x) →
     (st.h++fG A fun i=>listed.getD i false).set (st.h.length+j) x=st.h++fG A fun j=>(listed.setIfInBounds i true).getD j false:=by
    intro j x hj h1 h2;rw [List.set_append_right _ _ (by omega),Nat.add_sub_cancel_left];congr 1;apply List.ext_getElem?;intro k;unfold fG;by_cases hk:j=k
    ·subst hk;rw [List.getElem?_set_self (by simpa using hj),List.getElem?_map,List.getElem?_eq_getElem hj];simp only [Option.map_some,Option.some.injEq];exact (h2 _ (List.getElem?_eq_getElem hj)).symm
    ·rw [List.getElem?_set_ne hk,List.getElem?_map,List.getElem?_map];cases hq:A[k]? with
     | none=>rfl
     | some q=>simp only [Option.map_some,Option.some.injEq];exact (h1 k q hq (Ne.symm hk)).symm
   obtain ⟨q,hq,kU⟩:=List.any_eq_true.1 eg;obtain ⟨j,hj⟩:=List.mem_iff_getElem?.1 hq;have b_:=(List.getElem?_eq_some_iff.1 hj).1;obtain ⟨⟨AN,o3,t3,gX,xP,gY,iK⟩,fu⟩:=gW hj;have gy:(st.h++fG A fun i=>listed.getD i false)[st.h.length+j]? = some (q.at_ fun i=>listed.getD i false):=by
    rw [List.getElem?_append_right (by omega),Nat.add_sub_cancel_left];simp [fG,hj]
   have xk:∀ {k:Nat} {r:Slot} {s':Nat},A[k]? = some r→r.si=some s'→Region.waitsFor .any l.toArray s' r.ai=true:=fun {k r s'} hr jU=>by
    obtain ⟨⟨a1,o4,t4,a2,a3,a4,a5⟩,a6⟩:=gW hr;obtain ⟨b1,o5,t5,y5,b2,b3,b4,b5⟩:=a6 s' jU;refine (cm s' b1 o5 b2 r.d ?_ r.ai a1 o4 a2 a4).1;unfold Oper.looksAt;exact List.mem_append_left _ (List.mem_filterMap.2 ⟨.tmp r.d,by rw [b5];simp [Op.operands],rfl⟩)
   by_cases rO:q.ai=i
   ·subst rO;have:o3=o2:=Option.some.inj (gX.symm.trans aJ);subst this;have fX:=(zV mG hj).1;rw [gX] at fX;simp only [iK] at fX;obtain ⟨ti,aX,hz⟩:=fX;have cP:=getD_both ep;have nJ:(q.at_ fun i=>listed.getD i false)=none:=by simp only [Slot.at_,cP,Bool.false_eq_true,if_false]
    rw [nJ] at gy;have xl:∀ {k:Nat} {r:Slot} {s':Nat},A[k]? = some r→r.si=some s'→q.ai≠s':=fun {k r s'} hr jU e=>by
     obtain ⟨_,a6⟩:=gW hr;obtain ⟨b1,o5,t5,y5,b2,b3,b4,b5⟩:=a6 s' jU;rw [←e,gX] at b2;obtain rfl:=Option.some.inj b2;rw [gY] at b4;cases b4
    have pI:∀ t,cJ (st.h.length+j) 5 (lkp s t)=true:=fun t=>by
     rcases S4 t with h1|⟨k,r,h1,h2,h3⟩
     ·exact rP (by omega) 5 _ h1
     ·rw [h3];have kV:k≠j:=fun e=>by
       subst e;rw [hj] at h1;obtain rfl:=Option.some.inj h1;rw [cP] at h2;cases h2
      simp only [cJ,bne_iff_ne,ne_eq];omega
    have l7:∀ (k:Nat) (cs:List AV),(st.h++fG A fun i=>listed.getD i false)[k]? = some (some (Ob.box cs))→∀ c∈cs,cJ (st.h.length+j) 5 c=true:=fun k cs hk c hc=>by
     rcases Nat.lt_or_ge k st.h.length with ao|dq
     ·rw [List.getElem?_append_left ao] at hk;exact rP (by omega) 5 _ (List.all_eq_true.1 (vd hh k _ hk) c hc)
     ·rw [List.getElem?_append_right dq] at hk;unfold fG at hk;rw [List.getElem?_map,Option.map_eq_some_iff] at hk;obtain ⟨r,hr,he⟩:=hk;have xm:∀ c∈r.z.map AV.lit,cJ (st.h.length+j) 5 c=true:=fun c hc=>by
       obtain ⟨z,_,rfl⟩:=List.mem_map.1 hc;rfl
      unfold Slot.at_ at he;split at he
      ·simp only [Option.some.injEq,Ob.box.injEq] at he;subst he;split at hc
       ·rename_i s' jU;split at hc
        ·have cA:=(zV mG hr).2;rw [jU] at cA;obtain ⟨b1,o5,t5,y5,b2,b3,b4,b5⟩:=(gW hr).2 s' jU;simp only [b2,b5] at cA;obtain ⟨_,_,_,_,_,_,_,aE⟩:=cA;have:=List.all_eq_true.1 aE c hc;rw [ea] at this;exact rP (by omega) 5 _ this
        ·exact xm c hc
       ·exact xm c hc
      ·cases he
    obtain ⟨z,xR,fO,kA⟩:=pK aX;have hc:Cells w (Mof M0 (st.h++fG A fun i=>listed.getD i false) p) (st.h++fG A fun i=>listed.getD i false) p (q.z.map .lit) z.cells.toList:=by rw [xR,←hz];exact Cells.of_lits _ fO
    have R':=R.fill (d:=q.d) (eZ (List.all_eq_true.1 hN o3 (List.mem_of_getElem? gX)) q.d gY) gy pI l7 hc t3;simp only at R';rw [fo b_ (fun k r hr kV=>?_) (fun r hr=>?_)] at R'
    ·unfold wpOp;simp only [ho];rw [if_pos (by simp [Region.wanted,xP])];refine Or.inl ?_;unfold Oper.wp;have aC:(execOp a.eval o3).run P w = .ok (.value (.pointer (some ⟨w.heap.size,0,none⟩))) { w with heap:=w.heap.push (.cells z.cells.toList.toArray t3) }:=by
      simp [execOp,iK,Instr.alloc,kA,newVar,newRow]
     rw [aC];simp only [Oper.upon];rw [gY];refine ⟨head.set hi ba,_,_,R',fun k r d hk eV hl hr oV=>?_,fun t ht=>?_,fun k r hr hl=>?_,fun t=>?_⟩
     ·have jH:k≠q.ai:=fun e=>by rw [e,eg] at eV;cases eV
      simp only [lkp];rw [if_neg (bW hk jH hr oV gY)];rw [aV (Ne.symm jH)] at hl;exact S1 k r d hk eV hl hr oV
     ·simp only [lkp];rw [if_neg fun e=>ht q.ai o3 ba gX (by rw [gY,e])];exact S2 t ht
     ·simp only [lkp];by_cases he:q.d=r.d
      ·rw [if_pos he,dz hj hr he]
      ·rw [if_neg he];refine S3 k r hr ?_;rw [aV fun e=>he ?_] at hl
       ·exact hl
       ·obtain ⟨⟨_,o4,_,a2,_,a4,_⟩,_⟩:=gW hr;rw [←e,gX] at a2;obtain rfl:=Option.some.inj a2;rw [gY] at a4;exact Option.some.inj a4
     ·simp only [lkp];by_cases he:q.d=t
      ·rw [if_pos he];exact .inr ⟨j,q,hj,bH,rfl⟩
      ·rw [if_neg he];rcases S4 t with h1|⟨k,r,h1,h2,h3⟩
       ·exact .inl h1
       ·refine .inr ⟨k,r,h1,?_,h3⟩;by_cases e:q.ai=r.ai
        ·rw [←e];exact bH
        ·rw [aV e];exact h2
    ·have aq:q.ai≠r.ai:=fun e=>by
      obtain ⟨⟨_,o4,_,a2,_,a4,_⟩,_⟩:=gW hr;rw [←e,gX] at a2;obtain rfl:=Option.some.inj a2;rw [gY] at a4;exact kV (dz hr hj (Option.some.inj a4).symm)
     simp only [Slot.at_,aV aq];cases jU:r.si with
     | none=>rfl
     | some s'=>simp only [aV (xl hr jU)]
    ·rw [hj] at hr;obtain rfl:=Option.some.inj hr;simp only [Slot.at_,bH,if_true];cases jU:q.si with
     | none=>rfl
     | some s'=>
      simp only [aV (xl hj jU)];rw [if_neg fun hl=>?_];obtain ⟨o6,jZ,e,he,hb,cf⟩:=Region.waitsFor_spec (xk hj jU);have:=head.closed s' o6 jZ hl e he hb;rw [cf,cP] at this;cases this
   ·have uc:q.si=some i:=by simpa [rO] using kU
    obtain ⟨b1,o5,t5,y5,b2,b3,b4,b5⟩:=fu i uc;have:o5=o2:=Option.some.inj (b2.symm.trans aJ);subst this;have cA:=(zV mG hj).2;rw [uc] at cA;simp only [b2,b5] at cA;obtain ⟨ti,aX,aq,I6,qd,jE,vt,I7⟩:=cA;have nK:listed.getD q.ai false=true:=bB _ (xk hj uc);have Rv:ev (aH st (l.take n) rs) y5=ev ⟨s,st.h++fG A fun i=>listed.getD i false⟩ y5:=by
     cases y5 with
     | tmp t=>
      have ht:t∈o5.looksAt l.toArray:=by
       unfold Oper.looksAt;exact List.mem_append_left _ (List.mem_filterMap.2 ⟨.tmp t,by rw [b5];simp [Op.operands],rfl⟩)
      show lkp _ t=lkp _ t;rcases cj (k:=n) (by omega) (Nat.le_refl _) t ht with h1|⟨h1,_⟩
      ·rw [←aW] at h1;exact absurd h1 aq
      ·rw [←aW] at h1;exact h1
     | const v=>rfl
     | global g=>rfl
     | func f=>rfl
    rw [Rv] at I6 qd;have xn:(q.at_ fun i=>listed.getD i false)=some (.box (q.z.map .lit)):=by
     have cP:=getD_both ep;simp only [Slot.at_,nK,uc,cP,if_true,Bool.false_eq_true,if_false]
    rw [xn] at gy;have hx:ev ⟨s,st.h++fG A fun i=>listed.getD i false⟩ (.tmp q.d) = .ref (st.h.length+j) 0:=S3 j q hj nK;obtain ⟨w',aC,R'⟩:=HO (y:=y5) R aX hx gy I6 (by rw [qd];exact jE) (by rw [List.length_map];omega);rw [qd,Rr (by rw [List.length_map];omega)] at R';have qg:∀ {k:Nat} {r:Slot},A[k]? = some r→i≠r.ai:=fun {k r} hr e=>by
     obtain ⟨⟨_,o4,_,a2,_,a4,_⟩,_⟩:=gW hr;rw [←e,b2] at a2;obtain rfl:=Option.some.inj a2;rw [b4] at a4;cases a4
    simp only at R';rw [fo b_ (fun k r hr kV=>?_) (fun r hr=>?_)] at R'
    ·unfold wpOp;simp only [ho];rw [if_pos (by simp [Region.wanted,b3])];refine Or.inl ?_;have pZ:∀ v,a.put o5.dst v=a:=fun v=>by rw [b4];rfl
     have fin:∀ v,(fun a w=>HeadInv .any l.toArray n (listed.setIfInBounds i true)∧∃ (p:Pl) (s:List (Nat×AV)),Rel M0 w0 N p ⟨s,st.h++fG A fun j=>(listed.setIfInBounds i true).getD j false⟩ a w ∧
       (∀ (j:Nat) (q:Oper) (d:Nat),j < n→isA A j=false→(listed.setIfInBounds i true).getD j false=true→l[j]? = some q→q.dst=some d→lkp s d=rs.getD j .any) ∧
       (∀ t,(∀ j q,j < n→l[j]? = some q→q.dst≠some t)→lkp s t=lkp st.s t)∧(∀ (j:Nat) (q:Slot),A[j]? = some q→(listed.setIfInBounds i true).getD q.ai false=true→lkp s q.d = .ref (st.h.length+j) 0) ∧
       (∀ t,bh st.h.length 5 (lkp s t)=true∨∃ (j:Nat) (q:Slot),A[j]? = some q∧(listed.setIfInBounds i true).getD q.ai false=true∧lkp s t = .ref (st.h.length+j) 0)) (a.put o5.dst v) w':=fun v=>by
      rw [pZ];refine ⟨head.set hi ba,p,s,R',fun k r d hk eV hl hr oV=>?_,S2,fun k r hr hl=>?_,fun t=>?_⟩
      ·have jH:k≠i:=fun e=>by rw [e,eg] at eV;cases eV
       rw [aV (Ne.symm jH)] at hl;exact S1 k r d hk eV hl hr oV
      ·rw [aV (qg hr)] at hl;exact S3 k r hr hl
      ·rcases S4 t with h1|⟨k,r,h1,h2,h3⟩
       ·exact .inl h1
       ·exact .inr ⟨k,r,h1,by rw [aV (qg h1)];exact h2,h3⟩
     unfold Oper.wp;have gr:(execOp a.eval o5).run P w = .ok .skip w'∨∃ v,(execOp a.eval o5).run P w = .ok (.value v) w':=by
      obtain ⟨dst,op,ty,pos,after,guard⟩:=o5;simp only at b5;subst b5;simp [execOp,aC]
     rcases gr with h1|⟨v,h1⟩
     ·rw [h1];exact fin _
     ·rw [h1];exact fin _
    ·simp only [Slot.at_,aV (qg hr)];cases jU:r.si with
     | none=>rfl
     | some s'=>
      have aq:i≠s':=fun e=>by
       obtain ⟨_,o6,t6,y6,c2,_,_,c5⟩:=(gW hr).2 s' jU;rw [←e,b2] at c2;obtain rfl:=Option.some.inj c2;rw [b5] at c5;injection c5 with _ c6 _
       injection c6 with c6
       exact kV (dz hr hj c6.symm)
      simp only [aV aq]
    ·rw [hj] at hr;obtain rfl:=Option.some.inj hr;simp only [Slot.at_,aV (qg hj),nK,uc,bH,if_true]
 ·rintro listed a w ⟨head,p,s,R,S1,S2,S3,S4⟩ aE;have ba:∀ i,isA A i=true→i < n:=fun i hi=>by
   obtain ⟨q,hq,kU⟩:=List.any_eq_true.1 hi;obtain ⟨⟨h1,_⟩,h2⟩:=I5 (List.all_eq_true.1 vc q hq);simp only [Bool.or_eq_true,beq_iff_eq] at kU;rcases kU with kU|kU
   ·omega
   ·exact (h2 i kU).1
  rw [Ro A _ fun i hi=>aE i (ba i hi)] at R;rw [ea] at hK;have R':=R.weak (s':=dV st.h.length A++(aH st (l.take n) rs).s) fun t=>by
   show lkp (dV st.h.length A++(aH st (l.take n) rs).s) t=lkp s t∨_;rcases qA (dV st.h.length A) (aH st (l.take n) rs).s t with h1|h1
   ·rw [h1];by_cases aq:lkp (dV st.h.length A) t = .any
    ·exact .inr aq
    ·obtain ⟨j,q,g1,g2,g3⟩:=I4 aq;rw [g3,←g2];exact .inl (S3 j q g1 (aE _ (gW g1).1.1)).symm
   ·rw [h1,aW];by_cases hex:∃ (j:Nat) (q:Oper),j < n∧l[j]? = some q∧q.dst=some t
    ·obtain ⟨j,q,hj,hq,aA⟩:=hex;rw [aO hj (Nat.le_refl _) hq aA];cases hc:isA A j
     ·exact .inl (S1 j q t hj hc (aE j hj) hq aA).symm
     ·exact .inr (iJ hj hc hq)
    ·have bg:∀ j q,j < n→l[j]? = some q→q.dst≠some t:=fun j q hj hq he=>hex ⟨j,q,hj,hq,he⟩;rw [aI bg,S2 t bg];exact .inl rfl
  have ia:(l.drop n).all (cU N)=true:=List.all_eq_true.2 fun q hq=>List.all_eq_true.1 hN q (List.mem_of_mem_drop hq);exact l9 (ow:=ow) hN (fun p st a w R h=>⟨st,p,R,h⟩) (l.drop n) p _ _ w ia R' hK
 ·have kW:(fG A fun i=>(Array.replicate l.toArray.size false).getD i false)=List.replicate A.length none:=by
   apply List.ext_getElem?;intro k;unfold fG;rw [List.getElem?_map,List.getElem?_replicate];cases hq:A[k]? with
   | none=>
    have:=List.getElem?_eq_none_iff.1 hq;rw [if_neg (by omega)];rfl
   | some q=>
    have:=(List.getElem?_eq_some_iff.1 hq).1;rw [if_pos this];simp only [Option.map_some,Slot.at_,getD_replicate_false];rfl
  refine ⟨⟨by simp,fun j oj _ hl=>(by rw [getD_replicate_false] at hl;cases hl),fun t _ ht=>getD_in (by simpa using ht) (getD_replicate_false _ _)⟩,p0,st.s,?_,fun j q d _ _ hl=>(by rw [getD_replicate_false] at hl;cases hl),fun _ _=>rfl,fun j q _ hl=>(by rw [getD_replicate_false] at hl;cases hl),fun t=>.inl (pH hs t)⟩;rw [kW];exact (R0.later (Below.refl _ _).drew).pad A.length
end
section
variable {P:Program} {ow:List Nat} {ops l:List Oper} {o:Oper} {T:VS} {K:VS→Prop} {bf:Nat→Bool} {i:Nat}
theorem ff (h:K T) : iI P ops bf [] i T K:=h
theorem fc (hc:bf i=true) (h:iI P ops bf l (i+1) (T.put o.dst .any) K) : iI P ops bf (o::l) i T K:=by
 unfold iI;rw [if_pos hc];exact h
theorem fe (hc:bf i=false) (h:∀ X:VS→Prop,(∀ T',xf T.h.length o.dst T'.s=true→iI P ops bf l (i+1) T' K→X T')→m_ P ops o T X) : iI P ops bf (o::l) i T K:=by
 unfold iI;rw [if_neg (by rw [hc];decide)];refine h _ fun T' hid hT=>⟨fun d hd=>?_,hT⟩
 simpa [xf,hd] using hid
end
attribute [go_sem] dV eh Slot.end_ xj DP
def sL (o:Oper) : Bool:=o.guard.isNone&&(match o.op with | .move _=>true | .assign _=>true | .nilCheck _=>true | .fieldAddr .. => true|_=>false)
section
variable {P:Program} {M0:Nat→Nat→Prop} {w0:Bas} {N:Nm} {p:Pl} {st:VS} {a:Act} {w:World} {Q:Exit→VS→Prop}
theorem zD {h h':Hp} {E:Operand→AV} {o:Oper} {r:AV} (hl:sL o=true) (hg:dt P h E o.op r) : dt P h' E o.op r:=by
 unfold sL at hl;simp only [Bool.and_eq_true] at hl;have hl:=hl.2;obtain ⟨dst,op,ty,pos,after,guard⟩:=o;simp only at hl hg ⊢;cases op with
 | move x=>exact hg
 | assign x=>exact hg
 | nilCheck x=>exact hg
 | fieldAddr t x f=>exact hg
 | _=>cases hl
theorem Ij {ow:List Nat} {o:Oper} {t:TypeId} {x y:Operand} {T:VS} {s:List (Nat×AV)} {h1:Hp} (cj:o.op = .store t x y) (hx:ev ⟨s,T.h⟩ x=ev T x) (hy:ev ⟨s,T.h⟩ y=ev T y) (ht:jN P ow T o=some ⟨T.s,h1⟩) : jN P ow ⟨s,T.h⟩ o=some ⟨s,h1⟩:=by
 obtain ⟨dst,op,ty,pos,after,guard⟩:=o;simp only at cj;subst cj;unfold jN at ht ⊢;simp only [hx,hy] at ht ⊢;split at ht
 ·split at ht
  ·split at ht
   ·rename_i hc;rw [if_pos hc];simp only [Option.some.injEq,VS.mk.injEq,true_and] at ht;rw [ht]
   ·cases ht
  ·cases ht
 ·split at ht
  ·split at ht
   ·rename_i hc;rw [if_pos hc];simp only [Option.some.injEq,VS.mk.injEq,true_and] at ht;rw [ht]
   ·cases ht
  ·cases ht
 ·cases ht
end
def fC (l:List Oper) : Nat→Nat→Nat→Bool
 | 0,_,_=>false
 | f+1,n,i=>Region.waitsFor .any l.toArray n i || (List.range n).any fun j=>Region.waitsFor .any l.toArray n j&&fC l f j i
def Rw (l:List Oper) (n:Nat) : Bool:=(List.range n).all fun i=>fC l n n i || (match l[i]? with|some o=>sL o|none=>false)
def xF (l:List Oper) (n:Nat) : List Nat:=(List.range n).flatMap fun i=>if fC l n n i then [] else match l[i]? with|some o=>o.looksAt l.toArray++o.dst.toList|none=>[]
theorem mM {l:List Oper} {m:Nat} {listed:Array Bool} (head:HeadInv .any l.toArray m listed) : ∀ (f n i:Nat),(∀ j,Region.waitsFor .any l.toArray n j=true→listed.getD j false=true)→fC l f n i=true→listed.getD i false=true
 | 0,_,_,_,h=>by cases h
 | f+1,n,i,hn,h=>by
  rw [fC,Bool.or_eq_true] at h;rcases h with h|h
  ·exact hn i h
  ·obtain ⟨j,_,hj⟩:=List.any_eq_true.1 h;rw [Bool.and_eq_true] at hj;have b_:=hn j hj.1;refine mM head f j i (fun k hk=>?_) hj.2;obtain ⟨oj,Rx,e,he,hb,cf⟩:=Region.waitsFor_spec hk;have:=head.closed j oj Rx b_ e he hb;rwa [cf] at this
theorem DS {id:Nat} {v:AV} (h:cJ id 5 v=true) : purge id v=v:=if_pos h
def pgB (g:Nat) (b:Bool) (v:AV) : AV:=if b then purge g v else v
section
variable {P:Program} {M0:Nat→Nat→Prop} {w0:Bas} {N:Nm} {p:Pl} {st:VS} {a:Act} {w:World} {Q:Exit→VS→Prop}
theorem Ry {ow:List Nat} {o:Oper} {t t':TypeId} {x y:Operand} {T:VS} {s:List (Nat×AV)} {h1:Hp} {d g:Nat} (cj:o.op = .call ⟨.builtin .append,#[x,y],#[t,t']⟩) (hd:o.dst=some d) (hx:ev ⟨s,T.h⟩ x=ev T x) (hy:ev ⟨s,T.h⟩ y=ev T y) (hg:ev T x = .osl g)
  (ht:jN P ow T o=some ⟨(d,.osl g)::T.s.map (fun q=>(q.1,purge g q.2)),h1⟩) : jN P ow ⟨s,T.h⟩ o=some ⟨(d,.osl g)::s.map (fun q=>(q.1,purge g q.2)),h1⟩:=by
 obtain ⟨dst,op,ty,pos,after,guard⟩:=o;simp only at cj hd;subst cj hd;unfold jN at ht ⊢;simp only [hx,hy,hg] at ht ⊢;cases lP:aY P t with
 | none=>simp [lP] at ht
 | some ti=>
  cases h2:ev T y with
  | sl sz es=>
   simp only [lP,h2] at ht ⊢;cases h3:T.h[g]? with
   | none=>simp [h3] at ht
   | some Rz=>
    cases Rz with
    | none=>simp [h3] at ht
    | some ob=>
     cases ob with
     | arr e bD nl es'=>
      simp only [h3] at ht ⊢;cases h4:aY P ti.elem with
      | none=>simp [h4] at ht
      | some te=>
       simp only [h4] at ht ⊢;split at ht
       ·rename_i hc;rw [if_pos hc];simp only [Option.some.injEq,VS.mk.injEq,true_and] at ht ⊢;exact ht
       ·cases ht
     | _=>simp [h3] at ht
  | _=>simp [lP,h2] at ht
theorem Fb {id:Nat} {l:List Oper} (n:Nat) (ow:List Nat) (g:Nat) (ls:List Nat) (hm:P.follows .mixedOrders=true) (hB:Region.specB l.toArray (n+1)=true) (hL:Rw l n=true) (Ay:xF l n=ls) {so:Oper} {d:Nat} {ty RA:TypeId} {x y:Operand} (gI:l[n]? = some so) (kM:so.guard=none∧so.dst=some d) (ir:so.op = .call ⟨.builtin .append,#[x,y],#[ty,RA]⟩)
  (h:mI P l (l.take n) st fun T=>∃ h1,ev T x = .osl g∧jN P ow T so=some ⟨(d,.osl g)::T.s.map (fun q=>(q.1,purge g q.2)),h1⟩∧(∀ t∈ls,cJ g 5 (lkp T.s t)=true)∧dS P ow l (l.drop (n+1)) ⟨(d,.osl g)::T.s.map (fun q=>(q.1,purge g q.2)),h1⟩ (Q .normal)) : VWp P M0 w0 N (.region id l.toArray true) Q st:=fun iw p0 a0 rE R0=>by
 have hN:l.all (cU N)=true:=by simpa [eY] using iw
 obtain ⟨rs,dO,⟨h1,DT,eE,iF,hK⟩,S⟩:=rD _ _ h;have cZ:=hB;simp only [Region.specB,Bool.and_eq_true,decide_eq_true_eq] at cZ;obtain ⟨⟨⟨⟨⟨⟨_,aK⟩,_⟩,_⟩,hd⟩,a_⟩,_⟩:=cZ;have eB:n+1 < l.length:=by simpa using aK
 have c_:dF (l.take (n+1))=true:=by simpa using hd
 have oQ:dF (l.take n)=true:=by
  have:=ly (l.take (n+1)) n c_;rwa [List.take_take,Nat.min_eq_left (Nat.le_succ n)] at this
 have hlen:(l.take n).length=n:=by simp;omega
 rw [hlen] at dO;have bb:∀ {i:Nat} {o:Oper},i < n→l[i]? = some o→(l.take n)[i]? = some o:=fun {i o} hi ho=>by rw [List.getElem?_take_of_lt hi];exact ho
 have fm:∀ {i:Nat} {o:Oper},i < n+1→l[i]? = some o→(l.take (n+1))[i]? = some o:=fun {i o} hi ho=>by rw [List.getElem?_take_of_lt hi];exact ho
 have iR:∀ {i:Nat} {o:Oper},(l.take n)[i]? = some o→i < n∧l[i]? = some o:=fun {i o} ho=>by
  have hi:i < n:=by have:=(List.getElem?_eq_some_iff.1 ho).1;omega
  rw [List.getElem?_take_of_lt hi] at ho;exact ⟨hi,ho⟩
 have dB:∀ {i:Nat},i < n→rs[i]? = some (rs.getD i .any):=fun {i} hi=>by simp [List.getD,show i < rs.length by omega]
 have cm:∀ i,i < n+1→∀ o,l[i]? = some o→∀ t∈o.looksAt l.toArray,∀ j,j < n+1→∀ q,l[j]? = some q→q.dst=some t→Region.waitsFor .any l.toArray i j=true∧j < i:=by
  intro i hi o ho;have h:=List.all_eq_true.1 a_ i (List.mem_range.2 hi);simp only [List.getElem?_toArray,ho,Bool.and_eq_true] at h;have eC:∀ e∈o.after,Region.binds .any e=true→e.on < i:=fun e he hb=>by
   have h1:=Array.all_eq_true'.1 h.2 e he;simp only [hb,Bool.not_true,Bool.false_or,decide_eq_true_eq] at h1;exact h1
  intro t ht j hj q hq aA;have h1:=List.all_eq_true.1 (List.all_eq_true.1 h.1 t ht) j (List.mem_range.2 hj);simp only [hq,Option.bind_some,aA,bne_self_eq_false,Bool.false_or] at h1;refine ⟨h1,?_⟩;obtain ⟨o',aJ,e,he,hb,cf⟩:=Region.waitsFor_spec h1;have:o'=o:=Option.some.inj (aJ.symm.trans (by simpa using ho));subst this;rw [←cf];exact eC e he hb
 have aO:∀ {i j:Nat} {q:Oper} {t:Nat},j < i→i≤n→l[j]? = some q→q.dst=some t→lkp (aH st ((l.take n).take i) (rs.take i)).s t=rs.getD j .any:=fun {i j q t} hj hi hq ht=>
  ma ((l.take n).take i) (rs.take i) st t j q (rs.getD j .any) (ly _ _ oQ) (by rw [List.getElem?_take_of_lt hj];exact bb (by omega) hq) (by rw [List.getElem?_take_of_lt hj];exact dB (by omega)) ht
 have aI:∀ {i t:Nat},(∀ j q,j < n→l[j]? = some q→q.dst≠some t)→lkp (aH st ((l.take n).take i) (rs.take i)).s t=lkp st.s t:=fun {i t} ho=>
  lz _ _ _ _ fun q hq he=>by
   obtain ⟨j,hj⟩:=List.mem_iff_getElem?.1 (List.mem_of_mem_take hq);obtain ⟨h1,h2⟩:=iR hj;exact ho j q h1 h2 he
 have aW:aH st (l.take n) rs=aH st ((l.take n).take n) (rs.take n):=by
  rw [List.take_of_length_le (l:=l.take n) (by rw [hlen];exact Nat.le_refl _),List.take_of_length_le (l:=rs) (by omega)]
 refine wp_region_any hm ?_;have nz:∀ {j:Nat} {q:Oper} {d':Nat},j < n→l[j]? = some q→q.dst=some d'→d'≠d:=fun {j q d'} hj hq aA he=>by
  subst he;have:j=n:=mK c_ (fm (by omega) hq) (fm (Nat.lt_succ_self n) gI) aA kM.2;omega
 have rF:∀ t,lkp (aH st (l.take n) rs).s t=lkp (aH st ((l.take n).take n) (rs.take n)).s t:=fun t=>by rw [←aW]
 have fD:∀ {i:Nat} {o:Oper} {t:Nat},i < n→l[i]? = some o→fC l n n i=false→t∈o.looksAt l.toArray++o.dst.toList→cJ g 5 (lkp (aH st ((l.take n).take n) (rs.take n)).s t)=true:=fun {i o t} hi ho fI ht=>by
  rw [←aW];refine iF t ?_;rw [←Ay];unfold xF;refine List.mem_flatMap.2 ⟨i,List.mem_range.2 hi,?_⟩;rw [fI,ho];simpa using ht
 refine qu (Inv:=fun listed a w=>HeadInv .any l.toArray (n+1) listed∧∃ (p:Pl) (s:List (Nat×AV)),Rel M0 w0 N p ⟨s,if listed.getD n false=true then h1 else st.h⟩ a w ∧
   (∀ (j:Nat) (q:Oper) (d:Nat),j < n→listed.getD j false=true→l[j]? = some q→q.dst=some d→lkp s d=pgB g (listed.getD n false) (rs.getD j .any)) ∧
   (∀ t,t≠d→(∀ j q,j < n→l[j]? = some q→q.dst≠some t)→lkp s t=pgB g (listed.getD n false) (lkp st.s t))∧(listed.getD n false=true→lkp s d = .osl g)) hB (fun _ _ _ inv=>inv.1) ?_ ?_ _ _ _ _ ?_ (by simp)
 ·rintro listed a w i o ⟨head,p,s,R,S1,S2,S3⟩ hi ba ho ep;have aJ:l[i]? = some o:=by simpa using ho
  obtain ⟨_,o2,jX,cG⟩:=mem_ready.1 hi;have:o2=o:=Option.some.inj (jX.symm.trans ho);subst this;have bz:i < listed.size:=by rw [head.size];simpa using (by omega:i < l.length)
  have bH:(listed.setIfInBounds i true).getD i false=true:=by simp [bz]
  have aV:∀ {j:Nat},i≠j→(listed.setIfInBounds i true).getD j false=listed.getD j false:=fun aq=>getD_set_ne false aq;have bB:∀ j,Region.waitsFor .any l.toArray i j=true→listed.getD j false=true:=by
   intro j hj;obtain ⟨o3,kP,e,he,hb,cf⟩:=Region.waitsFor_spec hj;have:o3=o2:=Option.some.inj (kP.symm.trans ho);subst this;rw [←cf];exact cG e he hb
  have qv:∀ t∈o2.looksAt l.toArray,t≠d:=fun t ht he=>by
   subst he;have:=(cm i ba o2 aJ t ht n (Nat.lt_succ_self n) so gI kM.2).2;omega
  have cj:∀ {k:Nat},i≤k→k≤n→∀ t∈o2.looksAt l.toArray,lkp s t=pgB g (listed.getD n false) (lkp (aH st ((l.take n).take k) (rs.take k)).s t):=fun {k} pD jf t ht=>by
   by_cases hex:∃ (j:Nat) (q:Oper),j < n∧l[j]? = some q∧q.dst=some t
   ·obtain ⟨j,q,hj,hq,aA⟩:=hex;obtain ⟨h1,h2⟩:=cm i ba o2 aJ t ht j (by omega) q hq aA;rw [aO (by omega) jf hq aA];exact S1 j q t hj (bB j h1) hq aA
   ·have bg:∀ j q,j < n→l[j]? = some q→q.dst≠some t:=fun j q hj hq he=>hex ⟨j,q,hj,hq,he⟩;rw [aI bg,S2 t (qv t ht) bg]
  have bW:∀ {j:Nat} {q:Oper} {d d':Nat},j < n→j≠i→l[j]? = some q→q.dst=some d→o2.dst=some d'→d'≠d:=fun {j q d d'} hj cq hq aA dC he=>by
   subst he;exact cq (mK c_ (fm (by omega) hq) (fm ba aJ) aA dC)
  by_cases mL:i=n
  ·subst mL;have:o2=so:=Option.some.inj (aJ.symm.trans gI);subst this;have cP:=getD_both ep;rw [cP] at R;simp only [Bool.false_eq_true,if_false] at R;have jY:∀ z:Operand,z∈o2.op.operands→ev ⟨s,(aH st (l.take i) rs).h⟩ z=ev (aH st (l.take i) rs) z:=fun z hz=>by
    cases z with
    | tmp t=>
     show lkp s t=lkp _ t;rw [aW];have:=cj (Nat.le_refl _) (Nat.le_refl _) t (List.mem_append_left _ (List.mem_filterMap.2 ⟨.tmp t,by simpa using hz,rfl⟩));rw [cP] at this;exact this
    | const v=>rfl
    | global g=>rfl
    | func f=>rfl
   have eT:=Ry (s:=s) ir kM.2 (jY x (by rw [ir];simp [Op.operands,Call.operands])) (jY y (by rw [ir];simp [Op.operands,Call.operands])) DT eE;rw [ea] at eT;obtain ⟨v,w',p',hh⟩:=zr (P:=P) R (List.all_eq_true.1 hN o2 (List.mem_of_getElem? aJ)) eT;have fin:∀ v p',Rel M0 w0 N p' ⟨(d,.osl g)::s.map (fun q=>(q.1,purge g q.2)),h1⟩ (a.put o2.dst v) w'→(fun a w=>HeadInv .any l.toArray (i+1) (listed.setIfInBounds i true)∧∃ (p:Pl) (s:List (Nat×AV)),Rel M0 w0 N p ⟨s,if (listed.setIfInBounds i true).getD i false=true then h1 else st.h⟩ a w ∧
     (∀ (j:Nat) (q:Oper) (d:Nat),j < i→(listed.setIfInBounds i true).getD j false=true→l[j]? = some q→q.dst=some d→lkp s d=pgB g ((listed.setIfInBounds i true).getD i false) (rs.getD j .any)) ∧
     (∀ t,t≠d→(∀ j q,j < i→l[j]? = some q→q.dst≠some t)→lkp s t=pgB g ((listed.setIfInBounds i true).getD i false) (lkp st.s t))∧((listed.setIfInBounds i true).getD i false=true→lkp s d = .osl g)) (a.put o2.dst v) w':=fun v p' R'=>by
    refine ⟨head.set hi ba,p',_,by rw [bH];exact R',fun j q d' hj hl hq aA=>?_,fun t fK ht=>?_,fun _=>by simp [lkp]⟩
    ·rw [bH,lkp,if_neg (fun e=>nz hj hq aA e.symm),xe];rw [aV (by omega)] at hl;have:=S1 j q d' hj hl hq aA;rw [cP] at this;rw [this];rfl
    ·rw [bH,lkp,if_neg (fun e=>fK e.symm),xe];have:=S2 t fK ht;rw [cP] at this;rw [this];rfl
   unfold wpOp;simp only [ho];rw [if_pos (by simp [Region.wanted,kM.1])];refine Or.inl ?_;unfold Oper.wp;rcases hh with ⟨h2,h3⟩|⟨h2,_,h3⟩
   ·rw [h2];exact fin _ _ h3
   ·rw [h2];exact fin _ _ h3
  ·have cC:i < n:=by omega
   have aj:=S i o2 (rs.getD i .any) (bb cC aJ) (dB cC);have dG:((listed.setIfInBounds i true).getD n false)=listed.getD n false:=aV mL;have rH:∀ t,o2.dst=some t→pgB g (listed.getD n false) (rs.getD i .any)=rs.getD i .any:=fun t ht=>by
    cases hb:listed.getD n false
    ·rfl
    ·have fI:fC l n n i=false:=by
      cases hc:fC l n n i
      ·rfl
      ·have:=mM head n n i (fun j hj=>by
        obtain ⟨o6,jZ,e,he,eQ,cf⟩:=Region.waitsFor_spec hj;have:=head.closed n o6 jZ hb e he eQ;rwa [cf] at this) hc
       rw [getD_both ep] at this;cases this
     have:=fD (t:=t) cC aJ fI (List.mem_append_right _ (by rw [ht];simp));rw [aO cC (Nat.le_refl _) aJ ht] at this;exact DS this
   have fin:∀ v w',V1 w' (Mof M0 (if listed.getD n false=true then h1 else st.h) p) (if listed.getD n false=true then h1 else st.h) p (rs.getD i .any) v→Below w.heap.size w w'→(fun listed a w=>HeadInv .any l.toArray (n+1) listed∧∃ (p:Pl) (s:List (Nat×AV)),Rel M0 w0 N p ⟨s,if listed.getD n false=true then h1 else st.h⟩ a w ∧
     (∀ (j:Nat) (q:Oper) (d:Nat),j < n→listed.getD j false=true→l[j]? = some q→q.dst=some d→lkp s d=pgB g (listed.getD n false) (rs.getD j .any)) ∧
     (∀ t,t≠d→(∀ j q,j < n→l[j]? = some q→q.dst≠some t)→lkp s t=pgB g (listed.getD n false) (lkp st.s t))∧(listed.getD n false=true→lkp s d = .osl g)) (listed.setIfInBounds i true) (a.put o2.dst v) w':=fun v w' hv hb=>by
    have R':=(R.later hb).put (d:=o2.dst) (eZ (List.all_eq_true.1 hN o2 (List.mem_of_getElem? aJ))) hv;have cI:(VS.put ⟨s,if listed.getD n false=true then h1 else st.h⟩ o2.dst (rs.getD i .any))=⟨(VS.put ⟨s,if listed.getD n false=true then h1 else st.h⟩ o2.dst (rs.getD i .any)).s,if listed.getD n false=true then h1 else st.h⟩:=by cases o2.dst<;>rfl
    rw [cI] at R';refine ⟨head.set hi ba,p,_,by rw [dG];exact R',fun j q d hj hl hq aA=>?_,fun t fK ht=>?_,fun hl=>?_⟩
    ·rw [fL,dG];by_cases cq:j=i
     ·subst cq;have:q=o2:=Option.some.inj (hq.symm.trans aJ);subst this;rw [if_pos aA,rH d aA]
     ·rw [if_neg fun e=>bW hj cq hq aA e rfl];rw [aV (Ne.symm cq)] at hl;exact S1 j q d hj hl hq aA
    ·rw [fL,if_neg (ht i o2 cC aJ),dG];exact S2 t fK ht
    ·rw [dG] at hl;rw [fL,if_neg fun e=>nz cC aJ e rfl];exact S3 hl
   have nB:∀ t∈o2.looksAt l.toArray,lkp s t=lkp (aH st ((l.take n).take i) (rs.take i)).s t:=fun t ht=>by
    have h2:=cj (Nat.le_refl i) (by omega) t ht;have h3:=cj (show i≤n by omega) (Nat.le_refl n) t ht;cases hb:listed.getD n false
    ·rw [hb] at h2;exact h2
    ·have fI:fC l n n i=false:=by
      cases hc:fC l n n i
      ·rfl
      ·have:=mM head n n i (fun j hj=>by
        obtain ⟨o6,jZ,e,he,eQ,cf⟩:=Region.waitsFor_spec hj;have:=head.closed n o6 jZ hb e he eQ;rwa [cf] at this) hc
       rw [getD_both ep] at this;cases this
     have bg:=fD cC aJ fI (List.mem_append_left _ ht);rw [hb] at h2 h3;by_cases hex:∃ (j:Nat) (q:Oper),j < n∧l[j]? = some q∧q.dst=some t
     ·obtain ⟨j,q,hj,hq,aA⟩:=hex;obtain ⟨_,h5⟩:=cm i ba o2 aJ t ht j (by omega) q hq aA;rw [aO hj (Nat.le_refl _) hq aA] at bg;rw [aO h5 (by omega) hq aA] at h2 ⊢;rw [h2];exact DS bg
     ·have iG:∀ j q,j < n→l[j]? = some q→q.dst≠some t:=fun j q hj hq he=>hex ⟨j,q,hj,hq,he⟩;rw [aI iG] at bg;rw [aI iG] at h2 ⊢;rw [h2];exact DS bg
   have bx:dt P st.h (ev (aH st ((l.take n).take i) (rs.take i))) o2.op (rs.getD i .any)→gives P o2 a w fun v w''=>V1 w'' (Mof M0 (if listed.getD n false=true then h1 else st.h) p) (if listed.getD n false=true then h1 else st.h) p (rs.getD i .any) v∧Below w.heap.size w w'':=by
    intro hg;have fj:dt P (if listed.getD n false=true then h1 else st.h) (ev (aH st ((l.take n).take i) (rs.take i))) o2.op (rs.getD i .any):=by
     split
     ·rename_i jh;have h2:=List.all_eq_true.1 hL i (List.mem_range.2 cC);simp only [aJ,Bool.or_eq_true] at h2;rcases h2 with h2|h2
      ·have:=mM head n n i (fun j hj=>by
        obtain ⟨o6,jZ,e,he,eQ,cf⟩:=Region.waitsFor_spec hj;have:=head.closed n o6 jZ jh e he eQ;rwa [cf] at this) h2
       rw [getD_both ep] at this;cases this
      ·exact zD h2 hg
     ·exact hg
    refine nC R.objs R.mok R.h0 R.glob (fun _ _ hb=>.inl hb) (fun x hx=>?_) fj;cases x with
    | tmp t=>
     show V1 _ _ _ _ (lkp (aH st ((l.take n).take i) (rs.take i)).s t) _;rw [←nB t (List.mem_append_left _ (List.mem_filterMap.2 ⟨.tmp t,by simpa using hx,rfl⟩))];exact R.slots t
    | const v=>exact .base _ _ (.lit v)
    | global g=>exact .base _ _ (R.evalG g)
    | func f=>exact .base _ _ (.lit _)
   have hy:=fun j=>nv (ops:=l) (j:=j) R hN;have bj:∀ (j:Nat) (want:Bool) (v:Value),o2.guard=some (j,want)→cV l (aH st ((l.take n).take i) (rs.take i)) j = .lit v→cV l ⟨s,if listed.getD n false=true then h1 else st.h⟩ j = .lit v:=by
    intro j want v hg hv;unfold cV at hv ⊢;cases hj:l[j]? with
    | none=>simpa [hj] using hv
    | some q=>
     cases hq:q.dst with
     | none=>simpa [hj,hq] using hv
     | some d=>
      have cH:d∈o2.looksAt l.toArray:=by
       unfold Oper.looksAt;refine List.mem_append_right _ ?_;simp [hg,hj,hq]
      simp only [hj,hq] at hv ⊢;rw [nB d cH];exact hv
   unfold wpOp;simp only [ho];unfold jB at aj;split at aj
   ·rename_i hg;rw [if_pos (by simp [Region.wanted,hg])];rw [ea] at aj;exact Or.inl (iS (bx aj) rfl fun v w' hv=>fin v w' hv.1 hv.2)
   ·rename_i j want hg;split at aj
    ·rename_i b hb;have dU:=(hy j).1 b (bj j want _ hg hb);split at aj
     ·rename_i hw;subst hw;rw [if_pos (by simp [Region.wanted,hg,dU])];rw [ea] at aj;exact Or.inl (iS (bx aj) rfl fun v w' hv=>fin v w' hv.1 hv.2)
     ·rename_i hw;rw [if_neg (by simpa [Region.wanted,hg,dU] using hw)];exact fin undef w (by rw [aj];exact .base _ _ (.lit _)) (Below.refl _ _)
    ·rename_i us hb;have dU:=(hy j).2 us (bj j want _ hg hb);rw [if_neg (by simp [Region.wanted,hg,dU])];exact fin undef w (by rw [aj];exact .base _ _ (.lit _)) (Below.refl _ _)
    ·exact aj.elim
 ·rintro listed a w ⟨head,p,s,R,S1,S2,S3⟩ aE;rw [aE n (by omega)] at R;simp only [if_true] at R;rw [aE n (by omega)] at S1 S2 S3;have R':=R.weak (s':=(d,.osl g)::(aH st (l.take n) rs).s.map (fun q=>(q.1,purge g q.2))) fun t=>by
   show lkp ((d,.osl g)::(aH st (l.take n) rs).s.map (fun q=>(q.1,purge g q.2))) t=lkp s t∨_;refine .inl ?_;rw [lkp];split
   ·rename_i he;subst he;exact (S3 rfl).symm
   ·rename_i he;rw [xe,aW];by_cases hex:∃ (j:Nat) (q:Oper),j < n∧l[j]? = some q∧q.dst=some t
    ·obtain ⟨j,q,hj,hq,aA⟩:=hex;rw [aO hj (Nat.le_refl _) hq aA];exact (S1 j q t hj (aE j (by omega)) hq aA).symm
    ·have bg:∀ j q,j < n→l[j]? = some q→q.dst≠some t:=fun j q hj hq he=>hex ⟨j,q,hj,hq,he⟩;rw [aI bg,S2 t (fun e=>he e.symm) bg];rfl
  have ia:(l.drop (n+1)).all (cU N)=true:=List.all_eq_true.2 fun q hq=>List.all_eq_true.1 hN q (List.mem_of_mem_drop hq);exact l9 (ow:=ow) hN (fun p st a w R h=>⟨st,p,R,h⟩) (l.drop (n+1)) p _ _ w ia R' hK
 ·refine ⟨⟨by simp,fun j oj _ hl=>(by rw [getD_replicate_false] at hl;cases hl),fun t _ ht=>getD_in (by simpa using ht) (getD_replicate_false _ _)⟩,p0,st.s,?_,fun j q d _ hl=>(by rw [getD_replicate_false] at hl;cases hl),fun _ _ _=>by rw [getD_replicate_false];rfl,fun hl=>(by rw [getD_replicate_false] at hl;cases hl)⟩;rw [getD_replicate_false];exact R0.later (Below.refl _ _).drew
end
def sM (o:Oper) : Bool:=o.guard.isNone&&(match o.op with | .load _ (.tmp _)=>true|_=>false)
def ps (P:Program) (T:VS) (h1:Hp) (l:List Oper) : List Nat→Prop
 | []=>True
 | i::r=>(match l[i]? with|some o=>∃ x,dt P T.h (ev T) o.op x∧dt P h1 (ev T) o.op x|none=>False)∧ps P T h1 l r
theorem C8 {P:Program} {T:VS} {h1:Hp} {l:List Oper} : ∀ {js:List Nat},ps P T h1 l js→∀ {i:Nat} {o:Oper},i∈js→l[i]? = some o→∃ x,dt P T.h (ev T) o.op x∧dt P h1 (ev T) o.op x
 | [],_,i,o,h,_=>by cases h
 | j::r,hk,i,o,h,ho=>by
  rcases List.mem_cons.1 h with rfl|h
  ·have:=hk.1;rw [ho] at this;exact this
  ·exact C8 hk.2 h ho
theorem Ik {P:Program} {h:Hp} {E E':Operand→AV} {t:TypeId} {x:Operand} {r r':AV} (he:E x=E' x) (h1:dt P h E (.load t x) r) (h2:dt P h E' (.load t x) r') : r=r':=by
 have hp:pf P h E (.load t x)=pf P h E' (.load t x):=by
  show mE P h t (E x)=mE P h t (E' x);rw [he]
 unfold dt at h1 h2;rw [hp] at h1;cases hq:pf P h E' (.load t x) with
 | some z=>
  rw [hq] at h1 h2;exact h1.symm.trans h2
 | none=>
  rw [hq] at h1;exact h1.elim
theorem Il {P:Program} {h:Hp} {E E':Operand→AV} {t:TypeId} {x:Operand} {r:AV} (he:E x=E' x) (h1:dt P h E (.load t x) r) : dt P h E' (.load t x) r:=by
 have hp:pf P h E (.load t x)=pf P h E' (.load t x):=by
  show mE P h t (E x)=mE P h t (E' x);rw [he]
 unfold dt at h1 ⊢;rw [←hp];cases hq:pf P h E (.load t x) with
 | some z=>
  rw [hq] at h1;exact h1
 | none=>
  rw [hq] at h1;exact h1.elim
section
variable {P:Program} {M0:Nat→Nat→Prop} {w0:Bas} {N:Nm} {p:Pl} {st:VS} {a:Act} {w:World} {Q:Exit→VS→Prop}
end
def DU (o:Oper) : Bool:=sL o || (o.guard.isNone&&(match o.op with | .extract .. => true|_=>false))
def RB (l:List Oper) (n:Nat) (js:List Nat) : Bool:=(List.range n).all fun i=>(fC l n n i || (match l[i]? with|some o=>DU o|none=>false)) || (js.contains i&&(match l[i]? with|some o=>sM o|none=>false))
section
variable {P:Program} {M0:Nat→Nat→Prop} {w0:Bas} {N:Nm} {st:VS} {Q:Exit→VS→Prop}
theorem RC {h h':Hp} {E:Operand→AV} {o:Oper} {r:AV} (hl:DU o=true) (hg:dt P h E o.op r) : dt P h' E o.op r:=by
 unfold DU at hl;rw [Bool.or_eq_true] at hl;rcases hl with hl|hl
 ·exact zD hl hg
 ·simp only [Bool.and_eq_true] at hl;have hl:=hl.2;obtain ⟨dst,op,ty,pos,after,guard⟩:=o;simp only at hl hg ⊢;cases op with
  | extract x i=>exact hg
  | _=>cases hl
theorem QN {id:Nat} {l:List Oper} (n:Nat) (js:List Nat) (ow:List Nat) (hm:P.follows .mixedOrders=true) (hB:Region.specB l.toArray (n+1)=true) (hL:RB l n js=true) {so:Oper} {ty:TypeId} {x y:Operand} (gI:l[n]? = some so) (kM:so.guard=none∧so.dst=none) (ir:so.op = .store ty x y)
  (h:mI P l (l.take n) st fun T=>∃ h1,jN P ow T so=some ⟨T.s,h1⟩∧ps P T h1 l js∧dS P ow l (l.drop (n+1)) ⟨T.s,h1⟩ (Q .normal)) : VWp P M0 w0 N (.region id l.toArray true) Q st:=fun iw p0 a0 rE R0=>by
 have hN:l.all (cU N)=true:=by simpa [eY] using iw
 obtain ⟨rs,dO,⟨h1,eE,oz,hK⟩,S⟩:=rD _ _ h;have cZ:=hB;simp only [Region.specB,Bool.and_eq_true,decide_eq_true_eq] at cZ;obtain ⟨⟨⟨⟨⟨⟨_,aK⟩,_⟩,_⟩,hd⟩,a_⟩,_⟩:=cZ;have eB:n+1 < l.length:=by simpa using aK
 have c_:dF (l.take (n+1))=true:=by simpa using hd
 have oQ:dF (l.take n)=true:=by
  have:=ly (l.take (n+1)) n c_;rwa [List.take_take,Nat.min_eq_left (Nat.le_succ n)] at this
 have hlen:(l.take n).length=n:=by simp;omega
 rw [hlen] at dO;have bb:∀ {i:Nat} {o:Oper},i < n→l[i]? = some o→(l.take n)[i]? = some o:=fun {i o} hi ho=>by rw [List.getElem?_take_of_lt hi];exact ho
 have fm:∀ {i:Nat} {o:Oper},i < n+1→l[i]? = some o→(l.take (n+1))[i]? = some o:=fun {i o} hi ho=>by rw [List.getElem?_take_of_lt hi];exact ho
 have iR:∀ {i:Nat} {o:Oper},(l.take n)[i]? = some o→i < n∧l[i]? = some o:=fun {i o} ho=>by
  have hi:i < n:=by have:=(List.getElem?_eq_some_iff.1 ho).1;omega
  rw [List.getElem?_take_of_lt hi] at ho;exact ⟨hi,ho⟩
 have dB:∀ {i:Nat},i < n→rs[i]? = some (rs.getD i .any):=fun {i} hi=>by simp [List.getD,show i < rs.length by omega]
 have cm:∀ i,i < n+1→∀ o,l[i]? = some o→∀ t∈o.looksAt l.toArray,∀ j,j < n+1→∀ q,l[j]? = some q→q.dst=some t→Region.waitsFor .any l.toArray i j=true∧j < i:=by
  intro i hi o ho;have h:=List.all_eq_true.1 a_ i (List.mem_range.2 hi);simp only [List.getElem?_toArray,ho,Bool.and_eq_true] at h;have eC:∀ e∈o.after,Region.binds .any e=true→e.on < i:=fun e he hb=>by
   have h1:=Array.all_eq_true'.1 h.2 e he;simp only [hb,Bool.not_true,Bool.false_or,decide_eq_true_eq] at h1;exact h1
  intro t ht j hj q hq aA;have h1:=List.all_eq_true.1 (List.all_eq_true.1 h.1 t ht) j (List.mem_range.2 hj);simp only [hq,Option.bind_some,aA,bne_self_eq_false,Bool.false_or] at h1;refine ⟨h1,?_⟩;obtain ⟨o',aJ,e,he,hb,cf⟩:=Region.waitsFor_spec h1;have:o'=o:=Option.some.inj (aJ.symm.trans (by simpa using ho));subst this;rw [←cf];exact eC e he hb
 have aO:∀ {i j:Nat} {q:Oper} {t:Nat},j < i→i≤n→l[j]? = some q→q.dst=some t→lkp (aH st ((l.take n).take i) (rs.take i)).s t=rs.getD j .any:=fun {i j q t} hj hi hq ht=>
  ma ((l.take n).take i) (rs.take i) st t j q (rs.getD j .any) (ly _ _ oQ) (by rw [List.getElem?_take_of_lt hj];exact bb (by omega) hq) (by rw [List.getElem?_take_of_lt hj];exact dB (by omega)) ht
 have aI:∀ {i t:Nat},(∀ j q,j < n→l[j]? = some q→q.dst≠some t)→lkp (aH st ((l.take n).take i) (rs.take i)).s t=lkp st.s t:=fun {i t} ho=>
  lz _ _ _ _ fun q hq he=>by
   obtain ⟨j,hj⟩:=List.mem_iff_getElem?.1 (List.mem_of_mem_take hq);obtain ⟨h1,h2⟩:=iR hj;exact ho j q h1 h2 he
 have aW:aH st (l.take n) rs=aH st ((l.take n).take n) (rs.take n):=by
  rw [List.take_of_length_le (l:=l.take n) (by rw [hlen];exact Nat.le_refl _),List.take_of_length_le (l:=rs) (by omega)]
 refine wp_region_any hm ?_;refine qu (Inv:=fun listed a w=>HeadInv .any l.toArray (n+1) listed∧∃ (p:Pl) (s:List (Nat×AV)),Rel M0 w0 N p ⟨s,if listed.getD n false=true then h1 else st.h⟩ a w ∧
   (∀ (j:Nat) (q:Oper) (d:Nat),j < n→listed.getD j false=true→l[j]? = some q→q.dst=some d→lkp s d=rs.getD j .any) ∧
   (∀ t,(∀ j q,j < n→l[j]? = some q→q.dst≠some t)→lkp s t=lkp st.s t)) hB (fun _ _ _ inv=>inv.1) ?_ ?_ _ _ _ _ ?_ (by simp)
 ·rintro listed a w i o ⟨head,p,s,R,S1,S2⟩ hi ba ho ep;have aJ:l[i]? = some o:=by simpa using ho
  obtain ⟨_,o2,jX,cG⟩:=mem_ready.1 hi;have:o2=o:=Option.some.inj (jX.symm.trans ho);subst this;have bz:i < listed.size:=by rw [head.size];simpa using (by omega:i < l.length)
  have bH:(listed.setIfInBounds i true).getD i false=true:=by simp [bz]
  have aV:∀ {j:Nat},i≠j→(listed.setIfInBounds i true).getD j false=listed.getD j false:=fun aq=>getD_set_ne false aq;have bB:∀ j,Region.waitsFor .any l.toArray i j=true→listed.getD j false=true:=by
   intro j hj;obtain ⟨o3,kP,e,he,hb,cf⟩:=Region.waitsFor_spec hj;have:o3=o2:=Option.some.inj (kP.symm.trans ho);subst this;rw [←cf];exact cG e he hb
  have cj:∀ {k:Nat},i≤k→k≤n→∀ t∈o2.looksAt l.toArray,lkp (aH st ((l.take n).take k) (rs.take k)).s t=lkp s t:=fun {k} pD jf t ht=>by
   by_cases hex:∃ (j:Nat) (q:Oper),j < n∧l[j]? = some q∧q.dst=some t
   ·obtain ⟨j,q,hj,hq,aA⟩:=hex;obtain ⟨h1,h2⟩:=cm i ba o2 aJ t ht j (by omega) q hq aA;rw [aO (by omega) jf hq aA];exact (S1 j q t hj (bB j h1) hq aA).symm
   ·have bg:∀ j q,j < n→l[j]? = some q→q.dst≠some t:=fun j q hj hq he=>hex ⟨j,q,hj,hq,he⟩;rw [aI bg,S2 t bg]
  have bW:∀ {j:Nat} {q:Oper} {d d':Nat},j < n→j≠i→l[j]? = some q→q.dst=some d→o2.dst=some d'→d'≠d:=fun {j q d d'} hj cq hq aA dC he=>by
   subst he;exact cq (mK c_ (fm (by omega) hq) (fm ba aJ) aA dC)
  by_cases mL:i=n
  ·subst mL;have:o2=so:=Option.some.inj (aJ.symm.trans gI);subst this;have cP:=getD_both ep;rw [cP] at R;simp only [Bool.false_eq_true,if_false] at R;have jY:∀ z:Operand,z∈o2.op.operands→ev ⟨s,(aH st (l.take i) rs).h⟩ z=ev (aH st (l.take i) rs) z:=fun z hz=>by
    cases z with
    | tmp t=>
     show lkp s t=lkp _ t;rw [aW];exact (cj (Nat.le_refl _) (Nat.le_refl _) t (List.mem_append_left _ (List.mem_filterMap.2 ⟨.tmp t,by simpa using hz,rfl⟩))).symm
    | const v=>rfl
    | global g=>rfl
    | func f=>rfl
   have eT:=Ij (s:=s) ir (jY x (by rw [ir];simp [Op.operands])) (jY y (by rw [ir];simp [Op.operands])) eE;rw [ea] at eT;obtain ⟨v,w',p',hh⟩:=zr (P:=P) R (List.all_eq_true.1 hN o2 (List.mem_of_getElem? aJ)) eT;have pZ:∀ v,a.put o2.dst v=a:=fun v=>by rw [kM.2];rfl
   have fin:∀ v p',Rel M0 w0 N p' ⟨s,h1⟩ (a.put o2.dst v) w'→(fun a w=>HeadInv .any l.toArray (i+1) (listed.setIfInBounds i true)∧∃ (p:Pl) (s:List (Nat×AV)),Rel M0 w0 N p ⟨s,if (listed.setIfInBounds i true).getD i false=true then h1 else st.h⟩ a w ∧
     (∀ (j:Nat) (q:Oper) (d:Nat),j < i→(listed.setIfInBounds i true).getD j false=true→l[j]? = some q→q.dst=some d→lkp s d=rs.getD j .any) ∧
     (∀ t,(∀ j q,j < i→l[j]? = some q→q.dst≠some t)→lkp s t=lkp st.s t)) (a.put o2.dst v) w':=fun v p' R'=>by
    refine ⟨head.set hi ba,p',s,by rw [bH];exact R',fun j q d hj hl hq aA=>?_,S2⟩;rw [aV (by omega)] at hl;exact S1 j q d hj hl hq aA
   unfold wpOp;simp only [ho];rw [if_pos (by simp [Region.wanted,kM.1])];refine Or.inl ?_;unfold Oper.wp;rcases hh with ⟨h2,h3⟩|⟨h2,_,h3⟩
   ·rw [h2];exact fin _ _ h3
   ·rw [h2];exact fin _ _ h3
  ·have cC:i < n:=by omega
   have aj:=S i o2 (rs.getD i .any) (bb cC aJ) (dB cC);have dG:((listed.setIfInBounds i true).getD n false)=listed.getD n false:=aV mL;have fin:∀ v w',V1 w' (Mof M0 (if listed.getD n false=true then h1 else st.h) p) (if listed.getD n false=true then h1 else st.h) p (rs.getD i .any) v→Below w.heap.size w w'→(fun listed a w=>HeadInv .any l.toArray (n+1) listed∧∃ (p:Pl) (s:List (Nat×AV)),Rel M0 w0 N p ⟨s,if listed.getD n false=true then h1 else st.h⟩ a w ∧
     (∀ (j:Nat) (q:Oper) (d:Nat),j < n→listed.getD j false=true→l[j]? = some q→q.dst=some d→lkp s d=rs.getD j .any) ∧
     (∀ t,(∀ j q,j < n→l[j]? = some q→q.dst≠some t)→lkp s t=lkp st.s t)) (listed.setIfInBounds i true) (a.put o2.dst v) w':=fun v w' hv hb=>by
    have R':=(R.later hb).put (d:=o2.dst) (eZ (List.all_eq_true.1 hN o2 (List.mem_of_getElem? aJ))) hv;have cI:(VS.put ⟨s,if listed.getD n false=true then h1 else st.h⟩ o2.dst (rs.getD i .any))=⟨(VS.put ⟨s,if listed.getD n false=true then h1 else st.h⟩ o2.dst (rs.getD i .any)).s,if listed.getD n false=true then h1 else st.h⟩:=by cases o2.dst<;>rfl
    rw [cI] at R';refine ⟨head.set hi ba,p,_,by rw [dG];exact R',fun j q d hj hl hq aA=>?_,fun t ht=>?_⟩
    ·rw [fL];by_cases cq:j=i
     ·subst cq;have:q=o2:=Option.some.inj (hq.symm.trans aJ);subst this;rw [if_pos aA]
     ·rw [if_neg fun e=>bW hj cq hq aA e rfl];rw [aV (Ne.symm cq)] at hl;exact S1 j q d hj hl hq aA
    ·rw [fL,if_neg (ht i o2 cC aJ)];exact S2 t ht
   have bx:dt P st.h (ev (aH st ((l.take n).take i) (rs.take i))) o2.op (rs.getD i .any)→gives P o2 a w fun v w''=>V1 w'' (Mof M0 (if listed.getD n false=true then h1 else st.h) p) (if listed.getD n false=true then h1 else st.h) p (rs.getD i .any) v∧Below w.heap.size w w'':=by
    intro hg;have fj:dt P (if listed.getD n false=true then h1 else st.h) (ev (aH st ((l.take n).take i) (rs.take i))) o2.op (rs.getD i .any):=by
     split
     ·rename_i jh;have h2:=List.all_eq_true.1 hL i (List.mem_range.2 cC);simp only [aJ,Bool.or_eq_true] at h2;rcases h2 with (h2|h2)|h2
      ·have:=mM head n n i (fun j hj=>by
        obtain ⟨o6,jZ,e,he,eQ,cf⟩:=Region.waitsFor_spec hj;have:=head.closed n o6 jZ jh e he eQ;rwa [cf] at this) h2
       rw [getD_both ep] at this;cases this
      ·exact RC h2 hg
      ·simp only [Bool.and_eq_true,List.contains_iff_mem] at h2;obtain ⟨cH,jQ⟩:=h2;obtain ⟨z,fO,w7⟩:=C8 oz cH aJ;unfold sM at jQ;rw [Bool.and_eq_true] at jQ;obtain ⟨dst,op,C9,pos,after,guard⟩:=o2;have DV:=@cj;simp only at jQ fO w7 hg DV ⊢;cases op with
       | load tt xx=>
        cases xx with
        | tmp u=>
         have hu:u∈Oper.looksAt l.toArray ⟨dst,.load tt (.tmp u),C9,pos,after,guard⟩:=List.mem_append_left _ (List.mem_filterMap.2 ⟨.tmp u,by simp [Op.operands],rfl⟩);have e1:=cj (Nat.le_refl i) (by omega) u hu;have e2:=cj (k:=n) (by omega) (Nat.le_refl _) u hu;have he:ev (aH st ((l.take n).take i) (rs.take i)) (.tmp u)=ev (aH st (l.take n) rs) (.tmp u):=by
          show lkp _ u=lkp _ u;rw [e1,aW,e2]
         have C_:(aH st (l.take n) rs).h=st.h:=ea ..;rw [C_] at fO;have:rs.getD i .any=z:=Ik he hg fO;rw [this];exact Il he.symm w7
        | const v=>cases jQ.2
        | global g=>cases jQ.2
        | func f=>cases jQ.2
       | _=>cases jQ.2
     ·exact hg
    refine nC R.objs R.mok R.h0 R.glob (fun _ _ hb=>.inl hb) (fun x hx=>?_) fj;cases x with
    | tmp t=>
     show V1 _ _ _ _ (lkp (aH st ((l.take n).take i) (rs.take i)).s t) _;rw [cj (Nat.le_refl i) (by omega) t (List.mem_append_left _ (List.mem_filterMap.2 ⟨.tmp t,by simpa using hx,rfl⟩))];exact R.slots t
    | const v=>exact .base _ _ (.lit v)
    | global g=>exact .base _ _ (R.evalG g)
    | func f=>exact .base _ _ (.lit _)
   have hy:=fun j=>nv (ops:=l) (j:=j) R hN;have bj:∀ (j:Nat) (want:Bool) (v:Value),o2.guard=some (j,want)→cV l (aH st ((l.take n).take i) (rs.take i)) j = .lit v→cV l ⟨s,if listed.getD n false=true then h1 else st.h⟩ j = .lit v:=by
    intro j want v hg hv;unfold cV at hv ⊢;cases hj:l[j]? with
    | none=>simpa [hj] using hv
    | some q=>
     cases hq:q.dst with
     | none=>simpa [hj,hq] using hv
     | some d=>
      have cH:d∈o2.looksAt l.toArray:=by
       unfold Oper.looksAt;refine List.mem_append_right _ ?_;simp [hg,hj,hq]
      simp only [hj,hq] at hv ⊢;rw [←cj (Nat.le_refl i) (by omega) d cH];exact hv
   unfold wpOp;simp only [ho];unfold jB at aj;split at aj
   ·rename_i hg;rw [if_pos (by simp [Region.wanted,hg])];rw [ea] at aj;exact Or.inl (iS (bx aj) rfl fun v w' hv=>fin v w' hv.1 hv.2)
   ·rename_i j want hg;split at aj
    ·rename_i b hb;have dU:=(hy j).1 b (bj j want _ hg hb);split at aj
     ·rename_i hw;subst hw;rw [if_pos (by simp [Region.wanted,hg,dU])];rw [ea] at aj;exact Or.inl (iS (bx aj) rfl fun v w' hv=>fin v w' hv.1 hv.2)
     ·rename_i hw;rw [if_neg (by simpa [Region.wanted,hg,dU] using hw)];exact fin undef w (by rw [aj];exact .base _ _ (.lit _)) (Below.refl _ _)
    ·rename_i us hb;have dU:=(hy j).2 us (bj j want _ hg hb);rw [if_neg (by simp [Region.wanted,hg,dU])];exact fin undef w (by rw [aj];exact .base _ _ (.lit _)) (Below.refl _ _)
    ·exact aj.elim
 ·rintro listed a w ⟨head,p,s,R,S1,S2⟩ aE;rw [aE n (by omega)] at R;simp only [if_true] at R;have R':=R.weak (s':=(aH st (l.take n) rs).s) fun t=>by
   show lkp (aH st (l.take n) rs).s t=lkp s t∨_;rw [aW];by_cases hex:∃ (j:Nat) (q:Oper),j < n∧l[j]? = some q∧q.dst=some t
   ·obtain ⟨j,q,hj,hq,aA⟩:=hex;rw [aO hj (Nat.le_refl _) hq aA];exact .inl (S1 j q t hj (aE j (by omega)) hq aA).symm
   ·have bg:∀ j q,j < n→l[j]? = some q→q.dst≠some t:=fun j q hj hq he=>hex ⟨j,q,hj,hq,he⟩;rw [aI bg,S2 t bg];exact .inl rfl
  have ia:(l.drop (n+1)).all (cU N)=true:=List.all_eq_true.2 fun q hq=>List.all_eq_true.1 hN q (List.mem_of_mem_drop hq);exact l9 (ow:=ow) hN (fun p st a w R h=>⟨st,p,R,h⟩) (l.drop (n+1)) p _ _ w ia R' hK
 ·refine ⟨⟨by simp,fun j oj _ hl=>(by rw [getD_replicate_false] at hl;cases hl),fun t _ ht=>getD_in (by simpa using ht) (getD_replicate_false _ _)⟩,p0,st.s,?_,fun j q d _ hl=>(by rw [getD_replicate_false] at hl;cases hl),fun _ _=>rfl⟩;rw [getD_replicate_false];exact R0.later (Below.refl _ _).drew
end
end Go.Proofs.YtoibondihdhnoaaGreatDoor
