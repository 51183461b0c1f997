/- Texts in one: A drawing region that makes several variables of the call's own, in no order to each other: of every program; no condition. -/
import Derived.Test.YtoibondihdhnoaaGreatDoorFRN6
namespace Go.Proofs.YtoibondihdhnoaaGreatDoor
open Go.RowKit
section
variable {P:Program} {M0:Nat→Nat→Prop} {w0:Bas} {N:Nm} {p:Pl} {st:VS} {a:Act} {w:World} {Q:Exit→VS→Prop}
theorem a0n {h:Hp} {m id:Nat} {ob:Ob} (hi:(h++List.replicate m none)[id]? = some (some ob)) : h[id]? = some (some ob):=by
 rcases Nat.lt_or_ge id h.length with hlt|hge
 ·rwa [List.getElem?_append_left hlt] at hi
 ·rw [List.getElem?_append_right hge,List.getElem?_replicate] at hi;split at hi<;>cases hi
theorem Rel.pad (R:Rel M0 w0 N p st a w) (m:Nat) : Rel M0 w0 N p ⟨st.s,st.h++List.replicate m none⟩ a w:=by
 have hM:∀ b j,¬Mof M0 st.h p b j→¬Mof M0 (st.h++List.replicate m none) p b j:=fun b j hb hb'=>by
  rcases hb' with h|⟨i,ob,hi,hl,hp⟩
  ·exact hb (.inl h)
  ·exact hb (.inr ⟨i,ob,a0n hi,hl,hp⟩)
 have keep:∀ {av:AV} {v:Value},V1 w (Mof M0 st.h p) st.h p av v→V1 w (Mof M0 (st.h++List.replicate m none) p) (st.h++List.replicate m none) p av v:=fun hv=>
  hv.keep (Keeps.refl _ _) (fun b j _ h=>hM b j h) (by simp) (fun _ _=>rfl) (fun i e sz nl es v _ he hv=>hv _ _ _ _ (a0n he)) (fun i e sz nl pe qs v _ he hv=>hv _ _ _ _ _ (a0n he)) fun i k sz v hid hs=>hs.keep (fun e sz pe qs he=>⟨a0n he,rfl,rfl,fun _ _ _ _=>rfl⟩) (Nat.le_refl _)
 exact ⟨R.defers,R.size,R.below,R.m0,R.x0,fun i=>keep (R.slots i),fun i ob hi=>(R.objs i ob (a0n hi)).keep (fun _=>⟨rfl,rfl⟩) (fun _ _ _ _ _=>rfl) (Nat.le_refl _) (fun hx=>hx.keep (Keeps.refl _ _) fun b j _=>hM b j) fun _ _ _ _ _ hx=>keep hx,
  fun i i' ob ob' hi hi'=>R.inj i i' ob ob' (a0n hi) (a0n hi')⟩
theorem Rel.fill {us:List Value} {zs:List Value} {id d:Nat} (R:Rel M0 w0 N p st a w) (hd:N.has d) (hid:st.h[id]? = some none) (hs:∀ t,f5_ id 5 (lkp st.s t)=true) (hh:∀ (i:Nat) (cs:List AV),st.h[i]? = some (some (Ob.box cs))→∀ c∈cs,f5_ id 5 c=true)
  (hc:Cells w (Mof M0 st.h p) st.h p (zs.map .lit) us) (t:TypeId) :
  Rel M0 w0 N (m0_ p id w.heap.size) ⟨(d,.ref id 0)::st.s,st.h.set id (some (.box (zs.map .lit)))⟩ (a.put (some d) (.pointer (some ⟨w.heap.size,0,none⟩))) { w with heap:=w.heap.push (.cells us.toArray t) }:=by
 have hb:=i3_ w (.cells us.toArray t);have hidl:id < st.h.length:=(List.getElem?_eq_some_iff.1 hid).1;have hp:∀ i,i≠id→m0_ p id w.heap.size i=p i:=fun i hi=>(g6_ hi).1;have hpn:m0_ p id w.heap.size id=w.heap.size:=(h9_ p _ _).1;have hobs:∀ i o,(st.h.set id (some (.box (zs.map .lit))))[i]? = some (some o)→(i=id∧o = .box (zs.map .lit))∨(i≠id∧st.h[i]? = some (some o)):=by
  intro i o hio;rw [List.getElem?_set] at hio;by_cases he:id=i
  ·rw [if_pos he,if_pos (by omega)] at hio;simp only [Option.some.injEq] at hio;exact .inl ⟨he.symm,hio.symm⟩
  ·rw [if_neg he] at hio;exact .inr ⟨fun h=>he h.symm,hio⟩
 have hM:∀ c j,c < w.heap.size→¬Mof M0 st.h p c j→¬Mof M0 (st.h.set id (some (.box (zs.map .lit)))) (m0_ p id w.heap.size) c j:=by
  intro c j hc hn hm;rcases hm with hm|⟨i,o,hi,hl,hpc⟩
  ·exact hn (.inl hm)
  ·rcases hobs i o hi with ⟨rfl,_⟩|⟨hne,hi'⟩
   ·have:=m1_ hpc;omega
   ·exact hn (.inr ⟨i,o,hi',hl,(l6_ hne).1 hpc⟩)
 have hV:∀ {x:AV} {u:Value},f5_ id 5 x=true→V1 w (Mof M0 st.h p) st.h p x u→V1 { w with heap:=w.heap.push (.cells us.toArray t) } (Mof M0 (st.h.set id (some (.box (zs.map .lit)))) (m0_ p id w.heap.size)) (st.h.set id (some (.box (zs.map .lit)))) (m0_ p id w.heap.size) x u:=fun hx hv=>
  V1.purge (.of_below hb) hM (by simp) hp (fun i e sz nl es v hne he hv=>by
   rcases hobs i _ he with ⟨h1,_⟩|⟨_,h2⟩
   ·exact absurd h1 hne
   ·exact (hv _ _ _ _ h2).below hb) (fun i e sz nl pe qs v hne he hv=>by
   rcases hobs i _ he with ⟨h1,_⟩|⟨_,h2⟩
   ·exact absurd h1 hne
   ·exact (hv _ _ _ _ _ h2).below hb) (fun i k sz v hne hil hs=>hs.keep (fun e sz pe qs he=>by
   rcases hobs i _ he with ⟨h1,_⟩|⟨_,h2⟩
   ·exact absurd h1 hne
   ·exact ⟨h2,(g6_ hne).1,(g6_ hne).2,fun b _ _ hlt=>hb.block b hlt⟩) hb.size) 5 _ _ hv hx
 refine ⟨R.defers,R.size.put hd,R.below.later hb,R.m0,R.x0,fun i=>?_,fun i o hi=>?_,fun i i' o o' hi hi' hl hl' x j j' hO hO'=>?_⟩
 ·rw [l4_ a d _ i (R.size.lt hd)];simp only [lkp];split
  ·have:=V1.ref (w:={ w with heap:=w.heap.push (.cells us.toArray t) }) (M:=Mof M0 (st.h.set id (some (.box (zs.map .lit)))) (m0_ p id w.heap.size)) (h:=st.h.set id (some (.box (zs.map .lit)))) (p:=m0_ p id w.heap.size) id 0 (by simpa using hidl);rwa [hpn] at this
  ·exact hV (hs i) (R.slots i)
 ·rcases hobs i o hi with ⟨rfl,rfl⟩|⟨hne,hi'⟩
  ·refine ⟨a0i R.below.size,us.toArray,t,by rw [hpn];simp [-World.alloc_eq],by simpa using hc.1,hc.2.1,fun j c hj=>?_⟩;have hj':j < us.length:=by rw [hc.1];exact (List.getElem?_eq_some_iff.1 hj).1
   refine ⟨us[j],by simp [hj'],hV ?_ (hc.2.2 j c us[j] hj (List.getElem?_eq_getElem hj'))⟩;rw [List.getElem?_map,Option.map_eq_some_iff] at hj;obtain ⟨z,_,rfl⟩:=hj;rfl
  ·exact (R.objs i o hi').keep (fun _=>g6_ hne) (fun _ b _ _ hbl=>hb.block b hbl) hb.size (fun hx=>hx.keep (.of_below hb) hM) fun cs hcs c hcm _ hx=>hV (hh i cs (by rw [hi',hcs]) c hcm) hx
 ·rcases hobs i o hi with ⟨rfl,rfl⟩|⟨hn,h1⟩<;>rcases hobs i' o' hi' with ⟨rfl,rfl⟩|⟨hn',h2⟩
  ·rfl
  ·have h3:=((R.objs i' o' h2).own hl' x j' ((l6_ hn').1 hO')).2;have h4:=m1_ hO;omega
  ·have h3:=((R.objs i o h1).own hl x j ((l6_ hn).1 hO)).2;have h4:=m1_ hO';omega
  ·exact R.inj i i' o o' h1 h2 hl hl' x j j' ((l6_ hn).1 hO) ((l6_ hn').1 hO')
end
structure Slot where
 ai:Nat
 d:Nat
 z:List Value
 si:Option Nat
 c:List AV
def Slot.end_ (q:Slot) : List AV:=match q.si with|some _=>q.c|none=>q.z.map .lit
def Slot.at_ (q:Slot) (f:Nat→Bool) : Option Ob:=if f q.ai=true then some (.box (match q.si with|some s=>if f s=true then q.c else q.z.map .lit|none=>q.z.map .lit)) else none
def l7_ (A:List Slot) (f:Nat→Bool) : Hp:=A.map fun q=>q.at_ f
def a4q:List Slot→Hp
 | []=>[]
 | q::r=>some (.box q.end_)::a4q r
def a2a (k:Nat) : List Slot→List (Nat×AV)
 | []=>[]
 | q::r=>(q.d,.ref k 0)::a2a (k+1) r
def isA (A:List Slot) (i:Nat) : Bool:=A.any fun q=>q.ai == i || q.si == some i
def c4s (l:List Oper) (n:Nat) (q:Slot) : Bool:=
 decide (q.ai < n)&&(match l[q.ai]? with|some o=>o.guard.isNone&&o.dst == some q.d&&(match o.op with | .alloc _=>true|_=>false)|none=>false) &&
 (match q.si with|none=>true|some s=>decide (s < n)&&(match l[s]? with|some o=>o.guard.isNone&&o.dst.isNone&&(match o.op with | .store _ (.tmp x) _=>x == q.d|_=>false)|none=>false))
def c5p (l:List Oper) (n:Nat) (A:List Slot) : Bool:=A.all (c4s l n)&&decide (A.map (·.d)).Nodup
def c8y (P:Program) (l:List Oper) (T:VS) (q:Slot) : Prop:=
 (match l[q.ai]? with|some o=>(match o.op with | .alloc t=>∃ ti,b9_ P t=some ti∧ti.zero=q.z|_=>False)|none=>False) ∧
 (match q.si with|none=>True|some s=>(match l[s]? with|some o=>(match o.op with | .store t _ y=>∃ ti,b9_ P t=some ti∧ev T y≠.any∧a4v (ev T y)=true∧f4_ (ev T y)=q.c∧q.c.length=ti.size∧q.z.length=ti.size∧q.c.all (g5_ T.h.length 5)=true|_=>False)|none=>False))
def b4s (P:Program) (l:List Oper) (T:VS) : List Slot→Prop
 | []=>True
 | q::r=>c8y P l T q∧b4s P l T r
section
variable (P:Program)
def p5_ (ops:List Oper) (isC:Nat→Bool) : List Oper→Nat→VS→(VS→Prop)→Prop
 | [],_,T,K=>K T
 | o::l,i,T,K=>
  if isC i=true then p5_ ops isC l (i+1) (T.put o.dst .any) K
  else c4e P ops o T fun T'=>(∀ d,o.dst=some d→g5_ T.h.length 5 (lkp T'.s d)=true)∧p5_ ops isC l (i+1) T' K
end
section
variable {P:Program} {M0:Nat→Nat→Prop} {w0:Bas} {N:Nm} {p:Pl} {st:VS} {a:Act} {w:World} {Q:Exit→VS→Prop}
theorem k8_ {ops:List Oper} {isC:Nat→Bool} {K:VS→Prop} : ∀ (l:List Oper) (i0:Nat) (T:VS),p5_ P ops isC l i0 T K →
  ∃ rs:List AV,rs.length=l.length∧K (d3_ T l rs) ∧
   (∀ (i:Nat) (o:Oper) (r:AV),isC (i0+i)=false→l[i]? = some o→rs[i]? = some r→o0_ P ops o (d3_ T (l.take i) (rs.take i)) r∧∀ d,o.dst=some d→g5_ T.h.length 5 r=true) ∧
   (∀ (i:Nat) (o:Oper),isC (i0+i)=true→l[i]? = some o→rs[i]? = some .any)
 | [],i0,T,h=>⟨[],rfl,h,by simp,by simp⟩
 | o::l,i0,T,h=>by
  unfold p5_ at h;by_cases hc:isC i0=true
  ·rw [if_pos hc] at h;obtain ⟨rs,e1,hK,hp,hh⟩:=k8_ l (i0+1) _ h;refine ⟨.any::rs,by simp [e1],by simpa [d3_] using hK,fun i q r hi hq hr=>?_,fun i q hi hq=>?_⟩
   ·cases i with
    | zero=>rw [Nat.add_zero,hc] at hi;cases hi
    | succ i=>
     have:=hp i q r (by rw [←hi];congr 1;omega) (by simpa using hq) (by simpa using hr);rw [b0j] at this;simpa [d3_] using this
   ·cases i with
    | zero=>rfl
    | succ i=>exact hh i q (by rw [←hi];congr 1;omega) (by simpa using hq)
  ·rw [if_neg hc] at h;obtain ⟨r,h1,h2,h3⟩:=a4j h;obtain ⟨rs,e1,hK,hp,hh⟩:=k8_ l (i0+1) _ h3;refine ⟨r::rs,by simp [e1],by simpa [d3_] using hK,fun i q x hi hq hr=>?_,fun i q hi hq=>?_⟩
   ·cases i with
    | zero=>
     simp at hq hr;subst hq;subst hr;refine ⟨h1,fun d hd=>?_⟩;have:=h2 d hd;rw [hd,a2l] at this;simpa using this
    | succ i=>
     have:=hp i q x (by rw [←hi];congr 1;omega) (by simpa using hq) (by simpa using hr);rw [b0j] at this;simpa [d3_] using this
   ·cases i with
    | zero=>rw [Nat.add_zero] at hi;exact absurd hi hc
    | succ i=>exact hh i q (by rw [←hi];congr 1;omega) (by simpa using hq)
theorem a1s {l:List Oper} {T:VS} : ∀ {A:List Slot},b4s P l T A→∀ {j:Nat} {q:Slot},A[j]? = some q→c8y P l T q
 | [],_,j,q,h=>by simp at h
 | x::A,hk,j,q,h=>by
  cases j with
  | zero=>simp at h;subst h;exact hk.1
  | succ j=>exact a1s hk.2 (j:=j) (by simpa using h)
theorem b4t:∀ {A:List Slot} {j:Nat},(a4q A)[j]? = (A[j]?).map fun q=>some (.box q.end_)
 | [],j=>by simp [a4q]
 | q::A,0=>by simp [a4q]
 | q::A,j+1=>by simp [a4q,b4t (A:=A) (j:=j)]
theorem c1j (A:List Slot) (f:Nat→Bool) (hf:∀ i,isA A i=true→f i=true) : l7_ A f=a4q A:=by
 apply List.ext_getElem?;intro j;rw [b4t];unfold l7_;rw [List.getElem?_map];cases hq:A[j]? with
 | none=>rfl
 | some q=>
  have hm:=List.mem_of_getElem? hq;have h1:f q.ai=true:=hf _ (List.any_eq_true.2 ⟨q,hm,by simp⟩);simp only [Option.map_some,Slot.at_,h1,if_true,Slot.end_];cases hs:q.si with
  | none=>rfl
  | some s=>
   have h2:f s=true:=hf _ (List.any_eq_true.2 ⟨q,hm,by simp [hs]⟩);simp [h2]
theorem b0r:∀ {A:List Slot} {k t:Nat},lkp (a2a k A) t≠.any→∃ (j:Nat) (q:Slot),A[j]? = some q∧q.d=t∧lkp (a2a k A) t = .ref (k+j) 0
 | [],k,t,h=>absurd rfl h
 | x::A,k,t,h=>by
  simp only [a2a,lkp] at h ⊢;by_cases hd:x.d=t
  ·exact ⟨0,x,rfl,hd,by rw [if_pos hd];rfl⟩
  ·rw [if_neg hd] at h ⊢;obtain ⟨j,q,h1,h2,h3⟩:=b0r (A:=A) (k:=k+1) h;exact ⟨j+1,q,by simpa using h1,h2,by rw [h3];congr 1;omega⟩
theorem b2m {A:List Slot} {f g:Nat→Bool} (h:∀ i,isA A i=true→f i=g i) : l7_ A f=l7_ A g:=by
 unfold l7_;refine List.map_congr_left fun q hq=>?_;have h1:f q.ai=g q.ai:=h _ (List.any_eq_true.2 ⟨q,hq,by simp⟩);unfold Slot.at_;rw [h1];cases hs:q.si with
 | none=>rfl
 | some s=>simp only [h s (List.any_eq_true.2 ⟨q,hq,by simp [hs]⟩)]
theorem a6d {l:List Oper} {n:Nat} {q:Slot} (h:c4s l n q=true) : (q.ai < n∧∃ o t,l[q.ai]? = some o∧o.guard=none∧o.dst=some q.d∧o.op = .alloc t) ∧
  ∀ s,q.si=some s→s < n∧∃ o t y,l[s]? = some o∧o.guard=none∧o.dst=none∧o.op = .store t (.tmp q.d) y:=by
 simp only [c4s,Bool.and_eq_true,decide_eq_true_eq] at h;obtain ⟨⟨h1,h2⟩,h3⟩:=h;refine ⟨⟨h1,?_⟩,fun s hs=>?_⟩
 ·split at h2
  ·rename_i o ho;simp only [Bool.and_eq_true,beq_iff_eq,Option.isNone_iff_eq_none] at h2;obtain ⟨⟨a,b⟩,c⟩:=h2;split at c
   ·rename_i t ht;exact ⟨o,t,ho,a,b,ht⟩
   ·cases c
  ·cases h2
 ·rw [hs] at h3;simp only [Bool.and_eq_true,decide_eq_true_eq] at h3;obtain ⟨h4,h5⟩:=h3;refine ⟨h4,?_⟩;split at h5
  ·rename_i o ho;simp only [Bool.and_eq_true,Option.isNone_iff_eq_none] at h5;obtain ⟨⟨a,b⟩,c⟩:=h5;split at c
   ·rename_i t x y hx;simp only [beq_iff_eq] at c;subst c;exact ⟨o,t,y,ho,a,b,hx⟩
   ·cases c
  ·cases h5
theorem c4t {A:List Slot} (h:(A.map (·.d)).Nodup) {i j:Nat} {q r:Slot} (hi:A[i]? = some q) (hj:A[j]? = some r) (he:q.d=r.d) : i=j:=by
 have h1:(A.map (·.d))[i]? = some q.d:=by simp [hi]
 have h2:(A.map (·.d))[j]? = some q.d:=by simp [hj,he]
 obtain ⟨a1,b1⟩:=List.getElem?_eq_some_iff.1 h1;obtain ⟨a2,b2⟩:=List.getElem?_eq_some_iff.1 h2;rcases Nat.lt_trichotomy i j with hl|hl|hl
 ·exact absurd (b1.trans b2.symm) (List.pairwise_iff_getElem.1 h i j a1 a2 hl)
 ·exact hl
 ·exact absurd (b2.trans b1.symm) (List.pairwise_iff_getElem.1 h j i a2 a1 hl)
theorem c8z {cs vs:List AV} (h:vs.length=cs.length) : b5y cs 0 vs=vs:=by
 unfold b5y;rw [List.take_zero,List.nil_append,Nat.zero_add,h,List.drop_length,List.append_nil]
theorem c1k {id:Nat} {l:List Oper} (n:Nat) (ow:List Nat) (A:List Slot) (hm:P.follows .mixedOrders=true) (hB:Region.specB l.toArray n=true) (hA:c5p l n A=true) (hs:sOK st.h.length st.s) (hh:hOK st.h.length st.h)
  (h:p5_ P l (isA A) (l.take n) 0 st fun T=>b4s P l T A∧z5_ P ow l (l.drop n) ⟨a2a st.h.length A++T.s,T.h++a4q A⟩ (Q .normal)) : VWp P M0 w0 N (.region id l.toArray true) Q st:=fun hCd p0 a0 wst R0=>by
 have hN:l.all (r6_ N)=true:=by simpa [n3_] using hCd
 obtain ⟨rs,hrl,Y,S,hany0⟩:=k8_ _ _ _ h;obtain ⟨hsk,hK⟩:=Y;have hB':=hB;simp only [Region.specB,Bool.and_eq_true,decide_eq_true_eq] at hB';obtain ⟨⟨⟨⟨⟨⟨_,hnl⟩,_⟩,_⟩,hd⟩,hlook⟩,_⟩:=hB';have hnl':n < l.length:=by simpa using hnl
 have hd':i4_ (l.take n)=true:=by simpa using hd
 have hlen:(l.take n).length=n:=by simp;omega
 rw [hlen] at hrl;obtain ⟨hAB,hnd⟩ : A.all (c4s l n)=true∧(A.map (·.d)).Nodup:=by simpa [c5p] using hA
 have hpt:∀ {j:Nat} {q:Slot},A[j]? = some q→_:=fun {j q} hq=>a6d (List.all_eq_true.1 hAB q (List.mem_of_getElem? hq));have hat:∀ {i:Nat} {o:Oper},i < n→l[i]? = some o→(l.take n)[i]? = some o:=fun {i o} hi ho=>by rw [List.getElem?_take_of_lt hi];exact ho
 have hta:∀ {i:Nat} {o:Oper},(l.take n)[i]? = some o→i < n∧l[i]? = some o:=fun {i o} ho=>by
  have hi:i < n:=by have:=(List.getElem?_eq_some_iff.1 ho).1;omega
  rw [List.getElem?_take_of_lt hi] at ho;exact ⟨hi,ho⟩
 have hrs:∀ {i:Nat},i < n→rs[i]? = some (rs.getD i .any):=fun {i} hi=>by simp [List.getD,show i < rs.length by omega]
 have hlk:∀ i,i < n→∀ o,l[i]? = some o→∀ t∈o.looksAt l.toArray,∀ j,j < n→∀ q,l[j]? = some q→q.dst=some t→Region.waitsFor .any l.toArray i j=true∧j < i:=by
  intro i hi o ho;have h:=List.all_eq_true.1 hlook i (List.mem_range.2 hi);simp only [List.getElem?_toArray,ho,Bool.and_eq_true] at h;have haft:∀ e∈o.after,Region.binds .any e=true→e.on < i:=fun e he hb=>by
   have h1:=Array.all_eq_true'.1 h.2 e he;simp only [hb,Bool.not_true,Bool.false_or,decide_eq_true_eq] at h1;exact h1
  intro t ht j hj q hq hqd;have h1:=List.all_eq_true.1 (List.all_eq_true.1 h.1 t ht) j (List.mem_range.2 hj);simp only [hq,Option.bind_some,hqd,bne_self_eq_false,Bool.false_or] at h1;refine ⟨h1,?_⟩;obtain ⟨o',ho',e,he,hb,hon⟩:=Region.waitsFor_spec h1;have:o'=o:=Option.some.inj (ho'.symm.trans (by simpa using ho));subst this;rw [←hon];exact haft e he hb
 have txt_in:∀ {i j:Nat} {q:Oper} {t:Nat},j < i→i≤n→l[j]? = some q→q.dst=some t→lkp (d3_ st ((l.take n).take i) (rs.take i)).s t=rs.getD j .any:=fun {i j q t} hj hi hq ht=>
  r3_ ((l.take n).take i) (rs.take i) st t j q (rs.getD j .any) (h4_ _ _ hd') (by rw [List.getElem?_take_of_lt hj];exact hat (by omega) hq) (by rw [List.getElem?_take_of_lt hj];exact hrs (by omega)) ht
 have txt_out:∀ {i t:Nat},(∀ j q,j < n→l[j]? = some q→q.dst≠some t)→lkp (d3_ st ((l.take n).take i) (rs.take i)).s t=lkp st.s t:=fun {i t} ho=>
  p3_ _ _ _ _ fun q hq he=>by
   obtain ⟨j,hj⟩:=List.mem_iff_getElem?.1 (List.mem_of_mem_take hq);obtain ⟨h1,h2⟩:=hta hj;exact ho j q h1 h2 he
 have hfull:d3_ st (l.take n) rs=d3_ st ((l.take n).take n) (rs.take n):=by
  rw [List.take_of_length_le (l:=l.take n) (by rw [hlen];exact Nat.le_refl _),List.take_of_length_le (l:=rs) (by omega)]
 have hids:∀ {j:Nat} {q:Oper} {d:Nat},j < n→isA A j=false→l[j]? = some q→q.dst=some d→g5_ st.h.length 5 (rs.getD j .any)=true:=fun {j q d} hj hc hq hqd=>
  (S j q _ (by rw [Nat.zero_add];exact hc) (hat hj hq) (hrs hj)).2 d hqd
 have hany:∀ {j:Nat} {q:Oper},j < n→isA A j=true→l[j]? = some q→rs.getD j .any = .any:=fun {j q} hj hc hq=>by
  have h1:=hany0 j q (by rw [Nat.zero_add];exact hc) (hat hj hq);rw [hrs hj] at h1;exact Option.some.inj h1
 refine wp_region_any hm ?_;refine o3_ (Inv:=fun listed a w=>HeadInv .any l.toArray n listed∧∃ (p:Pl) (s:List (Nat×AV)),Rel M0 w0 N p ⟨s,st.h++l7_ A fun i=>listed.getD i false⟩ a w ∧
   (∀ (j:Nat) (q:Oper) (d:Nat),j < n→isA A j=false→listed.getD j false=true→l[j]? = some q→q.dst=some d→lkp s d=rs.getD j .any) ∧
   (∀ t,(∀ j q,j < n→l[j]? = some q→q.dst≠some t)→lkp s t=lkp st.s t)∧(∀ (j:Nat) (q:Slot),A[j]? = some q→listed.getD q.ai false=true→lkp s q.d = .ref (st.h.length+j) 0) ∧
   (∀ t,g5_ st.h.length 5 (lkp s t)=true∨∃ (j:Nat) (q:Slot),A[j]? = some q∧listed.getD q.ai false=true∧lkp s t = .ref (st.h.length+j) 0)) hB (fun _ _ _ inv=>inv.1) ?_ ?_ _ _ _ _ ?_ (by simp)
 ·rintro listed a w i o ⟨head,p,s,R,S1,S2,S3,S4⟩ hi hin ho hiu;have ho':l[i]? = some o:=by simpa using ho
  obtain ⟨_,o2,ho2,hdone⟩:=mem_ready.1 hi;have:o2=o:=Option.some.inj (ho2.symm.trans ho);subst this;have hisz:i < listed.size:=by rw [head.size];simpa using (by omega:i < l.length)
  have hself:(listed.setIfInBounds i true).getD i false=true:=by simp [hisz]
  have hoth:∀ {j:Nat},i≠j→(listed.setIfInBounds i true).getD j false=listed.getD j false:=fun hne=>getD_set_ne false hne;have hwait:∀ j,Region.waitsFor .any l.toArray i j=true→listed.getD j false=true:=by
   intro j hj;obtain ⟨o3,ho3,e,he,hb,hon⟩:=Region.waitsFor_spec hj;have:o3=o2:=Option.some.inj (ho3.symm.trans ho);subst this;rw [←hon];exact hdone e he hb
  have hop:∀ {k:Nat},i≤k→k≤n→∀ t∈o2.looksAt l.toArray,lkp (d3_ st ((l.take n).take k) (rs.take k)).s t = .any∨(lkp (d3_ st ((l.take n).take k) (rs.take k)).s t=lkp s t∧g5_ st.h.length 5 (lkp s t)=true):=fun {k} hik hkn t ht=>by
   by_cases hex:∃ (j:Nat) (q:Oper),j < n∧l[j]? = some q∧q.dst=some t
   ·obtain ⟨j,q,hj,hq,hqd⟩:=hex;obtain ⟨h1,h2⟩:=hlk i hin o2 ho' t ht j hj q hq hqd;rw [txt_in (by omega) hkn hq hqd];cases hc:isA A j
    ·have:=S1 j q t hj hc (hwait j h1) hq hqd;exact .inr ⟨this.symm,by rw [this];exact hids hj hc hq hqd⟩
    ·exact .inl (hany hj hc hq)
   ·have hno:∀ j q,j < n→l[j]? = some q→q.dst≠some t:=fun j q hj hq he=>hex ⟨j,q,hj,hq,he⟩;rw [txt_out hno,S2 t hno];exact .inr ⟨rfl,a4l hs t⟩
  have hnot:∀ {j:Nat} {q:Oper} {d d':Nat},j < n→j≠i→l[j]? = some q→q.dst=some d→o2.dst=some d'→d'≠d:=fun {j q d d'} hj hji hq hqd hd2 he=>by
   subst he;exact hji (k1_ hd' (hat hj hq) (hat hin ho') hqd hd2)
  cases hci:isA A i
  ·obtain ⟨hstep,hidr⟩:=S i o2 (rs.getD i .any) (by rw [Nat.zero_add];exact hci) (hat hin ho') (hrs hin);have hsame:(l7_ A fun i=>listed.getD i false)=l7_ A fun j=>(listed.setIfInBounds i true).getD j false:=b2m fun j hj=>by
    have hne:i≠j:=fun e=>by rw [←e,hci] at hj;cases hj
    exact (hoth hne).symm
   have hai:∀ {j:Nat} {q:Slot},A[j]? = some q→i≠q.ai:=fun {j q} hq e=>by
    have:isA A i=true:=List.any_eq_true.2 ⟨q,List.mem_of_getElem? hq,by simp [e]⟩;rw [hci] at this;cases this
   have fin:∀ v w',V1 w' (Mof M0 (st.h++l7_ A fun i=>listed.getD i false) p) st.h p (rs.getD i .any) v→Below w.heap.size w w'→(fun listed a w=>HeadInv .any l.toArray n listed∧∃ (p:Pl) (s:List (Nat×AV)),Rel M0 w0 N p ⟨s,st.h++l7_ A fun i=>listed.getD i false⟩ a w ∧
     (∀ (j:Nat) (q:Oper) (d:Nat),j < n→isA A j=false→listed.getD j false=true→l[j]? = some q→q.dst=some d→lkp s d=rs.getD j .any) ∧
     (∀ t,(∀ j q,j < n→l[j]? = some q→q.dst≠some t)→lkp s t=lkp st.s t)∧(∀ (j:Nat) (q:Slot),A[j]? = some q→listed.getD q.ai false=true→lkp s q.d = .ref (st.h.length+j) 0) ∧
     (∀ t,g5_ st.h.length 5 (lkp s t)=true∨∃ (j:Nat) (q:Slot),A[j]? = some q∧listed.getD q.ai false=true∧lkp s t = .ref (st.h.length+j) 0)) (listed.setIfInBounds i true) (a.put o2.dst v) w':=fun v w' hv hb=>by
    have R':=(R.later hb).put (d:=o2.dst) (e9_ (List.all_eq_true.1 hN o2 (List.mem_of_getElem? ho'))) (V1.long hv);have hes:(VS.put ⟨s,st.h++l7_ A fun i=>listed.getD i false⟩ o2.dst (rs.getD i .any))=⟨(VS.put ⟨s,st.h++l7_ A fun i=>listed.getD i false⟩ o2.dst (rs.getD i .any)).s,st.h++l7_ A fun j=>(listed.setIfInBounds i true).getD j false⟩:=by rw [←hsame];cases o2.dst<;>rfl
    rw [hes] at R';refine ⟨head.set hi hin,p,_,R',fun j q d hj hjc hl hq hqd=>?_,fun t ht=>?_,fun j q hq hl=>?_,fun t=>?_⟩
    ·rw [g1_];by_cases hji:j=i
     ·subst hji;have:q=o2:=Option.some.inj (hq.symm.trans ho');subst this;rw [if_pos hqd]
     ·rw [if_neg fun e=>hnot hj hji hq hqd e rfl];rw [hoth (Ne.symm hji)] at hl;exact S1 j q d hj hjc hl hq hqd
    ·rw [g1_,if_neg (ht i o2 hin ho')];exact S2 t ht
    ·obtain ⟨⟨h1,o3,t3,h2,_,h3,_⟩,_⟩:=hpt hq;rw [g1_,if_neg fun e=>hnot h1 (Ne.symm (hai hq)) h2 h3 e rfl];rw [hoth (hai hq)] at hl;exact S3 j q hq hl
    ·rw [g1_];by_cases hdt:o2.dst=some t
     ·rw [if_pos hdt];exact .inl (hidr t hdt)
     ·rw [if_neg hdt];rcases S4 t with h1|⟨j,q,h1,h2,h3⟩
      ·exact .inl h1
      ·exact .inr ⟨j,q,h1,by rw [hoth (hai h1)];exact h2,h3⟩
   have hgive:h6_ P st.h (ev (d3_ st ((l.take n).take i) (rs.take i))) o2.op (rs.getD i .any)→gives P o2 a w fun v w''=>V1 w'' (Mof M0 (st.h++l7_ A fun i=>listed.getD i false) p) st.h p (rs.getD i .any) v∧Below w.heap.size w w'':=by
    intro hg;refine o2_ (R.short_objs hh) R.mok R.h0 R.glob (fun _ _ hb=>.inl hb) (fun x hx=>?_) hg;cases x with
    | tmp t=>
     show V1 _ _ _ _ (lkp (d3_ st ((l.take n).take i) (rs.take i)).s t) _;rcases hop (Nat.le_refl i) (by omega) t (List.mem_append_left _ (List.mem_filterMap.2 ⟨.tmp t,by simpa using hx,rfl⟩)) with h1|⟨h1,h2⟩
     ·rw [h1];exact .base _ _ (.any _)
     ·rw [h1];exact V1.short (R.slots t) h2
    | const v=>exact .base _ _ (.lit v)
    | global g=>exact .base _ _ (R.evalG g)
    | func f=>exact .base _ _ (.lit _)
   have hy:=fun j=>i0_ (ops:=l) (j:=j) R hN;have hguard:∀ (j:Nat) (want:Bool) (v:Value),o2.guard=some (j,want)→d7_ l (d3_ st ((l.take n).take i) (rs.take i)) j = .lit v→d7_ l ⟨s,st.h++l7_ A fun i=>listed.getD i false⟩ j = .lit v:=by
    intro j want v hg hv;unfold d7_ at hv ⊢;cases hj:l[j]? with
    | none=>simpa [hj] using hv
    | some q=>
     cases hq:q.dst with
     | none=>simpa [hj,hq] using hv
     | some d=>
      have hmem:d∈o2.looksAt l.toArray:=by
       unfold Oper.looksAt;refine List.mem_append_right _ ?_;simp [hg,hj,hq]
      simp only [hj,hq] at hv ⊢;rcases hop (Nat.le_refl i) (by omega) d hmem with h1|⟨h1,_⟩
      ·rw [h1] at hv;cases hv
      ·rw [←h1];exact hv
   unfold wpOp;simp only [ho];unfold o0_ at hstep;split at hstep
   ·rename_i hg;rw [if_pos (by simp [Region.wanted,hg])];rw [g7_] at hstep;exact Or.inl (e1_ (hgive hstep) rfl fun v w' hv=>fin v w' hv.1 hv.2)
   ·rename_i j want hg;split at hstep
    ·rename_i b hb;have hyb:=(hy j).1 b (hguard j want _ hg hb);split at hstep
     ·rename_i hw;subst hw;rw [if_pos (by simp [Region.wanted,hg,hyb])];rw [g7_] at hstep;exact Or.inl (e1_ (hgive hstep) rfl fun v w' hv=>fin v w' hv.1 hv.2)
     ·rename_i hw;rw [if_neg (by simpa [Region.wanted,hg,hyb] using hw)];exact fin undef w (by rw [hstep];exact .base _ _ (.lit _)) (Below.refl _ _)
    ·rename_i us hb;have hyb:=(hy j).2 us (hguard j want _ hg hb);rw [if_neg (by simp [Region.wanted,hg,hyb])];exact fin undef w (by rw [hstep];exact .base _ _ (.lit _)) (Below.refl _ _)
    ·exact hstep.elim
  · -- one that makes or stores
   have hstale:∀ {j j':Nat} {q q':Slot},A[j]? = some q→A[j']? = some q'→q.d=q'.d→j=j':=fun h1 h2 h3=>c4t hnd h1 h2 h3;have hnew:∀ {j:Nat} {x:Option Ob},j < A.length→(∀ k q,A[k]? = some q→k≠j→q.at_ (fun j=>(listed.setIfInBounds i true).getD j false)=q.at_ fun j=>listed.getD j false)→(∀ q,A[j]? = some q→q.at_ (fun j=>(listed.setIfInBounds i true).getD j false)=x) →
     (st.h++l7_ A fun i=>listed.getD i false).set (st.h.length+j) x=st.h++l7_ A fun j=>(listed.setIfInBounds i true).getD j false:=by
    intro j x hj h1 h2;rw [List.set_append_right _ _ (by omega),Nat.add_sub_cancel_left];congr 1;apply List.ext_getElem?;intro k;unfold l7_;by_cases hk:j=k
    ·subst hk;rw [List.getElem?_set_self (by simpa using hj),List.getElem?_map,List.getElem?_eq_getElem hj];simp only [Option.map_some,Option.some.injEq];exact (h2 _ (List.getElem?_eq_getElem hj)).symm
    ·rw [List.getElem?_set_ne hk,List.getElem?_map,List.getElem?_map];cases hq:A[k]? with
     | none=>rfl
     | some q=>simp only [Option.map_some,Option.some.injEq];exact (h1 k q hq (Ne.symm hk)).symm
   obtain ⟨q,hq,hqi⟩:=List.any_eq_true.1 hci;obtain ⟨j,hj⟩:=List.mem_iff_getElem?.1 hq;have hjl:=(List.getElem?_eq_some_iff.1 hj).1;obtain ⟨⟨hain,o3,t3,hl3,hg3,hd3,hop3⟩,hst⟩:=hpt hj;have hcurr:(st.h++l7_ A fun i=>listed.getD i false)[st.h.length+j]? = some (q.at_ fun i=>listed.getD i false):=by
    rw [List.getElem?_append_right (by omega),Nat.add_sub_cancel_left];simp [l7_,hj]
   have hstw:∀ {k:Nat} {r:Slot} {s':Nat},A[k]? = some r→r.si=some s'→Region.waitsFor .any l.toArray s' r.ai=true:=fun {k r s'} hr hs'=>by
    obtain ⟨⟨a1,o4,t4,a2,a3,a4,a5⟩,a6⟩:=hpt hr;obtain ⟨b1,o5,t5,y5,b2,b3,b4,b5⟩:=a6 s' hs';refine (hlk s' b1 o5 b2 r.d ?_ r.ai a1 o4 a2 a4).1;unfold Oper.looksAt;exact List.mem_append_left _ (List.mem_filterMap.2 ⟨.tmp r.d,by rw [b5];simp [Op.operands],rfl⟩)
   by_cases hqa:q.ai=i
   ·subst hqa;have:o3=o2:=Option.some.inj (hl3.symm.trans ho');subst this;have hsk1:=(a1s hsk hj).1;rw [hl3] at hsk1;simp only [hop3] at hsk1;obtain ⟨ti,hti,hz⟩:=hsk1;have hiu':=getD_both hiu;have hnone:(q.at_ fun i=>listed.getD i false)=none:=by simp only [Slot.at_,hiu',Bool.false_eq_true,if_false]
    rw [hnone] at hcurr;have hfor:∀ {k:Nat} {r:Slot} {s':Nat},A[k]? = some r→r.si=some s'→q.ai≠s':=fun {k r s'} hr hs' e=>by
     obtain ⟨_,a6⟩:=hpt hr;obtain ⟨b1,o5,t5,y5,b2,b3,b4,b5⟩:=a6 s' hs';rw [←e,hl3] at b2;obtain rfl:=Option.some.inj b2;rw [hd3] at b4;cases b4
    have hnsl:∀ t,f5_ (st.h.length+j) 5 (lkp s t)=true:=fun t=>by
     rcases S4 t with h1|⟨k,r,h1,h2,h3⟩
     ·exact p4_ (by omega) 5 _ h1
     ·rw [h3];have hkj:k≠j:=fun e=>by
       subst e;rw [hj] at h1;obtain rfl:=Option.some.inj h1;rw [hiu'] at h2;cases h2
      simp only [f5_,bne_iff_ne,ne_eq];omega
    have hbox:∀ (k:Nat) (cs:List AV),(st.h++l7_ A fun i=>listed.getD i false)[k]? = some (some (Ob.box cs))→∀ c∈cs,f5_ (st.h.length+j) 5 c=true:=fun k cs hk c hc=>by
     rcases Nat.lt_or_ge k st.h.length with hlt|hge
     ·rw [List.getElem?_append_left hlt] at hk;exact p4_ (by omega) 5 _ (List.all_eq_true.1 (b0k hh k _ hk) c hc)
     ·rw [List.getElem?_append_right hge] at hk;unfold l7_ at hk;rw [List.getElem?_map,Option.map_eq_some_iff] at hk;obtain ⟨r,hr,he⟩:=hk;have hlit:∀ c∈r.z.map AV.lit,f5_ (st.h.length+j) 5 c=true:=fun c hc=>by
       obtain ⟨z,_,rfl⟩:=List.mem_map.1 hc;rfl
      unfold Slot.at_ at he;split at he
      ·simp only [Option.some.injEq,Ob.box.injEq] at he;subst he;split at hc
       ·rename_i s' hs';split at hc
        ·have hk2:=(a1s hsk hr).2;rw [hs'] at hk2;obtain ⟨b1,o5,t5,y5,b2,b3,b4,b5⟩:=(hpt hr).2 s' hs';simp only [b2,b5] at hk2;obtain ⟨_,_,_,_,_,_,_,hall⟩:=hk2;have:=List.all_eq_true.1 hall c hc;rw [g7_] at this;exact p4_ (by omega) 5 _ this
        ·exact hlit c hc
       ·exact hlit c hc
      ·cases he
    obtain ⟨z,hzz,hz1,hzr⟩:=t6_ hti;have hc:Cells w (Mof M0 (st.h++l7_ A fun i=>listed.getD i false) p) (st.h++l7_ A fun i=>listed.getD i false) p (q.z.map .lit) z.cells.toList:=by rw [hzz,←hz];exact Cells.of_lits _ hz1
    have R':=R.fill (d:=q.d) (e9_ (List.all_eq_true.1 hN o3 (List.mem_of_getElem? hl3)) q.d hd3) hcurr hnsl hbox hc t3;simp only at R';rw [hnew hjl (fun k r hr hkj=>?_) (fun r hr=>?_)] at R'
    ·unfold wpOp;simp only [ho];rw [if_pos (by simp [Region.wanted,hg3])];refine Or.inl ?_;unfold Oper.wp;have hrun:(execOp a.eval o3).run P w = .ok (.value (.pointer (some ⟨w.heap.size,0,none⟩))) { w with heap:=w.heap.push (.cells z.cells.toList.toArray t3) }:=by
      simp [execOp,hop3,Instr.alloc,hzr,newVar,newRow]
     rw [hrun];simp only [Oper.upon];rw [hd3];refine ⟨head.set hi hin,_,_,R',fun k r d hk hkc hl hr hrd=>?_,fun t ht=>?_,fun k r hr hl=>?_,fun t=>?_⟩
     ·have hki:k≠q.ai:=fun e=>by rw [e,hci] at hkc;cases hkc
      simp only [lkp];rw [if_neg (hnot hk hki hr hrd hd3)];rw [hoth (Ne.symm hki)] at hl;exact S1 k r d hk hkc hl hr hrd
     ·simp only [lkp];rw [if_neg fun e=>ht q.ai o3 hin hl3 (by rw [hd3,e])];exact S2 t ht
     ·simp only [lkp];by_cases he:q.d=r.d
      ·rw [if_pos he,hstale hj hr he]
      ·rw [if_neg he];refine S3 k r hr ?_;rw [hoth fun e=>he ?_] at hl
       ·exact hl
       ·obtain ⟨⟨_,o4,_,a2,_,a4,_⟩,_⟩:=hpt hr;rw [←e,hl3] at a2;obtain rfl:=Option.some.inj a2;rw [hd3] at a4;exact Option.some.inj a4
     ·simp only [lkp];by_cases he:q.d=t
      ·rw [if_pos he];exact .inr ⟨j,q,hj,hself,rfl⟩
      ·rw [if_neg he];rcases S4 t with h1|⟨k,r,h1,h2,h3⟩
       ·exact .inl h1
       ·refine .inr ⟨k,r,h1,?_,h3⟩;by_cases e:q.ai=r.ai
        ·rw [←e];exact hself
        ·rw [hoth e];exact h2
    ·have hne:q.ai≠r.ai:=fun e=>by
      obtain ⟨⟨_,o4,_,a2,_,a4,_⟩,_⟩:=hpt hr;rw [←e,hl3] at a2;obtain rfl:=Option.some.inj a2;rw [hd3] at a4;exact hkj (hstale hr hj (Option.some.inj a4).symm)
     simp only [Slot.at_,hoth hne];cases hs':r.si with
     | none=>rfl
     | some s'=>simp only [hoth (hfor hr hs')]
    ·rw [hj] at hr;obtain rfl:=Option.some.inj hr;simp only [Slot.at_,hself,if_true];cases hs':q.si with
     | none=>rfl
     | some s'=>
      simp only [hoth (hfor hj hs')];rw [if_neg fun hl=>?_];obtain ⟨o6,ho6,e,he,hb,hon⟩:=Region.waitsFor_spec (hstw hj hs');have:=head.closed s' o6 ho6 hl e he hb;rw [hon,hiu'] at this;cases this
   ·have hsi:q.si=some i:=by simpa [hqa] using hqi
    obtain ⟨b1,o5,t5,y5,b2,b3,b4,b5⟩:=hst i hsi;have:o5=o2:=Option.some.inj (b2.symm.trans ho');subst this;have hk2:=(a1s hsk hj).2;rw [hsi] at hk2;simp only [b2,b5] at hk2;obtain ⟨ti,hti,hne,h1k,hck,hcl,hzl,hids2⟩:=hk2;have hal:listed.getD q.ai false=true:=hwait _ (hstw hj hsi);have hey:ev (d3_ st (l.take n) rs) y5=ev ⟨s,st.h++l7_ A fun i=>listed.getD i false⟩ y5:=by
     cases y5 with
     | tmp t=>
      have ht:t∈o5.looksAt l.toArray:=by
       unfold Oper.looksAt;exact List.mem_append_left _ (List.mem_filterMap.2 ⟨.tmp t,by rw [b5];simp [Op.operands],rfl⟩)
      show lkp _ t=lkp _ t;rcases hop (k:=n) (by omega) (Nat.le_refl _) t ht with h1|⟨h1,_⟩
      ·rw [←hfull] at h1;exact absurd h1 hne
      ·rw [←hfull] at h1;exact h1
     | const v=>rfl
     | global g=>rfl
     | func f=>rfl
    rw [hey] at h1k hck;have hcur2:(q.at_ fun i=>listed.getD i false)=some (.box (q.z.map .lit)):=by
     have hiu':=getD_both hiu;simp only [Slot.at_,hal,hsi,hiu',if_true,Bool.false_eq_true,if_false]
    rw [hcur2] at hcurr;have hx:ev ⟨s,st.h++l7_ A fun i=>listed.getD i false⟩ (.tmp q.d) = .ref (st.h.length+j) 0:=S3 j q hj hal;obtain ⟨w',hrun,R'⟩:=a5x (y:=y5) R hti hx hcurr h1k (by rw [hck];exact hcl) (by rw [List.length_map];omega);rw [hck,c8z (by rw [List.length_map];omega)] at R';have hnst:∀ {k:Nat} {r:Slot},A[k]? = some r→i≠r.ai:=fun {k r} hr e=>by
     obtain ⟨⟨_,o4,_,a2,_,a4,_⟩,_⟩:=hpt hr;rw [←e,b2] at a2;obtain rfl:=Option.some.inj a2;rw [b4] at a4;cases a4
    simp only at R';rw [hnew hjl (fun k r hr hkj=>?_) (fun r hr=>?_)] at R'
    ·unfold wpOp;simp only [ho];rw [if_pos (by simp [Region.wanted,b3])];refine Or.inl ?_;have hput:∀ v,a.put o5.dst v=a:=fun v=>by rw [b4];rfl
     have fin:∀ v,(fun a w=>HeadInv .any l.toArray n (listed.setIfInBounds i true)∧∃ (p:Pl) (s:List (Nat×AV)),Rel M0 w0 N p ⟨s,st.h++l7_ A fun j=>(listed.setIfInBounds i true).getD j false⟩ a w ∧
       (∀ (j:Nat) (q:Oper) (d:Nat),j < n→isA A j=false→(listed.setIfInBounds i true).getD j false=true→l[j]? = some q→q.dst=some d→lkp s d=rs.getD j .any) ∧
       (∀ t,(∀ j q,j < n→l[j]? = some q→q.dst≠some t)→lkp s t=lkp st.s t)∧(∀ (j:Nat) (q:Slot),A[j]? = some q→(listed.setIfInBounds i true).getD q.ai false=true→lkp s q.d = .ref (st.h.length+j) 0) ∧
       (∀ t,g5_ st.h.length 5 (lkp s t)=true∨∃ (j:Nat) (q:Slot),A[j]? = some q∧(listed.setIfInBounds i true).getD q.ai false=true∧lkp s t = .ref (st.h.length+j) 0)) (a.put o5.dst v) w':=fun v=>by
      rw [hput];refine ⟨head.set hi hin,p,s,R',fun k r d hk hkc hl hr hrd=>?_,S2,fun k r hr hl=>?_,fun t=>?_⟩
      ·have hki:k≠i:=fun e=>by rw [e,hci] at hkc;cases hkc
       rw [hoth (Ne.symm hki)] at hl;exact S1 k r d hk hkc hl hr hrd
      ·rw [hoth (hnst hr)] at hl;exact S3 k r hr hl
      ·rcases S4 t with h1|⟨k,r,h1,h2,h3⟩
       ·exact .inl h1
       ·exact .inr ⟨k,r,h1,by rw [hoth (hnst h1)];exact h2,h3⟩
     unfold Oper.wp;have hrun2:(execOp a.eval o5).run P w = .ok .skip w'∨∃ v,(execOp a.eval o5).run P w = .ok (.value v) w':=by
      obtain ⟨dst,op,ty,pos,after,guard⟩:=o5;simp only at b5;subst b5;simp [execOp,hrun]
     rcases hrun2 with h1|⟨v,h1⟩
     ·rw [h1];exact fin _
     ·rw [h1];exact fin _
    ·simp only [Slot.at_,hoth (hnst hr)];cases hs':r.si with
     | none=>rfl
     | some s'=>
      have hne:i≠s':=fun e=>by
       obtain ⟨_,o6,t6,y6,c2,_,_,c5⟩:=(hpt hr).2 s' hs';rw [←e,b2] at c2;obtain rfl:=Option.some.inj c2;rw [b5] at c5;injection c5 with _ c6 _
       injection c6 with c6
       exact hkj (hstale hr hj c6.symm)
      simp only [hoth hne]
    ·rw [hj] at hr;obtain rfl:=Option.some.inj hr;simp only [Slot.at_,hoth (hnst hj),hal,hsi,hself,if_true]
 ·rintro listed a w ⟨head,p,s,R,S1,S2,S3,S4⟩ hall;have hin:∀ i,isA A i=true→i < n:=fun i hi=>by
   obtain ⟨q,hq,hqi⟩:=List.any_eq_true.1 hi;obtain ⟨⟨h1,_⟩,h2⟩:=a6d (List.all_eq_true.1 hAB q hq);simp only [Bool.or_eq_true,beq_iff_eq] at hqi;rcases hqi with hqi|hqi
   ·omega
   ·exact (h2 i hqi).1
  rw [c1j A _ fun i hi=>hall i (hin i hi)] at R;rw [g7_] at hK;have R':=R.weak (s':=a2a st.h.length A++(d3_ st (l.take n) rs).s) fun t=>by
   show lkp (a2a st.h.length A++(d3_ st (l.take n) rs).s) t=lkp s t∨_;rcases a4k (a2a st.h.length A) (d3_ st (l.take n) rs).s t with h1|h1
   ·rw [h1];by_cases hne:lkp (a2a st.h.length A) t = .any
    ·exact .inr hne
    ·obtain ⟨j,q,g1,g2,g3⟩:=b0r hne;rw [g3,←g2];exact .inl (S3 j q g1 (hall _ (hpt g1).1.1)).symm
   ·rw [h1,hfull];by_cases hex:∃ (j:Nat) (q:Oper),j < n∧l[j]? = some q∧q.dst=some t
    ·obtain ⟨j,q,hj,hq,hqd⟩:=hex;rw [txt_in hj (Nat.le_refl _) hq hqd];cases hc:isA A j
     ·exact .inl (S1 j q t hj hc (hall j hj) hq hqd).symm
     ·exact .inr (hany hj hc hq)
    ·have hno:∀ j q,j < n→l[j]? = some q→q.dst≠some t:=fun j q hj hq he=>hex ⟨j,q,hj,hq,he⟩;rw [txt_out hno,S2 t hno];exact .inl rfl
  have hNd:(l.drop n).all (r6_ N)=true:=List.all_eq_true.2 fun q hq=>List.all_eq_true.1 hN q (List.mem_of_mem_drop hq);exact t8_ (ow:=ow) hN (fun p st a w R h=>⟨st,p,R,h⟩) (l.drop n) p _ _ w hNd R' hK
 ·have hrep:(l7_ A fun i=>(Array.replicate l.toArray.size false).getD i false)=List.replicate A.length none:=by
   apply List.ext_getElem?;intro k;unfold l7_;rw [List.getElem?_map,List.getElem?_replicate];cases hq:A[k]? with
   | none=>
    have:=List.getElem?_eq_none_iff.1 hq;rw [if_neg (by omega)];rfl
   | some q=>
    have:=(List.getElem?_eq_some_iff.1 hq).1;rw [if_pos this];simp only [Option.map_some,Slot.at_,getD_replicate_false];rfl
  refine ⟨⟨by simp,fun j oj _ hl=>(by rw [getD_replicate_false] at hl;cases hl),fun t _ ht=>getD_in (by simpa using ht) (getD_replicate_false _ _)⟩,p0,st.s,?_,fun j q d _ _ hl=>(by rw [getD_replicate_false] at hl;cases hl),fun _ _=>rfl,fun j q _ hl=>(by rw [getD_replicate_false] at hl;cases hl),fun t=>.inl (a4l hs t)⟩;rw [hrep];exact (R0.later (Below.refl _ _).drew).pad A.length
end
section
variable {P:Program} {ow:List Nat} {ops l:List Oper} {o:Oper} {T:VS} {K:VS→Prop} {isC:Nat→Bool} {i:Nat}
theorem a2b (h:K T) : p5_ P ops isC [] i T K:=h
theorem y5_ (hc:isC i=true) (h:p5_ P ops isC l (i+1) (T.put o.dst .any) K) : p5_ P ops isC (o::l) i T K:=by
 unfold p5_;rw [if_pos hc];exact h
theorem y6_ (hc:isC i=false) (h:∀ X:VS→Prop,(∀ T',c0t T.h.length o.dst T'.s=true→p5_ P ops isC l (i+1) T' K→X T')→c4e P ops o T X) : p5_ P ops isC (o::l) i T K:=by
 unfold p5_;rw [if_neg (by rw [hc];decide)];refine h _ fun T' hid hT=>⟨fun d hd=>?_,hT⟩
 simpa [c0t,hd] using hid
end
attribute [go_sem] a2a a4q Slot.end_ b4s c8y
def a6e (o:Oper) : Bool:=o.guard.isNone&&(match o.op with | .move _=>true | .assign _=>true | .nilCheck _=>true | .fieldAddr .. => true|_=>false)
section
variable {P:Program} {M0:Nat→Nat→Prop} {w0:Bas} {N:Nm} {p:Pl} {st:VS} {a:Act} {w:World} {Q:Exit→VS→Prop}
theorem a2c {h h':Hp} {E:Operand→AV} {o:Oper} {r:AV} (hl:a6e o=true) (hg:h6_ P h E o.op r) : h6_ P h' E o.op r:=by
 unfold a6e at hl;simp only [Bool.and_eq_true] at hl;have hl:=hl.2;obtain ⟨dst,op,ty,pos,after,guard⟩:=o;simp only at hl hg ⊢;cases op with
 | move x=>exact hg
 | assign x=>exact hg
 | nilCheck x=>exact hg
 | fieldAddr t x f=>exact hg
 | _=>cases hl
theorem b6p {ow:List Nat} {o:Oper} {t:TypeId} {x y:Operand} {T:VS} {s:List (Nat×AV)} {h1:Hp} (hop:o.op = .store t x y) (hx:ev ⟨s,T.h⟩ x=ev T x) (hy:ev ⟨s,T.h⟩ y=ev T y) (ht:n1_ P ow T o=some ⟨T.s,h1⟩) : n1_ P ow ⟨s,T.h⟩ o=some ⟨s,h1⟩:=by
 obtain ⟨dst,op,ty,pos,after,guard⟩:=o;simp only at hop;subst hop;unfold n1_ at ht ⊢;simp only [hx,hy] at ht ⊢;split at ht
 ·split at ht
  ·split at ht
   ·rename_i hc;rw [if_pos hc];simp only [Option.some.injEq,VS.mk.injEq,true_and] at ht;rw [ht]
   ·cases ht
  ·cases ht
 ·split at ht
  ·split at ht
   ·rename_i hc;rw [if_pos hc];simp only [Option.some.injEq,VS.mk.injEq,true_and] at ht;rw [ht]
   ·cases ht
  ·cases ht
 ·cases ht
end
def n8_ (l:List Oper) : Nat→Nat→Nat→Bool
 | 0,_,_=>false
 | f+1,n,i=>Region.waitsFor .any l.toArray n i || (List.range n).any fun j=>Region.waitsFor .any l.toArray n j&&n8_ l f j i
def d2x (l:List Oper) (n:Nat) : Bool:=(List.range n).all fun i=>n8_ l n n i || (match l[i]? with|some o=>a6e o|none=>false)
def a1t (l:List Oper) (n:Nat) : List Nat:=(List.range n).flatMap fun i=>if n8_ l n n i then [] else match l[i]? with|some o=>o.looksAt l.toArray++o.dst.toList|none=>[]
theorem g8_ {l:List Oper} {m:Nat} {listed:Array Bool} (head:HeadInv .any l.toArray m listed) : ∀ (f n i:Nat),(∀ j,Region.waitsFor .any l.toArray n j=true→listed.getD j false=true)→n8_ l f n i=true→listed.getD i false=true
 | 0,_,_,_,h=>by cases h
 | f+1,n,i,hn,h=>by
  rw [n8_,Bool.or_eq_true] at h;rcases h with h|h
  ·exact hn i h
  ·obtain ⟨j,_,hj⟩:=List.any_eq_true.1 h;rw [Bool.and_eq_true] at hj;have hjl:=hn j hj.1;refine g8_ head f j i (fun k hk=>?_) hj.2;obtain ⟨oj,hoj,e,he,hb,hon⟩:=Region.waitsFor_spec hk;have:=head.closed j oj hoj hjl e he hb;rwa [hon] at this
theorem a8b {id:Nat} {v:AV} (h:f5_ id 5 v=true) : purge id v=v:=if_pos h
def pgB (g:Nat) (b:Bool) (v:AV) : AV:=if b then purge g v else v
section
variable {P:Program} {M0:Nat→Nat→Prop} {w0:Bas} {N:Nm} {p:Pl} {st:VS} {a:Act} {w:World} {Q:Exit→VS→Prop}
theorem c1l {ow:List Nat} {o:Oper} {t t':TypeId} {x y:Operand} {T:VS} {s:List (Nat×AV)} {h1:Hp} {d g:Nat} (hop:o.op = .call ⟨.builtin .append,#[x,y],#[t,t']⟩) (hd:o.dst=some d) (hx:ev ⟨s,T.h⟩ x=ev T x) (hy:ev ⟨s,T.h⟩ y=ev T y) (hg:ev T x = .osl g)
  (ht:n1_ P ow T o=some ⟨(d,.osl g)::T.s.map (fun q=>(q.1,purge g q.2)),h1⟩) : n1_ P ow ⟨s,T.h⟩ o=some ⟨(d,.osl g)::s.map (fun q=>(q.1,purge g q.2)),h1⟩:=by
 obtain ⟨dst,op,ty,pos,after,guard⟩:=o;simp only at hop hd;subst hop hd;unfold n1_ at ht ⊢;simp only [hx,hy,hg] at ht ⊢;cases h1':b9_ P t with
 | none=>simp [h1'] at ht
 | some ti=>
  cases h2:ev T y with
  | sl sz es=>
   simp only [h1',h2] at ht ⊢;cases h3:T.h[g]? with
   | none=>simp [h3] at ht
   | some oob=>
    cases oob with
    | none=>simp [h3] at ht
    | some ob=>
     cases ob with
     | arr e sz' nl es'=>
      simp only [h3] at ht ⊢;cases h4:b9_ P ti.elem with
      | none=>simp [h4] at ht
      | some te=>
       simp only [h4] at ht ⊢;split at ht
       ·rename_i hc;rw [if_pos hc];simp only [Option.some.injEq,VS.mk.injEq,true_and] at ht ⊢;exact ht
       ·cases ht
     | _=>simp [h3] at ht
  | _=>simp [h1',h2] at ht
theorem a2o {id:Nat} {l:List Oper} (n:Nat) (ow:List Nat) (g:Nat) (ls:List Nat) (hm:P.follows .mixedOrders=true) (hB:Region.specB l.toArray (n+1)=true) (hL:d2x l n=true) (hls:a1t l n=ls) {so:Oper} {d:Nat} {ty ty':TypeId} {x y:Operand} (hso:l[n]? = some so) (hsg:so.guard=none∧so.dst=some d) (hsop:so.op = .call ⟨.builtin .append,#[x,y],#[ty,ty']⟩)
  (h:a4i P l (l.take n) st fun T=>∃ h1,ev T x = .osl g∧n1_ P ow T so=some ⟨(d,.osl g)::T.s.map (fun q=>(q.1,purge g q.2)),h1⟩∧(∀ t∈ls,f5_ g 5 (lkp T.s t)=true)∧z5_ P ow l (l.drop (n+1)) ⟨(d,.osl g)::T.s.map (fun q=>(q.1,purge g q.2)),h1⟩ (Q .normal)) : VWp P M0 w0 N (.region id l.toArray true) Q st:=fun hCd p0 a0 wst R0=>by
 have hN:l.all (r6_ N)=true:=by simpa [n3_] using hCd
 obtain ⟨rs,hrl,⟨h1,hevx,htail,hpl,hK⟩,S⟩:=m2_ _ _ h;have hB':=hB;simp only [Region.specB,Bool.and_eq_true,decide_eq_true_eq] at hB';obtain ⟨⟨⟨⟨⟨⟨_,hnl⟩,_⟩,_⟩,hd⟩,hlook⟩,_⟩:=hB';have hnl':n+1 < l.length:=by simpa using hnl
 have hd':i4_ (l.take (n+1))=true:=by simpa using hd
 have hdn:i4_ (l.take n)=true:=by
  have:=h4_ (l.take (n+1)) n hd';rwa [List.take_take,Nat.min_eq_left (Nat.le_succ n)] at this
 have hlen:(l.take n).length=n:=by simp;omega
 rw [hlen] at hrl;have hat:∀ {i:Nat} {o:Oper},i < n→l[i]? = some o→(l.take n)[i]? = some o:=fun {i o} hi ho=>by rw [List.getElem?_take_of_lt hi];exact ho
 have hat1:∀ {i:Nat} {o:Oper},i < n+1→l[i]? = some o→(l.take (n+1))[i]? = some o:=fun {i o} hi ho=>by rw [List.getElem?_take_of_lt hi];exact ho
 have hta:∀ {i:Nat} {o:Oper},(l.take n)[i]? = some o→i < n∧l[i]? = some o:=fun {i o} ho=>by
  have hi:i < n:=by have:=(List.getElem?_eq_some_iff.1 ho).1;omega
  rw [List.getElem?_take_of_lt hi] at ho;exact ⟨hi,ho⟩
 have hrs:∀ {i:Nat},i < n→rs[i]? = some (rs.getD i .any):=fun {i} hi=>by simp [List.getD,show i < rs.length by omega]
 have hlk:∀ i,i < n+1→∀ o,l[i]? = some o→∀ t∈o.looksAt l.toArray,∀ j,j < n+1→∀ q,l[j]? = some q→q.dst=some t→Region.waitsFor .any l.toArray i j=true∧j < i:=by
  intro i hi o ho;have h:=List.all_eq_true.1 hlook i (List.mem_range.2 hi);simp only [List.getElem?_toArray,ho,Bool.and_eq_true] at h;have haft:∀ e∈o.after,Region.binds .any e=true→e.on < i:=fun e he hb=>by
   have h1:=Array.all_eq_true'.1 h.2 e he;simp only [hb,Bool.not_true,Bool.false_or,decide_eq_true_eq] at h1;exact h1
  intro t ht j hj q hq hqd;have h1:=List.all_eq_true.1 (List.all_eq_true.1 h.1 t ht) j (List.mem_range.2 hj);simp only [hq,Option.bind_some,hqd,bne_self_eq_false,Bool.false_or] at h1;refine ⟨h1,?_⟩;obtain ⟨o',ho',e,he,hb,hon⟩:=Region.waitsFor_spec h1;have:o'=o:=Option.some.inj (ho'.symm.trans (by simpa using ho));subst this;rw [←hon];exact haft e he hb
 have txt_in:∀ {i j:Nat} {q:Oper} {t:Nat},j < i→i≤n→l[j]? = some q→q.dst=some t→lkp (d3_ st ((l.take n).take i) (rs.take i)).s t=rs.getD j .any:=fun {i j q t} hj hi hq ht=>
  r3_ ((l.take n).take i) (rs.take i) st t j q (rs.getD j .any) (h4_ _ _ hdn) (by rw [List.getElem?_take_of_lt hj];exact hat (by omega) hq) (by rw [List.getElem?_take_of_lt hj];exact hrs (by omega)) ht
 have txt_out:∀ {i t:Nat},(∀ j q,j < n→l[j]? = some q→q.dst≠some t)→lkp (d3_ st ((l.take n).take i) (rs.take i)).s t=lkp st.s t:=fun {i t} ho=>
  p3_ _ _ _ _ fun q hq he=>by
   obtain ⟨j,hj⟩:=List.mem_iff_getElem?.1 (List.mem_of_mem_take hq);obtain ⟨h1,h2⟩:=hta hj;exact ho j q h1 h2 he
 have hfull:d3_ st (l.take n) rs=d3_ st ((l.take n).take n) (rs.take n):=by
  rw [List.take_of_length_le (l:=l.take n) (by rw [hlen];exact Nat.le_refl _),List.take_of_length_le (l:=rs) (by omega)]
 refine wp_region_any hm ?_;have hdn':∀ {j:Nat} {q:Oper} {d':Nat},j < n→l[j]? = some q→q.dst=some d'→d'≠d:=fun {j q d'} hj hq hqd he=>by
  subst he;have:j=n:=k1_ hd' (hat1 (by omega) hq) (hat1 (Nat.lt_succ_self n) hso) hqd hsg.2;omega
 have hfullT:∀ t,lkp (d3_ st (l.take n) rs).s t=lkp (d3_ st ((l.take n).take n) (rs.take n)).s t:=fun t=>by rw [←hfull]
 have hlateno:∀ {i:Nat} {o:Oper} {t:Nat},i < n→l[i]? = some o→n8_ l n n i=false→t∈o.looksAt l.toArray++o.dst.toList→f5_ g 5 (lkp (d3_ st ((l.take n).take n) (rs.take n)).s t)=true:=fun {i o t} hi ho hnb ht=>by
  rw [←hfull];refine hpl t ?_;rw [←hls];unfold a1t;refine List.mem_flatMap.2 ⟨i,List.mem_range.2 hi,?_⟩;rw [hnb,ho];simpa using ht
 refine o3_ (Inv:=fun listed a w=>HeadInv .any l.toArray (n+1) listed∧∃ (p:Pl) (s:List (Nat×AV)),Rel M0 w0 N p ⟨s,if listed.getD n false=true then h1 else st.h⟩ a w ∧
   (∀ (j:Nat) (q:Oper) (d:Nat),j < n→listed.getD j false=true→l[j]? = some q→q.dst=some d→lkp s d=pgB g (listed.getD n false) (rs.getD j .any)) ∧
   (∀ t,t≠d→(∀ j q,j < n→l[j]? = some q→q.dst≠some t)→lkp s t=pgB g (listed.getD n false) (lkp st.s t))∧(listed.getD n false=true→lkp s d = .osl g)) hB (fun _ _ _ inv=>inv.1) ?_ ?_ _ _ _ _ ?_ (by simp)
 ·rintro listed a w i o ⟨head,p,s,R,S1,S2,S3⟩ hi hin ho hiu;have ho':l[i]? = some o:=by simpa using ho
  obtain ⟨_,o2,ho2,hdone⟩:=mem_ready.1 hi;have:o2=o:=Option.some.inj (ho2.symm.trans ho);subst this;have hisz:i < listed.size:=by rw [head.size];simpa using (by omega:i < l.length)
  have hself:(listed.setIfInBounds i true).getD i false=true:=by simp [hisz]
  have hoth:∀ {j:Nat},i≠j→(listed.setIfInBounds i true).getD j false=listed.getD j false:=fun hne=>getD_set_ne false hne;have hwait:∀ j,Region.waitsFor .any l.toArray i j=true→listed.getD j false=true:=by
   intro j hj;obtain ⟨o3,ho3,e,he,hb,hon⟩:=Region.waitsFor_spec hj;have:o3=o2:=Option.some.inj (ho3.symm.trans ho);subst this;rw [←hon];exact hdone e he hb
  have hnd:∀ t∈o2.looksAt l.toArray,t≠d:=fun t ht he=>by
   subst he;have:=(hlk i hin o2 ho' t ht n (Nat.lt_succ_self n) so hso hsg.2).2;omega
  have hop:∀ {k:Nat},i≤k→k≤n→∀ t∈o2.looksAt l.toArray,lkp s t=pgB g (listed.getD n false) (lkp (d3_ st ((l.take n).take k) (rs.take k)).s t):=fun {k} hik hkn t ht=>by
   by_cases hex:∃ (j:Nat) (q:Oper),j < n∧l[j]? = some q∧q.dst=some t
   ·obtain ⟨j,q,hj,hq,hqd⟩:=hex;obtain ⟨h1,h2⟩:=hlk i hin o2 ho' t ht j (by omega) q hq hqd;rw [txt_in (by omega) hkn hq hqd];exact S1 j q t hj (hwait j h1) hq hqd
   ·have hno:∀ j q,j < n→l[j]? = some q→q.dst≠some t:=fun j q hj hq he=>hex ⟨j,q,hj,hq,he⟩;rw [txt_out hno,S2 t (hnd t ht) hno]
  have hnot:∀ {j:Nat} {q:Oper} {d d':Nat},j < n→j≠i→l[j]? = some q→q.dst=some d→o2.dst=some d'→d'≠d:=fun {j q d d'} hj hji hq hqd hd2 he=>by
   subst he;exact hji (k1_ hd' (hat1 (by omega) hq) (hat1 hin ho') hqd hd2)
  by_cases hni:i=n
  ·subst hni;have:o2=so:=Option.some.inj (ho'.symm.trans hso);subst this;have hiu':=getD_both hiu;rw [hiu'] at R;simp only [Bool.false_eq_true,if_false] at R;have hev:∀ z:Operand,z∈o2.op.operands→ev ⟨s,(d3_ st (l.take i) rs).h⟩ z=ev (d3_ st (l.take i) rs) z:=fun z hz=>by
    cases z with
    | tmp t=>
     show lkp s t=lkp _ t;rw [hfull];have:=hop (Nat.le_refl _) (Nat.le_refl _) t (List.mem_append_left _ (List.mem_filterMap.2 ⟨.tmp t,by simpa using hz,rfl⟩));rw [hiu'] at this;exact this
    | const v=>rfl
    | global g=>rfl
    | func f=>rfl
   have hcon:=c1l (s:=s) hsop hsg.2 (hev x (by rw [hsop];simp [Op.operands,Call.operands])) (hev y (by rw [hsop];simp [Op.operands,Call.operands])) hevx htail;rw [g7_] at hcon;obtain ⟨v,w',p',hh⟩:=b2c (P:=P) R (List.all_eq_true.1 hN o2 (List.mem_of_getElem? ho')) hcon;have fin:∀ v p',Rel M0 w0 N p' ⟨(d,.osl g)::s.map (fun q=>(q.1,purge g q.2)),h1⟩ (a.put o2.dst v) w'→(fun a w=>HeadInv .any l.toArray (i+1) (listed.setIfInBounds i true)∧∃ (p:Pl) (s:List (Nat×AV)),Rel M0 w0 N p ⟨s,if (listed.setIfInBounds i true).getD i false=true then h1 else st.h⟩ a w ∧
     (∀ (j:Nat) (q:Oper) (d:Nat),j < i→(listed.setIfInBounds i true).getD j false=true→l[j]? = some q→q.dst=some d→lkp s d=pgB g ((listed.setIfInBounds i true).getD i false) (rs.getD j .any)) ∧
     (∀ t,t≠d→(∀ j q,j < i→l[j]? = some q→q.dst≠some t)→lkp s t=pgB g ((listed.setIfInBounds i true).getD i false) (lkp st.s t))∧((listed.setIfInBounds i true).getD i false=true→lkp s d = .osl g)) (a.put o2.dst v) w':=fun v p' R'=>by
    refine ⟨head.set hi hin,p',_,by rw [hself];exact R',fun j q d' hj hl hq hqd=>?_,fun t htd ht=>?_,fun _=>by simp [lkp]⟩
    ·rw [hself,lkp,if_neg (fun e=>hdn' hj hq hqd e.symm),w9_];rw [hoth (by omega)] at hl;have:=S1 j q d' hj hl hq hqd;rw [hiu'] at this;rw [this];rfl
    ·rw [hself,lkp,if_neg (fun e=>htd e.symm),w9_];have:=S2 t htd ht;rw [hiu'] at this;rw [this];rfl
   unfold wpOp;simp only [ho];rw [if_pos (by simp [Region.wanted,hsg.1])];refine Or.inl ?_;unfold Oper.wp;rcases hh with ⟨h2,h3⟩|⟨h2,_,h3⟩
   ·rw [h2];exact fin _ _ h3
   ·rw [h2];exact fin _ _ h3
  ·have hin':i < n:=by omega
   have hstep:=S i o2 (rs.getD i .any) (hat hin' ho') (hrs hin');have hheap:((listed.setIfInBounds i true).getD n false)=listed.getD n false:=hoth hni;have hpgr:∀ t,o2.dst=some t→pgB g (listed.getD n false) (rs.getD i .any)=rs.getD i .any:=fun t ht=>by
    cases hb:listed.getD n false
    ·rfl
    ·have hnb:n8_ l n n i=false:=by
      cases hc:n8_ l n n i
      ·rfl
      ·have:=g8_ head n n i (fun j hj=>by
        obtain ⟨o6,ho6,e,he,hb',hon⟩:=Region.waitsFor_spec hj;have:=head.closed n o6 ho6 hb e he hb';rwa [hon] at this) hc
       rw [getD_both hiu] at this;cases this
     have:=hlateno (t:=t) hin' ho' hnb (List.mem_append_right _ (by rw [ht];simp));rw [txt_in hin' (Nat.le_refl _) ho' ht] at this;exact a8b this
   have fin:∀ v w',V1 w' (Mof M0 (if listed.getD n false=true then h1 else st.h) p) (if listed.getD n false=true then h1 else st.h) p (rs.getD i .any) v→Below w.heap.size w w'→(fun listed a w=>HeadInv .any l.toArray (n+1) listed∧∃ (p:Pl) (s:List (Nat×AV)),Rel M0 w0 N p ⟨s,if listed.getD n false=true then h1 else st.h⟩ a w ∧
     (∀ (j:Nat) (q:Oper) (d:Nat),j < n→listed.getD j false=true→l[j]? = some q→q.dst=some d→lkp s d=pgB g (listed.getD n false) (rs.getD j .any)) ∧
     (∀ t,t≠d→(∀ j q,j < n→l[j]? = some q→q.dst≠some t)→lkp s t=pgB g (listed.getD n false) (lkp st.s t))∧(listed.getD n false=true→lkp s d = .osl g)) (listed.setIfInBounds i true) (a.put o2.dst v) w':=fun v w' hv hb=>by
    have R':=(R.later hb).put (d:=o2.dst) (e9_ (List.all_eq_true.1 hN o2 (List.mem_of_getElem? ho'))) hv;have hes:(VS.put ⟨s,if listed.getD n false=true then h1 else st.h⟩ o2.dst (rs.getD i .any))=⟨(VS.put ⟨s,if listed.getD n false=true then h1 else st.h⟩ o2.dst (rs.getD i .any)).s,if listed.getD n false=true then h1 else st.h⟩:=by cases o2.dst<;>rfl
    rw [hes] at R';refine ⟨head.set hi hin,p,_,by rw [hheap];exact R',fun j q d hj hl hq hqd=>?_,fun t htd ht=>?_,fun hl=>?_⟩
    ·rw [g1_,hheap];by_cases hji:j=i
     ·subst hji;have:q=o2:=Option.some.inj (hq.symm.trans ho');subst this;rw [if_pos hqd,hpgr d hqd]
     ·rw [if_neg fun e=>hnot hj hji hq hqd e rfl];rw [hoth (Ne.symm hji)] at hl;exact S1 j q d hj hl hq hqd
    ·rw [g1_,if_neg (ht i o2 hin' ho'),hheap];exact S2 t htd ht
    ·rw [hheap] at hl;rw [g1_,if_neg fun e=>hdn' hin' ho' e rfl];exact S3 hl
   have hopE:∀ t∈o2.looksAt l.toArray,lkp s t=lkp (d3_ st ((l.take n).take i) (rs.take i)).s t:=fun t ht=>by
    have h2:=hop (Nat.le_refl i) (by omega) t ht;have h3:=hop (show i≤n by omega) (Nat.le_refl n) t ht;cases hb:listed.getD n false
    ·rw [hb] at h2;exact h2
    ·have hnb:n8_ l n n i=false:=by
      cases hc:n8_ l n n i
      ·rfl
      ·have:=g8_ head n n i (fun j hj=>by
        obtain ⟨o6,ho6,e,he,hb',hon⟩:=Region.waitsFor_spec hj;have:=head.closed n o6 ho6 hb e he hb';rwa [hon] at this) hc
       rw [getD_both hiu] at this;cases this
     have hno:=hlateno hin' ho' hnb (List.mem_append_left _ ht);rw [hb] at h2 h3;by_cases hex:∃ (j:Nat) (q:Oper),j < n∧l[j]? = some q∧q.dst=some t
     ·obtain ⟨j,q,hj,hq,hqd⟩:=hex;obtain ⟨_,h5⟩:=hlk i hin o2 ho' t ht j (by omega) q hq hqd;rw [txt_in hj (Nat.le_refl _) hq hqd] at hno;rw [txt_in h5 (by omega) hq hqd] at h2 ⊢;rw [h2];exact a8b hno
     ·have hn2:∀ j q,j < n→l[j]? = some q→q.dst≠some t:=fun j q hj hq he=>hex ⟨j,q,hj,hq,he⟩;rw [txt_out hn2] at hno;rw [txt_out hn2] at h2 ⊢;rw [h2];exact a8b hno
   have hgive:h6_ P st.h (ev (d3_ st ((l.take n).take i) (rs.take i))) o2.op (rs.getD i .any)→gives P o2 a w fun v w''=>V1 w'' (Mof M0 (if listed.getD n false=true then h1 else st.h) p) (if listed.getD n false=true then h1 else st.h) p (rs.getD i .any) v∧Below w.heap.size w w'':=by
    intro hg;have hg':h6_ P (if listed.getD n false=true then h1 else st.h) (ev (d3_ st ((l.take n).take i) (rs.take i))) o2.op (rs.getD i .any):=by
     split
     ·rename_i hln;have h2:=List.all_eq_true.1 hL i (List.mem_range.2 hin');simp only [ho',Bool.or_eq_true] at h2;rcases h2 with h2|h2
      ·have:=g8_ head n n i (fun j hj=>by
        obtain ⟨o6,ho6,e,he,hb',hon⟩:=Region.waitsFor_spec hj;have:=head.closed n o6 ho6 hln e he hb';rwa [hon] at this) h2
       rw [getD_both hiu] at this;cases this
      ·exact a2c h2 hg
     ·exact hg
    refine o2_ R.objs R.mok R.h0 R.glob (fun _ _ hb=>.inl hb) (fun x hx=>?_) hg';cases x with
    | tmp t=>
     show V1 _ _ _ _ (lkp (d3_ st ((l.take n).take i) (rs.take i)).s t) _;rw [←hopE t (List.mem_append_left _ (List.mem_filterMap.2 ⟨.tmp t,by simpa using hx,rfl⟩))];exact R.slots t
    | const v=>exact .base _ _ (.lit v)
    | global g=>exact .base _ _ (R.evalG g)
    | func f=>exact .base _ _ (.lit _)
   have hy:=fun j=>i0_ (ops:=l) (j:=j) R hN;have hguard:∀ (j:Nat) (want:Bool) (v:Value),o2.guard=some (j,want)→d7_ l (d3_ st ((l.take n).take i) (rs.take i)) j = .lit v→d7_ l ⟨s,if listed.getD n false=true then h1 else st.h⟩ j = .lit v:=by
    intro j want v hg hv;unfold d7_ at hv ⊢;cases hj:l[j]? with
    | none=>simpa [hj] using hv
    | some q=>
     cases hq:q.dst with
     | none=>simpa [hj,hq] using hv
     | some d=>
      have hmem:d∈o2.looksAt l.toArray:=by
       unfold Oper.looksAt;refine List.mem_append_right _ ?_;simp [hg,hj,hq]
      simp only [hj,hq] at hv ⊢;rw [hopE d hmem];exact hv
   unfold wpOp;simp only [ho];unfold o0_ at hstep;split at hstep
   ·rename_i hg;rw [if_pos (by simp [Region.wanted,hg])];rw [g7_] at hstep;exact Or.inl (e1_ (hgive hstep) rfl fun v w' hv=>fin v w' hv.1 hv.2)
   ·rename_i j want hg;split at hstep
    ·rename_i b hb;have hyb:=(hy j).1 b (hguard j want _ hg hb);split at hstep
     ·rename_i hw;subst hw;rw [if_pos (by simp [Region.wanted,hg,hyb])];rw [g7_] at hstep;exact Or.inl (e1_ (hgive hstep) rfl fun v w' hv=>fin v w' hv.1 hv.2)
     ·rename_i hw;rw [if_neg (by simpa [Region.wanted,hg,hyb] using hw)];exact fin undef w (by rw [hstep];exact .base _ _ (.lit _)) (Below.refl _ _)
    ·rename_i us hb;have hyb:=(hy j).2 us (hguard j want _ hg hb);rw [if_neg (by simp [Region.wanted,hg,hyb])];exact fin undef w (by rw [hstep];exact .base _ _ (.lit _)) (Below.refl _ _)
    ·exact hstep.elim
 ·rintro listed a w ⟨head,p,s,R,S1,S2,S3⟩ hall;rw [hall n (by omega)] at R;simp only [if_true] at R;rw [hall n (by omega)] at S1 S2 S3;have R':=R.weak (s':=(d,.osl g)::(d3_ st (l.take n) rs).s.map (fun q=>(q.1,purge g q.2))) fun t=>by
   show lkp ((d,.osl g)::(d3_ st (l.take n) rs).s.map (fun q=>(q.1,purge g q.2))) t=lkp s t∨_;refine .inl ?_;rw [lkp];split
   ·rename_i he;subst he;exact (S3 rfl).symm
   ·rename_i he;rw [w9_,hfull];by_cases hex:∃ (j:Nat) (q:Oper),j < n∧l[j]? = some q∧q.dst=some t
    ·obtain ⟨j,q,hj,hq,hqd⟩:=hex;rw [txt_in hj (Nat.le_refl _) hq hqd];exact (S1 j q t hj (hall j (by omega)) hq hqd).symm
    ·have hno:∀ j q,j < n→l[j]? = some q→q.dst≠some t:=fun j q hj hq he=>hex ⟨j,q,hj,hq,he⟩;rw [txt_out hno,S2 t (fun e=>he e.symm) hno];rfl
  have hNd:(l.drop (n+1)).all (r6_ N)=true:=List.all_eq_true.2 fun q hq=>List.all_eq_true.1 hN q (List.mem_of_mem_drop hq);exact t8_ (ow:=ow) hN (fun p st a w R h=>⟨st,p,R,h⟩) (l.drop (n+1)) p _ _ w hNd R' hK
 ·refine ⟨⟨by simp,fun j oj _ hl=>(by rw [getD_replicate_false] at hl;cases hl),fun t _ ht=>getD_in (by simpa using ht) (getD_replicate_false _ _)⟩,p0,st.s,?_,fun j q d _ hl=>(by rw [getD_replicate_false] at hl;cases hl),fun _ _ _=>by rw [getD_replicate_false];rfl,fun hl=>(by rw [getD_replicate_false] at hl;cases hl)⟩;rw [getD_replicate_false];exact R0.later (Below.refl _ _).drew
end
def b0s (o:Oper) : Bool:=o.guard.isNone&&(match o.op with | .load _ (.tmp _)=>true|_=>false)
def a8c (P:Program) (T:VS) (h1:Hp) (l:List Oper) : List Nat→Prop
 | []=>True
 | i::r=>(match l[i]? with|some o=>∃ x,h6_ P T.h (ev T) o.op x∧h6_ P h1 (ev T) o.op x|none=>False)∧a8c P T h1 l r
theorem b4u {P:Program} {T:VS} {h1:Hp} {l:List Oper} : ∀ {js:List Nat},a8c P T h1 l js→∀ {i:Nat} {o:Oper},i∈js→l[i]? = some o→∃ x,h6_ P T.h (ev T) o.op x∧h6_ P h1 (ev T) o.op x
 | [],_,i,o,h,_=>by cases h
 | j::r,hk,i,o,h,ho=>by
  rcases List.mem_cons.1 h with rfl|h
  ·have:=hk.1;rw [ho] at this;exact this
  ·exact b4u hk.2 h ho
theorem c1m {P:Program} {h:Hp} {E E':Operand→AV} {t:TypeId} {x:Operand} {r r':AV} (he:E x=E' x) (h1:h6_ P h E (.load t x) r) (h2:h6_ P h E' (.load t x) r') : r=r':=by
 have hp:z3_ P h E (.load t x)=z3_ P h E' (.load t x):=by
  show a2r P h t (E x)=a2r P h t (E' x);rw [he]
 unfold h6_ at h1 h2;rw [hp] at h1;cases hq:z3_ P h E' (.load t x) with
 | some z=>
  rw [hq] at h1 h2;exact h1.symm.trans h2
 | none=>
  rw [hq] at h1;exact h1.elim
theorem b6q {P:Program} {h:Hp} {E E':Operand→AV} {t:TypeId} {x:Operand} {r:AV} (he:E x=E' x) (h1:h6_ P h E (.load t x) r) : h6_ P h E' (.load t x) r:=by
 have hp:z3_ P h E (.load t x)=z3_ P h E' (.load t x):=by
  show a2r P h t (E x)=a2r P h t (E' x);rw [he]
 unfold h6_ at h1 ⊢;rw [←hp];cases hq:z3_ P h E (.load t x) with
 | some z=>
  rw [hq] at h1;exact h1
 | none=>
  rw [hq] at h1;exact h1.elim
section
variable {P:Program} {M0:Nat→Nat→Prop} {w0:Bas} {N:Nm} {p:Pl} {st:VS} {a:Act} {w:World} {Q:Exit→VS→Prop}
end
end Go.Proofs.YtoibondihdhnoaaGreatDoor
