/- Texts in one: A drawing region that makes several variables of the call's own, in no order to each other: of every program; no condition. -/
import Derived.Test.YtoibondihdhnoaaGreatDoorFRY5
namespace Go.Proofs.YtoibondihdhnoaaGreatDoor
open Go.RowKit
section
variable {P:Program} {M0:Nat→Nat→Prop} {w0:Bas} {N:Nm} {p:Pl} {st:VS} {a:Act} {w:World} {Q:Exit→VS→Prop}
theorem s4 {h:Hp} {m id:Nat} {ob:Ob} (hi:(h++List.replicate m none)[id]? = some (some ob)) : h[id]? = some (some ob):=by
 rcases Nat.lt_or_ge id h.length with aq|dr
 ·rwa [List.getElem?_append_left aq] at hi
 ·rw [List.getElem?_append_right dr,List.getElem?_replicate] at hi;split at hi<;>cases hi
theorem Rel.pad (R:Rel M0 w0 N p st a w) (m:Nat) : Rel M0 w0 N p ⟨st.s,st.h++List.replicate m none⟩ a w:=by
 have hM:∀ b j,¬Mof M0 st.h p b j→¬Mof M0 (st.h++List.replicate m none) p b j:=fun b j hb fC=>by
  rcases fC with h|⟨i,ob,hi,hl,hp⟩
  ·exact hb (.inl h)
  ·exact hb (.inr ⟨i,ob,s4 hi,hl,hp⟩)
 have keep:∀ {av:AV} {v:Value},V1 w (Mof M0 st.h p) st.h p av v→V1 w (Mof M0 (st.h++List.replicate m none) p) (st.h++List.replicate m none) p av v:=fun hv=>
  hv.keep (Keeps.refl _ _) (fun b j _ h=>hM b j h) (by simp) (fun _ _=>rfl) (fun i e sz nl es v _ he hv=>hv _ _ _ _ (s4 he)) (fun i e sz nl pe qs v _ he hv=>hv _ _ _ _ _ (s4 he)) fun i k sz v hid hs=>hs.keep (fun e sz pe qs he=>⟨s4 he,rfl,rfl,fun _ _ _ _=>rfl⟩) (Nat.le_refl _)
 exact ⟨R.defers,R.size,R.below,R.m0,R.x0,fun i=>keep (R.slots i),fun i ob hi=>(R.objs i ob (s4 hi)).keep (fun _=>⟨rfl,rfl⟩) (fun _ _ _ _ _=>rfl) (Nat.le_refl _) (fun hx=>hx.keep (Keeps.refl _ _) fun b j _=>hM b j) fun _ _ _ _ _ hx=>keep hx,
  fun i i' ob ob' hi br=>R.inj i i' ob ob' (s4 hi) (s4 br)⟩
theorem Rel.fill {us:List Value} {zs:List Value} {id d:Nat} (R:Rel M0 w0 N p st a w) (hd:N.has d) (hid:st.h[id]? = some none) (hs:∀ t,cE id 5 (lkp st.s t)=true) (hh:∀ (i:Nat) (cs:List AV),st.h[i]? = some (some (Ob.box cs))→∀ c∈cs,cE id 5 c=true)
  (hc:Cells w (Mof M0 st.h p) st.h p (zs.map .lit) us) (t:TypeId) :
  Rel M0 w0 N (cP p id w.heap.size) ⟨(d,.ref id 0)::st.s,st.h.set id (some (.box (zs.map .lit)))⟩ (a.put (some d) (.pointer (some ⟨w.heap.size,0,none⟩))) { w with heap:=w.heap.push (.cells us.toArray t) }:=by
 have hb:=mo w (.cells us.toArray t);have eD:id < st.h.length:=(List.getElem?_eq_some_iff.1 hid).1;have hp:∀ i,i≠id→cP p id w.heap.size i=p i:=fun i hi=>(jP hi).1;have k9:cP p id w.heap.size id=w.heap.size:=(k_ p _ _).1;have bu:∀ i o,(st.h.set id (some (.box (zs.map .lit))))[i]? = some (some o)→(i=id∧o = .box (zs.map .lit))∨(i≠id∧st.h[i]? = some (some o)):=by
  intro i o aG;rw [List.getElem?_set] at aG;by_cases he:id=i
  ·rw [if_pos he,if_pos (by omega)] at aG;simp only [Option.some.injEq] at aG;exact .inl ⟨he.symm,aG.symm⟩
  ·rw [if_neg he] at aG;exact .inr ⟨fun h=>he h.symm,aG⟩
 have hM:∀ c j,c < w.heap.size→¬Mof M0 st.h p c j→¬Mof M0 (st.h.set id (some (.box (zs.map .lit)))) (cP p id w.heap.size) c j:=by
  intro c j hc hn hm;rcases hm with hm|⟨i,o,hi,hl,jM⟩
  ·exact hn (.inl hm)
  ·rcases bu i o hi with ⟨rfl,_⟩|⟨ax,br⟩
   ·have:=mq jM;omega
   ·exact hn (.inr ⟨i,o,br,hl,(jx ax).1 jM⟩)
 have hV:∀ {x:AV} {u:Value},cE id 5 x=true→V1 w (Mof M0 st.h p) st.h p x u→V1 { w with heap:=w.heap.push (.cells us.toArray t) } (Mof M0 (st.h.set id (some (.box (zs.map .lit)))) (cP p id w.heap.size)) (st.h.set id (some (.box (zs.map .lit)))) (cP p id w.heap.size) x u:=fun hx hv=>
  V1.purge (.of_below hb) hM (by simp) hp (fun i e sz nl es v ax he hv=>by
   rcases bu i _ he with ⟨h1,_⟩|⟨_,h2⟩
   ·exact absurd h1 ax
   ·exact (hv _ _ _ _ h2).below hb) (fun i e sz nl pe qs v ax he hv=>by
   rcases bu i _ he with ⟨h1,_⟩|⟨_,h2⟩
   ·exact absurd h1 ax
   ·exact (hv _ _ _ _ _ h2).below hb) (fun i k sz v ax cu hs=>hs.keep (fun e sz pe qs he=>by
   rcases bu i _ he with ⟨h1,_⟩|⟨_,h2⟩
   ·exact absurd h1 ax
   ·exact ⟨h2,(jP ax).1,(jP ax).2,fun b _ _ aq=>hb.block b aq⟩) hb.size) 5 _ _ hv hx
 refine ⟨R.defers,R.size.put hd,R.below.later hb,R.m0,R.x0,fun i=>?_,fun i o hi=>?_,fun i i' o o' hi br hl bj x j j' hO ct=>?_⟩
 ·rw [mr a d _ i (R.size.lt hd)];simp only [lkp];split
  ·have:=V1.ref (w:={ w with heap:=w.heap.push (.cells us.toArray t) }) (M:=Mof M0 (st.h.set id (some (.box (zs.map .lit)))) (cP p id w.heap.size)) (h:=st.h.set id (some (.box (zs.map .lit)))) (p:=cP p id w.heap.size) id 0 (by simpa using eD);rwa [k9] at this
  ·exact hV (hs i) (R.slots i)
 ·rcases bu i o hi with ⟨rfl,rfl⟩|⟨ax,br⟩
  ·refine ⟨tH R.below.size,us.toArray,t,by rw [k9];simp [-World.alloc_eq],by simpa using hc.1,hc.2.1,fun j c hj=>?_⟩;have eM:j < us.length:=by rw [hc.1];exact (List.getElem?_eq_some_iff.1 hj).1
   refine ⟨us[j],by simp [eM],hV ?_ (hc.2.2 j c us[j] hj (List.getElem?_eq_getElem eM))⟩;rw [List.getElem?_map,Option.map_eq_some_iff] at hj;obtain ⟨z,_,rfl⟩:=hj;rfl
  ·exact (R.objs i o br).keep (fun _=>jP ax) (fun _ b _ _ dq=>hb.block b dq) hb.size (fun hx=>hx.keep (.of_below hb) hM) fun cs bW c gb _ hx=>hV (hh i cs (by rw [br,bW]) c gb) hx
 ·rcases bu i o hi with ⟨rfl,rfl⟩|⟨hn,h1⟩<;>rcases bu i' o' br with ⟨rfl,rfl⟩|⟨la,h2⟩
  ·rfl
  ·have h3:=((R.objs i' o' h2).own bj x j' ((jx la).1 ct)).2;have h4:=mq hO;omega
  ·have h3:=((R.objs i o h1).own hl x j ((jx hn).1 hO)).2;have h4:=mq ct;omega
  ·exact R.inj i i' o o' h1 h2 hl bj x j j' ((jx hn).1 hO) ((jx la).1 ct)
end
structure Slot where
 ai:Nat
 d:Nat
 z:List Value
 si:Option Nat
 c:List AV
def Slot.end_ (q:Slot) : List AV:=match q.si with|some _=>q.c|none=>q.z.map .lit
def Slot.at_ (q:Slot) (f:Nat→Bool) : Option Ob:=if f q.ai=true then some (.box (match q.si with|some s=>if f s=true then q.c else q.z.map .lit|none=>q.z.map .lit)) else none
def fB (A:List Slot) (f:Nat→Bool) : Hp:=A.map fun q=>q.at_ f
def d_:List Slot→Hp
 | []=>[]
 | q::r=>some (.box q.end_)::d_ r
def dL (k:Nat) : List Slot→List (Nat×AV)
 | []=>[]
 | q::r=>(q.d,.ref k 0)::dL (k+1) r
def isA (A:List Slot) (i:Nat) : Bool:=A.any fun q=>q.ai == i || q.si == some i
def zW (l:List Oper) (n:Nat) (q:Slot) : Bool:=
 decide (q.ai < n)&&(match l[q.ai]? with|some o=>o.guard.isNone&&o.dst == some q.d&&(match o.op with | .alloc _=>true|_=>false)|none=>false) &&
 (match q.si with|none=>true|some s=>decide (s < n)&&(match l[s]? with|some o=>o.guard.isNone&&o.dst.isNone&&(match o.op with | .store _ (.tmp x) _=>x == q.d|_=>false)|none=>false))
def Dn (l:List Oper) (n:Nat) (A:List Slot) : Bool:=A.all (zW l n)&&decide (A.map (·.d)).Nodup
def Dp (P:Program) (l:List Oper) (T:VS) (q:Slot) : Prop:=
 (match l[q.ai]? with|some o=>(match o.op with | .alloc t=>∃ ti,aU P t=some ti∧ti.zero=q.z|_=>False)|none=>False) ∧
 (match q.si with|none=>True|some s=>(match l[s]? with|some o=>(match o.op with | .store t _ y=>∃ ti,aU P t=some ti∧ev T y≠.any∧oK (ev T y)=true∧fS (ev T y)=q.c∧q.c.length=ti.size∧q.z.length=ti.size∧q.c.all (bc T.h.length 5)=true|_=>False)|none=>False))
def w7 (P:Program) (l:List Oper) (T:VS) : List Slot→Prop
 | []=>True
 | q::r=>Dp P l T q∧w7 P l T r
section
variable (P:Program)
def iN (ops:List Oper) (a_:Nat→Bool) : List Oper→Nat→VS→(VS→Prop)→Prop
 | [],_,T,K=>K T
 | o::l,i,T,K=>
  if a_ i=true then iN ops a_ l (i+1) (T.put o.dst .any) K
  else mc P ops o T fun T'=>(∀ d,o.dst=some d→bc T.h.length 5 (lkp T'.s d)=true)∧iN ops a_ l (i+1) T' K
end
section
variable {P:Program} {M0:Nat→Nat→Prop} {w0:Bas} {N:Nm} {p:Pl} {st:VS} {a:Act} {w:World} {Q:Exit→VS→Prop}
theorem tI {ops:List Oper} {a_:Nat→Bool} {K:VS→Prop} : ∀ (l:List Oper) (i0:Nat) (T:VS),iN P ops a_ l i0 T K →
  ∃ rs:List AV,rs.length=l.length∧K (aQ T l rs) ∧
   (∀ (i:Nat) (o:Oper) (r:AV),a_ (i0+i)=false→l[i]? = some o→rs[i]? = some r→kh P ops o (aQ T (l.take i) (rs.take i)) r∧∀ d,o.dst=some d→bc T.h.length 5 r=true) ∧
   (∀ (i:Nat) (o:Oper),a_ (i0+i)=true→l[i]? = some o→rs[i]? = some .any)
 | [],i0,T,h=>⟨[],rfl,h,by simp,by simp⟩
 | o::l,i0,T,h=>by
  unfold iN at h;by_cases hc:a_ i0=true
  ·rw [if_pos hc] at h;obtain ⟨rs,e1,hK,hp,hh⟩:=tI l (i0+1) _ h;refine ⟨.any::rs,by simp [e1],by simpa [aQ] using hK,fun i q r hi hq hr=>?_,fun i q hi hq=>?_⟩
   ·cases i with
    | zero=>rw [Nat.add_zero,hc] at hi;cases hi
    | succ i=>
     have:=hp i q r (by rw [←hi];congr 1;omega) (by simpa using hq) (by simpa using hr);rw [ra] at this;simpa [aQ] using this
   ·cases i with
    | zero=>rfl
    | succ i=>exact hh i q (by rw [←hi];congr 1;omega) (by simpa using hq)
  ·rw [if_neg hc] at h;obtain ⟨r,h1,h2,h3⟩:=CK h;obtain ⟨rs,e1,hK,hp,hh⟩:=tI l (i0+1) _ h3;refine ⟨r::rs,by simp [e1],by simpa [aQ] using hK,fun i q x hi hq hr=>?_,fun i q hi hq=>?_⟩
   ·cases i with
    | zero=>
     simp at hq hr;subst hq;subst hr;refine ⟨h1,fun d hd=>?_⟩;have:=h2 d hd;rw [hd,G0] at this;simpa using this
    | succ i=>
     have:=hp i q x (by rw [←hi];congr 1;omega) (by simpa using hq) (by simpa using hr);rw [ra] at this;simpa [aQ] using this
   ·cases i with
    | zero=>rw [Nat.add_zero] at hi;exact absurd hi hc
    | succ i=>exact hh i q (by rw [←hi];congr 1;omega) (by simpa using hq)
theorem zX {l:List Oper} {T:VS} : ∀ {A:List Slot},w7 P l T A→∀ {j:Nat} {q:Slot},A[j]? = some q→Dp P l T q
 | [],_,j,q,h=>by simp at h
 | x::A,hk,j,q,h=>by
  cases j with
  | zero=>simp at h;subst h;exact hk.1
  | succ j=>exact zX hk.2 (j:=j) (by simpa using h)
theorem Im:∀ {A:List Slot} {j:Nat},(d_ A)[j]? = (A[j]?).map fun q=>some (.box q.end_)
 | [],j=>by simp [d_]
 | q::A,0=>by simp [d_]
 | q::A,j+1=>by simp [d_,Im (A:=A) (j:=j)]
theorem P0 (A:List Slot) (f:Nat→Bool) (hf:∀ i,isA A i=true→f i=true) : fB A f=d_ A:=by
 apply List.ext_getElem?;intro j;rw [Im];unfold fB;rw [List.getElem?_map];cases hq:A[j]? with
 | none=>rfl
 | some q=>
  have hm:=List.mem_of_getElem? hq;have h1:f q.ai=true:=hf _ (List.any_eq_true.2 ⟨q,hm,by simp⟩);simp only [Option.map_some,Slot.at_,h1,if_true,Slot.end_];cases hs:q.si with
  | none=>rfl
  | some s=>
   have h2:f s=true:=hf _ (List.any_eq_true.2 ⟨q,hm,by simp [hs]⟩);simp [h2]
theorem Io:∀ {A:List Slot} {k t:Nat},lkp (dL k A) t≠.any→∃ (j:Nat) (q:Slot),A[j]? = some q∧q.d=t∧lkp (dL k A) t = .ref (k+j) 0
 | [],k,t,h=>absurd rfl h
 | x::A,k,t,h=>by
  simp only [dL,lkp] at h ⊢;by_cases hd:x.d=t
  ·exact ⟨0,x,rfl,hd,by rw [if_pos hd];rfl⟩
  ·rw [if_neg hd] at h ⊢;obtain ⟨j,q,h1,h2,h3⟩:=Io (A:=A) (k:=k+1) h;exact ⟨j+1,q,by simpa using h1,h2,by rw [h3];congr 1;omega⟩
theorem P1 {A:List Slot} {f g:Nat→Bool} (h:∀ i,isA A i=true→f i=g i) : fB A f=fB A g:=by
 unfold fB;refine List.map_congr_left fun q hq=>?_;have h1:f q.ai=g q.ai:=h _ (List.any_eq_true.2 ⟨q,hq,by simp⟩);unfold Slot.at_;rw [h1];cases hs:q.si with
 | none=>rfl
 | some s=>simp only [h s (List.any_eq_true.2 ⟨q,hq,by simp [hs]⟩)]
theorem Ip {l:List Oper} {n:Nat} {q:Slot} (h:zW l n q=true) : (q.ai < n∧∃ o t,l[q.ai]? = some o∧o.guard=none∧o.dst=some q.d∧o.op = .alloc t) ∧
  ∀ s,q.si=some s→s < n∧∃ o t y,l[s]? = some o∧o.guard=none∧o.dst=none∧o.op = .store t (.tmp q.d) y:=by
 simp only [zW,Bool.and_eq_true,decide_eq_true_eq] at h;obtain ⟨⟨h1,h2⟩,h3⟩:=h;refine ⟨⟨h1,?_⟩,fun s hs=>?_⟩
 ·split at h2
  ·rename_i o ho;simp only [Bool.and_eq_true,beq_iff_eq,Option.isNone_iff_eq_none] at h2;obtain ⟨⟨a,b⟩,c⟩:=h2;split at c
   ·rename_i t ht;exact ⟨o,t,ho,a,b,ht⟩
   ·cases c
  ·cases h2
 ·rw [hs] at h3;simp only [Bool.and_eq_true,decide_eq_true_eq] at h3;obtain ⟨h4,h5⟩:=h3;refine ⟨h4,?_⟩;split at h5
  ·rename_i o ho;simp only [Bool.and_eq_true,Option.isNone_iff_eq_none] at h5;obtain ⟨⟨a,b⟩,c⟩:=h5;split at c
   ·rename_i t x y hx;simp only [beq_iff_eq] at c;subst c;exact ⟨o,t,y,ho,a,b,hx⟩
   ·cases c
  ·cases h5
theorem P2 {A:List Slot} (h:(A.map (·.d)).Nodup) {i j:Nat} {q r:Slot} (hi:A[i]? = some q) (hj:A[j]? = some r) (he:q.d=r.d) : i=j:=by
 have h1:(A.map (·.d))[i]? = some q.d:=by simp [hi]
 have h2:(A.map (·.d))[j]? = some q.d:=by simp [hj,he]
 obtain ⟨a1,b1⟩:=List.getElem?_eq_some_iff.1 h1;obtain ⟨a2,b2⟩:=List.getElem?_eq_some_iff.1 h2;rcases Nat.lt_trichotomy i j with hl|hl|hl
 ·exact absurd (b1.trans b2.symm) (List.pairwise_iff_getElem.1 h i j a1 a2 hl)
 ·exact hl
 ·exact absurd (b2.trans b1.symm) (List.pairwise_iff_getElem.1 h j i a2 a1 hl)
theorem P3 {cs vs:List AV} (h:vs.length=cs.length) : lW cs 0 vs=vs:=by
 unfold lW;rw [List.take_zero,List.nil_append,Nat.zero_add,h,List.drop_length,List.append_nil]
theorem P4 {id:Nat} {l:List Oper} (n:Nat) (ow:List Nat) (A:List Slot) (hm:P.follows .mixedOrders=true) (hB:Region.specB l.toArray n=true) (hA:Dn l n A=true) (hs:sOK st.h.length st.s) (hh:hOK st.h.length st.h)
  (h:iN P l (isA A) (l.take n) 0 st fun T=>w7 P l T A∧dP P ow l (l.drop n) ⟨dL st.h.length A++T.s,T.h++d_ A⟩ (Q .normal)) : VWp P M0 w0 N (.region id l.toArray true) Q st:=fun ju p0 a0 va R0=>by
 have hN:l.all (cW N)=true:=by simpa [fg] using ju
 obtain ⟨rs,eb,Y,S,ld⟩:=tI _ _ _ h;obtain ⟨mi,hK⟩:=Y;have dp:=hB;simp only [Region.specB,Bool.and_eq_true,decide_eq_true_eq] at dp;obtain ⟨⟨⟨⟨⟨⟨_,aL⟩,_⟩,_⟩,hd⟩,bb⟩,_⟩:=dp;have eY:n < l.length:=by simpa using aL
 have du:dS (l.take n)=true:=by simpa using hd
 have hlen:(l.take n).length=n:=by simp;omega
 rw [hlen] at eb;obtain ⟨vo,mW⟩ : A.all (zW l n)=true∧(A.map (·.d)).Nodup:=by simpa [Dn] using hA
 have gJ:∀ {j:Nat} {q:Slot},A[j]? = some q→_:=fun {j q} hq=>Ip (List.all_eq_true.1 vo q (List.mem_of_getElem? hq));have bm:∀ {i:Nat} {o:Oper},i < n→l[i]? = some o→(l.take n)[i]? = some o:=fun {i o} hi ho=>by rw [List.getElem?_take_of_lt hi];exact ho
 have kg:∀ {i:Nat} {o:Oper},(l.take n)[i]? = some o→i < n∧l[i]? = some o:=fun {i o} ho=>by
  have hi:i < n:=by have:=(List.getElem?_eq_some_iff.1 ho).1;omega
  rw [List.getElem?_take_of_lt hi] at ho;exact ⟨hi,ho⟩
 have ee:∀ {i:Nat},i < n→rs[i]? = some (rs.getD i .any):=fun {i} hi=>by simp [List.getD,show i < rs.length by omega]
 have cC:∀ i,i < n→∀ o,l[i]? = some o→∀ t∈o.looksAt l.toArray,∀ j,j < n→∀ q,l[j]? = some q→q.dst=some t→Region.waitsFor .any l.toArray i j=true∧j < i:=by
  intro i hi o ho;have h:=List.all_eq_true.1 bb i (List.mem_range.2 hi);simp only [List.getElem?_toArray,ho,Bool.and_eq_true] at h;have fK:∀ e∈o.after,Region.binds .any e=true→e.on < i:=fun e he hb=>by
   have h1:=Array.all_eq_true'.1 h.2 e he;simp only [hb,Bool.not_true,Bool.false_or,decide_eq_true_eq] at h1;exact h1
  intro t ht j hj q hq aH;have h1:=List.all_eq_true.1 (List.all_eq_true.1 h.1 t ht) j (List.mem_range.2 hj);simp only [hq,Option.bind_some,aH,bne_self_eq_false,Bool.false_or] at h1;refine ⟨h1,?_⟩;obtain ⟨o',aT,e,he,hb,cD⟩:=Region.waitsFor_spec h1;have:o'=o:=Option.some.inj (aT.symm.trans (by simpa using ho));subst this;rw [←cD];exact fK e he hb
 have aX:∀ {i j:Nat} {q:Oper} {t:Nat},j < i→i≤n→l[j]? = some q→q.dst=some t→lkp (aQ st ((l.take n).take i) (rs.take i)).s t=rs.getD j .any:=fun {i j q t} hj hi hq ht=>
  mR ((l.take n).take i) (rs.take i) st t j q (rs.getD j .any) (ot _ _ du) (by rw [List.getElem?_take_of_lt hj];exact bm (by omega) hq) (by rw [List.getElem?_take_of_lt hj];exact ee (by omega)) ht
 have aW:∀ {i t:Nat},(∀ j q,j < n→l[j]? = some q→q.dst≠some t)→lkp (aQ st ((l.take n).take i) (rs.take i)).s t=lkp st.s t:=fun {i t} ho=>
  mn _ _ _ _ fun q hq he=>by
   obtain ⟨j,hj⟩:=List.mem_iff_getElem?.1 (List.mem_of_mem_take hq);obtain ⟨h1,h2⟩:=kg hj;exact ho j q h1 h2 he
 have bp:aQ st (l.take n) rs=aQ st ((l.take n).take n) (rs.take n):=by
  rw [List.take_of_length_le (l:=l.take n) (by rw [hlen];exact Nat.le_refl _),List.take_of_length_le (l:=rs) (by omega)]
 have dt:∀ {j:Nat} {q:Oper} {d:Nat},j < n→isA A j=false→l[j]? = some q→q.dst=some d→bc st.h.length 5 (rs.getD j .any)=true:=fun {j q d} hj hc hq aH=>
  (S j q _ (by rw [Nat.zero_add];exact hc) (bm hj hq) (ee hj)).2 d aH
 have iy:∀ {j:Nat} {q:Oper},j < n→isA A j=true→l[j]? = some q→rs.getD j .any = .any:=fun {j q} hj hc hq=>by
  have h1:=ld j q (by rw [Nat.zero_add];exact hc) (bm hj hq);rw [ee hj] at h1;exact Option.some.inj h1
 refine wp_region_any hm ?_;refine tu (Inv:=fun listed a w=>HeadInv .any l.toArray n listed∧∃ (p:Pl) (s:List (Nat×AV)),Rel M0 w0 N p ⟨s,st.h++fB A fun i=>listed.getD i false⟩ a w ∧
   (∀ (j:Nat) (q:Oper) (d:Nat),j < n→isA A j=false→listed.getD j false=true→l[j]? = some q→q.dst=some d→lkp s d=rs.getD j .any) ∧
   (∀ t,(∀ j q,j < n→l[j]? = some q→q.dst≠some t)→lkp s t=lkp st.s t)∧(∀ (j:Nat) (q:Slot),A[j]? = some q→listed.getD q.ai false=true→lkp s q.d = .ref (st.h.length+j) 0) ∧
   (∀ t,bc st.h.length 5 (lkp s t)=true∨∃ (j:Nat) (q:Slot),A[j]? = some q∧listed.getD q.ai false=true∧lkp s t = .ref (st.h.length+j) 0)) hB (fun _ _ _ inv=>inv.1) ?_ ?_ _ _ _ _ ?_ (by simp)
 ·rintro listed a w i o ⟨head,p,s,R,S1,S2,S3,S4⟩ hi bg ho fm;have aT:l[i]? = some o:=by simpa using ho
  obtain ⟨_,o2,lN,c_⟩:=mem_ready.1 hi;have:o2=o:=Option.some.inj (lN.symm.trans ho);subst this;have bI:i < listed.size:=by rw [head.size];simpa using (by omega:i < l.length)
  have cg:(listed.setIfInBounds i true).getD i false=true:=by simp [bI]
  have aZ:∀ {j:Nat},i≠j→(listed.setIfInBounds i true).getD j false=listed.getD j false:=fun ax=>getD_set_ne false ax;have bT:∀ j,Region.waitsFor .any l.toArray i j=true→listed.getD j false=true:=by
   intro j hj;obtain ⟨o3,mV,e,he,hb,cD⟩:=Region.waitsFor_spec hj;have:o3=o2:=Option.some.inj (mV.symm.trans ho);subst this;rw [←cD];exact c_ e he hb
  have cT:∀ {k:Nat},i≤k→k≤n→∀ t∈o2.looksAt l.toArray,lkp (aQ st ((l.take n).take k) (rs.take k)).s t = .any∨(lkp (aQ st ((l.take n).take k) (rs.take k)).s t=lkp s t∧bc st.h.length 5 (lkp s t)=true):=fun {k} rG lO t ht=>by
   by_cases hex:∃ (j:Nat) (q:Oper),j < n∧l[j]? = some q∧q.dst=some t
   ·obtain ⟨j,q,hj,hq,aH⟩:=hex;obtain ⟨h1,h2⟩:=cC i bg o2 aT t ht j hj q hq aH;rw [aX (by omega) lO hq aH];cases hc:isA A j
    ·have:=S1 j q t hj hc (bT j h1) hq aH;exact .inr ⟨this.symm,by rw [this];exact dt hj hc hq aH⟩
    ·exact .inl (iy hj hc hq)
   ·have bD:∀ j q,j < n→l[j]? = some q→q.dst≠some t:=fun j q hj hq he=>hex ⟨j,q,hj,hq,he⟩;rw [aW bD,S2 t bD];exact .inr ⟨rfl,po hs t⟩
  have cA:∀ {j:Nat} {q:Oper} {d d':Nat},j < n→j≠i→l[j]? = some q→q.dst=some d→o2.dst=some d'→d'≠d:=fun {j q d d'} hj cU hq aH dT he=>by
   subst he;exact cU (ou du (bm hj hq) (bm bg aT) aH dT)
  cases dY:isA A i
  ·obtain ⟨ar,nc⟩:=S i o2 (rs.getD i .any) (by rw [Nat.zero_add];exact dY) (bm bg aT) (ee bg);have b8:(fB A fun i=>listed.getD i false)=fB A fun j=>(listed.setIfInBounds i true).getD j false:=P1 fun j hj=>by
    have ax:i≠j:=fun e=>by rw [←e,dY] at hj;cases hj
    exact (aZ ax).symm
   have qj:∀ {j:Nat} {q:Slot},A[j]? = some q→i≠q.ai:=fun {j q} hq e=>by
    have:isA A i=true:=List.any_eq_true.2 ⟨q,List.mem_of_getElem? hq,by simp [e]⟩;rw [dY] at this;cases this
   have fin:∀ v w',V1 w' (Mof M0 (st.h++fB A fun i=>listed.getD i false) p) st.h p (rs.getD i .any) v→Below w.heap.size w w'→(fun listed a w=>HeadInv .any l.toArray n listed∧∃ (p:Pl) (s:List (Nat×AV)),Rel M0 w0 N p ⟨s,st.h++fB A fun i=>listed.getD i false⟩ a w ∧
     (∀ (j:Nat) (q:Oper) (d:Nat),j < n→isA A j=false→listed.getD j false=true→l[j]? = some q→q.dst=some d→lkp s d=rs.getD j .any) ∧
     (∀ t,(∀ j q,j < n→l[j]? = some q→q.dst≠some t)→lkp s t=lkp st.s t)∧(∀ (j:Nat) (q:Slot),A[j]? = some q→listed.getD q.ai false=true→lkp s q.d = .ref (st.h.length+j) 0) ∧
     (∀ t,bc st.h.length 5 (lkp s t)=true∨∃ (j:Nat) (q:Slot),A[j]? = some q∧listed.getD q.ai false=true∧lkp s t = .ref (st.h.length+j) 0)) (listed.setIfInBounds i true) (a.put o2.dst v) w':=fun v w' hv hb=>by
    have R':=(R.later hb).put (d:=o2.dst) (fh (List.all_eq_true.1 hN o2 (List.mem_of_getElem? aT))) (V1.long hv);have cO:(VS.put ⟨s,st.h++fB A fun i=>listed.getD i false⟩ o2.dst (rs.getD i .any))=⟨(VS.put ⟨s,st.h++fB A fun i=>listed.getD i false⟩ o2.dst (rs.getD i .any)).s,st.h++fB A fun j=>(listed.setIfInBounds i true).getD j false⟩:=by rw [←b8];cases o2.dst<;>rfl
    rw [cO] at R';refine ⟨head.set hi bg,p,_,R',fun j q d hj ig hl hq aH=>?_,fun t ht=>?_,fun j q hq hl=>?_,fun t=>?_⟩
    ·rw [gW];by_cases cU:j=i
     ·subst cU;have:q=o2:=Option.some.inj (hq.symm.trans aT);subst this;rw [if_pos aH]
     ·rw [if_neg fun e=>cA hj cU hq aH e rfl];rw [aZ (Ne.symm cU)] at hl;exact S1 j q d hj ig hl hq aH
    ·rw [gW,if_neg (ht i o2 bg aT)];exact S2 t ht
    ·obtain ⟨⟨h1,o3,t3,h2,_,h3,_⟩,_⟩:=gJ hq;rw [gW,if_neg fun e=>cA h1 (Ne.symm (qj hq)) h2 h3 e rfl];rw [aZ (qj hq)] at hl;exact S3 j q hq hl
    ·rw [gW];by_cases gg:o2.dst=some t
     ·rw [if_pos gg];exact .inl (nc t gg)
     ·rw [if_neg gg];rcases S4 t with h1|⟨j,q,h1,h2,h3⟩
      ·exact .inl h1
      ·exact .inr ⟨j,q,h1,by rw [aZ (qj h1)];exact h2,h3⟩
   have bU:fi P st.h (ev (aQ st ((l.take n).take i) (rs.take i))) o2.op (rs.getD i .any)→gives P o2 a w fun v w''=>V1 w'' (Mof M0 (st.h++fB A fun i=>listed.getD i false) p) st.h p (rs.getD i .any) v∧Below w.heap.size w w'':=by
    intro hg;refine pk (R.short_objs hh) R.mok R.h0 R.glob (fun _ _ hb=>.inl hb) (fun x hx=>?_) hg;cases x with
    | tmp t=>
     show V1 _ _ _ _ (lkp (aQ st ((l.take n).take i) (rs.take i)).s t) _;rcases cT (Nat.le_refl i) (by omega) t (List.mem_append_left _ (List.mem_filterMap.2 ⟨.tmp t,by simpa using hx,rfl⟩)) with h1|⟨h1,h2⟩
     ·rw [h1];exact .base _ _ (.any _)
     ·rw [h1];exact V1.short (R.slots t) h2
    | const v=>exact .base _ _ (.lit v)
    | global g=>exact .base _ _ (R.evalG g)
    | func f=>exact .base _ _ (.lit _)
   have hy:=fun j=>pb (ops:=l) (j:=j) R hN;have bV:∀ (j:Nat) (want:Bool) (v:Value),o2.guard=some (j,want)→cI l (aQ st ((l.take n).take i) (rs.take i)) j = .lit v→cI l ⟨s,st.h++fB A fun i=>listed.getD i false⟩ j = .lit v:=by
    intro j want v hg hv;unfold cI at hv ⊢;cases hj:l[j]? with
    | none=>simpa [hj] using hv
    | some q=>
     cases hq:q.dst with
     | none=>simpa [hj,hq] using hv
     | some d=>
      have dW:d∈o2.looksAt l.toArray:=by
       unfold Oper.looksAt;refine List.mem_append_right _ ?_;simp [hg,hj,hq]
      simp only [hj,hq] at hv ⊢;rcases cT (Nat.le_refl i) (by omega) d dW with h1|⟨h1,_⟩
      ·rw [h1] at hv;cases hv
      ·rw [←h1];exact hv
   unfold wpOp;simp only [ho];unfold kh at ar;split at ar
   ·rename_i hg;rw [if_pos (by simp [Region.wanted,hg])];rw [eZ] at ar;exact Or.inl (ka (bU ar) rfl fun v w' hv=>fin v w' hv.1 hv.2)
   ·rename_i j want hg;split at ar
    ·rename_i b hb;have ft:=(hy j).1 b (bV j want _ hg hb);split at ar
     ·rename_i hw;subst hw;rw [if_pos (by simp [Region.wanted,hg,ft])];rw [eZ] at ar;exact Or.inl (ka (bU ar) rfl fun v w' hv=>fin v w' hv.1 hv.2)
     ·rename_i hw;rw [if_neg (by simpa [Region.wanted,hg,ft] using hw)];exact fin undef w (by rw [ar];exact .base _ _ (.lit _)) (Below.refl _ _)
    ·rename_i us hb;have ft:=(hy j).2 us (bV j want _ hg hb);rw [if_neg (by simp [Region.wanted,hg,ft])];exact fin undef w (by rw [ar];exact .base _ _ (.lit _)) (Below.refl _ _)
    ·exact ar.elim
  · -- one P5 makes or Dq
   have dv:∀ {j j':Nat} {q q':Slot},A[j]? = some q→A[j']? = some q'→q.d=q'.d→j=j':=fun h1 h2 h3=>P2 mW h1 h2 h3;have fa:∀ {j:Nat} {x:Option Ob},j < A.length→(∀ k q,A[k]? = some q→k≠j→q.at_ (fun j=>(listed.setIfInBounds i true).getD j false)=q.at_ fun j=>listed.getD j false)→(∀ q,A[j]? = some q→q.at_ (fun j=>(listed.setIfInBounds i true).getD j false)=x) →
     (st.h++fB A fun i=>listed.getD i false).set (st.h.length+j) x=st.h++fB A fun j=>(listed.setIfInBounds i true).getD j false:=by
    intro j x hj h1 h2;rw [List.set_append_right _ _ (by omega),Nat.add_sub_cancel_left];congr 1;apply List.ext_getElem?;intro k;unfold fB;by_cases hk:j=k
    ·subst hk;rw [List.getElem?_set_self (by simpa using hj),List.getElem?_map,List.getElem?_eq_getElem hj];simp only [Option.map_some,Option.some.injEq];exact (h2 _ (List.getElem?_eq_getElem hj)).symm
    ·rw [List.getElem?_set_ne hk,List.getElem?_map,List.getElem?_map];cases hq:A[k]? with
     | none=>rfl
     | some q=>simp only [Option.map_some,Option.some.injEq];exact (h1 k q hq (Ne.symm hk)).symm
   obtain ⟨q,hq,kD⟩:=List.any_eq_true.1 dY;obtain ⟨j,hj⟩:=List.mem_iff_getElem?.1 hq;have bB:=(List.getElem?_eq_some_iff.1 hj).1;obtain ⟨⟨AS,o3,t3,gy,xG,gK,iz⟩,fJ⟩:=gJ hj;have gh:(st.h++fB A fun i=>listed.getD i false)[st.h.length+j]? = some (q.at_ fun i=>listed.getD i false):=by
    rw [List.getElem?_append_right (by omega),Nat.add_sub_cancel_left];simp [fB,hj]
   have w8:∀ {k:Nat} {r:Slot} {s':Nat},A[k]? = some r→r.si=some s'→Region.waitsFor .any l.toArray s' r.ai=true:=fun {k r s'} hr jL=>by
    obtain ⟨⟨a1,o4,t4,a2,a3,a4,a5⟩,a6⟩:=gJ hr;obtain ⟨b1,o5,t5,y5,b2,b3,b4,b5⟩:=a6 s' jL;refine (cC s' b1 o5 b2 r.d ?_ r.ai a1 o4 a2 a4).1;unfold Oper.looksAt;exact List.mem_append_left _ (List.mem_filterMap.2 ⟨.tmp r.d,by rw [b5];simp [Op.operands],rfl⟩)
   by_cases xH:q.ai=i
   ·subst xH;have:o3=o2:=Option.some.inj (gy.symm.trans aT);subst this;have fN:=(zX mi hj).1;rw [gy] at fN;simp only [iz] at fN;obtain ⟨ti,aV,hz⟩:=fN;have dK:=getD_both fm;have nf:(q.at_ fun i=>listed.getD i false)=none:=by simp only [Slot.at_,dK,Bool.false_eq_true,if_false]
    rw [nf] at gh;have w9:∀ {k:Nat} {r:Slot} {s':Nat},A[k]? = some r→r.si=some s'→q.ai≠s':=fun {k r s'} hr jL e=>by
     obtain ⟨_,a6⟩:=gJ hr;obtain ⟨b1,o5,t5,y5,b2,b3,b4,b5⟩:=a6 s' jL;rw [←e,gy] at b2;obtain rfl:=Option.some.inj b2;rw [gK] at b4;cases b4
    have pq:∀ t,cE (st.h.length+j) 5 (lkp s t)=true:=fun t=>by
     rcases S4 t with h1|⟨k,r,h1,h2,h3⟩
     ·exact rO (by omega) 5 _ h1
     ·rw [h3];have kE:k≠j:=fun e=>by
       subst e;rw [hj] at h1;obtain rfl:=Option.some.inj h1;rw [dK] at h2;cases h2
      simp only [cE,bne_iff_ne,ne_eq];omega
    have lK:∀ (k:Nat) (cs:List AV),(st.h++fB A fun i=>listed.getD i false)[k]? = some (some (Ob.box cs))→∀ c∈cs,cE (st.h.length+j) 5 c=true:=fun k cs hk c hc=>by
     rcases Nat.lt_or_ge k st.h.length with aq|dr
     ·rw [List.getElem?_append_left aq] at hk;exact rO (by omega) 5 _ (List.all_eq_true.1 (vq hh k _ hk) c hc)
     ·rw [List.getElem?_append_right dr] at hk;unfold fB at hk;rw [List.getElem?_map,Option.map_eq_some_iff] at hk;obtain ⟨r,hr,he⟩:=hk;have w_:∀ c∈r.z.map AV.lit,cE (st.h.length+j) 5 c=true:=fun c hc=>by
       obtain ⟨z,_,rfl⟩:=List.mem_map.1 hc;rfl
      unfold Slot.at_ at he;split at he
      ·simp only [Option.some.injEq,Ob.box.injEq] at he;subst he;split at hc
       ·rename_i s' jL;split at hc
        ·have cw:=(zX mi hr).2;rw [jL] at cw;obtain ⟨b1,o5,t5,y5,b2,b3,b4,b5⟩:=(gJ hr).2 s' jL;simp only [b2,b5] at cw;obtain ⟨_,_,_,_,_,_,_,aF⟩:=cw;have:=List.all_eq_true.1 aF c hc;rw [eZ] at this;exact rO (by omega) 5 _ this
        ·exact w_ c hc
       ·exact w_ c hc
      ·cases he
    obtain ⟨z,xJ,iM,km⟩:=pr aV;have hc:Cells w (Mof M0 (st.h++fB A fun i=>listed.getD i false) p) (st.h++fB A fun i=>listed.getD i false) p (q.z.map .lit) z.cells.toList:=by rw [xJ,←hz];exact Cells.of_lits _ iM
    have R':=R.fill (d:=q.d) (fh (List.all_eq_true.1 hN o3 (List.mem_of_getElem? gy)) q.d gK) gh pq lK hc t3;simp only at R';rw [fa bB (fun k r hr kE=>?_) (fun r hr=>?_)] at R'
    ·unfold wpOp;simp only [ho];rw [if_pos (by simp [Region.wanted,xG])];refine Or.inl ?_;unfold Oper.wp;have aD:(execOp a.eval o3).run P w = .ok (.value (.pointer (some ⟨w.heap.size,0,none⟩))) { w with heap:=w.heap.push (.cells z.cells.toList.toArray t3) }:=by
      simp [execOp,iz,Instr.alloc,km,newVar,newRow]
     rw [aD];simp only [Oper.upon];rw [gK];refine ⟨head.set hi bg,_,_,R',fun k r d hk eP hl hr oC=>?_,fun t ht=>?_,fun k r hr hl=>?_,fun t=>?_⟩
     ·have jy:k≠q.ai:=fun e=>by rw [e,dY] at eP;cases eP
      simp only [lkp];rw [if_neg (cA hk jy hr oC gK)];rw [aZ (Ne.symm jy)] at hl;exact S1 k r d hk eP hl hr oC
     ·simp only [lkp];rw [if_neg fun e=>ht q.ai o3 bg gy (by rw [gK,e])];exact S2 t ht
     ·simp only [lkp];by_cases he:q.d=r.d
      ·rw [if_pos he,dv hj hr he]
      ·rw [if_neg he];refine S3 k r hr ?_;rw [aZ fun e=>he ?_] at hl
       ·exact hl
       ·obtain ⟨⟨_,o4,_,a2,_,a4,_⟩,_⟩:=gJ hr;rw [←e,gy] at a2;obtain rfl:=Option.some.inj a2;rw [gK] at a4;exact Option.some.inj a4
     ·simp only [lkp];by_cases he:q.d=t
      ·rw [if_pos he];exact .inr ⟨j,q,hj,cg,rfl⟩
      ·rw [if_neg he];rcases S4 t with h1|⟨k,r,h1,h2,h3⟩
       ·exact .inl h1
       ·refine .inr ⟨k,r,h1,?_,h3⟩;by_cases e:q.ai=r.ai
        ·rw [←e];exact cg
        ·rw [aZ e];exact h2
    ·have ax:q.ai≠r.ai:=fun e=>by
      obtain ⟨⟨_,o4,_,a2,_,a4,_⟩,_⟩:=gJ hr;rw [←e,gy] at a2;obtain rfl:=Option.some.inj a2;rw [gK] at a4;exact kE (dv hr hj (Option.some.inj a4).symm)
     simp only [Slot.at_,aZ ax];cases jL:r.si with
     | none=>rfl
     | some s'=>simp only [aZ (w9 hr jL)]
    ·rw [hj] at hr;obtain rfl:=Option.some.inj hr;simp only [Slot.at_,cg,if_true];cases jL:q.si with
     | none=>rfl
     | some s'=>
      simp only [aZ (w9 hj jL)];rw [if_neg fun hl=>?_];obtain ⟨o6,lP,e,he,hb,cD⟩:=Region.waitsFor_spec (w8 hj jL);have:=head.closed s' o6 lP hl e he hb;rw [cD,dK] at this;cases this
   ·have xa:q.si=some i:=by simpa [xH] using kD
    obtain ⟨b1,o5,t5,y5,b2,b3,b4,b5⟩:=fJ i xa;have:o5=o2:=Option.some.inj (b2.symm.trans aT);subst this;have cw:=(zX mi hj).2;rw [xa] at cw;simp only [b2,b5] at cw;obtain ⟨ti,aV,ax,Iq,Dr,oA,vB,Ir⟩:=cw;have ng:listed.getD q.ai false=true:=bT _ (w8 hj xa);have P6:ev (aQ st (l.take n) rs) y5=ev ⟨s,st.h++fB A fun i=>listed.getD i false⟩ y5:=by
     cases y5 with
     | tmp t=>
      have ht:t∈o5.looksAt l.toArray:=by
       unfold Oper.looksAt;exact List.mem_append_left _ (List.mem_filterMap.2 ⟨.tmp t,by rw [b5];simp [Op.operands],rfl⟩)
      show lkp _ t=lkp _ t;rcases cT (k:=n) (by omega) (Nat.le_refl _) t ht with h1|⟨h1,_⟩
      ·rw [←bp] at h1;exact absurd h1 ax
      ·rw [←bp] at h1;exact h1
     | const v=>rfl
     | global g=>rfl
     | func f=>rfl
    rw [P6] at Iq Dr;have xb:(q.at_ fun i=>listed.getD i false)=some (.box (q.z.map .lit)):=by
     have dK:=getD_both fm;simp only [Slot.at_,ng,xa,dK,if_true,Bool.false_eq_true,if_false]
    rw [xb] at gh;have hx:ev ⟨s,st.h++fB A fun i=>listed.getD i false⟩ (.tmp q.d) = .ref (st.h.length+j) 0:=S3 j q hj ng;obtain ⟨w',aD,R'⟩:=Gn (y:=y5) R aV hx gh Iq (by rw [Dr];exact oA) (by rw [List.length_map];omega);rw [Dr,P3 (by rw [List.length_map];omega)] at R';have p7:∀ {k:Nat} {r:Slot},A[k]? = some r→i≠r.ai:=fun {k r} hr e=>by
     obtain ⟨⟨_,o4,_,a2,_,a4,_⟩,_⟩:=gJ hr;rw [←e,b2] at a2;obtain rfl:=Option.some.inj a2;rw [b4] at a4;cases a4
    simp only at R';rw [fa bB (fun k r hr kE=>?_) (fun r hr=>?_)] at R'
    ·unfold wpOp;simp only [ho];rw [if_pos (by simp [Region.wanted,b3])];refine Or.inl ?_;have sg:∀ v,a.put o5.dst v=a:=fun v=>by rw [b4];rfl
     have fin:∀ v,(fun a w=>HeadInv .any l.toArray n (listed.setIfInBounds i true)∧∃ (p:Pl) (s:List (Nat×AV)),Rel M0 w0 N p ⟨s,st.h++fB A fun j=>(listed.setIfInBounds i true).getD j false⟩ a w ∧
       (∀ (j:Nat) (q:Oper) (d:Nat),j < n→isA A j=false→(listed.setIfInBounds i true).getD j false=true→l[j]? = some q→q.dst=some d→lkp s d=rs.getD j .any) ∧
       (∀ t,(∀ j q,j < n→l[j]? = some q→q.dst≠some t)→lkp s t=lkp st.s t)∧(∀ (j:Nat) (q:Slot),A[j]? = some q→(listed.setIfInBounds i true).getD q.ai false=true→lkp s q.d = .ref (st.h.length+j) 0) ∧
       (∀ t,bc st.h.length 5 (lkp s t)=true∨∃ (j:Nat) (q:Slot),A[j]? = some q∧(listed.setIfInBounds i true).getD q.ai false=true∧lkp s t = .ref (st.h.length+j) 0)) (a.put o5.dst v) w':=fun v=>by
      rw [sg];refine ⟨head.set hi bg,p,s,R',fun k r d hk eP hl hr oC=>?_,S2,fun k r hr hl=>?_,fun t=>?_⟩
      ·have jy:k≠i:=fun e=>by rw [e,dY] at eP;cases eP
       rw [aZ (Ne.symm jy)] at hl;exact S1 k r d hk eP hl hr oC
      ·rw [aZ (p7 hr)] at hl;exact S3 k r hr hl
      ·rcases S4 t with h1|⟨k,r,h1,h2,h3⟩
       ·exact .inl h1
       ·exact .inr ⟨k,r,h1,by rw [aZ (p7 h1)];exact h2,h3⟩
     unfold Oper.wp;have f_:(execOp a.eval o5).run P w = .ok .skip w'∨∃ v,(execOp a.eval o5).run P w = .ok (.value v) w':=by
      obtain ⟨dst,op,ty,pos,after,guard⟩:=o5;simp only at b5;subst b5;simp [execOp,aD]
     rcases f_ with h1|⟨v,h1⟩
     ·rw [h1];exact fin _
     ·rw [h1];exact fin _
    ·simp only [Slot.at_,aZ (p7 hr)];cases jL:r.si with
     | none=>rfl
     | some s'=>
      have ax:i≠s':=fun e=>by
       obtain ⟨_,o6,t6,y6,c2,_,_,c5⟩:=(gJ hr).2 s' jL;rw [←e,b2] at c2;obtain rfl:=Option.some.inj c2;rw [b5] at c5;injection c5 with _ c6 _
       injection c6 with c6
       exact kE (dv hr hj c6.symm)
      simp only [aZ ax]
    ·rw [hj] at hr;obtain rfl:=Option.some.inj hr;simp only [Slot.at_,aZ (p7 hj),ng,xa,cg,if_true]
 ·rintro listed a w ⟨head,p,s,R,S1,S2,S3,S4⟩ aF;have bg:∀ i,isA A i=true→i < n:=fun i hi=>by
   obtain ⟨q,hq,kD⟩:=List.any_eq_true.1 hi;obtain ⟨⟨h1,_⟩,h2⟩:=Ip (List.all_eq_true.1 vo q hq);simp only [Bool.or_eq_true,beq_iff_eq] at kD;rcases kD with kD|kD
   ·omega
   ·exact (h2 i kD).1
  rw [P0 A _ fun i hi=>aF i (bg i hi)] at R;rw [eZ] at hK;have R':=R.weak (s':=dL st.h.length A++(aQ st (l.take n) rs).s) fun t=>by
   show lkp (dL st.h.length A++(aQ st (l.take n) rs).s) t=lkp s t∨_;rcases qk (dL st.h.length A) (aQ st (l.take n) rs).s t with h1|h1
   ·rw [h1];by_cases ax:lkp (dL st.h.length A) t = .any
    ·exact .inr ax
    ·obtain ⟨j,q,g1,g2,g3⟩:=Io ax;rw [g3,←g2];exact .inl (S3 j q g1 (aF _ (gJ g1).1.1)).symm
   ·rw [h1,bp];by_cases hex:∃ (j:Nat) (q:Oper),j < n∧l[j]? = some q∧q.dst=some t
    ·obtain ⟨j,q,hj,hq,aH⟩:=hex;rw [aX hj (Nat.le_refl _) hq aH];cases hc:isA A j
     ·exact .inl (S1 j q t hj hc (aF j hj) hq aH).symm
     ·exact .inr (iy hj hc hq)
    ·have bD:∀ j q,j < n→l[j]? = some q→q.dst≠some t:=fun j q hj hq he=>hex ⟨j,q,hj,hq,he⟩;rw [aW bD,S2 t bD];exact .inl rfl
  have ja:(l.drop n).all (cW N)=true:=List.all_eq_true.2 fun q hq=>List.all_eq_true.1 hN q (List.mem_of_mem_drop hq);exact mP (ow:=ow) hN (fun p st a w R h=>⟨st,p,R,h⟩) (l.drop n) p _ _ w ja R' hK
 ·have rQ:(fB A fun i=>(Array.replicate l.toArray.size false).getD i false)=List.replicate A.length none:=by
   apply List.ext_getElem?;intro k;unfold fB;rw [List.getElem?_map,List.getElem?_replicate];cases hq:A[k]? with
   | none=>
    have:=List.getElem?_eq_none_iff.1 hq;rw [if_neg (by omega)];rfl
   | some q=>
    have:=(List.getElem?_eq_some_iff.1 hq).1;rw [if_pos this];simp only [Option.map_some,Slot.at_,getD_replicate_false];rfl
  refine ⟨⟨by simp,fun j oj _ hl=>(by rw [getD_replicate_false] at hl;cases hl),fun t _ ht=>getD_in (by simpa using ht) (getD_replicate_false _ _)⟩,p0,st.s,?_,fun j q d _ _ hl=>(by rw [getD_replicate_false] at hl;cases hl),fun _ _=>rfl,fun j q _ hl=>(by rw [getD_replicate_false] at hl;cases hl),fun t=>.inl (po hs t)⟩;rw [rQ];exact (R0.later (Below.refl _ _).drew).pad A.length
end
section
variable {P:Program} {ow:List Nat} {ops l:List Oper} {o:Oper} {T:VS} {K:VS→Prop} {a_:Nat→Bool} {i:Nat}
theorem fe (h:K T) : iN P ops a_ [] i T K:=h
theorem fb (hc:a_ i=true) (h:iN P ops a_ l (i+1) (T.put o.dst .any) K) : iN P ops a_ (o::l) i T K:=by
 unfold iN;rw [if_pos hc];exact h
theorem fc (hc:a_ i=false) (h:∀ X:VS→Prop,(∀ T',wP T.h.length o.dst T'.s=true→iN P ops a_ l (i+1) T' K→X T')→mc P ops o T X) : iN P ops a_ (o::l) i T K:=by
 unfold iN;rw [if_neg (by rw [hc];decide)];refine h _ fun T' hid hT=>⟨fun d hd=>?_,hT⟩
 simpa [wP,hd] using hid
end
attribute [go_sem] dL d_ Slot.end_ w7 Dp
def Ds (o:Oper) : Bool:=o.guard.isNone&&(match o.op with | .move _=>true | .assign _=>true | .nilCheck _=>true | .fieldAddr .. => true|_=>false)
section
variable {P:Program} {M0:Nat→Nat→Prop} {w0:Bas} {N:Nm} {p:Pl} {st:VS} {a:Act} {w:World} {Q:Exit→VS→Prop}
theorem P7 {h h':Hp} {E:Operand→AV} {o:Oper} {r:AV} (hl:Ds o=true) (hg:fi P h E o.op r) : fi P h' E o.op r:=by
 unfold Ds at hl;simp only [Bool.and_eq_true] at hl;have hl:=hl.2;obtain ⟨dst,op,ty,pos,after,guard⟩:=o;simp only at hl hg ⊢;cases op with
 | move x=>exact hg
 | assign x=>exact hg
 | nilCheck x=>exact hg
 | fieldAddr t x f=>exact hg
 | _=>cases hl
end
def gV (l:List Oper) : Nat→Nat→Nat→Bool
 | 0,_,_=>false
 | f+1,n,i=>Region.waitsFor .any l.toArray n i || (List.range n).any fun j=>Region.waitsFor .any l.toArray n j&&gV l f j i
def P8 (l:List Oper) (n:Nat) : Bool:=(List.range n).all fun i=>gV l n n i || (match l[i]? with|some o=>Ds o|none=>false)
def xt (l:List Oper) (n:Nat) : List Nat:=(List.range n).flatMap fun i=>if gV l n n i then [] else match l[i]? with|some o=>o.looksAt l.toArray++o.dst.toList|none=>[]
theorem ph {l:List Oper} {m:Nat} {listed:Array Bool} (head:HeadInv .any l.toArray m listed) : ∀ (f n i:Nat),(∀ j,Region.waitsFor .any l.toArray n j=true→listed.getD j false=true)→gV l f n i=true→listed.getD i false=true
 | 0,_,_,_,h=>by cases h
 | f+1,n,i,hn,h=>by
  rw [gV,Bool.or_eq_true] at h;rcases h with h|h
  ·exact hn i h
  ·obtain ⟨j,_,hj⟩:=List.any_eq_true.1 h;rw [Bool.and_eq_true] at hj;have bB:=hn j hj.1;refine ph head f j i (fun k hk=>?_) hj.2;obtain ⟨oj,P9,e,he,hb,cD⟩:=Region.waitsFor_spec hk;have:=head.closed j oj P9 bB e he hb;rwa [cD] at this
theorem Dt {id:Nat} {v:AV} (h:cE id 5 v=true) : purge id v=v:=if_pos h
def pgB (g:Nat) (b:Bool) (v:AV) : AV:=if b then purge g v else v
section
variable {P:Program} {M0:Nat→Nat→Prop} {w0:Bas} {N:Nm} {p:Pl} {st:VS} {a:Act} {w:World} {Q:Exit→VS→Prop}
theorem P_ {ow:List Nat} {o:Oper} {t t':TypeId} {x y:Operand} {T:VS} {s:List (Nat×AV)} {h1:Hp} {d g:Nat} (cT:o.op = .call ⟨.builtin .append,#[x,y],#[t,t']⟩) (hd:o.dst=some d) (hx:ev ⟨s,T.h⟩ x=ev T x) (hy:ev ⟨s,T.h⟩ y=ev T y) (hg:ev T x = .osl g)
  (ht:lX P ow T o=some ⟨(d,.osl g)::T.s.map (fun q=>(q.1,purge g q.2)),h1⟩) : lX P ow ⟨s,T.h⟩ o=some ⟨(d,.osl g)::s.map (fun q=>(q.1,purge g q.2)),h1⟩:=by
 obtain ⟨dst,op,ty,pos,after,guard⟩:=o;simp only at cT hd;subst cT hd;unfold lX at ht ⊢;simp only [hx,hy,hg] at ht ⊢;cases lv:aU P t with
 | none=>simp [lv] at ht
 | some ti=>
  cases h2:ev T y with
  | sl sz es=>
   simp only [lv,h2] at ht ⊢;cases h3:T.h[g]? with
   | none=>simp [h3] at ht
   | some Qa=>
    cases Qa with
    | none=>simp [h3] at ht
    | some ob=>
     cases ob with
     | arr e bw nl es'=>
      simp only [h3] at ht ⊢;cases h4:aU P ti.elem with
      | none=>simp [h4] at ht
      | some te=>
       simp only [h4] at ht ⊢;split at ht
       ·rename_i hc;rw [if_pos hc];simp only [Option.some.injEq,VS.mk.injEq,true_and] at ht ⊢;exact ht
       ·cases ht
     | _=>simp [h3] at ht
  | _=>simp [lv,h2] at ht
theorem rR {id:Nat} {l:List Oper} (n:Nat) (ow:List Nat) (g:Nat) (ls:List Nat) (hm:P.follows .mixedOrders=true) (hB:Region.specB l.toArray (n+1)=true) (hL:P8 l n=true) (AF:xt l n=ls) {so:Oper} {d:Nat} {ty Qb:TypeId} {x y:Operand} (iu:l[n]? = some so) (oo:so.guard=none∧so.dst=some d) (s5:so.op = .call ⟨.builtin .append,#[x,y],#[ty,Qb]⟩)
  (h:jt P l (l.take n) st fun T=>∃ h1,ev T x = .osl g∧lX P ow T so=some ⟨(d,.osl g)::T.s.map (fun q=>(q.1,purge g q.2)),h1⟩∧(∀ t∈ls,cE g 5 (lkp T.s t)=true)∧dP P ow l (l.drop (n+1)) ⟨(d,.osl g)::T.s.map (fun q=>(q.1,purge g q.2)),h1⟩ (Q .normal)) : VWp P M0 w0 N (.region id l.toArray true) Q st:=fun ju p0 a0 va R0=>by
 have hN:l.all (cW N)=true:=by simpa [fg] using ju
 obtain ⟨rs,eb,⟨h1,Du,gT,mm,hK⟩,S⟩:=tA _ _ h;have dp:=hB;simp only [Region.specB,Bool.and_eq_true,decide_eq_true_eq] at dp;obtain ⟨⟨⟨⟨⟨⟨_,aL⟩,_⟩,_⟩,hd⟩,bb⟩,_⟩:=dp;have eY:n+1 < l.length:=by simpa using aL
 have du:dS (l.take (n+1))=true:=by simpa using hd
 have xu:dS (l.take n)=true:=by
  have:=ot (l.take (n+1)) n du;rwa [List.take_take,Nat.min_eq_left (Nat.le_succ n)] at this
 have hlen:(l.take n).length=n:=by simp;omega
 rw [hlen] at eb;have bm:∀ {i:Nat} {o:Oper},i < n→l[i]? = some o→(l.take n)[i]? = some o:=fun {i o} hi ho=>by rw [List.getElem?_take_of_lt hi];exact ho
 have jb:∀ {i:Nat} {o:Oper},i < n+1→l[i]? = some o→(l.take (n+1))[i]? = some o:=fun {i o} hi ho=>by rw [List.getElem?_take_of_lt hi];exact ho
 have kg:∀ {i:Nat} {o:Oper},(l.take n)[i]? = some o→i < n∧l[i]? = some o:=fun {i o} ho=>by
  have hi:i < n:=by have:=(List.getElem?_eq_some_iff.1 ho).1;omega
  rw [List.getElem?_take_of_lt hi] at ho;exact ⟨hi,ho⟩
 have ee:∀ {i:Nat},i < n→rs[i]? = some (rs.getD i .any):=fun {i} hi=>by simp [List.getD,show i < rs.length by omega]
 have cC:∀ i,i < n+1→∀ o,l[i]? = some o→∀ t∈o.looksAt l.toArray,∀ j,j < n+1→∀ q,l[j]? = some q→q.dst=some t→Region.waitsFor .any l.toArray i j=true∧j < i:=by
  intro i hi o ho;have h:=List.all_eq_true.1 bb i (List.mem_range.2 hi);simp only [List.getElem?_toArray,ho,Bool.and_eq_true] at h;have fK:∀ e∈o.after,Region.binds .any e=true→e.on < i:=fun e he hb=>by
   have h1:=Array.all_eq_true'.1 h.2 e he;simp only [hb,Bool.not_true,Bool.false_or,decide_eq_true_eq] at h1;exact h1
  intro t ht j hj q hq aH;have h1:=List.all_eq_true.1 (List.all_eq_true.1 h.1 t ht) j (List.mem_range.2 hj);simp only [hq,Option.bind_some,aH,bne_self_eq_false,Bool.false_or] at h1;refine ⟨h1,?_⟩;obtain ⟨o',aT,e,he,hb,cD⟩:=Region.waitsFor_spec h1;have:o'=o:=Option.some.inj (aT.symm.trans (by simpa using ho));subst this;rw [←cD];exact fK e he hb
 have aX:∀ {i j:Nat} {q:Oper} {t:Nat},j < i→i≤n→l[j]? = some q→q.dst=some t→lkp (aQ st ((l.take n).take i) (rs.take i)).s t=rs.getD j .any:=fun {i j q t} hj hi hq ht=>
  mR ((l.take n).take i) (rs.take i) st t j q (rs.getD j .any) (ot _ _ xu) (by rw [List.getElem?_take_of_lt hj];exact bm (by omega) hq) (by rw [List.getElem?_take_of_lt hj];exact ee (by omega)) ht
 have aW:∀ {i t:Nat},(∀ j q,j < n→l[j]? = some q→q.dst≠some t)→lkp (aQ st ((l.take n).take i) (rs.take i)).s t=lkp st.s t:=fun {i t} ho=>
  mn _ _ _ _ fun q hq he=>by
   obtain ⟨j,hj⟩:=List.mem_iff_getElem?.1 (List.mem_of_mem_take hq);obtain ⟨h1,h2⟩:=kg hj;exact ho j q h1 h2 he
 have bp:aQ st (l.take n) rs=aQ st ((l.take n).take n) (rs.take n):=by
  rw [List.take_of_length_le (l:=l.take n) (by rw [hlen];exact Nat.le_refl _),List.take_of_length_le (l:=rs) (by omega)]
 refine wp_region_any hm ?_;have mS:∀ {j:Nat} {q:Oper} {d':Nat},j < n→l[j]? = some q→q.dst=some d'→d'≠d:=fun {j q d'} hj hq aH he=>by
  subst he;have:j=n:=ou du (jb (by omega) hq) (jb (Nat.lt_succ_self n) iu) aH oo.2;omega
 have rE:∀ t,lkp (aQ st (l.take n) rs).s t=lkp (aQ st ((l.take n).take n) (rs.take n)).s t:=fun t=>by rw [←bp]
 have fq:∀ {i:Nat} {o:Oper} {t:Nat},i < n→l[i]? = some o→gV l n n i=false→t∈o.looksAt l.toArray++o.dst.toList→cE g 5 (lkp (aQ st ((l.take n).take n) (rs.take n)).s t)=true:=fun {i o t} hi ho fZ ht=>by
  rw [←bp];refine mm t ?_;rw [←AF];unfold xt;refine List.mem_flatMap.2 ⟨i,List.mem_range.2 hi,?_⟩;rw [fZ,ho];simpa using ht
 refine tu (Inv:=fun listed a w=>HeadInv .any l.toArray (n+1) listed∧∃ (p:Pl) (s:List (Nat×AV)),Rel M0 w0 N p ⟨s,if listed.getD n false=true then h1 else st.h⟩ a w ∧
   (∀ (j:Nat) (q:Oper) (d:Nat),j < n→listed.getD j false=true→l[j]? = some q→q.dst=some d→lkp s d=pgB g (listed.getD n false) (rs.getD j .any)) ∧
   (∀ t,t≠d→(∀ j q,j < n→l[j]? = some q→q.dst≠some t)→lkp s t=pgB g (listed.getD n false) (lkp st.s t))∧(listed.getD n false=true→lkp s d = .osl g)) hB (fun _ _ _ inv=>inv.1) ?_ ?_ _ _ _ _ ?_ (by simp)
 ·rintro listed a w i o ⟨head,p,s,R,S1,S2,S3⟩ hi bg ho fm;have aT:l[i]? = some o:=by simpa using ho
  obtain ⟨_,o2,lN,c_⟩:=mem_ready.1 hi;have:o2=o:=Option.some.inj (lN.symm.trans ho);subst this;have bI:i < listed.size:=by rw [head.size];simpa using (by omega:i < l.length)
  have cg:(listed.setIfInBounds i true).getD i false=true:=by simp [bI]
  have aZ:∀ {j:Nat},i≠j→(listed.setIfInBounds i true).getD j false=listed.getD j false:=fun ax=>getD_set_ne false ax;have bT:∀ j,Region.waitsFor .any l.toArray i j=true→listed.getD j false=true:=by
   intro j hj;obtain ⟨o3,mV,e,he,hb,cD⟩:=Region.waitsFor_spec hj;have:o3=o2:=Option.some.inj (mV.symm.trans ho);subst this;rw [←cD];exact c_ e he hb
  have mW:∀ t∈o2.looksAt l.toArray,t≠d:=fun t ht he=>by
   subst he;have:=(cC i bg o2 aT t ht n (Nat.lt_succ_self n) so iu oo.2).2;omega
  have cT:∀ {k:Nat},i≤k→k≤n→∀ t∈o2.looksAt l.toArray,lkp s t=pgB g (listed.getD n false) (lkp (aQ st ((l.take n).take k) (rs.take k)).s t):=fun {k} rG lO t ht=>by
   by_cases hex:∃ (j:Nat) (q:Oper),j < n∧l[j]? = some q∧q.dst=some t
   ·obtain ⟨j,q,hj,hq,aH⟩:=hex;obtain ⟨h1,h2⟩:=cC i bg o2 aT t ht j (by omega) q hq aH;rw [aX (by omega) lO hq aH];exact S1 j q t hj (bT j h1) hq aH
   ·have bD:∀ j q,j < n→l[j]? = some q→q.dst≠some t:=fun j q hj hq he=>hex ⟨j,q,hj,hq,he⟩;rw [aW bD,S2 t (mW t ht) bD]
  have cA:∀ {j:Nat} {q:Oper} {d d':Nat},j < n→j≠i→l[j]? = some q→q.dst=some d→o2.dst=some d'→d'≠d:=fun {j q d d'} hj cU hq aH dT he=>by
   subst he;exact cU (ou du (jb (by omega) hq) (jb bg aT) aH dT)
  by_cases vd:i=n
  ·subst vd;have:o2=so:=Option.some.inj (aT.symm.trans iu);subst this;have dK:=getD_both fm;rw [dK] at R;simp only [Bool.false_eq_true,if_false] at R;have rH:∀ z:Operand,z∈o2.op.operands→ev ⟨s,(aQ st (l.take i) rs).h⟩ z=ev (aQ st (l.take i) rs) z:=fun z hz=>by
    cases z with
    | tmp t=>
     show lkp s t=lkp _ t;rw [bp];have:=cT (Nat.le_refl _) (Nat.le_refl _) t (List.mem_append_left _ (List.mem_filterMap.2 ⟨.tmp t,by simpa using hz,rfl⟩));rw [dK] at this;exact this
    | const v=>rfl
    | global g=>rfl
    | func f=>rfl
   have gX:=P_ (s:=s) s5 oo.2 (rH x (by rw [s5];simp [Op.operands,Call.operands])) (rH y (by rw [s5];simp [Op.operands,Call.operands])) Du gT;rw [eZ] at gX;obtain ⟨v,w',p',hh⟩:=Gu (P:=P) R (List.all_eq_true.1 hN o2 (List.mem_of_getElem? aT)) gX;have fin:∀ v p',Rel M0 w0 N p' ⟨(d,.osl g)::s.map (fun q=>(q.1,purge g q.2)),h1⟩ (a.put o2.dst v) w'→(fun a w=>HeadInv .any l.toArray (i+1) (listed.setIfInBounds i true)∧∃ (p:Pl) (s:List (Nat×AV)),Rel M0 w0 N p ⟨s,if (listed.setIfInBounds i true).getD i false=true then h1 else st.h⟩ a w ∧
     (∀ (j:Nat) (q:Oper) (d:Nat),j < i→(listed.setIfInBounds i true).getD j false=true→l[j]? = some q→q.dst=some d→lkp s d=pgB g ((listed.setIfInBounds i true).getD i false) (rs.getD j .any)) ∧
     (∀ t,t≠d→(∀ j q,j < i→l[j]? = some q→q.dst≠some t)→lkp s t=pgB g ((listed.setIfInBounds i true).getD i false) (lkp st.s t))∧((listed.setIfInBounds i true).getD i false=true→lkp s d = .osl g)) (a.put o2.dst v) w':=fun v p' R'=>by
    refine ⟨head.set hi bg,p',_,by rw [cg];exact R',fun j q d' hj hl hq aH=>?_,fun t pg ht=>?_,fun _=>by simp [lkp]⟩
    ·rw [cg,lkp,if_neg (fun e=>mS hj hq aH e.symm),wN];rw [aZ (by omega)] at hl;have:=S1 j q d' hj hl hq aH;rw [dK] at this;rw [this];rfl
    ·rw [cg,lkp,if_neg (fun e=>pg e.symm),wN];have:=S2 t pg ht;rw [dK] at this;rw [this];rfl
   unfold wpOp;simp only [ho];rw [if_pos (by simp [Region.wanted,oo.1])];refine Or.inl ?_;unfold Oper.wp;rcases hh with ⟨h2,h3⟩|⟨h2,_,h3⟩
   ·rw [h2];exact fin _ _ h3
   ·rw [h2];exact fin _ _ h3
  ·have dz:i < n:=by omega
   have ar:=S i o2 (rs.getD i .any) (bm dz aT) (ee dz);have fr:((listed.setIfInBounds i true).getD n false)=listed.getD n false:=aZ vd;have rI:∀ t,o2.dst=some t→pgB g (listed.getD n false) (rs.getD i .any)=rs.getD i .any:=fun t ht=>by
    cases hb:listed.getD n false
    ·rfl
    ·have fZ:gV l n n i=false:=by
      cases hc:gV l n n i
      ·rfl
      ·have:=ph head n n i (fun j hj=>by
        obtain ⟨o6,lP,e,he,fC,cD⟩:=Region.waitsFor_spec hj;have:=head.closed n o6 lP hb e he fC;rwa [cD] at this) hc
       rw [getD_both fm] at this;cases this
     have:=fq (t:=t) dz aT fZ (List.mem_append_right _ (by rw [ht];simp));rw [aX dz (Nat.le_refl _) aT ht] at this;exact Dt this
   have fin:∀ v w',V1 w' (Mof M0 (if listed.getD n false=true then h1 else st.h) p) (if listed.getD n false=true then h1 else st.h) p (rs.getD i .any) v→Below w.heap.size w w'→(fun listed a w=>HeadInv .any l.toArray (n+1) listed∧∃ (p:Pl) (s:List (Nat×AV)),Rel M0 w0 N p ⟨s,if listed.getD n false=true then h1 else st.h⟩ a w ∧
     (∀ (j:Nat) (q:Oper) (d:Nat),j < n→listed.getD j false=true→l[j]? = some q→q.dst=some d→lkp s d=pgB g (listed.getD n false) (rs.getD j .any)) ∧
     (∀ t,t≠d→(∀ j q,j < n→l[j]? = some q→q.dst≠some t)→lkp s t=pgB g (listed.getD n false) (lkp st.s t))∧(listed.getD n false=true→lkp s d = .osl g)) (listed.setIfInBounds i true) (a.put o2.dst v) w':=fun v w' hv hb=>by
    have R':=(R.later hb).put (d:=o2.dst) (fh (List.all_eq_true.1 hN o2 (List.mem_of_getElem? aT))) hv;have cO:(VS.put ⟨s,if listed.getD n false=true then h1 else st.h⟩ o2.dst (rs.getD i .any))=⟨(VS.put ⟨s,if listed.getD n false=true then h1 else st.h⟩ o2.dst (rs.getD i .any)).s,if listed.getD n false=true then h1 else st.h⟩:=by cases o2.dst<;>rfl
    rw [cO] at R';refine ⟨head.set hi bg,p,_,by rw [fr];exact R',fun j q d hj hl hq aH=>?_,fun t pg ht=>?_,fun hl=>?_⟩
    ·rw [gW,fr];by_cases cU:j=i
     ·subst cU;have:q=o2:=Option.some.inj (hq.symm.trans aT);subst this;rw [if_pos aH,rI d aH]
     ·rw [if_neg fun e=>cA hj cU hq aH e rfl];rw [aZ (Ne.symm cU)] at hl;exact S1 j q d hj hl hq aH
    ·rw [gW,if_neg (ht i o2 dz aT),fr];exact S2 t pg ht
    ·rw [fr] at hl;rw [gW,if_neg fun e=>mS dz aT e rfl];exact S3 hl
   have mX:∀ t∈o2.looksAt l.toArray,lkp s t=lkp (aQ st ((l.take n).take i) (rs.take i)).s t:=fun t ht=>by
    have h2:=cT (Nat.le_refl i) (by omega) t ht;have h3:=cT (show i≤n by omega) (Nat.le_refl n) t ht;cases hb:listed.getD n false
    ·rw [hb] at h2;exact h2
    ·have fZ:gV l n n i=false:=by
      cases hc:gV l n n i
      ·rfl
      ·have:=ph head n n i (fun j hj=>by
        obtain ⟨o6,lP,e,he,fC,cD⟩:=Region.waitsFor_spec hj;have:=head.closed n o6 lP hb e he fC;rwa [cD] at this) hc
       rw [getD_both fm] at this;cases this
     have bD:=fq dz aT fZ (List.mem_append_left _ ht);rw [hb] at h2 h3;by_cases hex:∃ (j:Nat) (q:Oper),j < n∧l[j]? = some q∧q.dst=some t
     ·obtain ⟨j,q,hj,hq,aH⟩:=hex;obtain ⟨_,h5⟩:=cC i bg o2 aT t ht j (by omega) q hq aH;rw [aX hj (Nat.le_refl _) hq aH] at bD;rw [aX h5 (by omega) hq aH] at h2 ⊢;rw [h2];exact Dt bD
     ·have jd:∀ j q,j < n→l[j]? = some q→q.dst≠some t:=fun j q hj hq he=>hex ⟨j,q,hj,hq,he⟩;rw [aW jd] at bD;rw [aW jd] at h2 ⊢;rw [h2];exact Dt bD
   have bU:fi P st.h (ev (aQ st ((l.take n).take i) (rs.take i))) o2.op (rs.getD i .any)→gives P o2 a w fun v w''=>V1 w'' (Mof M0 (if listed.getD n false=true then h1 else st.h) p) (if listed.getD n false=true then h1 else st.h) p (rs.getD i .any) v∧Below w.heap.size w w'':=by
    intro hg;have fL:fi P (if listed.getD n false=true then h1 else st.h) (ev (aQ st ((l.take n).take i) (rs.take i))) o2.op (rs.getD i .any):=by
     split
     ·rename_i lQ;have h2:=List.all_eq_true.1 hL i (List.mem_range.2 dz);simp only [aT,Bool.or_eq_true] at h2;rcases h2 with h2|h2
      ·have:=ph head n n i (fun j hj=>by
        obtain ⟨o6,lP,e,he,fC,cD⟩:=Region.waitsFor_spec hj;have:=head.closed n o6 lP lQ e he fC;rwa [cD] at this) h2
       rw [getD_both fm] at this;cases this
      ·exact P7 h2 hg
     ·exact hg
    refine pk R.objs R.mok R.h0 R.glob (fun _ _ hb=>.inl hb) (fun x hx=>?_) fL;cases x with
    | tmp t=>
     show V1 _ _ _ _ (lkp (aQ st ((l.take n).take i) (rs.take i)).s t) _;rw [←mX t (List.mem_append_left _ (List.mem_filterMap.2 ⟨.tmp t,by simpa using hx,rfl⟩))];exact R.slots t
    | const v=>exact .base _ _ (.lit v)
    | global g=>exact .base _ _ (R.evalG g)
    | func f=>exact .base _ _ (.lit _)
   have hy:=fun j=>pb (ops:=l) (j:=j) R hN;have bV:∀ (j:Nat) (want:Bool) (v:Value),o2.guard=some (j,want)→cI l (aQ st ((l.take n).take i) (rs.take i)) j = .lit v→cI l ⟨s,if listed.getD n false=true then h1 else st.h⟩ j = .lit v:=by
    intro j want v hg hv;unfold cI at hv ⊢;cases hj:l[j]? with
    | none=>simpa [hj] using hv
    | some q=>
     cases hq:q.dst with
     | none=>simpa [hj,hq] using hv
     | some d=>
      have dW:d∈o2.looksAt l.toArray:=by
       unfold Oper.looksAt;refine List.mem_append_right _ ?_;simp [hg,hj,hq]
      simp only [hj,hq] at hv ⊢;rw [mX d dW];exact hv
   unfold wpOp;simp only [ho];unfold kh at ar;split at ar
   ·rename_i hg;rw [if_pos (by simp [Region.wanted,hg])];rw [eZ] at ar;exact Or.inl (ka (bU ar) rfl fun v w' hv=>fin v w' hv.1 hv.2)
   ·rename_i j want hg;split at ar
    ·rename_i b hb;have ft:=(hy j).1 b (bV j want _ hg hb);split at ar
     ·rename_i hw;subst hw;rw [if_pos (by simp [Region.wanted,hg,ft])];rw [eZ] at ar;exact Or.inl (ka (bU ar) rfl fun v w' hv=>fin v w' hv.1 hv.2)
     ·rename_i hw;rw [if_neg (by simpa [Region.wanted,hg,ft] using hw)];exact fin undef w (by rw [ar];exact .base _ _ (.lit _)) (Below.refl _ _)
    ·rename_i us hb;have ft:=(hy j).2 us (bV j want _ hg hb);rw [if_neg (by simp [Region.wanted,hg,ft])];exact fin undef w (by rw [ar];exact .base _ _ (.lit _)) (Below.refl _ _)
    ·exact ar.elim
 ·rintro listed a w ⟨head,p,s,R,S1,S2,S3⟩ aF;rw [aF n (by omega)] at R;simp only [if_true] at R;rw [aF n (by omega)] at S1 S2 S3;have R':=R.weak (s':=(d,.osl g)::(aQ st (l.take n) rs).s.map (fun q=>(q.1,purge g q.2))) fun t=>by
   show lkp ((d,.osl g)::(aQ st (l.take n) rs).s.map (fun q=>(q.1,purge g q.2))) t=lkp s t∨_;refine .inl ?_;rw [lkp];split
   ·rename_i he;subst he;exact (S3 rfl).symm
   ·rename_i he;rw [wN,bp];by_cases hex:∃ (j:Nat) (q:Oper),j < n∧l[j]? = some q∧q.dst=some t
    ·obtain ⟨j,q,hj,hq,aH⟩:=hex;rw [aX hj (Nat.le_refl _) hq aH];exact (S1 j q t hj (aF j (by omega)) hq aH).symm
    ·have bD:∀ j q,j < n→l[j]? = some q→q.dst≠some t:=fun j q hj hq he=>hex ⟨j,q,hj,hq,he⟩;rw [aW bD,S2 t (fun e=>he e.symm) bD];rfl
  have ja:(l.drop (n+1)).all (cW N)=true:=List.all_eq_true.2 fun q hq=>List.all_eq_true.1 hN q (List.mem_of_mem_drop hq);exact mP (ow:=ow) hN (fun p st a w R h=>⟨st,p,R,h⟩) (l.drop (n+1)) p _ _ w ja R' hK
 ·refine ⟨⟨by simp,fun j oj _ hl=>(by rw [getD_replicate_false] at hl;cases hl),fun t _ ht=>getD_in (by simpa using ht) (getD_replicate_false _ _)⟩,p0,st.s,?_,fun j q d _ hl=>(by rw [getD_replicate_false] at hl;cases hl),fun _ _ _=>by rw [getD_replicate_false];rfl,fun hl=>(by rw [getD_replicate_false] at hl;cases hl)⟩;rw [getD_replicate_false];exact R0.later (Below.refl _ _).drew
end
section
variable {P:Program} {M0:Nat→Nat→Prop} {w0:Bas} {N:Nm} {p:Pl} {st:VS} {a:Act} {w:World} {Q:Exit→VS→Prop}
end
end Go.Proofs.YtoibondihdhnoaaGreatDoor
