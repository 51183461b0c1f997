/- Texts in one: A drawing region that makes several variables of the call's own, in no order to each other: of every program; no condition. -/
import Derived.Test.YtoibondihdhnoaaGreatDoorFRZ5
namespace Go.Proofs.YtoibondihdhnoaaGreatDoor
open Go.RowKit
section
variable {P:Program} {M0:Nat→Nat→Prop} {w0:Bas} {N:Nm} {p:Pl} {st:VS} {a:Act} {w:World} {Q:Exit→VS→Prop}
theorem sV {h:Hp} {m id:Nat} {ob:Ob} (hi:(h++List.replicate m none)[id]? = some (some ob)) : h[id]? = some (some ob):=by
 rcases Nat.lt_or_ge id h.length with aw|dn
 ·rwa [List.getElem?_append_left aw] at hi
 ·rw [List.getElem?_append_right dn,List.getElem?_replicate] at hi;split at hi<;>cases hi
theorem Rel.pad (R:Rel M0 w0 N p st a w) (m:Nat) : Rel M0 w0 N p ⟨st.s,st.h++List.replicate m none⟩ a w:=by
 have hM:∀ b j,¬Mof M0 st.h p b j→¬Mof M0 (st.h++List.replicate m none) p b j:=fun b j hb fM=>by
  rcases fM with h|⟨i,ob,hi,hl,hp⟩
  ·exact hb (.inl h)
  ·exact hb (.inr ⟨i,ob,sV hi,hl,hp⟩)
 have keep:∀ {av:AV} {v:Value},V1 w (Mof M0 st.h p) st.h p av v→V1 w (Mof M0 (st.h++List.replicate m none) p) (st.h++List.replicate m none) p av v:=fun hv=>
  hv.keep (Keeps.refl _ _) (fun b j _ h=>hM b j h) (by simp) (fun _ _=>rfl) (fun i e sz nl es v _ he hv=>hv _ _ _ _ (sV he)) (fun i e sz nl pe qs v _ he hv=>hv _ _ _ _ _ (sV he)) fun i k sz v hid hs=>hs.keep (fun e sz pe qs he=>⟨sV he,rfl,rfl,fun _ _ _ _=>rfl⟩) (Nat.le_refl _)
 exact ⟨R.defers,R.size,R.below,R.m0,R.x0,fun i=>keep (R.slots i),fun i ob hi=>(R.objs i ob (sV hi)).keep (fun _=>⟨rfl,rfl⟩) (fun _ _ _ _ _=>rfl) (Nat.le_refl _) (fun hx=>hx.keep (Keeps.refl _ _) fun b j _=>hM b j) fun _ _ _ _ _ hx=>keep hx,
  fun i i' ob ob' hi bF=>R.inj i i' ob ob' (sV hi) (sV bF)⟩
theorem Rel.fill {us:List Value} {zs:List Value} {id d:Nat} (R:Rel M0 w0 N p st a w) (hd:N.has d) (hid:st.h[id]? = some none) (hs:∀ t,cu id 5 (lkp st.s t)=true) (hh:∀ (i:Nat) (cs:List AV),st.h[i]? = some (some (Ob.box cs))→∀ c∈cs,cu id 5 c=true)
  (hc:Cells w (Mof M0 st.h p) st.h p (zs.map .lit) us) (t:TypeId) :
  Rel M0 w0 N (cq p id w.heap.size) ⟨(d,.ref id 0)::st.s,st.h.set id (some (.box (zs.map .lit)))⟩ (a.put (some d) (.pointer (some ⟨w.heap.size,0,none⟩))) { w with heap:=w.heap.push (.cells us.toArray t) }:=by
 have hb:=nO w (.cells us.toArray t);have fk:id < st.h.length:=(List.getElem?_eq_some_iff.1 hid).1;have hp:∀ i,i≠id→cq p id w.heap.size i=p i:=fun i hi=>(jO hi).1;have jP:cq p id w.heap.size id=w.heap.size:=(ko p _ _).1;have bN:∀ i o,(st.h.set id (some (.box (zs.map .lit))))[i]? = some (some o)→(i=id∧o = .box (zs.map .lit))∨(i≠id∧st.h[i]? = some (some o)):=by
  intro i o aL;rw [List.getElem?_set] at aL;by_cases he:id=i
  ·rw [if_pos he,if_pos (by omega)] at aL;simp only [Option.some.injEq] at aL;exact .inl ⟨he.symm,aL.symm⟩
  ·rw [if_neg he] at aL;exact .inr ⟨fun h=>he h.symm,aL⟩
 have hM:∀ c j,c < w.heap.size→¬Mof M0 st.h p c j→¬Mof M0 (st.h.set id (some (.box (zs.map .lit)))) (cq p id w.heap.size) c j:=by
  intro c j hc hn hm;rcases hm with hm|⟨i,o,hi,hl,kL⟩
  ·exact hn (.inl hm)
  ·rcases bN i o hi with ⟨rfl,_⟩|⟨aC,bF⟩
   ·have:=lx kL;omega
   ·exact hn (.inr ⟨i,o,bF,hl,(iY aC).1 kL⟩)
 have hV:∀ {x:AV} {u:Value},cu id 5 x=true→V1 w (Mof M0 st.h p) st.h p x u→V1 { w with heap:=w.heap.push (.cells us.toArray t) } (Mof M0 (st.h.set id (some (.box (zs.map .lit)))) (cq p id w.heap.size)) (st.h.set id (some (.box (zs.map .lit)))) (cq p id w.heap.size) x u:=fun hx hv=>
  V1.purge (.of_below hb) hM (by simp) hp (fun i e sz nl es v aC he hv=>by
   rcases bN i _ he with ⟨h1,_⟩|⟨_,h2⟩
   ·exact absurd h1 aC
   ·exact (hv _ _ _ _ h2).below hb) (fun i e sz nl pe qs v aC he hv=>by
   rcases bN i _ he with ⟨h1,_⟩|⟨_,h2⟩
   ·exact absurd h1 aC
   ·exact (hv _ _ _ _ _ h2).below hb) (fun i k sz v aC cK hs=>hs.keep (fun e sz pe qs he=>by
   rcases bN i _ he with ⟨h1,_⟩|⟨_,h2⟩
   ·exact absurd h1 aC
   ·exact ⟨h2,(jO aC).1,(jO aC).2,fun b _ _ aw=>hb.block b aw⟩) hb.size) 5 _ _ hv hx
 refine ⟨R.defers,R.size.put hd,R.below.later hb,R.m0,R.x0,fun i=>?_,fun i o hi=>?_,fun i i' o o' hi bF hl bp x j j' hO cO=>?_⟩
 ·rw [mI a d _ i (R.size.lt hd)];simp only [lkp];split
  ·have:=V1.ref (w:={ w with heap:=w.heap.push (.cells us.toArray t) }) (M:=Mof M0 (st.h.set id (some (.box (zs.map .lit)))) (cq p id w.heap.size)) (h:=st.h.set id (some (.box (zs.map .lit)))) (p:=cq p id w.heap.size) id 0 (by simpa using fk);rwa [jP] at this
  ·exact hV (hs i) (R.slots i)
 ·rcases bN i o hi with ⟨rfl,rfl⟩|⟨aC,bF⟩
  ·refine ⟨rB R.below.size,us.toArray,t,by rw [jP];simp [-World.alloc_eq],by simpa using hc.1,hc.2.1,fun j c hj=>?_⟩;have eK:j < us.length:=by rw [hc.1];exact (List.getElem?_eq_some_iff.1 hj).1
   refine ⟨us[j],by simp [eK],hV ?_ (hc.2.2 j c us[j] hj (List.getElem?_eq_getElem eK))⟩;rw [List.getElem?_map,Option.map_eq_some_iff] at hj;obtain ⟨z,_,rfl⟩:=hj;rfl
  ·exact (R.objs i o bF).keep (fun _=>jO aC) (fun _ b _ _ eN=>hb.block b eN) hb.size (fun hx=>hx.keep (.of_below hb) hM) fun cs bV c gP _ hx=>hV (hh i cs (by rw [bF,bV]) c gP) hx
 ·rcases bN i o hi with ⟨rfl,rfl⟩|⟨hn,h1⟩<;>rcases bN i' o' bF with ⟨rfl,rfl⟩|⟨nP,h2⟩
  ·rfl
  ·have h3:=((R.objs i' o' h2).own bp x j' ((iY nP).1 cO)).2;have h4:=lx hO;omega
  ·have h3:=((R.objs i o h1).own hl x j ((iY hn).1 hO)).2;have h4:=lx cO;omega
  ·exact R.inj i i' o o' h1 h2 hl bp x j j' ((iY hn).1 hO) ((iY nP).1 cO)
end
structure Slot where
 ai:Nat
 d:Nat
 z:List Value
 si:Option Nat
 c:List AV
def Slot.end_ (q:Slot) : List AV:=match q.si with|some _=>q.c|none=>q.z.map .lit
def Slot.at_ (q:Slot) (f:Nat→Bool) : Option Ob:=if f q.ai=true then some (.box (match q.si with|some s=>if f s=true then q.c else q.z.map .lit|none=>q.z.map .lit)) else none
def e_ (A:List Slot) (f:Nat→Bool) : Hp:=A.map fun q=>q.at_ f
def me:List Slot→Hp
 | []=>[]
 | q::r=>some (.box q.end_)::me r
def kV (k:Nat) : List Slot→List (Nat×AV)
 | []=>[]
 | q::r=>(q.d,.ref k 0)::kV (k+1) r
def isA (A:List Slot) (i:Nat) : Bool:=A.any fun q=>q.ai == i || q.si == some i
def zV (l:List Oper) (n:Nat) (q:Slot) : Bool:=
 decide (q.ai < n)&&(match l[q.ai]? with|some o=>o.guard.isNone&&o.dst == some q.d&&(match o.op with | .alloc _=>true|_=>false)|none=>false) &&
 (match q.si with|none=>true|some s=>decide (s < n)&&(match l[s]? with|some o=>o.guard.isNone&&o.dst.isNone&&(match o.op with | .store _ (.tmp x) _=>x == q.d|_=>false)|none=>false))
def DH (l:List Oper) (n:Nat) (A:List Slot) : Bool:=A.all (zV l n)&&decide (A.map (·.d)).Nodup
def DI (P:Program) (l:List Oper) (T:VS) (q:Slot) : Prop:=
 (match l[q.ai]? with|some o=>(match o.op with | .alloc t=>∃ ti,aU P t=some ti∧ti.zero=q.z|_=>False)|none=>False) ∧
 (match q.si with|none=>True|some s=>(match l[s]? with|some o=>(match o.op with | .store t _ y=>∃ ti,aU P t=some ti∧ev T y≠.any∧nZ (ev T y)=true∧fp (ev T y)=q.c∧q.c.length=ti.size∧q.z.length=ti.size∧q.c.all (bj T.h.length 5)=true|_=>False)|none=>False))
def xj (P:Program) (l:List Oper) (T:VS) : List Slot→Prop
 | []=>True
 | q::r=>DI P l T q∧xj P l T r
section
variable (P:Program)
def kq (ops:List Oper) (dZ:Nat→Bool) : List Oper→Nat→VS→(VS→Prop)→Prop
 | [],_,T,K=>K T
 | o::l,i,T,K=>
  if dZ i=true then kq ops dZ l (i+1) (T.put o.dst .any) K
  else sF P ops o T fun T'=>(∀ d,o.dst=some d→bj T.h.length 5 (lkp T'.s d)=true)∧kq ops dZ l (i+1) T' K
end
section
variable {P:Program} {M0:Nat→Nat→Prop} {w0:Bas} {N:Nm} {p:Pl} {st:VS} {a:Act} {w:World} {Q:Exit→VS→Prop}
theorem uN {ops:List Oper} {dZ:Nat→Bool} {K:VS→Prop} : ∀ (l:List Oper) (i0:Nat) (T:VS),kq P ops dZ l i0 T K →
  ∃ rs:List AV,rs.length=l.length∧K (a_ T l rs) ∧
   (∀ (i:Nat) (o:Oper) (r:AV),dZ (i0+i)=false→l[i]? = some o→rs[i]? = some r→kO P ops o (a_ T (l.take i) (rs.take i)) r∧∀ d,o.dst=some d→bj T.h.length 5 r=true) ∧
   (∀ (i:Nat) (o:Oper),dZ (i0+i)=true→l[i]? = some o→rs[i]? = some .any)
 | [],i0,T,h=>⟨[],rfl,h,by simp,by simp⟩
 | o::l,i0,T,h=>by
  unfold kq at h;by_cases hc:dZ i0=true
  ·rw [if_pos hc] at h;obtain ⟨rs,e1,hK,hp,hh⟩:=uN l (i0+1) _ h;refine ⟨.any::rs,by simp [e1],by simpa [a_] using hK,fun i q r hi hq hr=>?_,fun i q hi hq=>?_⟩
   ·cases i with
    | zero=>rw [Nat.add_zero,hc] at hi;cases hi
    | succ i=>
     have:=hp i q r (by rw [←hi];congr 1;omega) (by simpa using hq) (by simpa using hr);rw [Ip] at this;simpa [a_] using this
   ·cases i with
    | zero=>rfl
    | succ i=>exact hh i q (by rw [←hi];congr 1;omega) (by simpa using hq)
  ·rw [if_neg hc] at h;obtain ⟨r,h1,h2,h3⟩:=Ij h;obtain ⟨rs,e1,hK,hp,hh⟩:=uN l (i0+1) _ h3;refine ⟨r::rs,by simp [e1],by simpa [a_] using hK,fun i q x hi hq hr=>?_,fun i q hi hq=>?_⟩
   ·cases i with
    | zero=>
     simp at hq hr;subst hq;subst hr;refine ⟨h1,fun d hd=>?_⟩;have:=h2 d hd;rw [hd,Pg] at this;simpa using this
    | succ i=>
     have:=hp i q x (by rw [←hi];congr 1;omega) (by simpa using hq) (by simpa using hr);rw [Ip] at this;simpa [a_] using this
   ·cases i with
    | zero=>rw [Nat.add_zero] at hi;exact absurd hi hc
    | succ i=>exact hh i q (by rw [←hi];congr 1;omega) (by simpa using hq)
theorem zW {l:List Oper} {T:VS} : ∀ {A:List Slot},xj P l T A→∀ {j:Nat} {q:Slot},A[j]? = some q→DI P l T q
 | [],_,j,q,h=>by simp at h
 | x::A,hk,j,q,h=>by
  cases j with
  | zero=>simp at h;subst h;exact hk.1
  | succ j=>exact zW hk.2 (j:=j) (by simpa using h)
theorem Jc:∀ {A:List Slot} {j:Nat},(me A)[j]? = (A[j]?).map fun q=>some (.box q.end_)
 | [],j=>by simp [me]
 | q::A,0=>by simp [me]
 | q::A,j+1=>by simp [me,Jc (A:=A) (j:=j)]
theorem QQ (A:List Slot) (f:Nat→Bool) (hf:∀ i,isA A i=true→f i=true) : e_ A f=me A:=by
 apply List.ext_getElem?;intro j;rw [Jc];unfold e_;rw [List.getElem?_map];cases hq:A[j]? with
 | none=>rfl
 | some q=>
  have hm:=List.mem_of_getElem? hq;have h1:f q.ai=true:=hf _ (List.any_eq_true.2 ⟨q,hm,by simp⟩);simp only [Option.map_some,Slot.at_,h1,if_true,Slot.end_];cases hs:q.si with
  | none=>rfl
  | some s=>
   have h2:f s=true:=hf _ (List.any_eq_true.2 ⟨q,hm,by simp [hs]⟩);simp [h2]
theorem Jd:∀ {A:List Slot} {k t:Nat},lkp (kV k A) t≠.any→∃ (j:Nat) (q:Slot),A[j]? = some q∧q.d=t∧lkp (kV k A) t = .ref (k+j) 0
 | [],k,t,h=>absurd rfl h
 | x::A,k,t,h=>by
  simp only [kV,lkp] at h ⊢;by_cases hd:x.d=t
  ·exact ⟨0,x,rfl,hd,by rw [if_pos hd];rfl⟩
  ·rw [if_neg hd] at h ⊢;obtain ⟨j,q,h1,h2,h3⟩:=Jd (A:=A) (k:=k+1) h;exact ⟨j+1,q,by simpa using h1,h2,by rw [h3];congr 1;omega⟩
theorem QR {A:List Slot} {f g:Nat→Bool} (h:∀ i,isA A i=true→f i=g i) : e_ A f=e_ A g:=by
 unfold e_;refine List.map_congr_left fun q hq=>?_;have h1:f q.ai=g q.ai:=h _ (List.any_eq_true.2 ⟨q,hq,by simp⟩);unfold Slot.at_;rw [h1];cases hs:q.si with
 | none=>rfl
 | some s=>simp only [h s (List.any_eq_true.2 ⟨q,hq,by simp [hs]⟩)]
theorem Je {l:List Oper} {n:Nat} {q:Slot} (h:zV l n q=true) : (q.ai < n∧∃ o t,l[q.ai]? = some o∧o.guard=none∧o.dst=some q.d∧o.op = .alloc t) ∧
  ∀ s,q.si=some s→s < n∧∃ o t y,l[s]? = some o∧o.guard=none∧o.dst=none∧o.op = .store t (.tmp q.d) y:=by
 simp only [zV,Bool.and_eq_true,decide_eq_true_eq] at h;obtain ⟨⟨h1,h2⟩,h3⟩:=h;refine ⟨⟨h1,?_⟩,fun s hs=>?_⟩
 ·split at h2
  ·rename_i o ho;simp only [Bool.and_eq_true,beq_iff_eq,Option.isNone_iff_eq_none] at h2;obtain ⟨⟨a,b⟩,c⟩:=h2;split at c
   ·rename_i t ht;exact ⟨o,t,ho,a,b,ht⟩
   ·cases c
  ·cases h2
 ·rw [hs] at h3;simp only [Bool.and_eq_true,decide_eq_true_eq] at h3;obtain ⟨h4,h5⟩:=h3;refine ⟨h4,?_⟩;split at h5
  ·rename_i o ho;simp only [Bool.and_eq_true,Option.isNone_iff_eq_none] at h5;obtain ⟨⟨a,b⟩,c⟩:=h5;split at c
   ·rename_i t x y hx;simp only [beq_iff_eq] at c;subst c;exact ⟨o,t,y,ho,a,b,hx⟩
   ·cases c
  ·cases h5
theorem QS {A:List Slot} (h:(A.map (·.d)).Nodup) {i j:Nat} {q r:Slot} (hi:A[i]? = some q) (hj:A[j]? = some r) (he:q.d=r.d) : i=j:=by
 have h1:(A.map (·.d))[i]? = some q.d:=by simp [hi]
 have h2:(A.map (·.d))[j]? = some q.d:=by simp [hj,he]
 obtain ⟨a1,b1⟩:=List.getElem?_eq_some_iff.1 h1;obtain ⟨a2,b2⟩:=List.getElem?_eq_some_iff.1 h2;rcases Nat.lt_trichotomy i j with hl|hl|hl
 ·exact absurd (b1.trans b2.symm) (List.pairwise_iff_getElem.1 h i j a1 a2 hl)
 ·exact hl
 ·exact absurd (b2.trans b1.symm) (List.pairwise_iff_getElem.1 h j i a2 a1 hl)
theorem QT {cs vs:List AV} (h:vs.length=cs.length) : lH cs 0 vs=vs:=by
 unfold lH;rw [List.take_zero,List.nil_append,Nat.zero_add,h,List.drop_length,List.append_nil]
theorem QU {id:Nat} {l:List Oper} (n:Nat) (ow:List Nat) (A:List Slot) (hm:P.follows .mixedOrders=true) (hB:Region.specB l.toArray n=true) (hA:DH l n A=true) (hs:sOK st.h.length st.s) (hh:hOK st.h.length st.h)
  (h:kq P l (isA A) (l.take n) 0 st fun T=>xj P l T A∧eA P ow l (l.drop n) ⟨kV st.h.length A++T.s,T.h++me A⟩ (Q .normal)) : VWp P M0 w0 N (.region id l.toArray true) Q st:=fun oK p0 a0 AL R0=>by
 have hN:l.all (dz N)=true:=by simpa [fJ] using oK
 obtain ⟨rs,fB,Y,S,kR⟩:=uN _ _ _ h;obtain ⟨l6,hK⟩:=Y;have fb:=hB;simp only [Region.specB,Bool.and_eq_true,decide_eq_true_eq] at fb;obtain ⟨⟨⟨⟨⟨⟨_,bg⟩,_⟩,_⟩,hd⟩,bz⟩,_⟩:=fb;have iS:n < l.length:=by simpa using bg
 have eB:d_ (l.take n)=true:=by simpa using hd
 have hlen:(l.take n).length=n:=by simp;omega
 rw [hlen] at fB;obtain ⟨uQ,l9⟩ : A.all (zV l n)=true∧(A.map (·.d)).Nodup:=by simpa [DH] using hA
 have iz:∀ {j:Nat} {q:Slot},A[j]? = some q→_:=fun {j q} hq=>Je (List.all_eq_true.1 uQ q (List.mem_of_getElem? hq));have bo:∀ {i:Nat} {o:Oper},i < n→l[i]? = some o→(l.take n)[i]? = some o:=fun {i o} hi ho=>by rw [List.getElem?_take_of_lt hi];exact ho
 have pZ:∀ {i:Nat} {o:Oper},(l.take n)[i]? = some o→i < n∧l[i]? = some o:=fun {i o} ho=>by
  have hi:i < n:=by have:=(List.getElem?_eq_some_iff.1 ho).1;omega
  rw [List.getElem?_take_of_lt hi] at ho;exact ⟨hi,ho⟩
 have fZ:∀ {i:Nat},i < n→rs[i]? = some (rs.getD i .any):=fun {i} hi=>by simp [List.getD,show i < rs.length by omega]
 have cS:∀ i,i < n→∀ o,l[i]? = some o→∀ t∈o.looksAt l.toArray,∀ j,j < n→∀ q,l[j]? = some q→q.dst=some t→Region.waitsFor .any l.toArray i j=true∧j < i:=by
  intro i hi o ho;have h:=List.all_eq_true.1 bz i (List.mem_range.2 hi);simp only [List.getElem?_toArray,ho,Bool.and_eq_true] at h;have iL:∀ e∈o.after,Region.binds .any e=true→e.on < i:=fun e he hb=>by
   have h1:=Array.all_eq_true'.1 h.2 e he;simp only [hb,Bool.not_true,Bool.false_or,decide_eq_true_eq] at h1;exact h1
  intro t ht j hj q hq aS;have h1:=List.all_eq_true.1 (List.all_eq_true.1 h.1 t ht) j (List.mem_range.2 hj);simp only [hq,Option.bind_some,aS,bne_self_eq_false,Bool.false_or] at h1;refine ⟨h1,?_⟩;obtain ⟨o',bA,e,he,hb,cX⟩:=Region.waitsFor_spec h1;have:o'=o:=Option.some.inj (bA.symm.trans (by simpa using ho));subst this;rw [←cX];exact iL e he hb
 have bn:∀ {i j:Nat} {q:Oper} {t:Nat},j < i→i≤n→l[j]? = some q→q.dst=some t→lkp (a_ st ((l.take n).take i) (rs.take i)).s t=rs.getD j .any:=fun {i j q t} hj hi hq ht=>
  p5 ((l.take n).take i) (rs.take i) st t j q (rs.getD j .any) (pY _ _ eB) (by rw [List.getElem?_take_of_lt hj];exact bo (by omega) hq) (by rw [List.getElem?_take_of_lt hj];exact fZ (by omega)) ht
 have bh:∀ {i t:Nat},(∀ j q,j < n→l[j]? = some q→q.dst≠some t)→lkp (a_ st ((l.take n).take i) (rs.take i)).s t=lkp st.s t:=fun {i t} ho=>
  oL _ _ _ _ fun q hq he=>by
   obtain ⟨j,hj⟩:=List.mem_iff_getElem?.1 (List.mem_of_mem_take hq);obtain ⟨h1,h2⟩:=pZ hj;exact ho j q h1 h2 he
 have cn:a_ st (l.take n) rs=a_ st ((l.take n).take n) (rs.take n):=by
  rw [List.take_of_length_le (l:=l.take n) (by rw [hlen];exact Nat.le_refl _),List.take_of_length_le (l:=rs) (by omega)]
 have eH:∀ {j:Nat} {q:Oper} {d:Nat},j < n→isA A j=false→l[j]? = some q→q.dst=some d→bj st.h.length 5 (rs.getD j .any)=true:=fun {j q d} hj hc hq aS=>
  (S j q _ (by rw [Nat.zero_add];exact hc) (bo hj hq) (fZ hj)).2 d aS
 have b9:∀ {j:Nat} {q:Oper},j < n→isA A j=true→l[j]? = some q→rs.getD j .any = .any:=fun {j q} hj hc hq=>by
  have h1:=kR j q (by rw [Nat.zero_add];exact hc) (bo hj hq);rw [fZ hj] at h1;exact Option.some.inj h1
 refine wp_region_any hm ?_;refine xt (Inv:=fun listed a w=>HeadInv .any l.toArray n listed∧∃ (p:Pl) (s:List (Nat×AV)),Rel M0 w0 N p ⟨s,st.h++e_ A fun i=>listed.getD i false⟩ a w ∧
   (∀ (j:Nat) (q:Oper) (d:Nat),j < n→isA A j=false→listed.getD j false=true→l[j]? = some q→q.dst=some d→lkp s d=rs.getD j .any) ∧
   (∀ t,(∀ j q,j < n→l[j]? = some q→q.dst≠some t)→lkp s t=lkp st.s t)∧(∀ (j:Nat) (q:Slot),A[j]? = some q→listed.getD q.ai false=true→lkp s q.d = .ref (st.h.length+j) 0) ∧
   (∀ t,bj st.h.length 5 (lkp s t)=true∨∃ (j:Nat) (q:Slot),A[j]? = some q∧listed.getD q.ai false=true∧lkp s t = .ref (st.h.length+j) 0)) hB (fun _ _ _ inv=>inv.1) ?_ ?_ _ _ _ _ ?_ (by simp)
 ·rintro listed a w i o ⟨head,p,s,R,S1,S2,S3,S4⟩ hi bT ho fI;have bA:l[i]? = some o:=by simpa using ho
  obtain ⟨_,o2,rn,dS⟩:=mem_ready.1 hi;have:o2=o:=Option.some.inj (rn.symm.trans ho);subst this;have cG:i < listed.size:=by rw [head.size];simpa using (by omega:i < l.length)
  have bW:(listed.setIfInBounds i true).getD i false=true:=by simp [cG]
  have bb:∀ {j:Nat},i≠j→(listed.setIfInBounds i true).getD j false=listed.getD j false:=fun aC=>getD_set_ne false aC;have cT:∀ j,Region.waitsFor .any l.toArray i j=true→listed.getD j false=true:=by
   intro j hj;obtain ⟨o3,rp,e,he,hb,cX⟩:=Region.waitsFor_spec hj;have:o3=o2:=Option.some.inj (rp.symm.trans ho);subst this;rw [←cX];exact dS e he hb
  have dm:∀ {k:Nat},i≤k→k≤n→∀ t∈o2.looksAt l.toArray,lkp (a_ st ((l.take n).take k) (rs.take k)).s t = .any∨(lkp (a_ st ((l.take n).take k) (rs.take k)).s t=lkp s t∧bj st.h.length 5 (lkp s t)=true):=fun {k} p7 kM t ht=>by
   by_cases hex:∃ (j:Nat) (q:Oper),j < n∧l[j]? = some q∧q.dst=some t
   ·obtain ⟨j,q,hj,hq,aS⟩:=hex;obtain ⟨h1,h2⟩:=cS i bT o2 bA t ht j hj q hq aS;rw [bn (by omega) kM hq aS];cases hc:isA A j
    ·have:=S1 j q t hj hc (cT j h1) hq aS;exact .inr ⟨this.symm,by rw [this];exact eH hj hc hq aS⟩
    ·exact .inl (b9 hj hc hq)
   ·have bw:∀ j q,j < n→l[j]? = some q→q.dst≠some t:=fun j q hj hq he=>hex ⟨j,q,hj,hq,he⟩;rw [bh bw,S2 t bw];exact .inr ⟨rfl,uR hs t⟩
  have dt:∀ {j:Nat} {q:Oper} {d d':Nat},j < n→j≠i→l[j]? = some q→q.dst=some d→o2.dst=some d'→d'≠d:=fun {j q d d'} hj eG hq aS lf he=>by
   subst he;exact eG (p6 eB (bo hj hq) (bo bT bA) aS lf)
  cases gZ:isA A i
  ·obtain ⟨aD,rC⟩:=S i o2 (rs.getD i .any) (by rw [Nat.zero_add];exact gZ) (bo bT bA) (fZ bT);have cm:(e_ A fun i=>listed.getD i false)=e_ A fun j=>(listed.setIfInBounds i true).getD j false:=QR fun j hj=>by
    have aC:i≠j:=fun e=>by rw [←e,gZ] at hj;cases hj
    exact (bb aC).symm
   have p_:∀ {j:Nat} {q:Slot},A[j]? = some q→i≠q.ai:=fun {j q} hq e=>by
    have:isA A i=true:=List.any_eq_true.2 ⟨q,List.mem_of_getElem? hq,by simp [e]⟩;rw [gZ] at this;cases this
   have fin:∀ v w',V1 w' (Mof M0 (st.h++e_ A fun i=>listed.getD i false) p) st.h p (rs.getD i .any) v→Below w.heap.size w w'→(fun listed a w=>HeadInv .any l.toArray n listed∧∃ (p:Pl) (s:List (Nat×AV)),Rel M0 w0 N p ⟨s,st.h++e_ A fun i=>listed.getD i false⟩ a w ∧
     (∀ (j:Nat) (q:Oper) (d:Nat),j < n→isA A j=false→listed.getD j false=true→l[j]? = some q→q.dst=some d→lkp s d=rs.getD j .any) ∧
     (∀ t,(∀ j q,j < n→l[j]? = some q→q.dst≠some t)→lkp s t=lkp st.s t)∧(∀ (j:Nat) (q:Slot),A[j]? = some q→listed.getD q.ai false=true→lkp s q.d = .ref (st.h.length+j) 0) ∧
     (∀ t,bj st.h.length 5 (lkp s t)=true∨∃ (j:Nat) (q:Slot),A[j]? = some q∧listed.getD q.ai false=true∧lkp s t = .ref (st.h.length+j) 0)) (listed.setIfInBounds i true) (a.put o2.dst v) w':=fun v w' hv hb=>by
    have R':=(R.later hb).put (d:=o2.dst) (fL (List.all_eq_true.1 hN o2 (List.mem_of_getElem? bA))) (V1.long hv);have dp:(VS.put ⟨s,st.h++e_ A fun i=>listed.getD i false⟩ o2.dst (rs.getD i .any))=⟨(VS.put ⟨s,st.h++e_ A fun i=>listed.getD i false⟩ o2.dst (rs.getD i .any)).s,st.h++e_ A fun j=>(listed.setIfInBounds i true).getD j false⟩:=by rw [←cm];cases o2.dst<;>rfl
    rw [dp] at R';refine ⟨head.set hi bT,p,_,R',fun j q d hj gQ hl hq aS=>?_,fun t ht=>?_,fun j q hq hl=>?_,fun t=>?_⟩
    ·rw [jJ];by_cases eG:j=i
     ·subst eG;have:q=o2:=Option.some.inj (hq.symm.trans bA);subst this;rw [if_pos aS]
     ·rw [if_neg fun e=>dt hj eG hq aS e rfl];rw [bb (Ne.symm eG)] at hl;exact S1 j q d hj gQ hl hq aS
    ·rw [jJ,if_neg (ht i o2 bT bA)];exact S2 t ht
    ·obtain ⟨⟨h1,o3,t3,h2,_,h3,_⟩,_⟩:=iz hq;rw [jJ,if_neg fun e=>dt h1 (Ne.symm (p_ hq)) h2 h3 e rfl];rw [bb (p_ hq)] at hl;exact S3 j q hq hl
    ·rw [jJ];by_cases kT:o2.dst=some t
     ·rw [if_pos kT];exact .inl (rC t kT)
     ·rw [if_neg kT];rcases S4 t with h1|⟨j,q,h1,h2,h3⟩
      ·exact .inl h1
      ·exact .inr ⟨j,q,h1,by rw [bb (p_ h1)];exact h2,h3⟩
   have cE:fN P st.h (ev (a_ st ((l.take n).take i) (rs.take i))) o2.op (rs.getD i .any)→gives P o2 a w fun v w''=>V1 w'' (Mof M0 (st.h++e_ A fun i=>listed.getD i false) p) st.h p (rs.getD i .any) v∧Below w.heap.size w w'':=by
    intro hg;refine rv (R.short_objs hh) R.mok R.h0 R.glob (fun _ _ hb=>.inl hb) (fun x hx=>?_) hg;cases x with
    | tmp t=>
     show V1 _ _ _ _ (lkp (a_ st ((l.take n).take i) (rs.take i)).s t) _;rcases dm (Nat.le_refl i) (by omega) t (List.mem_append_left _ (List.mem_filterMap.2 ⟨.tmp t,by simpa using hx,rfl⟩)) with h1|⟨h1,h2⟩
     ·rw [h1];exact .base _ _ (.any _)
     ·rw [h1];exact V1.short (R.slots t) h2
    | const v=>exact .base _ _ (.lit v)
    | global g=>exact .base _ _ (R.evalG g)
    | func f=>exact .base _ _ (.lit _)
   have hy:=fun j=>rf (ops:=l) (j:=j) R hN;have cV:∀ (j:Nat) (want:Bool) (v:Value),o2.guard=some (j,want)→df l (a_ st ((l.take n).take i) (rs.take i)) j = .lit v→df l ⟨s,st.h++e_ A fun i=>listed.getD i false⟩ j = .lit v:=by
    intro j want v hg hv;unfold df at hv ⊢;cases hj:l[j]? with
    | none=>simpa [hj] using hv
    | some q=>
     cases hq:q.dst with
     | none=>simpa [hj,hq] using hv
     | some d=>
      have eV:d∈o2.looksAt l.toArray:=by
       unfold Oper.looksAt;refine List.mem_append_right _ ?_;simp [hg,hj,hq]
      simp only [hj,hq] at hv ⊢;rcases dm (Nat.le_refl i) (by omega) d eV with h1|⟨h1,_⟩
      ·rw [h1] at hv;cases hv
      ·rw [←h1];exact hv
   unfold wpOp;simp only [ho];unfold kO at aD;split at aD
   ·rename_i hg;rw [if_pos (by simp [Region.wanted,hg])];rw [gY] at aD;exact Or.inl (lY (cE aD) rfl fun v w' hv=>fin v w' hv.1 hv.2)
   ·rename_i j want hg;split at aD
    ·rename_i b hb;have iV:=(hy j).1 b (cV j want _ hg hb);split at aD
     ·rename_i hw;subst hw;rw [if_pos (by simp [Region.wanted,hg,iV])];rw [gY] at aD;exact Or.inl (lY (cE aD) rfl fun v w' hv=>fin v w' hv.1 hv.2)
     ·rename_i hw;rw [if_neg (by simpa [Region.wanted,hg,iV] using hw)];exact fin undef w (by rw [aD];exact .base _ _ (.lit _)) (Below.refl _ _)
    ·rename_i us hb;have iV:=(hy j).2 us (cV j want _ hg hb);rw [if_neg (by simp [Region.wanted,hg,iV])];exact fin undef w (by rw [aD];exact .base _ _ (.lit _)) (Below.refl _ _)
    ·exact aD.elim
  · -- one QV makes or DJ
   have db:∀ {j j':Nat} {q q':Slot},A[j]? = some q→A[j']? = some q'→q.d=q'.d→j=j':=fun h1 h2 h3=>QS l9 h1 h2 h3;have ku:∀ {j:Nat} {x:Option Ob},j < A.length→(∀ k q,A[k]? = some q→k≠j→q.at_ (fun j=>(listed.setIfInBounds i true).getD j false)=q.at_ fun j=>listed.getD j false)→(∀ q,A[j]? = some q→q.at_ (fun j=>(listed.setIfInBounds i true).getD j false)=x) →
     (st.h++e_ A fun i=>listed.getD i false).set (st.h.length+j) x=st.h++e_ A fun j=>(listed.setIfInBounds i true).getD j false:=by
    intro j x hj h1 h2;rw [List.set_append_right _ _ (by omega),Nat.add_sub_cancel_left];congr 1;apply List.ext_getElem?;intro k;unfold e_;by_cases hk:j=k
    ·subst hk;rw [List.getElem?_set_self (by simpa using hj),List.getElem?_map,List.getElem?_eq_getElem hj];simp only [Option.map_some,Option.some.injEq];exact (h2 _ (List.getElem?_eq_getElem hj)).symm
    ·rw [List.getElem?_set_ne hk,List.getElem?_map,List.getElem?_map];cases hq:A[k]? with
     | none=>rfl
     | some q=>simp only [Option.map_some,Option.some.injEq];exact (h1 k q hq (Ne.symm hk)).symm
   obtain ⟨q,hq,mK⟩:=List.any_eq_true.1 gZ;obtain ⟨j,hj⟩:=List.mem_iff_getElem?.1 hq;have bK:=(List.getElem?_eq_some_iff.1 hj).1;obtain ⟨⟨AY,o3,t3,gE,xR,gk,g_⟩,cC⟩:=iz hj;have fD:(st.h++e_ A fun i=>listed.getD i false)[st.h.length+j]? = some (q.at_ fun i=>listed.getD i false):=by
    rw [List.getElem?_append_right (by omega),Nat.add_sub_cancel_left];simp [e_,hj]
   have xk:∀ {k:Nat} {r:Slot} {s':Nat},A[k]? = some r→r.si=some s'→Region.waitsFor .any l.toArray s' r.ai=true:=fun {k r s'} hr jG=>by
    obtain ⟨⟨a1,o4,t4,a2,a3,a4,a5⟩,a6⟩:=iz hr;obtain ⟨b1,o5,t5,y5,b2,b3,b4,b5⟩:=a6 s' jG;refine (cS s' b1 o5 b2 r.d ?_ r.ai a1 o4 a2 a4).1;unfold Oper.looksAt;exact List.mem_append_left _ (List.mem_filterMap.2 ⟨.tmp r.d,by rw [b5];simp [Op.operands],rfl⟩)
   by_cases nQ:q.ai=i
   ·subst nQ;have:o3=o2:=Option.some.inj (gE.symm.trans bA);subst this;have fm:=(zW l6 hj).1;rw [gE] at fm;simp only [g_] at fm;obtain ⟨ti,aV,hz⟩:=fm;have du:=getD_both fI;have mL:(q.at_ fun i=>listed.getD i false)=none:=by simp only [Slot.at_,du,Bool.false_eq_true,if_false]
    rw [mL] at fD;have xl:∀ {k:Nat} {r:Slot} {s':Nat},A[k]? = some r→r.si=some s'→q.ai≠s':=fun {k r s'} hr jG e=>by
     obtain ⟨_,a6⟩:=iz hr;obtain ⟨b1,o5,t5,y5,b2,b3,b4,b5⟩:=a6 s' jG;rw [←e,gE] at b2;obtain rfl:=Option.some.inj b2;rw [gk] at b4;cases b4
    have oO:∀ t,cu (st.h.length+j) 5 (lkp s t)=true:=fun t=>by
     rcases S4 t with h1|⟨k,r,h1,h2,h3⟩
     ·exact tg (by omega) 5 _ h1
     ·rw [h3];have kv:k≠j:=fun e=>by
       subst e;rw [hj] at h1;obtain rfl:=Option.some.inj h1;rw [du] at h2;cases h2
      simp only [cu,bne_iff_ne,ne_eq];omega
    have lj:∀ (k:Nat) (cs:List AV),(st.h++e_ A fun i=>listed.getD i false)[k]? = some (some (Ob.box cs))→∀ c∈cs,cu (st.h.length+j) 5 c=true:=fun k cs hk c hc=>by
     rcases Nat.lt_or_ge k st.h.length with aw|dn
     ·rw [List.getElem?_append_left aw] at hk;exact tg (by omega) 5 _ (List.all_eq_true.1 (uS hh k _ hk) c hc)
     ·rw [List.getElem?_append_right dn] at hk;unfold e_ at hk;rw [List.getElem?_map,Option.map_eq_some_iff] at hk;obtain ⟨r,hr,he⟩:=hk;have xm:∀ c∈r.z.map AV.lit,cu (st.h.length+j) 5 c=true:=fun c hc=>by
       obtain ⟨z,_,rfl⟩:=List.mem_map.1 hc;rfl
      unfold Slot.at_ at he;split at he
      ·simp only [Option.some.injEq,Ob.box.injEq] at he;subst he;split at hc
       ·rename_i s' jG;split at hc
        ·have cp:=(zW l6 hr).2;rw [jG] at cp;obtain ⟨b1,o5,t5,y5,b2,b3,b4,b5⟩:=(iz hr).2 s' jG;simp only [b2,b5] at cp;obtain ⟨_,_,_,_,_,_,_,ax⟩:=cp;have:=List.all_eq_true.1 ax c hc;rw [gY] at this;exact tg (by omega) 5 _ this
        ·exact xm c hc
       ·exact xm c hc
      ·cases he
    obtain ⟨z,xT,iX,ka⟩:=oP aV;have hc:Cells w (Mof M0 (st.h++e_ A fun i=>listed.getD i false) p) (st.h++e_ A fun i=>listed.getD i false) p (q.z.map .lit) z.cells.toList:=by rw [xT,←hz];exact Cells.of_lits _ iX
    have R':=R.fill (d:=q.d) (fL (List.all_eq_true.1 hN o3 (List.mem_of_getElem? gE)) q.d gk) fD oO lj hc t3;simp only at R';rw [ku bK (fun k r hr kv=>?_) (fun r hr=>?_)] at R'
    ·unfold wpOp;simp only [ho];rw [if_pos (by simp [Region.wanted,xR])];refine Or.inl ?_;unfold Oper.wp;have aG:(execOp a.eval o3).run P w = .ok (.value (.pointer (some ⟨w.heap.size,0,none⟩))) { w with heap:=w.heap.push (.cells z.cells.toList.toArray t3) }:=by
      simp [execOp,g_,Instr.alloc,ka,newVar,newRow]
     rw [aG];simp only [Oper.upon];rw [gk];refine ⟨head.set hi bT,_,_,R',fun k r d hk iZ hl hr nS=>?_,fun t ht=>?_,fun k r hr hl=>?_,fun t=>?_⟩
     ·have fO:k≠q.ai:=fun e=>by rw [e,gZ] at iZ;cases iZ
      simp only [lkp];rw [if_neg (dt hk fO hr nS gk)];rw [bb (Ne.symm fO)] at hl;exact S1 k r d hk iZ hl hr nS
     ·simp only [lkp];rw [if_neg fun e=>ht q.ai o3 bT gE (by rw [gk,e])];exact S2 t ht
     ·simp only [lkp];by_cases he:q.d=r.d
      ·rw [if_pos he,db hj hr he]
      ·rw [if_neg he];refine S3 k r hr ?_;rw [bb fun e=>he ?_] at hl
       ·exact hl
       ·obtain ⟨⟨_,o4,_,a2,_,a4,_⟩,_⟩:=iz hr;rw [←e,gE] at a2;obtain rfl:=Option.some.inj a2;rw [gk] at a4;exact Option.some.inj a4
     ·simp only [lkp];by_cases he:q.d=t
      ·rw [if_pos he];exact .inr ⟨j,q,hj,bW,rfl⟩
      ·rw [if_neg he];rcases S4 t with h1|⟨k,r,h1,h2,h3⟩
       ·exact .inl h1
       ·refine .inr ⟨k,r,h1,?_,h3⟩;by_cases e:q.ai=r.ai
        ·rw [←e];exact bW
        ·rw [bb e];exact h2
    ·have aC:q.ai≠r.ai:=fun e=>by
      obtain ⟨⟨_,o4,_,a2,_,a4,_⟩,_⟩:=iz hr;rw [←e,gE] at a2;obtain rfl:=Option.some.inj a2;rw [gk] at a4;exact kv (db hr hj (Option.some.inj a4).symm)
     simp only [Slot.at_,bb aC];cases jG:r.si with
     | none=>rfl
     | some s'=>simp only [bb (xl hr jG)]
    ·rw [hj] at hr;obtain rfl:=Option.some.inj hr;simp only [Slot.at_,bW,if_true];cases jG:q.si with
     | none=>rfl
     | some s'=>
      simp only [bb (xl hj jG)];rw [if_neg fun hl=>?_];obtain ⟨o6,lv,e,he,hb,cX⟩:=Region.waitsFor_spec (xk hj jG);have:=head.closed s' o6 lv hl e he hb;rw [cX,du] at this;cases this
   ·have qS:q.si=some i:=by simpa [nQ] using mK
    obtain ⟨b1,o5,t5,y5,b2,b3,b4,b5⟩:=cC i qS;have:o5=o2:=Option.some.inj (b2.symm.trans bA);subst this;have cp:=(zW l6 hj).2;rw [qS] at cp;simp only [b2,b5] at cp;obtain ⟨ti,aV,aC,Jf,DK,nM,vb,Jg⟩:=cp;have mM:listed.getD q.ai false=true:=cT _ (xk hj qS);have QW:ev (a_ st (l.take n) rs) y5=ev ⟨s,st.h++e_ A fun i=>listed.getD i false⟩ y5:=by
     cases y5 with
     | tmp t=>
      have ht:t∈o5.looksAt l.toArray:=by
       unfold Oper.looksAt;exact List.mem_append_left _ (List.mem_filterMap.2 ⟨.tmp t,by rw [b5];simp [Op.operands],rfl⟩)
      show lkp _ t=lkp _ t;rcases dm (k:=n) (by omega) (Nat.le_refl _) t ht with h1|⟨h1,_⟩
      ·rw [←cn] at h1;exact absurd h1 aC
      ·rw [←cn] at h1;exact h1
     | const v=>rfl
     | global g=>rfl
     | func f=>rfl
    rw [QW] at Jf DK;have xn:(q.at_ fun i=>listed.getD i false)=some (.box (q.z.map .lit)):=by
     have du:=getD_both fI;simp only [Slot.at_,mM,qS,du,if_true,Bool.false_eq_true,if_false]
    rw [xn] at fD;have hx:ev ⟨s,st.h++e_ A fun i=>listed.getD i false⟩ (.tmp q.d) = .ref (st.h.length+j) 0:=S3 j q hj mM;obtain ⟨w',aG,R'⟩:=G1 (y:=y5) R aV hx fD Jf (by rw [DK];exact nM) (by rw [List.length_map];omega);rw [DK,QT (by rw [List.length_map];omega)] at R';have pz:∀ {k:Nat} {r:Slot},A[k]? = some r→i≠r.ai:=fun {k r} hr e=>by
     obtain ⟨⟨_,o4,_,a2,_,a4,_⟩,_⟩:=iz hr;rw [←e,b2] at a2;obtain rfl:=Option.some.inj a2;rw [b4] at a4;cases a4
    simp only at R';rw [ku bK (fun k r hr kv=>?_) (fun r hr=>?_)] at R'
    ·unfold wpOp;simp only [ho];rw [if_pos (by simp [Region.wanted,b3])];refine Or.inl ?_;have rQ:∀ v,a.put o5.dst v=a:=fun v=>by rw [b4];rfl
     have fin:∀ v,(fun a w=>HeadInv .any l.toArray n (listed.setIfInBounds i true)∧∃ (p:Pl) (s:List (Nat×AV)),Rel M0 w0 N p ⟨s,st.h++e_ A fun j=>(listed.setIfInBounds i true).getD j false⟩ a w ∧
       (∀ (j:Nat) (q:Oper) (d:Nat),j < n→isA A j=false→(listed.setIfInBounds i true).getD j false=true→l[j]? = some q→q.dst=some d→lkp s d=rs.getD j .any) ∧
       (∀ t,(∀ j q,j < n→l[j]? = some q→q.dst≠some t)→lkp s t=lkp st.s t)∧(∀ (j:Nat) (q:Slot),A[j]? = some q→(listed.setIfInBounds i true).getD q.ai false=true→lkp s q.d = .ref (st.h.length+j) 0) ∧
       (∀ t,bj st.h.length 5 (lkp s t)=true∨∃ (j:Nat) (q:Slot),A[j]? = some q∧(listed.setIfInBounds i true).getD q.ai false=true∧lkp s t = .ref (st.h.length+j) 0)) (a.put o5.dst v) w':=fun v=>by
      rw [rQ];refine ⟨head.set hi bT,p,s,R',fun k r d hk iZ hl hr nS=>?_,S2,fun k r hr hl=>?_,fun t=>?_⟩
      ·have fO:k≠i:=fun e=>by rw [e,gZ] at iZ;cases iZ
       rw [bb (Ne.symm fO)] at hl;exact S1 k r d hk iZ hl hr nS
      ·rw [bb (pz hr)] at hl;exact S3 k r hr hl
      ·rcases S4 t with h1|⟨k,r,h1,h2,h3⟩
       ·exact .inl h1
       ·exact .inr ⟨k,r,h1,by rw [bb (pz h1)];exact h2,h3⟩
     unfold Oper.wp;have fC:(execOp a.eval o5).run P w = .ok .skip w'∨∃ v,(execOp a.eval o5).run P w = .ok (.value v) w':=by
      obtain ⟨dst,op,ty,pos,after,guard⟩:=o5;simp only at b5;subst b5;simp [execOp,aG]
     rcases fC with h1|⟨v,h1⟩
     ·rw [h1];exact fin _
     ·rw [h1];exact fin _
    ·simp only [Slot.at_,bb (pz hr)];cases jG:r.si with
     | none=>rfl
     | some s'=>
      have aC:i≠s':=fun e=>by
       obtain ⟨_,o6,t6,y6,c2,_,_,c5⟩:=(iz hr).2 s' jG;rw [←e,b2] at c2;obtain rfl:=Option.some.inj c2;rw [b5] at c5;injection c5 with _ c6 _
       injection c6 with c6
       exact kv (db hr hj c6.symm)
      simp only [bb aC]
    ·rw [hj] at hr;obtain rfl:=Option.some.inj hr;simp only [Slot.at_,bb (pz hj),mM,qS,bW,if_true]
 ·rintro listed a w ⟨head,p,s,R,S1,S2,S3,S4⟩ ax;have bT:∀ i,isA A i=true→i < n:=fun i hi=>by
   obtain ⟨q,hq,mK⟩:=List.any_eq_true.1 hi;obtain ⟨⟨h1,_⟩,h2⟩:=Je (List.all_eq_true.1 uQ q hq);simp only [Bool.or_eq_true,beq_iff_eq] at mK;rcases mK with mK|mK
   ·omega
   ·exact (h2 i mK).1
  rw [QQ A _ fun i hi=>ax i (bT i hi)] at R;rw [gY] at hK;have R':=R.weak (s':=kV st.h.length A++(a_ st (l.take n) rs).s) fun t=>by
   show lkp (kV st.h.length A++(a_ st (l.take n) rs).s) t=lkp s t∨_;rcases A_ (kV st.h.length A) (a_ st (l.take n) rs).s t with h1|h1
   ·rw [h1];by_cases aC:lkp (kV st.h.length A) t = .any
    ·exact .inr aC
    ·obtain ⟨j,q,g1,g2,g3⟩:=Jd aC;rw [g3,←g2];exact .inl (S3 j q g1 (ax _ (iz g1).1.1)).symm
   ·rw [h1,cn];by_cases hex:∃ (j:Nat) (q:Oper),j < n∧l[j]? = some q∧q.dst=some t
    ·obtain ⟨j,q,hj,hq,aS⟩:=hex;rw [bn hj (Nat.le_refl _) hq aS];cases hc:isA A j
     ·exact .inl (S1 j q t hj hc (ax j hj) hq aS).symm
     ·exact .inr (b9 hj hc hq)
    ·have bw:∀ j q,j < n→l[j]? = some q→q.dst≠some t:=fun j q hj hq he=>hex ⟨j,q,hj,hq,he⟩;rw [bh bw,S2 t bw];exact .inl rfl
  have lu:(l.drop n).all (dz N)=true:=List.all_eq_true.2 fun q hq=>List.all_eq_true.1 hN q (List.mem_of_mem_drop hq);exact rD (ow:=ow) hN (fun p st a w R h=>⟨st,p,R,h⟩) (l.drop n) p _ _ w lu R' hK
 ·have rE:(e_ A fun i=>(Array.replicate l.toArray.size false).getD i false)=List.replicate A.length none:=by
   apply List.ext_getElem?;intro k;unfold e_;rw [List.getElem?_map,List.getElem?_replicate];cases hq:A[k]? with
   | none=>
    have:=List.getElem?_eq_none_iff.1 hq;rw [if_neg (by omega)];rfl
   | some q=>
    have:=(List.getElem?_eq_some_iff.1 hq).1;rw [if_pos this];simp only [Option.map_some,Slot.at_,getD_replicate_false];rfl
  refine ⟨⟨by simp,fun j oj _ hl=>(by rw [getD_replicate_false] at hl;cases hl),fun t _ ht=>getD_in (by simpa using ht) (getD_replicate_false _ _)⟩,p0,st.s,?_,fun j q d _ _ hl=>(by rw [getD_replicate_false] at hl;cases hl),fun _ _=>rfl,fun j q _ hl=>(by rw [getD_replicate_false] at hl;cases hl),fun t=>.inl (uR hs t)⟩;rw [rE];exact (R0.later (Below.refl _ _).drew).pad A.length
end
section
variable {P:Program} {ow:List Nat} {ops l:List Oper} {o:Oper} {T:VS} {K:VS→Prop} {dZ:Nat→Bool} {i:Nat}
theorem vh (h:K T) : kq P ops dZ [] i T K:=h
theorem vf (hc:dZ i=true) (h:kq P ops dZ l (i+1) (T.put o.dst .any) K) : kq P ops dZ (o::l) i T K:=by
 unfold kq;rw [if_pos hc];exact h
theorem vg (hc:dZ i=false) (h:∀ X:VS→Prop,(∀ T',Dg T.h.length o.dst T'.s=true→kq P ops dZ l (i+1) T' K→X T')→sF P ops o T X) : kq P ops dZ (o::l) i T K:=by
 unfold kq;rw [if_neg (by rw [hc];decide)];refine h _ fun T' hid hT=>⟨fun d hd=>?_,hT⟩
 simpa [Dg,hd] using hid
end
attribute [go_sem] kV me Slot.end_ xj DI
def DL (o:Oper) : Bool:=o.guard.isNone&&(match o.op with | .move _=>true | .assign _=>true | .nilCheck _=>true | .fieldAddr .. => true|_=>false)
section
variable {P:Program} {M0:Nat→Nat→Prop} {w0:Bas} {N:Nm} {p:Pl} {st:VS} {a:Act} {w:World} {Q:Exit→VS→Prop}
theorem QX {h h':Hp} {E:Operand→AV} {o:Oper} {r:AV} (hl:DL o=true) (hg:fN P h E o.op r) : fN P h' E o.op r:=by
 unfold DL at hl;simp only [Bool.and_eq_true] at hl;have hl:=hl.2;obtain ⟨dst,op,ty,pos,after,guard⟩:=o;simp only at hl hg ⊢;cases op with
 | move x=>exact hg
 | assign x=>exact hg
 | nilCheck x=>exact hg
 | fieldAddr t x f=>exact hg
 | _=>cases hl
end
def ix (l:List Oper) : Nat→Nat→Nat→Bool
 | 0,_,_=>false
 | f+1,n,i=>Region.waitsFor .any l.toArray n i || (List.range n).any fun j=>Region.waitsFor .any l.toArray n j&&ix l f j i
def QY (l:List Oper) (n:Nat) : Bool:=(List.range n).all fun i=>ix l n n i || (match l[i]? with|some o=>DL o|none=>false)
def xF (l:List Oper) (n:Nat) : List Nat:=(List.range n).flatMap fun i=>if ix l n n i then [] else match l[i]? with|some o=>o.looksAt l.toArray++o.dst.toList|none=>[]
theorem ru {l:List Oper} {m:Nat} {listed:Array Bool} (head:HeadInv .any l.toArray m listed) : ∀ (f n i:Nat),(∀ j,Region.waitsFor .any l.toArray n j=true→listed.getD j false=true)→ix l f n i=true→listed.getD i false=true
 | 0,_,_,_,h=>by cases h
 | f+1,n,i,hn,h=>by
  rw [ix,Bool.or_eq_true] at h;rcases h with h|h
  ·exact hn i h
  ·obtain ⟨j,_,hj⟩:=List.any_eq_true.1 h;rw [Bool.and_eq_true] at hj;have bK:=hn j hj.1;refine ru head f j i (fun k hk=>?_) hj.2;obtain ⟨oj,QZ,e,he,hb,cX⟩:=Region.waitsFor_spec hk;have:=head.closed j oj QZ bK e he hb;rwa [cX] at this
theorem DM {id:Nat} {v:AV} (h:cu id 5 v=true) : purge id v=v:=if_pos h
def pgB (g:Nat) (b:Bool) (v:AV) : AV:=if b then purge g v else v
section
variable {P:Program} {M0:Nat→Nat→Prop} {w0:Bas} {N:Nm} {p:Pl} {st:VS} {a:Act} {w:World} {Q:Exit→VS→Prop}
theorem Q0 {ow:List Nat} {o:Oper} {t t':TypeId} {x y:Operand} {T:VS} {s:List (Nat×AV)} {h1:Hp} {d g:Nat} (dm:o.op = .call ⟨.builtin .append,#[x,y],#[t,t']⟩) (hd:o.dst=some d) (hx:ev ⟨s,T.h⟩ x=ev T x) (hy:ev ⟨s,T.h⟩ y=ev T y) (hg:ev T x = .osl g)
  (ht:lI P ow T o=some ⟨(d,.osl g)::T.s.map (fun q=>(q.1,purge g q.2)),h1⟩) : lI P ow ⟨s,T.h⟩ o=some ⟨(d,.osl g)::s.map (fun q=>(q.1,purge g q.2)),h1⟩:=by
 obtain ⟨dst,op,ty,pos,after,guard⟩:=o;simp only at dm hd;subst dm hd;unfold lI at ht ⊢;simp only [hx,hy,hg] at ht ⊢;cases kW:aU P t with
 | none=>simp [kW] at ht
 | some ti=>
  cases h2:ev T y with
  | sl sz es=>
   simp only [kW,h2] at ht ⊢;cases h3:T.h[g]? with
   | none=>simp [h3] at ht
   | some Q1=>
    cases Q1 with
    | none=>simp [h3] at ht
    | some ob=>
     cases ob with
     | arr e bm nl bQ=>
      simp only [h3] at ht ⊢;cases h4:aU P ti.elem with
      | none=>simp [h4] at ht
      | some te=>
       simp only [h4] at ht ⊢;split at ht
       ·rename_i hc;rw [if_pos hc];simp only [Option.some.injEq,VS.mk.injEq,true_and] at ht ⊢;exact ht
       ·cases ht
     | _=>simp [h3] at ht
  | _=>simp [kW,h2] at ht
theorem qc {id:Nat} {l:List Oper} (n:Nat) (ow:List Nat) (g:Nat) (ls:List Nat) (hm:P.follows .mixedOrders=true) (hB:Region.specB l.toArray (n+1)=true) (hL:QY l n=true) (AK:xF l n=ls) {so:Oper} {d:Nat} {ty Q3:TypeId} {x y:Operand} (jm:l[n]? = some so) (pX:so.guard=none∧so.dst=some d) (sW:so.op = .call ⟨.builtin .append,#[x,y],#[ty,Q3]⟩)
  (h:l8 P l (l.take n) st fun T=>∃ h1,ev T x = .osl g∧lI P ow T so=some ⟨(d,.osl g)::T.s.map (fun q=>(q.1,purge g q.2)),h1⟩∧(∀ t∈ls,cu g 5 (lkp T.s t)=true)∧eA P ow l (l.drop (n+1)) ⟨(d,.osl g)::T.s.map (fun q=>(q.1,purge g q.2)),h1⟩ (Q .normal)) : VWp P M0 w0 N (.region id l.toArray true) Q st:=fun oK p0 a0 AL R0=>by
 have hN:l.all (dz N)=true:=by simpa [fJ] using oK
 obtain ⟨rs,fB,⟨h1,DN,gy,cP,hK⟩,S⟩:=s5 _ _ h;have fb:=hB;simp only [Region.specB,Bool.and_eq_true,decide_eq_true_eq] at fb;obtain ⟨⟨⟨⟨⟨⟨_,bg⟩,_⟩,_⟩,hd⟩,bz⟩,_⟩:=fb;have iS:n+1 < l.length:=by simpa using bg
 have eB:d_ (l.take (n+1))=true:=by simpa using hd
 have s7:d_ (l.take n)=true:=by
  have:=pY (l.take (n+1)) n eB;rwa [List.take_take,Nat.min_eq_left (Nat.le_succ n)] at this
 have hlen:(l.take n).length=n:=by simp;omega
 rw [hlen] at fB;have bo:∀ {i:Nat} {o:Oper},i < n→l[i]? = some o→(l.take n)[i]? = some o:=fun {i o} hi ho=>by rw [List.getElem?_take_of_lt hi];exact ho
 have iT:∀ {i:Nat} {o:Oper},i < n+1→l[i]? = some o→(l.take (n+1))[i]? = some o:=fun {i o} hi ho=>by rw [List.getElem?_take_of_lt hi];exact ho
 have pZ:∀ {i:Nat} {o:Oper},(l.take n)[i]? = some o→i < n∧l[i]? = some o:=fun {i o} ho=>by
  have hi:i < n:=by have:=(List.getElem?_eq_some_iff.1 ho).1;omega
  rw [List.getElem?_take_of_lt hi] at ho;exact ⟨hi,ho⟩
 have fZ:∀ {i:Nat},i < n→rs[i]? = some (rs.getD i .any):=fun {i} hi=>by simp [List.getD,show i < rs.length by omega]
 have cS:∀ i,i < n+1→∀ o,l[i]? = some o→∀ t∈o.looksAt l.toArray,∀ j,j < n+1→∀ q,l[j]? = some q→q.dst=some t→Region.waitsFor .any l.toArray i j=true∧j < i:=by
  intro i hi o ho;have h:=List.all_eq_true.1 bz i (List.mem_range.2 hi);simp only [List.getElem?_toArray,ho,Bool.and_eq_true] at h;have iL:∀ e∈o.after,Region.binds .any e=true→e.on < i:=fun e he hb=>by
   have h1:=Array.all_eq_true'.1 h.2 e he;simp only [hb,Bool.not_true,Bool.false_or,decide_eq_true_eq] at h1;exact h1
  intro t ht j hj q hq aS;have h1:=List.all_eq_true.1 (List.all_eq_true.1 h.1 t ht) j (List.mem_range.2 hj);simp only [hq,Option.bind_some,aS,bne_self_eq_false,Bool.false_or] at h1;refine ⟨h1,?_⟩;obtain ⟨o',bA,e,he,hb,cX⟩:=Region.waitsFor_spec h1;have:o'=o:=Option.some.inj (bA.symm.trans (by simpa using ho));subst this;rw [←cX];exact iL e he hb
 have bn:∀ {i j:Nat} {q:Oper} {t:Nat},j < i→i≤n→l[j]? = some q→q.dst=some t→lkp (a_ st ((l.take n).take i) (rs.take i)).s t=rs.getD j .any:=fun {i j q t} hj hi hq ht=>
  p5 ((l.take n).take i) (rs.take i) st t j q (rs.getD j .any) (pY _ _ s7) (by rw [List.getElem?_take_of_lt hj];exact bo (by omega) hq) (by rw [List.getElem?_take_of_lt hj];exact fZ (by omega)) ht
 have bh:∀ {i t:Nat},(∀ j q,j < n→l[j]? = some q→q.dst≠some t)→lkp (a_ st ((l.take n).take i) (rs.take i)).s t=lkp st.s t:=fun {i t} ho=>
  oL _ _ _ _ fun q hq he=>by
   obtain ⟨j,hj⟩:=List.mem_iff_getElem?.1 (List.mem_of_mem_take hq);obtain ⟨h1,h2⟩:=pZ hj;exact ho j q h1 h2 he
 have cn:a_ st (l.take n) rs=a_ st ((l.take n).take n) (rs.take n):=by
  rw [List.take_of_length_le (l:=l.take n) (by rw [hlen];exact Nat.le_refl _),List.take_of_length_le (l:=rs) (by omega)]
 refine wp_region_any hm ?_;have mA:∀ {j:Nat} {q:Oper} {d':Nat},j < n→l[j]? = some q→q.dst=some d'→d'≠d:=fun {j q d'} hj hq aS he=>by
  subst he;have:j=n:=p6 eB (iT (by omega) hq) (iT (Nat.lt_succ_self n) jm) aS pX.2;omega
 have rl:∀ t,lkp (a_ st (l.take n) rs).s t=lkp (a_ st ((l.take n).take n) (rs.take n)).s t:=fun t=>by rw [←cn]
 have eS:∀ {i:Nat} {o:Oper} {t:Nat},i < n→l[i]? = some o→ix l n n i=false→t∈o.looksAt l.toArray++o.dst.toList→cu g 5 (lkp (a_ st ((l.take n).take n) (rs.take n)).s t)=true:=fun {i o t} hi ho fY ht=>by
  rw [←cn];refine cP t ?_;rw [←AK];unfold xF;refine List.mem_flatMap.2 ⟨i,List.mem_range.2 hi,?_⟩;rw [fY,ho];simpa using ht
 refine xt (Inv:=fun listed a w=>HeadInv .any l.toArray (n+1) listed∧∃ (p:Pl) (s:List (Nat×AV)),Rel M0 w0 N p ⟨s,if listed.getD n false=true then h1 else st.h⟩ a w ∧
   (∀ (j:Nat) (q:Oper) (d:Nat),j < n→listed.getD j false=true→l[j]? = some q→q.dst=some d→lkp s d=pgB g (listed.getD n false) (rs.getD j .any)) ∧
   (∀ t,t≠d→(∀ j q,j < n→l[j]? = some q→q.dst≠some t)→lkp s t=pgB g (listed.getD n false) (lkp st.s t))∧(listed.getD n false=true→lkp s d = .osl g)) hB (fun _ _ _ inv=>inv.1) ?_ ?_ _ _ _ _ ?_ (by simp)
 ·rintro listed a w i o ⟨head,p,s,R,S1,S2,S3⟩ hi bT ho fI;have bA:l[i]? = some o:=by simpa using ho
  obtain ⟨_,o2,rn,dS⟩:=mem_ready.1 hi;have:o2=o:=Option.some.inj (rn.symm.trans ho);subst this;have cG:i < listed.size:=by rw [head.size];simpa using (by omega:i < l.length)
  have bW:(listed.setIfInBounds i true).getD i false=true:=by simp [cG]
  have bb:∀ {j:Nat},i≠j→(listed.setIfInBounds i true).getD j false=listed.getD j false:=fun aC=>getD_set_ne false aC;have cT:∀ j,Region.waitsFor .any l.toArray i j=true→listed.getD j false=true:=by
   intro j hj;obtain ⟨o3,rp,e,he,hb,cX⟩:=Region.waitsFor_spec hj;have:o3=o2:=Option.some.inj (rp.symm.trans ho);subst this;rw [←cX];exact dS e he hb
  have l9:∀ t∈o2.looksAt l.toArray,t≠d:=fun t ht he=>by
   subst he;have:=(cS i bT o2 bA t ht n (Nat.lt_succ_self n) so jm pX.2).2;omega
  have dm:∀ {k:Nat},i≤k→k≤n→∀ t∈o2.looksAt l.toArray,lkp s t=pgB g (listed.getD n false) (lkp (a_ st ((l.take n).take k) (rs.take k)).s t):=fun {k} p7 kM t ht=>by
   by_cases hex:∃ (j:Nat) (q:Oper),j < n∧l[j]? = some q∧q.dst=some t
   ·obtain ⟨j,q,hj,hq,aS⟩:=hex;obtain ⟨h1,h2⟩:=cS i bT o2 bA t ht j (by omega) q hq aS;rw [bn (by omega) kM hq aS];exact S1 j q t hj (cT j h1) hq aS
   ·have bw:∀ j q,j < n→l[j]? = some q→q.dst≠some t:=fun j q hj hq he=>hex ⟨j,q,hj,hq,he⟩;rw [bh bw,S2 t (l9 t ht) bw]
  have dt:∀ {j:Nat} {q:Oper} {d d':Nat},j < n→j≠i→l[j]? = some q→q.dst=some d→o2.dst=some d'→d'≠d:=fun {j q d d'} hj eG hq aS lf he=>by
   subst he;exact eG (p6 eB (iT (by omega) hq) (iT bT bA) aS lf)
  by_cases uF:i=n
  ·subst uF;have:o2=so:=Option.some.inj (bA.symm.trans jm);subst this;have du:=getD_both fI;rw [du] at R;simp only [Bool.false_eq_true,if_false] at R;have rq:∀ z:Operand,z∈o2.op.operands→ev ⟨s,(a_ st (l.take i) rs).h⟩ z=ev (a_ st (l.take i) rs) z:=fun z hz=>by
    cases z with
    | tmp t=>
     show lkp s t=lkp _ t;rw [cn];have:=dm (Nat.le_refl _) (Nat.le_refl _) t (List.mem_append_left _ (List.mem_filterMap.2 ⟨.tmp t,by simpa using hz,rfl⟩));rw [du] at this;exact this
    | const v=>rfl
    | global g=>rfl
    | func f=>rfl
   have gD:=Q0 (s:=s) sW pX.2 (rq x (by rw [sW];simp [Op.operands,Call.operands])) (rq y (by rw [sW];simp [Op.operands,Call.operands])) DN gy;rw [gY] at gD;obtain ⟨v,w',p',hh⟩:=G7 (P:=P) R (List.all_eq_true.1 hN o2 (List.mem_of_getElem? bA)) gD;have fin:∀ v p',Rel M0 w0 N p' ⟨(d,.osl g)::s.map (fun q=>(q.1,purge g q.2)),h1⟩ (a.put o2.dst v) w'→(fun a w=>HeadInv .any l.toArray (i+1) (listed.setIfInBounds i true)∧∃ (p:Pl) (s:List (Nat×AV)),Rel M0 w0 N p ⟨s,if (listed.setIfInBounds i true).getD i false=true then h1 else st.h⟩ a w ∧
     (∀ (j:Nat) (q:Oper) (d:Nat),j < i→(listed.setIfInBounds i true).getD j false=true→l[j]? = some q→q.dst=some d→lkp s d=pgB g ((listed.setIfInBounds i true).getD i false) (rs.getD j .any)) ∧
     (∀ t,t≠d→(∀ j q,j < i→l[j]? = some q→q.dst≠some t)→lkp s t=pgB g ((listed.setIfInBounds i true).getD i false) (lkp st.s t))∧((listed.setIfInBounds i true).getD i false=true→lkp s d = .osl g)) (a.put o2.dst v) w':=fun v p' R'=>by
    refine ⟨head.set hi bT,p',_,by rw [bW];exact R',fun j q d' hj hl hq aS=>?_,fun t oM ht=>?_,fun _=>by simp [lkp]⟩
    ·rw [bW,lkp,if_neg (fun e=>mA hj hq aS e.symm),zL];rw [bb (by omega)] at hl;have:=S1 j q d' hj hl hq aS;rw [du] at this;rw [this];rfl
    ·rw [bW,lkp,if_neg (fun e=>oM e.symm),zL];have:=S2 t oM ht;rw [du] at this;rw [this];rfl
   unfold wpOp;simp only [ho];rw [if_pos (by simp [Region.wanted,pX.1])];refine Or.inl ?_;unfold Oper.wp;rcases hh with ⟨h2,h3⟩|⟨h2,_,h3⟩
   ·rw [h2];exact fin _ _ h3
   ·rw [h2];exact fin _ _ h3
  ·have di:i < n:=by omega
   have aD:=S i o2 (rs.getD i .any) (bo di bA) (fZ di);have eT:((listed.setIfInBounds i true).getD n false)=listed.getD n false:=bb uF;have rr:∀ t,o2.dst=some t→pgB g (listed.getD n false) (rs.getD i .any)=rs.getD i .any:=fun t ht=>by
    cases hb:listed.getD n false
    ·rfl
    ·have fY:ix l n n i=false:=by
      cases hc:ix l n n i
      ·rfl
      ·have:=ru head n n i (fun j hj=>by
        obtain ⟨o6,lv,e,he,fM,cX⟩:=Region.waitsFor_spec hj;have:=head.closed n o6 lv hb e he fM;rwa [cX] at this) hc
       rw [getD_both fI] at this;cases this
     have:=eS (t:=t) di bA fY (List.mem_append_right _ (by rw [ht];simp));rw [bn di (Nat.le_refl _) bA ht] at this;exact DM this
   have fin:∀ v w',V1 w' (Mof M0 (if listed.getD n false=true then h1 else st.h) p) (if listed.getD n false=true then h1 else st.h) p (rs.getD i .any) v→Below w.heap.size w w'→(fun listed a w=>HeadInv .any l.toArray (n+1) listed∧∃ (p:Pl) (s:List (Nat×AV)),Rel M0 w0 N p ⟨s,if listed.getD n false=true then h1 else st.h⟩ a w ∧
     (∀ (j:Nat) (q:Oper) (d:Nat),j < n→listed.getD j false=true→l[j]? = some q→q.dst=some d→lkp s d=pgB g (listed.getD n false) (rs.getD j .any)) ∧
     (∀ t,t≠d→(∀ j q,j < n→l[j]? = some q→q.dst≠some t)→lkp s t=pgB g (listed.getD n false) (lkp st.s t))∧(listed.getD n false=true→lkp s d = .osl g)) (listed.setIfInBounds i true) (a.put o2.dst v) w':=fun v w' hv hb=>by
    have R':=(R.later hb).put (d:=o2.dst) (fL (List.all_eq_true.1 hN o2 (List.mem_of_getElem? bA))) hv;have dp:(VS.put ⟨s,if listed.getD n false=true then h1 else st.h⟩ o2.dst (rs.getD i .any))=⟨(VS.put ⟨s,if listed.getD n false=true then h1 else st.h⟩ o2.dst (rs.getD i .any)).s,if listed.getD n false=true then h1 else st.h⟩:=by cases o2.dst<;>rfl
    rw [dp] at R';refine ⟨head.set hi bT,p,_,by rw [eT];exact R',fun j q d hj hl hq aS=>?_,fun t oM ht=>?_,fun hl=>?_⟩
    ·rw [jJ,eT];by_cases eG:j=i
     ·subst eG;have:q=o2:=Option.some.inj (hq.symm.trans bA);subst this;rw [if_pos aS,rr d aS]
     ·rw [if_neg fun e=>dt hj eG hq aS e rfl];rw [bb (Ne.symm eG)] at hl;exact S1 j q d hj hl hq aS
    ·rw [jJ,if_neg (ht i o2 di bA),eT];exact S2 t oM ht
    ·rw [eT] at hl;rw [jJ,if_neg fun e=>mA di bA e rfl];exact S3 hl
   have mD:∀ t∈o2.looksAt l.toArray,lkp s t=lkp (a_ st ((l.take n).take i) (rs.take i)).s t:=fun t ht=>by
    have h2:=dm (Nat.le_refl i) (by omega) t ht;have h3:=dm (show i≤n by omega) (Nat.le_refl n) t ht;cases hb:listed.getD n false
    ·rw [hb] at h2;exact h2
    ·have fY:ix l n n i=false:=by
      cases hc:ix l n n i
      ·rfl
      ·have:=ru head n n i (fun j hj=>by
        obtain ⟨o6,lv,e,he,fM,cX⟩:=Region.waitsFor_spec hj;have:=head.closed n o6 lv hb e he fM;rwa [cX] at this) hc
       rw [getD_both fI] at this;cases this
     have bw:=eS di bA fY (List.mem_append_left _ ht);rw [hb] at h2 h3;by_cases hex:∃ (j:Nat) (q:Oper),j < n∧l[j]? = some q∧q.dst=some t
     ·obtain ⟨j,q,hj,hq,aS⟩:=hex;obtain ⟨_,h5⟩:=cS i bT o2 bA t ht j (by omega) q hq aS;rw [bn hj (Nat.le_refl _) hq aS] at bw;rw [bn h5 (by omega) hq aS] at h2 ⊢;rw [h2];exact DM bw
     ·have gC:∀ j q,j < n→l[j]? = some q→q.dst≠some t:=fun j q hj hq he=>hex ⟨j,q,hj,hq,he⟩;rw [bh gC] at bw;rw [bh gC] at h2 ⊢;rw [h2];exact DM bw
   have cE:fN P st.h (ev (a_ st ((l.take n).take i) (rs.take i))) o2.op (rs.getD i .any)→gives P o2 a w fun v w''=>V1 w'' (Mof M0 (if listed.getD n false=true then h1 else st.h) p) (if listed.getD n false=true then h1 else st.h) p (rs.getD i .any) v∧Below w.heap.size w w'':=by
    intro hg;have gX:fN P (if listed.getD n false=true then h1 else st.h) (ev (a_ st ((l.take n).take i) (rs.take i))) o2.op (rs.getD i .any):=by
     split
     ·rename_i iW;have h2:=List.all_eq_true.1 hL i (List.mem_range.2 di);simp only [bA,Bool.or_eq_true] at h2;rcases h2 with h2|h2
      ·have:=ru head n n i (fun j hj=>by
        obtain ⟨o6,lv,e,he,fM,cX⟩:=Region.waitsFor_spec hj;have:=head.closed n o6 lv iW e he fM;rwa [cX] at this) h2
       rw [getD_both fI] at this;cases this
      ·exact QX h2 hg
     ·exact hg
    refine rv R.objs R.mok R.h0 R.glob (fun _ _ hb=>.inl hb) (fun x hx=>?_) gX;cases x with
    | tmp t=>
     show V1 _ _ _ _ (lkp (a_ st ((l.take n).take i) (rs.take i)).s t) _;rw [←mD t (List.mem_append_left _ (List.mem_filterMap.2 ⟨.tmp t,by simpa using hx,rfl⟩))];exact R.slots t
    | const v=>exact .base _ _ (.lit v)
    | global g=>exact .base _ _ (R.evalG g)
    | func f=>exact .base _ _ (.lit _)
   have hy:=fun j=>rf (ops:=l) (j:=j) R hN;have cV:∀ (j:Nat) (want:Bool) (v:Value),o2.guard=some (j,want)→df l (a_ st ((l.take n).take i) (rs.take i)) j = .lit v→df l ⟨s,if listed.getD n false=true then h1 else st.h⟩ j = .lit v:=by
    intro j want v hg hv;unfold df at hv ⊢;cases hj:l[j]? with
    | none=>simpa [hj] using hv
    | some q=>
     cases hq:q.dst with
     | none=>simpa [hj,hq] using hv
     | some d=>
      have eV:d∈o2.looksAt l.toArray:=by
       unfold Oper.looksAt;refine List.mem_append_right _ ?_;simp [hg,hj,hq]
      simp only [hj,hq] at hv ⊢;rw [mD d eV];exact hv
   unfold wpOp;simp only [ho];unfold kO at aD;split at aD
   ·rename_i hg;rw [if_pos (by simp [Region.wanted,hg])];rw [gY] at aD;exact Or.inl (lY (cE aD) rfl fun v w' hv=>fin v w' hv.1 hv.2)
   ·rename_i j want hg;split at aD
    ·rename_i b hb;have iV:=(hy j).1 b (cV j want _ hg hb);split at aD
     ·rename_i hw;subst hw;rw [if_pos (by simp [Region.wanted,hg,iV])];rw [gY] at aD;exact Or.inl (lY (cE aD) rfl fun v w' hv=>fin v w' hv.1 hv.2)
     ·rename_i hw;rw [if_neg (by simpa [Region.wanted,hg,iV] using hw)];exact fin undef w (by rw [aD];exact .base _ _ (.lit _)) (Below.refl _ _)
    ·rename_i us hb;have iV:=(hy j).2 us (cV j want _ hg hb);rw [if_neg (by simp [Region.wanted,hg,iV])];exact fin undef w (by rw [aD];exact .base _ _ (.lit _)) (Below.refl _ _)
    ·exact aD.elim
 ·rintro listed a w ⟨head,p,s,R,S1,S2,S3⟩ ax;rw [ax n (by omega)] at R;simp only [if_true] at R;rw [ax n (by omega)] at S1 S2 S3;have R':=R.weak (s':=(d,.osl g)::(a_ st (l.take n) rs).s.map (fun q=>(q.1,purge g q.2))) fun t=>by
   show lkp ((d,.osl g)::(a_ st (l.take n) rs).s.map (fun q=>(q.1,purge g q.2))) t=lkp s t∨_;refine .inl ?_;rw [lkp];split
   ·rename_i he;subst he;exact (S3 rfl).symm
   ·rename_i he;rw [zL,cn];by_cases hex:∃ (j:Nat) (q:Oper),j < n∧l[j]? = some q∧q.dst=some t
    ·obtain ⟨j,q,hj,hq,aS⟩:=hex;rw [bn hj (Nat.le_refl _) hq aS];exact (S1 j q t hj (ax j (by omega)) hq aS).symm
    ·have bw:∀ j q,j < n→l[j]? = some q→q.dst≠some t:=fun j q hj hq he=>hex ⟨j,q,hj,hq,he⟩;rw [bh bw,S2 t (fun e=>he e.symm) bw];rfl
  have lu:(l.drop (n+1)).all (dz N)=true:=List.all_eq_true.2 fun q hq=>List.all_eq_true.1 hN q (List.mem_of_mem_drop hq);exact rD (ow:=ow) hN (fun p st a w R h=>⟨st,p,R,h⟩) (l.drop (n+1)) p _ _ w lu R' hK
 ·refine ⟨⟨by simp,fun j oj _ hl=>(by rw [getD_replicate_false] at hl;cases hl),fun t _ ht=>getD_in (by simpa using ht) (getD_replicate_false _ _)⟩,p0,st.s,?_,fun j q d _ hl=>(by rw [getD_replicate_false] at hl;cases hl),fun _ _ _=>by rw [getD_replicate_false];rfl,fun hl=>(by rw [getD_replicate_false] at hl;cases hl)⟩;rw [getD_replicate_false];exact R0.later (Below.refl _ _).drew
end
section
variable {P:Program} {M0:Nat→Nat→Prop} {w0:Bas} {N:Nm} {p:Pl} {st:VS} {a:Act} {w:World} {Q:Exit→VS→Prop}
end
end Go.Proofs.YtoibondihdhnoaaGreatDoor
