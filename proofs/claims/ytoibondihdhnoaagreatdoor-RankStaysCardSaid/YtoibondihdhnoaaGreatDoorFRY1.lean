/- Texts in one: Lemmas on memory, and on statements whose order of operations is left open: they hold of every program; no condition. -/
import Derived.WalkKit
import Derived.WalkSpells
import Derived.WalkLawsBesides
import Derived.StillTail
import Derived.BigQuiet
import Derived.Deep.Quiet
import Derived.Deep.RegionHeld3
import Derived.Deep.AppendLies
import Derived.Deep.DeepCutAuto
import Derived.Lib.ConvBytes
import Derived.Maps.AppendAt
import Derived.Lib.Hide
namespace Go.Proofs.YtoibondihdhnoaaGreatDoor
open Go.RowKit
def Later (w:World) : Type:={ w':World // Below w.heap.size w w' }
def Later.at {w:World} (n:Later w) : World:=n.1
def Later.mk {w:World} (w':World) (h:Below w.heap.size w w') : Later w:=⟨w',h⟩
theorem Later.below {w:World} (n:Later w) : Below w.heap.size w n.at:=n.2
instance (w:World) : Nonempty (Later w):=⟨⟨w,Below.refl _ _⟩⟩
theorem Later.drawn (w:World) : ∃ n:Later w,({ w with drawn:=w.drawn+1 } : World)=n.at:=⟨⟨_,(Below.refl _ w).drew⟩,rfl⟩
theorem DA {w w':World} (h:Below w.heap.size w w') {a:Addr} {v:Value} (hc:w.cell? a=some v) : w'.cell? a=some v:=
 (h.cell (World.block_lt_of_cell? w a hc)).trans hc
theorem Later.cell {w:World} {a:Addr} {v:Value} (hc:w.cell? a=some v) (n:Later w) : n.at.cell? a=some v:=DA n.2 hc
theorem DB {w w1 w2:World} (h:Below w.heap.size w w1) (k:Below w1.heap.size w1 w2) : Below w.heap.size w w2:=
 h.trans (k.mono h.size)
def Bk (w:World) (g:Nat) (t:TypeId) (cs:Array Value) : Prop:=w.heap[g]? = some (.cells cs t (0,0))
section
variable {w w':World} {g:Nat} {t:TypeId} {cs:Array Value}
theorem Bk.lt (h:Bk w g t cs) : g < w.heap.size:=(Array.getElem?_eq_some_iff.1 h).1
theorem Bk.cell (h:Bk w g t cs) (o:Nat) : w.cell? ⟨g,o,none⟩=cs[o]?:=cell_of_row w g o cs t (0,0) h
theorem Bk.frozen (h:Bk w g t cs) (o:Nat) : w.frozen? ⟨g,o,none⟩=false:=by
 unfold Bk at h;simp [World.frozen?,h]
theorem Bk.new (w:World) (t:TypeId) (cs:Array Value) : Bk (w.alloc (.cells cs t)) w.heap.size t cs:=heap_alloc_new w _
theorem Bk.alloc (h:Bk w g t cs) (o:Obj) : Bk (w.alloc o) g t cs:=(Below.heap_alloc w o g h.lt).trans h
theorem Bk.drew (h:Bk w g t cs) : Bk w.drew g t cs:=h
theorem Bk.drewN (h:Bk w g t cs) (n:Nat) : Bk (w.drewN n) g t cs:=h
theorem Bk.below (h:Bk w g t cs) (hb:Below w.heap.size w w') : Bk w' g t cs:=(hb.block g h.lt).trans h
theorem Bk.later (h:Bk w g t cs) (n:Later w) (o:Nat) : n.at.cell? ⟨g,o,none⟩=cs[o]?:=(h.below n.2).cell o
theorem Bk.grown {row:Option Nat} (h:Bk w g t cs) (hb:w.grownBy w' row) (hg:some g≠row) : Bk w' g t cs:=(hb.block g h.lt hg).trans h
theorem Bk.apart {g':Nat} {t':TypeId} {dI:Array Value} (h:Bk w g t cs) (h':Bk w g' t' dI) (ax:t≠t') : g≠g':=by
 rintro rfl;unfold Bk at h h';rw [h] at h';injection h' with h'
 injection h' with _ ht
 exact ax ht
end
theorem xd {w0 w:World} (h:Below w0.heap.size w0 w) (o:Obj) : Below w0.heap.size w0 (w.alloc o):=h.alloc h.size o
def Sl {α:Type} (C:α→List Value) (sz:Nat) (w:World) (A:Option Addr) (l:List α) : Prop:=
 l≠[]→∃ b o,A=some ⟨b,o,none⟩∧∀ k x,l[k]? = some x→∀ j v,(C x)[j]? = some v→w.cell? ⟨b,o+k*sz+j,none⟩=some v
section
variable {α:Type} {C:α→List Value} {sz:Nat} {w w':World} {A:Option Addr} {l:List α}
theorem Sl.nil (C:α→List Value) (sz:Nat) (w:World) (A:Option Addr) : Sl C sz w A []:=fun h=>absurd rfl h
theorem Sl.keep (h:Sl C sz w A l) (hk:∀ a v,w.cell? a=some v→w'.cell? a=some v) : Sl C sz w' A l:=fun hn=>
 let ⟨b,o,hA,hc⟩:=h hn
 ⟨b,o,hA,fun k x hx j v hv=>hk _ _ (hc k x hx j v hv)⟩
theorem Sl.below (h:Sl C sz w A l) (hb:Below w.heap.size w w') : Sl C sz w' A l:=h.keep fun _ _=>DA hb
theorem Sl.alloc (h:Sl C sz w A l) (o:Obj) : Sl C sz (w.alloc o) A l:=h.below (xd (Below.refl _ _) o)
theorem Sl.at_ (h:Sl C sz w A l) {k:Nat} (hk:k < l.length) : ∃ b o,A=some ⟨b,o,none⟩∧∀ j v,(C l[k])[j]? = some v→w.cell? ⟨b,o+k*sz+j,none⟩=some v:=
 let ⟨b,o,hA,hc⟩:=h (List.ne_nil_of_length_pos (by omega))
 ⟨b,o,hA,hc k l[k] (List.getElem?_eq_getElem hk)⟩
theorem Sl.take (h:Sl C sz w A l) (n:Nat) : Sl C sz w A (l.take n):=fun hn=>by
 obtain ⟨b,o,hA,hc⟩:=h (fun e=>hn (by rw [e];simp));refine ⟨b,o,hA,fun k x hx=>hc k x ?_⟩;rw [List.getElem?_take] at hx;split at hx
 ·exact hx
 ·cases hx
theorem Sl.drop (h:Sl C sz w A l) (n:Nat) : ∀ b o,A=some ⟨b,o,none⟩→Sl C sz w (some ⟨b,o+n*sz,none⟩) (l.drop n):=fun b o e hn=>by
 obtain ⟨b',o',hA,hc⟩:=h (fun e=>hn (by rw [e];simp));rw [e] at hA;injection hA with hA
 injection hA with h1 h2 _
 subst h1;subst h2;refine ⟨b,o+n*sz,rfl,fun k x hx j v hv=>?_⟩;rw [List.getElem?_drop] at hx;have:=hc (n+k) x hx j v hv;rw [Nat.add_mul] at this;rwa [Nat.add_assoc o]
end
theorem Iw {α:Type} {C:α→List Value} {sz:Nat} (hC:∀ x,(C x).length=sz) : ∀ (l:List α) (j:Nat) (u:Value),(l.flatMap C)[j]? = some u →
  ∃ k x i,l[k]? = some x∧(C x)[i]? = some u∧j=k*sz+i:=by
 intro l;induction l with
 | nil=>intro j u h;simp at h
 | cons y l ih=>
  intro j u h;rw [List.flatMap_cons] at h;by_cases hj:j < sz
  ·rw [List.getElem?_append_left (by rw [hC];exact hj)] at h;exact ⟨0,y,j,rfl,h,by omega⟩
  ·rw [List.getElem?_append_right (by rw [hC];omega),hC] at h;obtain ⟨k,x,i,h1,h2,h3⟩:=ih _ _ h;exact ⟨k+1,x,i,by simpa using h1,h2,by rw [Nat.add_mul];omega⟩
theorem Ix {α:Type} {C:α→List Value} {sz:Nat} (hC:∀ x,(C x).length=sz) (l:List α) : (l.flatMap C).length=l.length*sz:=by
 induction l with
 | nil=>simp
 | cons y l ih=>rw [List.flatMap_cons,List.length_append,ih,hC,List.length_cons,Nat.add_mul];omega
theorem jn (b o j:Nat) : (⟨b,o,none⟩ : Addr).add j=⟨b,o+j,none⟩:=by
 unfold Addr.add;split<;>simp_all
section
variable {P:Program} (w:World) {α:Type} {C:α→List Value}
theorem DC {base:Nat} {e:TypeId} {sz n:Nat} {v:Value} {xs:List Value} (h:w.ownsRow base e sz v n xs) : ∃ A c,v = .slice A n c:=by
 rcases h.2 with ⟨rfl,rfl⟩|⟨g,cap,_,rfl,_⟩
 ·exact ⟨none,0,rfl⟩
 ·exact ⟨some ⟨g,0,none⟩,cap,rfl⟩
theorem Iy (base:Nat) (t ty e:TypeId) (i:TypeInfo) (z:Value) (sz bytes:Nat) (ht:P.underlying t=some (.slice e)) (hi:P.info? e=some i) (hz:i.zero=some z)
  (uJ:i.size=sz) (gR:i.bytes=bytes) (fX:z.cells.size=sz) (aM:0 < sz) (hC:∀ x,(C x).length=sz) (h1:∀ x,∀ u∈C x,u.oneCell'=true)
  (A:Option Addr) (n c:Nat) (xs:List Value) (cz:w.ownsRow base e sz (.slice A n c) n xs)
  (A':Option Addr) (m c':Nat) (l:List α) (hm:m=l.length) (hS:Sl C sz w A' l)
  (Iz:n+m≤maxLen) (eh:(n+m)*bytes≤140737488355328) (uK:base≤w.heap.size) :
  ∃ A2 c2 w',(Builtin.append_ #[t,t] ty #[.slice A n c,.slice A' m c']).run P w = .ok (.slice A2 (n+m) c2) w'∧w'.ownsRow base e sz (.slice A2 (n+m) c2) (n+m) (xs++l.flatMap C) ∧
   w.grownBy w' (Value.slice A n c).ownBlock∧((Value.slice A2 (n+m) c2).ownBlock=(Value.slice A n c).ownBlock∨(Value.slice A2 (n+m) c2).ownBlock=some w.heap.size):=by
 have key:∀ ad,A'=some ad→(∀ j u,(l.flatMap C)[j]? = some u→w.cell? (ad.add j)=some u)→∃ A2 c2 w',(Builtin.append_ #[t,t] ty #[.slice A n c,.slice A' m c']).run P w = .ok (.slice A2 (n+m) c2) w'∧w'.ownsRow base e sz (.slice A2 (n+m) c2) (n+m) (xs++l.flatMap C) ∧
   w.grownBy w' (Value.slice A n c).ownBlock∧((Value.slice A2 (n+m) c2).ownBlock=(Value.slice A n c).ownBlock∨(Value.slice A2 (n+m) c2).ownBlock=some w.heap.size):=by
  intro ad hA hc;subst hA;obtain ⟨v',w',hr,ho,hg,_,hb⟩:=run_append_own_at (P:=P) w base t ty e i z sz bytes ht hi hz uJ gR fX aM (.slice A n c) n xs cz ad m c' (l.flatMap C) (by rw [Ix hC,hm]) hc
   (fun u hu=>by obtain ⟨x,_,hx⟩:=List.mem_flatMap.1 hu;exact h1 x u hx) Iz eh uK
  obtain ⟨A2,c2,rfl⟩:=DC _ ho;exact ⟨A2,c2,w',hr,ho,hg,hb⟩
 by_cases hl:l=[]
 ·subst hl;have IA:m=0:=by simpa using hm
  subst IA;cases A' with
  | some ad=>exact key ad rfl (fun j u h=>by simp at h)
  | none=>
   refine ⟨A,c,w,?_,by simpa using cz,World.grownBy.refl w _,.inl rfl⟩;rcases cz.2 with ⟨hv,rfl⟩|⟨g,cap,cur,hv,_,_,j_,_⟩
   ·injection hv with hA _ hc
    subst hA;subst hc;simp [Builtin.append_,run_underlying ht,sizeOf,typeInfo,hi,Builtin.lenOf,Builtin.firstCells]
   ·injection hv with hA _ hc
    subst hA;subst hc;simp [Builtin.append_,run_underlying ht,sizeOf,typeInfo,hi,Builtin.lenOf,Builtin.firstCells,j_,storeCells]
 ·obtain ⟨b,o,hA,hc⟩:=hS hl;refine key _ hA (fun j u h=>?_);obtain ⟨k,x,q,h1,h2,rfl⟩:=Iw hC l j u h;rw [jn];have:=hc k x h1 q u h2;rwa [Nat.add_assoc] at this
end
def lI (s:ByteArray) (i:Nat) : UInt8:=s.data.toList.getD i 0
theorem IB {s:ByteArray} {k:Nat} (h:k < s.size) : lI s k=s[k]:=by
 have h':k < s.data.toList.length:=h;simp only [lI,List.getD,List.getElem?_eq_getElem h',Option.getD_some];rfl
theorem DD (s:ByteArray) : s.toList=s.data.toList:=ByteArray.toList_eq s
section
variable {P:Program} {ops:Array Oper} {md:Region.Mode} {C:World→Prop}
end
def tt (P:Program) (R:Value→World→Prop) : Result Next→Prop
 | .ok (.value v) w'=>R v w'
 | .ok .skip w'=>R undef w'
 | .ok (.enter f args) w'=>Calls P f args w' fun e w''=>∃ v,e = .returned v∧R v w''
 | _=>False
def gives (P:Program) (o:Oper) (a:Act) (w:World) (R:Value→World→Prop) : Prop:=tt P R ((execOp a.eval o).run P w)
attribute [go_sem] gives tt
section
variable {P:Program} {ops:Array Oper} {md:Region.Mode}
theorem ka {o:Oper} {a a':Act} {w:World} {R:Value→World→Prop} {K:Act→World→Prop} {Q:Exit→Act→World→Prop} (h:gives P o a w R) (he:execOp a'.eval o=execOp a.eval o)
  (hk:∀ v w',R v w'→K (a'.put o.dst v) w') : o.wp P a' w K Q:=by
 unfold gives at h;unfold Oper.wp;rw [he];generalize (execOp a.eval o).run P w=r at *;cases r with
 | ok n w'=>
  cases n<;>simp only [tt] at h<;>simp only [Oper.upon]
  case value v=>exact hk _ _ h
  case skip=>exact hk _ _ h
  case enter f args=>exact h.mono fun e w'' ⟨v,hv,hr⟩=>by subst hv;exact hk _ _ hr
 | halt x w'=>simp only [tt] at h
def fill (listed:Nat→Bool) (vs:Nat→Value) : List Oper→Nat→Act→Act
 | [],_,a=>a
 | o::l,i,a=>fill listed vs l (i+1) (if listed i then a.put o.dst (vs i) else a)
def dS:List Oper→Bool
 | []=>true
 | o::l=>(match o.dst with|some d=>l.all fun p=>p.dst != some d|none=>true)&&dS l
theorem xe {listed eH:Nat→Bool} {vs vs':Nat→Value} : ∀ (l:List Oper) (k:Nat) (a:Act),(∀ i,k≤i→i < k+l.length→listed i=eH i∧vs i=vs' i)→fill listed vs l k a=fill eH vs' l k a
 | [],_,_,_=>rfl
 | o::l,k,a,h=>by
  obtain ⟨h1,h2⟩:=h k (Nat.le_refl _) (by simp);rw [fill,fill,h1,h2];exact xe l (k+1) _ fun i hi br=>h i (by omega) (by simp only [List.length_cons];omega)
theorem zZ {listed:Nat→Bool} {vs:Nat→Value} {x:Option Tmp} {v:Value} : ∀ (l:List Oper) (k:Nat) (a:Act),(∀ p∈l,∀ d,x=some d→p.dst≠some d)→(fill listed vs l k a).put x v=fill listed vs l k (a.put x v)
 | [],_,_,_=>rfl
 | o::l,k,a,h=>by
  rw [fill,fill,zZ l (k+1) _ fun p hp=>h p (List.mem_cons_of_mem _ hp)];congr 1;split
  ·exact (Act.put_comm a v (vs k) (h o (List.mem_cons_self ..))).symm
  ·rfl
theorem uL {o:Oper} {l:List Oper} (h:dS (o::l)=true) : (∀ p∈l,∀ d,o.dst=some d→p.dst≠some d)∧dS l=true:=by
 simp only [dS,Bool.and_eq_true] at h;refine ⟨fun p hp d hd=>?_,h.2⟩;have:=h.1;rw [hd] at this;simpa using List.all_eq_true.1 this p hp
theorem z7 {listed eH:Nat→Bool} {vs vs':Nat→Value} {i:Nat} {o:Oper} {v:Value} (hl:∀ j,j≠i→eH j=listed j∧vs' j=vs j) (hi:listed i=false) (br:eH i=true∧vs' i=v) :
  ∀ (l:List Oper) (k:Nat) (a:Act),dS l=true→k≤i→l[i - k]? = some o→(fill listed vs l k a).put o.dst v=fill eH vs' l k a
 | [],_,_,_,_,h=>by simp at h
 | p::l,k,a,hd,hk,h=>by
  obtain ⟨rp,dT⟩:=uL hd;by_cases he:k=i
  ·subst he;have:p=o:=by simpa using h
   subst this;rw [fill,fill,hi,br.1,br.2];simp only [Bool.false_eq_true,if_false,if_true];rw [zZ l (k+1) a rp];exact xe l (k+1) _ fun j hj _=>⟨(hl j (by omega)).1.symm,(hl j (by omega)).2.symm⟩
  ·rw [fill,fill,(hl k he).1,(hl k he).2];refine z7 hl hi br l (k+1) _ dT (by omega) ?_;rw [show i - k=(i - (k+1))+1 by omega,List.getElem?_cons_succ] at h;exact h
theorem z8 {listed:Nat→Bool} {vs:Nat→Value} {o:Oper} (hs:∀ cs b,o.op≠.select cs b) : ∀ (l:List Oper) (k:Nat) (a:Act),dS l=true →
  (∀ j p,l[j]? = some p→listed (k+j)=false→∀ d,p.dst=some d→d∉o.looksAt ops) →
  execOp (fill listed vs l k a).eval o=execOp (fill (fun _=>true) vs l k a).eval o∧Region.wanted o (yielded ops (fill listed vs l k a).tmps)=Region.wanted o (yielded ops (fill (fun _=>true) vs l k a).tmps)
 | [],_,_,_,_=>⟨rfl,rfl⟩
 | p::l,k,a,hd,h=>by
  obtain ⟨rp,dT⟩:=uL hd;have ih:=fun a=>z8 (listed:=listed) (vs:=vs) hs l (k+1) a dT fun j p hj hl=>h (j+1) p (by simpa using hj) (by rw [show k+(j+1)=k+1+j by omega];exact hl);rw [fill,fill];simp only [if_true];by_cases hk:listed k=true
  ·rw [if_pos hk];exact ih _
  ·rw [if_neg hk];obtain ⟨h1,h2⟩:=ih a;have bD:=h 0 p rfl (by simpa using hk);rw [←zZ l (k+1) a rp,execOp_put o hs _ p.dst (vs k) bD,wanted_put o _ p.dst (vs k) bD];exact ⟨h1,h2⟩
def Region.specB (ops:Array Oper) (n:Nat) : Bool:=
 Region.noSelect ops&&decide (n < ops.size)&&Region.sinkB .any ops n&&Region.chainB .any ops n&&dS (ops.toList.take n) &&
 (List.range n).all (fun i=>match ops[i]? with
  | some o=>(o.looksAt ops).all (fun t=>(List.range n).all fun j=>((ops[j]?).bind (·.dst)) != some t || Region.waitsFor .any ops i j)&&o.after.all (fun e=>!Region.binds .any e || decide (e.on < i))
  | none=>false) &&
 Region.seqB .any ops (ops.size - n) n (Array.replicate n true++Array.replicate (ops.size - n) false)
def p9 (P:Program) (ops:Array Oper) (w0:World) (a0:Act) (n:Nat) (S:Nat→Value→World→Prop) (i:Nat) : Prop:=
 ∀ o,ops[i]? = some o→∀ (vs:Nat→Value) (w:World),Below w0.heap.size w0 w→(∀ j,j < n→Region.waitsFor .any ops i j=true→S j (vs j) w) →
  if Region.wanted o (yielded ops (fill (fun _=>true) vs (ops.toList.take n) 0 a0).tmps) then
   gives P o (fill (fun _=>true) vs (ops.toList.take n) 0 a0) w fun v w'=>S i v w'∧Below w.heap.size w w'
  else S i undef w
structure SpecInv (ops:Array Oper) (w0:World) (a0:Act) (n:Nat) (S:Nat→Value→World→Prop) (listed:Array Bool) (vs:Nat→Value) (a:Act) (w:World) : Prop where
 head:HeadInv .any ops n listed
 frame:a=fill (fun i=>listed.getD i false) vs (ops.toList.take n) 0 a0
 world:Below w0.heap.size w0 w
 vals:∀ i,i < n→listed.getD i false=true→S i (vs i) w
theorem z_ {l:List Bool} {i:Nat} (h:l[i]? = some false) : (l.set i true).count false+1=l.count false:=by
 obtain ⟨hi,he⟩:=List.getElem?_eq_some_iff.1 h;rw [List.count_set hi,he];have:0 < l.count false:=List.count_pos_iff.2 (by rw [←he];exact List.getElem_mem hi);simp;omega
theorem IC {Q:Exit→Act→World→Prop} {w0:World} {a0:Act} {n:Nat} {S:Nat→Value→World→Prop} (hB:Region.specB ops n=true)
  (fJ:∀ i,i < n→∀ v w w',S i v w→Below w.heap.size w w'→S i v w')
  (cT:∀ i,i < n→p9 P ops w0 a0 n S i)
  (gT:∀ vs w,Below w0.heap.size w0 w→(∀ i,i < n→S i (vs i) w)→wpList P ops Q (ops.toList.drop n) (fill (fun _=>true) vs (ops.toList.take n) 0 a0) w) :
  ∀ (F:Nat) (listed:Array Bool) (vs:Nat→Value) (a:Act) (w:World),SpecInv ops w0 a0 n S listed vs a w→listed.toList.count false=F→wpAny P .any ops Q F listed a w:=by
 simp only [Region.specB,Bool.and_eq_true,decide_eq_true_eq] at hB;obtain ⟨⟨⟨⟨⟨⟨kx,hn⟩,hs⟩,hc⟩,hd⟩,bb⟩,mJ⟩:=hB;have cC:∀ i,i < n→∀ o,ops[i]? = some o→(∀ t∈o.looksAt ops,∀ j,j < n→∀ p,ops[j]? = some p→p.dst=some t→Region.waitsFor .any ops i j=true)∧(∀ e∈o.after,Region.binds .any e=true→e.on < i):=by
  intro i hi o ho;have h:=List.all_eq_true.1 bb i (List.mem_range.2 hi);simp only [ho,Bool.and_eq_true] at h;refine ⟨fun t ht j hj p hp rq=>?_,fun e he hb=>?_⟩
  ·have h1:=List.all_eq_true.1 (List.all_eq_true.1 h.1 t ht) j (List.mem_range.2 hj);simp only [hp,Option.bind_some,rq,bne_self_eq_false,Bool.false_or] at h1;exact h1
  ·have h1:=Array.all_eq_true'.1 h.2 e he;simp only [hb,Bool.not_true,Bool.false_or,decide_eq_true_eq] at h1;exact h1
 intro F;induction F with
 | zero=>
  intro listed vs a w inv eW;have cA:∀ i,i < ops.size→listed.getD i false=true:=by
   intro i hi;have br:i < listed.toList.length:=by rw [Array.length_toList,inv.head.size];exact hi
   have hm:listed.toList[i]≠false:=fun h=>by
    have:false∈listed.toList:=by rw [←h];exact List.getElem_mem br
    exact absurd (List.count_pos_iff.2 this) (by omega)
   simp only [Array.getElem_toList] at hm;simp [inv.head.size,hi,hm]
  have hu:=inv.head.tail n (Nat.le_refl _) hn;have h1:=cA n hn;rw [getD_both hu] at h1;cases h1
 | succ F ih=>
  intro listed vs a w inv eW;by_cases aF:∀ i,i < n→listed.getD i true=true
  ·have jI:listed=Array.replicate n true++Array.replicate (ops.size - n) false:=by
    apply Array.ext
    ·simp [inv.head.size];omega
    ·intro i h1 h2;have Aa:=inv.head.size;by_cases bg:i < n
     ·have:=aF i bg;rw [Array.getElem_append_left (by simpa using bg)];simp [h1] at this ⊢;exact this
     ·have:=inv.head.tail i (by omega) (by omega);rw [Array.getElem_append_right (by simp;omega)];simp [h1] at this ⊢;exact this
   have hF:F+1=(ops.toList.drop n).length:=by
    rw [←eW,jI];simp [List.count_replicate]
   rw [hF];refine wpAny_of_seq _ n listed a w (fun j=>by simp) ?_ ?_
   ·rw [List.length_drop,Array.length_toList,jI];exact mJ
   ·rw [inv.frame];have Ab:fill (fun i=>listed.getD i false) vs (ops.toList.take n) 0 a0=fill (fun _=>true) vs (ops.toList.take n) 0 a0:=by
     refine xe _ 0 _ fun i _ hi=>⟨?_,rfl⟩
     have bg:i < n:=by simp at hi;omega
     have:=aF i bg;have aM:i < listed.size:=by rw [inv.head.size];omega
     simp [aM] at this ⊢;exact this
    rw [Ab];refine gT vs w inv.world fun i hi=>inv.vals i hi ?_;have:=aF i hi;have aM:i < listed.size:=by rw [inv.head.size];omega
    simp [aM] at this ⊢;exact this
  ·have hex:∃ i,i < n∧listed.getD i true=false:=by
    simpa using aF
   have iV:∃ i,(i < n∧listed.getD i true=false)∧∀ j,j < i→¬(j < n∧listed.getD j true=false):=by
    obtain ⟨i,hi⟩:=hex;induction i using Nat.strongRecOn with
    | _ i uM=>
     by_cases h:∃ j,j < i∧j < n∧listed.getD j true=false
     ·obtain ⟨j,hj,mK⟩:=h;exact uM j hj mK
     ·exact ⟨i,hi,fun j hj hh=>h ⟨j,hj,hh⟩⟩
   obtain ⟨m,⟨oX,rr⟩,oY⟩:=iV;have eo:m∈Region.ready .any ops listed:=by
    obtain ⟨o,ho⟩ : ∃ o,ops[m]? = some o:=⟨ops[m]'(by omega),by simp⟩
    refine mem_ready.2 ⟨rr,o,ho,fun e he hb=>?_⟩;have aq:=(cC m oX o ho).2 e he hb;have hl:=oY e.on aq;have aM:e.on < listed.size:=by rw [inv.head.size];omega
    cases hv:listed.getD e.on false with
    | true=>rfl
    | false=>exact absurd ⟨by omega,getD_in aM hv⟩ hl
   refine ⟨fun h=>(by rw [h] at eo;cases eo),fun i hi=>?_⟩;have bg:i < n:=by
    rcases Nat.lt_or_ge i n with h|h
    ·exact h
    ·exact absurd hi (tail_waits hs hc hn inv.head _ m rfl oX rr i h)
   obtain ⟨fm,o,ho,c_⟩:=mem_ready.1 hi;have bI:i < listed.size:=by rw [inv.head.size];omega
   have bT:∀ j,Region.waitsFor .any ops i j=true→listed.getD j false=true:=by
    intro j hj;obtain ⟨o',aT,e,he,hb,cD⟩:=Region.waitsFor_spec hj;have:o'=o:=Option.some.inj (aT.symm.trans ho);subst this;rw [←cD];exact c_ e he hb
   have b8:=z8 (ops:=ops) (listed:=fun i=>listed.getD i false) (vs:=vs) (o:=o) (fun cs b=>Region.noSelect_spec kx i o cs b ho) (ops.toList.take n) 0 a0 hd (by
    intro j p hp hl d rq uN;have ep:j < n:=by
     have:=(List.getElem?_eq_some_iff.1 hp).1;simp at this;omega
    have Ac:ops[j]? = some p:=by
     rw [List.getElem?_take_of_lt ep] at hp;simpa using hp
    have:=bT j ((cC i bg o ho).1 d uN j ep p Ac rq);rw [Nat.zero_add] at hl;rw [this] at hl;cases hl)
   have iu:=cT i bg o ho vs w inv.world (fun j hj hw=>inv.vals j hj (bT j hw));have jJ:∀ v w',S i v w'→Below w.heap.size w w'→wpAny P .any ops Q F (listed.setIfInBounds i true) (a.put o.dst v) w':=by
    intro v w' hv hb;refine ih (listed.setIfInBounds i true) (fun j=>if j=i then v else vs j) _ w' ⟨inv.head.set hi bg,?_,DB inv.world hb,?_⟩ ?_
    ·rw [inv.frame];refine z7 (i:=i) (fun j hj=>⟨getD_set_ne false (Ne.symm hj),by simp [hj]⟩) (getD_both fm) ⟨?_,by simp⟩ _ 0 _ hd (Nat.zero_le _) ?_
     ·simp [bI]
     ·rw [Nat.sub_zero,List.getElem?_take_of_lt bg];simpa using ho
    ·intro j hj hl;by_cases cU:j=i
     ·subst cU;simpa using hv
     ·simp only [cU,if_false];rw [getD_set_ne false (Ne.symm cU)] at hl;exact fJ j hj _ _ _ (inv.vals j hj hl) hb
    ·have h1:listed.toList[i]? = some false:=by
      have:listed[i]=false:=by simpa [bI] using fm
      simp [bI,this]
     have h2:=z_ h1;rw [Array.toList_setIfInBounds];omega
   have gU:a=fill (fun i=>listed.getD i false) vs (ops.toList.take n) 0 a0:=inv.frame;have uO:execOp a.eval o=execOp (fill (fun _=>true) vs (ops.toList.take n) 0 a0).eval o:=by rw [gU];exact b8.1
   have Ad:Region.wanted o (yielded ops a.tmps)=Region.wanted o (yielded ops (fill (fun _=>true) vs (ops.toList.take n) 0 a0).tmps):=by rw [gU];exact b8.2
   unfold wpOp;simp only [ho];rw [Ad];by_cases hw:Region.wanted o (yielded ops (fill (fun _=>true) vs (ops.toList.take n) 0 a0).tmps)=true
   ·rw [if_pos hw] at iu ⊢;exact Or.inl (ka iu uO fun v w' h=>jJ v w' h.1 h.2)
   ·rw [if_neg hw] at iu ⊢;exact jJ undef w iu (Below.refl _ _)
theorem xf {id:Nat} {Q:Exit→Act→World→Prop} {a:Act} {w:World} {l:List Oper} (n:Nat) (S:Nat→Value→World→Prop) (hm:P.follows .mixedOrders=true) (hB:Region.specB l.toArray n=true)
  (fJ:∀ i,i < n→∀ v w w',S i v w→Below w.heap.size w w'→S i v w')
  (cT:∀ i,i < n→p9 P l.toArray w a n S i)
  (gT:∀ vs w',Below w.heap.size w w'→(∀ i,i < n→S i (vs i) w')→wpList P l.toArray Q (l.drop n) (fill (fun _=>true) vs (l.take n) 0 a) w') : (Code.region id l.toArray true).wp P Q a w:=by
 refine wp_region_any hm ?_;refine IC (w0:=w) (a0:=a) (S:=S) hB fJ cT (by simpa using gT) _ _ (fun _=>undef) _ _ ⟨?_,?_,?_,?_⟩ ?_
 ·exact ⟨by simp,fun j oj _ hl=>(by rw [getD_replicate_false] at hl;cases hl),fun t _ ht=>getD_in (by simpa using ht) (getD_replicate_false _ _)⟩
 ·have:∀ (l:List Oper) (k:Nat) (a:Act) (vs:Nat→Value) (m:Nat),a=fill (fun i=>(Array.replicate m false).getD i false) vs l k a:=by
   intro l;induction l with
   | nil=>intros;rfl
   | cons o l ih=>intro k a vs m;rw [fill,getD_replicate_false];exact ih (k+1) a vs m
  exact this _ 0 a _ _
 ·exact (Below.refl _ _).drew
 ·intro i _ h;rw [getD_replicate_false] at h;cases h
 ·simp
end
section
variable {P:Program} {ops:Array Oper}
end
section
variable {P:Program} {ops:Array Oper}
theorem tu {Q:Exit→Act→World→Prop} {n:Nat} {Inv:Array Bool→Act→World→Prop} (hB:Region.specB ops n=true)
  (p_:∀ listed a w,Inv listed a w→HeadInv .any ops n listed)
  (ar:∀ listed a w i o,Inv listed a w→i∈Region.ready .any ops listed→i < n→ops[i]? = some o→listed.getD i true=false→wpOp P ops Q i (fun a' w'=>Inv (listed.setIfInBounds i true) a' w') a w)
  (gT:∀ listed a w,Inv listed a w→(∀ i,i < n→listed.getD i false=true)→wpList P ops Q (ops.toList.drop n) a w) :
  ∀ (F:Nat) (listed:Array Bool) (a:Act) (w:World),Inv listed a w→listed.toList.count false=F→wpAny P .any ops Q F listed a w:=by
 simp only [Region.specB,Bool.and_eq_true,decide_eq_true_eq] at hB;obtain ⟨⟨⟨⟨⟨⟨kx,hn⟩,hs⟩,hc⟩,hd⟩,bb⟩,mJ⟩:=hB;have fK:∀ i,i < n→∀ o,ops[i]? = some o→∀ e∈o.after,Region.binds .any e=true→e.on < i:=by
  intro i hi o ho e he hb;have h:=List.all_eq_true.1 bb i (List.mem_range.2 hi);simp only [ho,Bool.and_eq_true] at h;have h1:=Array.all_eq_true'.1 h.2 e he;simp only [hb,Bool.not_true,Bool.false_or,decide_eq_true_eq] at h1;exact h1
 intro F;induction F with
 | zero=>
  intro listed a w inv eW;have head:=p_ _ _ _ inv;have cA:∀ i,i < ops.size→listed.getD i false=true:=by
   intro i hi;have br:i < listed.toList.length:=by rw [Array.length_toList,head.size];exact hi
   have hm:listed.toList[i]≠false:=fun h=>by
    have:false∈listed.toList:=by rw [←h];exact List.getElem_mem br
    exact absurd (List.count_pos_iff.2 this) (by omega)
   simp only [Array.getElem_toList] at hm;simp [head.size,hi,hm]
  have hu:=head.tail n (Nat.le_refl _) hn;have h1:=cA n hn;rw [getD_both hu] at h1;cases h1
 | succ F ih=>
  intro listed a w inv eW;have head:=p_ _ _ _ inv;by_cases aF:∀ i,i < n→listed.getD i true=true
  ·have jI:listed=Array.replicate n true++Array.replicate (ops.size - n) false:=by
    apply Array.ext
    ·simp [head.size];omega
    ·intro i h1 h2;have Aa:=head.size;by_cases bg:i < n
     ·have:=aF i bg;rw [Array.getElem_append_left (by simpa using bg)];simp [h1] at this ⊢;exact this
     ·have:=head.tail i (by omega) (by omega);rw [Array.getElem_append_right (by simp;omega)];simp [h1] at this ⊢;exact this
   have hF:F+1=(ops.toList.drop n).length:=by
    rw [←eW,jI];simp [List.count_replicate]
   rw [hF];refine wpAny_of_seq _ n listed a w (fun j=>by simp) ?_ (gT _ _ _ inv ?_)
   ·rw [List.length_drop,Array.length_toList,jI];exact mJ
   ·intro i bg;have:=aF i bg;have aM:i < listed.size:=by rw [head.size];omega
    simp [aM] at this ⊢;exact this
  ·have hex:∃ i,i < n∧listed.getD i true=false:=by
    simpa using aF
   have iV:∃ i,(i < n∧listed.getD i true=false)∧∀ j,j < i→¬(j < n∧listed.getD j true=false):=by
    obtain ⟨i,hi⟩:=hex;induction i using Nat.strongRecOn with
    | _ i uM=>
     by_cases h:∃ j,j < i∧j < n∧listed.getD j true=false
     ·obtain ⟨j,hj,mK⟩:=h;exact uM j hj mK
     ·exact ⟨i,hi,fun j hj hh=>h ⟨j,hj,hh⟩⟩
   obtain ⟨m,⟨oX,rr⟩,oY⟩:=iV;have eo:m∈Region.ready .any ops listed:=by
    obtain ⟨o,ho⟩ : ∃ o,ops[m]? = some o:=⟨ops[m]'(by omega),by simp⟩
    refine mem_ready.2 ⟨rr,o,ho,fun e he hb=>?_⟩;have aq:=fK m oX o ho e he hb;have hl:=oY e.on aq;have aM:e.on < listed.size:=by rw [head.size];omega
    cases hv:listed.getD e.on false with
    | true=>rfl
    | false=>exact absurd ⟨by omega,getD_in aM hv⟩ hl
   refine ⟨fun h=>(by rw [h] at eo;cases eo),fun i hi=>?_⟩;have bg:i < n:=by
    rcases Nat.lt_or_ge i n with h|h
    ·exact h
    ·exact absurd hi (tail_waits hs hc hn head _ m rfl oX rr i h)
   obtain ⟨fm,o,ho,_⟩:=mem_ready.1 hi;have bI:i < listed.size:=by rw [head.size];omega
   refine wpOp_mono (fun a' w' h'=>ih _ a' w' h' ?_) (ar listed a w i o inv hi bg ho fm);have h1:listed.toList[i]? = some false:=by
    have:listed[i]=false:=by simpa [bI] using fm
    simp [bI,this]
   have h2:=z_ h1;rw [Array.toList_setIfInBounds];omega
abbrev Told:=List (Nat×(Value→Prop)×(Value→World→Prop))
def Told.has:Told→Nat→Bool
 | [],_=>false
 | p::l,i=>if p.1=i then true else Told.has l i
def Told.T:Told→Nat→Value→Prop
 | [],_,_=>True
 | p::l,i,v=>if p.1=i then p.2.1 v else Told.T l i v
def Told.U:Told→Nat→Value→World→Prop
 | [],_,_,_=>True
 | p::l,i,v,w=>if p.1=i then p.2.2 v w else Told.U l i v w
theorem Told.some:∀ {lo:Told} (i:Nat),(∀ p∈lo,∃ v,p.2.1 v)→∃ v,lo.T i v
 | [],_,_=>⟨undef,trivial⟩
 | p::l,i,h=>by
  unfold Told.T;by_cases hp:p.1=i
  ·rw [hp];simp only [if_true];exact h p (List.mem_cons_self ..)
  ·simp only [if_neg hp];exact Told.some i fun q hq=>h q (List.mem_cons_of_mem _ hq)
def DE (P:Program) (ops:Array Oper) (lo:Told) (wb:World) (K:Act→List (Nat×Value)→Prop) : List Oper→Nat→Act→List (Nat×Value)→Prop
 | [],_,a,F=>K a F
 | o::l,i,a,F=>
  if lo.has i=true then
   Region.wanted o (yielded ops a.tmps)=true ∧
   (∀ w,Below wb.heap.size wb w→(∀ p∈F,Region.waitsFor .any ops i p.1=true→lo.U p.1 p.2 w)→gives P o a w fun v w'=>(lo.T i v∧lo.U i v w')∧Below w.heap.size w w') ∧
   ∀ v,lo.T i v→DE P ops lo wb K l (i+1) (a.put o.dst v) ((i,v)::F)
  else ∃ c,YieldsIn P ops (fun w'=>∃ k:Later wb,w'=k.at) o c a∧DE P ops lo wb K l (i+1) (a.put o.dst c) F
def Told.vals (lo:Told) (vs:Nat→Value) : Nat→List (Nat×Value)
 | 0=>[]
 | k+1=>if lo.has k=true then (k,vs k)::lo.vals vs k else lo.vals vs k
section
variable {n:Nat} {w0:World} {a0:Act} {lo:Told}
def pre (ops:Array Oper) (n:Nat) (a0:Act) (vs:Nat→Value) (k:Nat) : Act:=fill (fun j=>decide (j < k)) vs (ops.toList.take n) 0 a0
def ID (P:Program) (ops:Array Oper) (n:Nat) (w0:World) (a0:Act) (lo:Told) (vs:Nat→Value) (k:Nat) : Prop:=
 ∀ j,j < k→∀ o,ops[j]? = some o→if lo.has j=true then lo.T j (vs j) else YieldsIn P ops (fun w'=>∃ k:Later w0,w'=k.at) o (vs j) (pre ops n a0 vs j)
structure WInv (P:Program) (ops:Array Oper) (n:Nat) (w0:World) (a0:Act) (lo:Told) (listed:Array Bool) (a:Act) (w:World) : Prop where
 head:HeadInv .any ops n listed
 world:Below w0.heap.size w0 w
 rest:∃ vs,ID P ops n w0 a0 lo vs n∧a=fill (fun i=>listed.getD i false) vs (ops.toList.take n) 0 a0∧∀ i,i < n→listed.getD i false=true→lo.has i=true→lo.U i (vs i) w
end
section
variable {lo:Told} {wb:World} {K:Act→List (Nat×Value)→Prop}
end
end
end Go.Proofs.YtoibondihdhnoaaGreatDoor
