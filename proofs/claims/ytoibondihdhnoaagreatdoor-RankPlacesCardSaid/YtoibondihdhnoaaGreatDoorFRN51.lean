/- Texts in one: A row is appended to a row of rows: of every program; no condition. -/
import Derived.Test.YtoibondihdhnoaaGreatDoorFRN14
import Derived.Test.YtoibondihdhnoaaGreatDoorFRN49
namespace Go.Proofs.YtoibondihdhnoaaGreatDoor
open Go.RowKit
section
variable {P:Program} {M0:Nat→Nat→Prop} {w0:Bas} {N:Nm} {p:Pl} {st:VS} {a:Act} {w:World}
theorem OwnRow.spare {w w':World} {M:Nat→Nat→Prop} {e sz:Nat} {nl:Bool} {es:List (List AV)} {v:Value} (h:OwnRow w w' M e sz nl es v) (_:0 < sz) (hes:∀ (k:Nat) (x:List AV),es[k]? = some x→x.length=sz∧∀ c∈x,f7_ c=true) :
  ∃ A n cap,v = .slice A n cap∧n=es.length∧n≤cap∧(0 < cap→∃ g cur,A=some ⟨g,0,none⟩∧w.heap.size≤g∧w'.heap[g]? = some (.cells cur e (0,0))∧cur.size=cap*sz∧cap≤maxLen ∧
   ∀ M':Nat→Nat→Prop,(∀ b j,b < w'.heap.size→b≠g→¬M b j→¬M' b j)→(∀ j,j < n*sz→¬M' g j)→V0 w' M' (.sl sz es) v)∧(cap=0→∀ M',V0 w' M' (.sl sz es) v):=by
 unfold OwnRow at h;split at h
 ·obtain ⟨⟨A,rfl⟩,he⟩:=h;subst he;exact ⟨A,0,0,rfl,rfl,Nat.le_refl _,fun h=>absurd h (Nat.lt_irrefl 0),fun _ M'=>.slNil _ _ _⟩
 ·obtain ⟨g,cap,cur,rfl,h2,h3,h4,h5,h6,h7⟩:=h;have key:∀ M':Nat→Nat→Prop,(∀ b j,b < w'.heap.size→b≠g→¬M b j→¬M' b j)→(∀ j,j < es.length*sz→¬M' g j)→V0 w' M' (.sl sz es) (.slice (some ⟨g,0,none⟩) es.length cap):=fun M' hM hg=>by
   by_cases hne:es=[]
   ·subst hne;exact .slNil _ _ _
   ·refine .sl sz es cap g 0 (fun k j=>cur.getD (k*sz+j) undef) hne (Array.getElem?_eq_some_iff.1 h3).1 (fun k j hk hj=>?_) h5 (fun k x hk=>(hes k x hk).1) (fun k x j c hk hj=>(hes k x hk).2 c (List.mem_of_getElem? hj)) (fun k j hk hj=>?_) fun k x j c hk hj=>?_
    ·have:(k+1)*sz≤es.length*sz:=Nat.mul_le_mul_right _ hk;rw [Nat.add_mul] at this;rw [Nat.zero_add];exact hg _ (by omega)
    ·rw [cell_of_row w' g _ cur e (0,0) h3,Nat.zero_add];have:(k+1)*sz≤cap*sz:=Nat.mul_le_mul_right _ (by omega);rw [Nat.add_mul] at this;have:k*sz+j < cur.size:=by omega
     simp [this]
    ·obtain ⟨u,hu,hv⟩:=h7 k x j c hk hj;have:cur.getD (k*sz+j) undef=u:=by simp [hu]
     rw [this];exact hv.keep (Keeps.refl _ _) fun b j hlt hn=>hM b j hlt (fun he=>hn (.inr he)) fun hm=>hn (.inl hm)
  refine ⟨_,_,cap,rfl,rfl,h5,fun _=>⟨g,cur,rfl,h2,h3,h4,h6,key⟩,fun h0 M'=>?_⟩;have:es=[]:=List.eq_nil_of_length_eq_zero (by omega);subst this;exact .slNil _ _ _
end
section
variable {P:Program} {M0:Nat→Nat→Prop} {w0:Bas} {N:Nm} {p:Pl} {st:VS} {a:Act} {w:World} {Q:Exit→VS→Prop}
def d2j (id:Nat) : AV→Bool
 | .lit _=>true
 | .ref i _=>i != id
 | _=>false
def c8a (l:List Oper) (t:Nat) : Bool:=l.any fun o=>o.dst == some t
end
section
variable {P:Program} {M0:Nat→Nat→Prop} {w0:Bas} {N:Nm} {p:Pl} {st:VS} {a:Act} {w:World} {Q:Exit→VS→Prop}
theorem OwnRow.ob {w':World} {e sz:Nat} {nl:Bool} {es:List (List AV)} {v:Value} {p':Pl} {M M':Nat→Nat→Prop} {h':Hp} {id:Nat} (ho:OwnRow w w' M e sz nl es v) (hw:w0.w.heap.size≤w.heap.size) (hsz:0 < sz) (hes:∀ (k:Nat) (x:List AV),es[k]? = some x→x.length=sz∧∀ c∈x,f7_ c=true)
  (hg:nl=false→∀ g n c,v = .slice (some ⟨g,0,none⟩) n c→p' id=g) (hS:∀ b j,¬p'.S id b j) (hM:nl=false→∀ b j,b < w'.heap.size→b≠p' id→¬M b j→¬M' b j) : ObOK w0 w' M' h' p' id (.arr e sz nl es):=by
 refine ⟨hsz,hes,?_⟩;unfold OwnRow at ho;split at ho
 ·rename_i hn;rw [if_pos hn];exact ho.2
 ·rename_i hn;have hnf:nl=false:=by cases nl<;>simp at hn ⊢
  rw [if_neg hn];obtain ⟨g,cap,cur,rfl,h2,h3,h4,h5,h6,h7⟩:=ho;have hpg:=hg hnf g _ _ rfl;refine ⟨⟨fun j=>.inl (by rw [hpg];omega),hS⟩,cur,by rw [hpg];exact h3,by rw [h4];exact Nat.mul_le_mul_right _ h5,fun k x j c hk hj=>?_⟩;obtain ⟨u,hu,hv⟩:=h7 k x j c hk hj;exact ⟨u,hu,hv.keep (Keeps.refl _ _) fun b j hlt hm=>hM hnf b j hlt (fun he=>hm (.inr (he.trans hpg))) fun h=>hm (.inl h)⟩
theorem c3z {f:FuncId} {args:List AV} {h':Hp} {r:AV} (h:VH P f [] args [] h' r) : VC P f args (a7n 5 h' r):=by
 refine ⟨h.1,fun w M vs hM hl hv=>?_⟩;have hmof:∀ p b j,¬M b j→¬Mof M [] p b j:=fun p b j hn hm=>hm.elim hn fun ⟨i,ob,hi,_⟩=>by simp at hi
 refine (h.2 w M (fun _ _=>False) ⟨fun _=>0,fun _ _ _=>False⟩ vs hM ⟨fun _ _ h=>h.elim,GOK.keep (X:=M) (Keeps.refl _ _) hM.2 (fun _ _ _ _ h=>h) hM.2⟩ (fun _ _ _ h=>h) hl (fun i a v ha hva=>.base _ _ ((hv i a v ha hva).keep (Keeps.refl _ _) fun b j _ hn=>hmof _ b j hn)) (fun k ob hk=>by simp at hk) (fun id id' ob ob' h1=>by simp at h1)).mono ?_;rintro e w' ⟨v,q,rfl,hb,hv,hO,_,_⟩;refine ⟨v,rfl,hb.below fun _ _ h=>h,a7o hO (fun b j hm hf=>hf.elim (fun hf=>absurd (hM.1 b j hm) (by simp only at hf;omega)) fun h=>h) (fun b j hm=>.inl hm) 5 r v hv⟩
end
attribute [go_sem] d2j c8a
end Go.Proofs.YtoibondihdhnoaaGreatDoor
