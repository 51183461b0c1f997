/- Texts in one: Walks: a state is read, as the reference has it. -/
import Derived.Test.YtoibondihdhnoaaGreatDoorFRP9
import Derived.Test.YtoibondihdhnoaaGreatDoorFRP60
import Derived.Test.YtoibondihdhnoaaGreatDoorFRP39
import Derived.Test.YtoibondihdhnoaaGreatDoorFRP51
namespace Go.Proofs.YtoibondihdhnoaaGreatDoor
open Go.RowKit Go.Shelf
set_option maxRecDepth 100000
set_option maxHeartbeats 2000000
theorem P7 {l:List ByteArray} {k:Nat} (h:k < l.length) : l.take (k+1)=l.take k++[l[k]]:=by
 rw [List.take_add_one,List.getElem?_eq_getElem h];rfl
set_option maxHeartbeats 4000000
theorem Rel.nilSl {N:Nm} {M0:Nat→Nat→Prop} {w0:Bas} {p:Pl} {st:VS} {a:Act} {w:World} (R:Rel M0 w0 N p st a w) {d sz:Nat} (h:lkp st.s d=br) : Rel M0 w0 N p ⟨(d,.sl sz [])::st.s,st.h⟩ a w:=by
 refine R.know ?_;have hv:=R.slots d;rw [h] at hv;cases hv with
 | base _ _ h0=>
  rw [h0.lit_inv];exact .base _ _ (.slNil _ _ _)
structure GoodL (w:List ByteArray) : Prop where
 n3:3≤w.length
 nn:w.length≤2000
 sz:∀ p∈w,p.size≤1000
theorem ID (w:List ByteArray) : (lh w).q.length=w.length - 2:=by
 unfold lh;simp only [List.length_map,List.length_take,List.length_drop];omega
theorem P8 {w:List ByteArray} {k:Nat} (h:k < w.length - 2) : qat (lh w).q k=gD (tat w (1+k)):=by
 unfold qat tat;show ((((w.drop 1).take (w.length - 2)).map gD).getD k _)=_;rw [List.getD_eq_getElem?_getD,List.getElem?_map,List.getElem?_take_of_lt h,List.getElem?_drop,List.getD_eq_getElem?_getD,List.getElem?_eq_getElem (by omega)];rfl
def tkK (l:List ByteArray) (k:Nat) : List Tk:=(l.take k).map tkW
theorem P9 {l:List ByteArray} {k:Nat} (h:k < l.length) : tkK l (k+1)=tkK l k++[tkW (tat l k)]:=by
 unfold tkK;rw [P7 h,List.map_append,dp h];rfl
theorem P_ {l:List ByteArray} {k:Nat} (h:k≤l.length) : (tkK l k).length=k:=by
 unfold tkK;rw [List.length_map,List.length_take];omega
end Go.Proofs.YtoibondihdhnoaaGreatDoor
