/- Texts in one: A row is copied behind an empty one: of every program; no condition. -/
import Derived.Test.YtoibondihdhnoaaGreatDoorFRY48
import Derived.Test.YtoibondihdhnoaaGreatDoorFRY13
namespace Go.Proofs.YtoibondihdhnoaaGreatDoor
open Go.RowKit
set_option maxRecDepth 100000
theorem OwnRow.later {w w1 w2:World} {M:Nat→Nat→Prop} {e sz:Nat} {nl:Bool} {es:List (List AV)} {v:Value} (h:OwnRow w w1 M e sz nl es v) (hb:Below w1.heap.size w1 w2) : OwnRow w w2 M e sz nl es v:=by
 unfold OwnRow at h ⊢;split
 ·rename_i hn;rwa [if_pos hn] at h
 ·rename_i hn;rw [if_neg hn] at h;obtain ⟨g,cap,cur,h1,h2,h3,h4,h5,h6,h7⟩:=h;refine ⟨g,cap,cur,h1,h2,(hb.block g (Array.getElem?_eq_some_iff.1 h3).1).trans h3,h4,h5,h6,fun k x j c hk hj=>?_⟩;obtain ⟨u,hu,hv⟩:=h7 k x j c hk hj;exact ⟨u,hu,hv.later hb⟩
theorem OwnRow.base {w w1 w2:World} {M:Nat→Nat→Prop} {e sz:Nat} {nl:Bool} {es:List (List AV)} {v:Value} (h:OwnRow w1 w2 M e sz nl es v) (hb:w.heap.size≤w1.heap.size) : OwnRow w w2 M e sz nl es v:=by
 unfold OwnRow at h ⊢;split
 ·rename_i hn;rwa [if_pos hn] at h
 ·rename_i hn;rw [if_neg hn] at h;obtain ⟨g,cap,cur,h1,h2,h3⟩:=h;exact ⟨g,cap,cur,h1,Nat.le_trans hb h2,h3⟩
theorem Np {P:Program} {w:World} {t ty e:TypeId} {i:TypeInfo} {z:Value} {sz:Nat} (ht:P.underlying t=some (.slice e)) (hi:P.info? e=some i) (hz:i.zero=some z) (hs:i.size=sz) (fX:z.cells.size=sz) (gR:i.bytes≤100000) (aM:0 < sz)
  {M:Nat→Nat→Prop} {es:List (List AV)} {a0:Addr} {v:Value} (hv:V0 w M (.sl sz es) v) (hn:es.length≤1000000000) :
  ∃ v' w',(Builtin.append_ #[t,t] ty #[.slice (some a0) 0 0,v]).run P w = .ok v' w'∧Below w.heap.size w w'∧OwnRow w w' M e sz (decide (es=[])) es v':=by
 have hb0:Below w.heap.size w w:=Below.refl _ w;cases hv with
 | slNil _ A c=>
  have hr:=I2 (P:=P) (ty:=ty) ht hi a0 A c w;exact ⟨_,_,hr,hb0,⟨_,rfl⟩,rfl⟩
 | sl _ _ c b o u ax hb hM dy jU h1 hc iK=>
  have cH:0 < es.length:=List.length_pos_iff.2 ax;have eh:es.length*i.bytes≤281474976710656:=by
   have:es.length*i.bytes≤1000000000*100000:=Nat.mul_le_mul hn gR;omega
  have e1:=Gq (P:=P) (w:=w) (ty:=ty) ht hi a0 (some ⟨b,o,none⟩) es.length c cH eh hn;obtain ⟨N,hN⟩ : ∃ N:List Value,N=(List.range (es.length*sz)).map fun j=>u (j / sz) (j % sz):=⟨_,rfl⟩
  have zp:N.length=es.length*sz:=by rw [hN];simp
  have wI:∀ j,j < es.length*sz→N[j]? = some (u (j / sz) (j % sz)):=fun j hj=>by rw [hN];simp [hj]
  have hdiv:∀ j,j < es.length*sz→j / sz < es.length∧j % sz < sz∧j / sz*sz+j % sz=j:=fun j hj=>⟨Nat.div_lt_of_lt_mul (by rw [Nat.mul_comm];exact hj),Nat.mod_lt _ aM,by rw [Nat.mul_comm];exact Nat.div_add_mod j sz⟩
  have aE:∀ j v,N[j]? = some v→w.cell? ((⟨b,o,none⟩ : Addr).add j)=some v:=fun j v hj=>by
   have bB:j < es.length*sz:=by rw [←zp];exact (List.getElem?_eq_some_iff.1 hj).1
   rw [wI j bB] at hj;obtain rfl:=Option.some.inj hj;obtain ⟨d1,d2,d3⟩:=hdiv j bB;have:=hc _ _ d1 d2;have e3:o+j=o+j / sz*sz+j % sz:=by omega
   rw [jn];show World.cell? _ ⟨b,o+j,none⟩=_;rw [e3];exact this
  have hr:=run_append_nil (P:=P) (w:=w) t ty e i z ht hi hz ⟨b,o,none⟩ es.length c N (by rw [zp,hs]) aE cH (by omega) eh;have dr:=grownCap_ge w es.length 0 e;have gb:=grownCap_le_maxLen w es.length 0 e (by simp only [maxLen];omega);generalize grownCap w es.length 0 e=G at *;refine ⟨_,_,e1.trans hr,?_,?_⟩
  ·exact xd hb0.drew _
  ·rw [decide_eq_false ax];unfold OwnRow;rw [if_neg (by simp)];refine ⟨w.heap.size,G,_,rfl,Nat.le_refl _,heap_alloc_new w.drew _,?_,dr,gb,fun k x j cc hk hj=>?_⟩
   ·rw [Array.size_append,size_zeroCells,fX,List.size_toArray,zp,←Nat.add_mul];congr 1;omega
   ·have ca:=(List.getElem?_eq_some_iff.1 hk).1;have bB:j < sz:=by rw [←jU k x hk];exact (List.getElem?_eq_some_iff.1 hj).1
    have aq:k*sz+j < es.length*sz:=by
     have:(k+1)*sz≤es.length*sz:=Nat.mul_le_mul_right _ ca;rw [Nat.add_mul] at this;omega
    have hq:(k*sz+j) / sz=k∧(k*sz+j) % sz=j:=by
     rw [Nat.add_comm,Nat.add_mul_div_right _ _ aM,Nat.add_mul_mod_self_right,Nat.div_eq_of_lt bB,Nat.mod_eq_of_lt bB];exact ⟨Nat.zero_add k,rfl⟩
    refine ⟨u k j,?_,?_⟩
    ·rw [Array.getElem?_append_left (by rw [List.size_toArray,zp];exact aq),List.getElem?_toArray,wI _ aq,hq.1,hq.2]
    ·refine (iK k x j cc hk hj).keep ((Keeps.of_below (M:=M) (xd hb0.drew _))) fun b' j' fC hn hm=>?_;rcases hm with hm|hm
     ·exact hn hm
     ·omega
end Go.Proofs.YtoibondihdhnoaaGreatDoor
