/- Texts in one: A drawing region one of whose operations changes memory of the call's own, whichever others stand behind it: of every program; no condition. -/
import Derived.Test.YtoibondihdhnoaaDoorFRX12
import Derived.Test.YtoibondihdhnoaaDoorFRX16
import Derived.Test.YtoibondihdhnoaaDoorFRX15
namespace Go.Proofs.YtoibondihdhnoaaDoor
open Go.RowKit
def pzB (π:AV→AV) (b:Bool) (v:AV) : AV:=if b then π v else v
section
variable {P:Program} {M0:Nat→Nat→Prop} {w0:Bas} {N:Nm} {p:Pl} {st:VS} {a:Act} {w:World} {Q:Exit→VS→Prop}
def d2b (P:Program) (M0:Nat→Nat→Prop) (w0:Bas) (N:Nm) (h0:Hp) (E:Operand→AV) (o:Oper) (d:Nat) (av:AV) (π:AV→AV) (h1:Hp) : Prop:=
 q9_ N o=true→∀ (p:Pl) (a:Act) (w:World) (s:List (Nat×AV)),Rel M0 w0 N p ⟨s,h0⟩ a w→(∀ z∈o.op.operands,ev ⟨s,h0⟩ z=E z)→∀ (K':Act→World→Prop) (Q:Exit→Act→World→Prop),
  (∀ p' a' w',Rel M0 w0 N p' ⟨(d,av)::s.map (fun q=>(q.1,π q.2)),h1⟩ a' w'→K' a' w')→o.wp P a w K' Q
theorem x7_ {id:Nat} {l:List Oper} (n:Nat) (ls:List Nat) (hm:P.follows .mixedOrders=true) (hB:Region.specB l.toArray (n+1)=true) (hls:a1s l n=ls) {so:Oper} {d:Nat} (π:AV→AV) (hπ:∀ (s:List (Nat×AV)) (t:Nat),lkp (s.map fun q=>(q.1,π q.2)) t=π (lkp s t)) (hso:l[n]? = some so) (hsg:so.guard=none∧so.dst=some d)
  (h:a5q P l (l.take n) st fun T=>∃ (av:AV) (h1:Hp),d2b P M0 w0 N T.h (ev T) so d av π h1∧(∀ t∈ls,π (lkp T.s t)=lkp T.s t)∧a5q P l (l.take n) ⟨st.s,h1⟩ (fun T2=>∀ t∈ls,lkp T2.s t=lkp T.s t)∧VL P M0 w0 N l Q (l.drop (n+1)) ⟨(d,av)::T.s.map (fun q=>(q.1,π q.2)),h1⟩) : VWp P M0 w0 N (.region id l.toArray true) Q st:=fun hCd p0 a0 wst R0=>by
 have hN:l.all (q9_ N)=true:=by simpa [n7_] using hCd
 obtain ⟨rs,hrl,⟨av,h1,hsp,hpl,hrun2,hK⟩,S⟩:=p5_ _ _ h;obtain ⟨rs2,hrl2,heq2,S2r⟩:=p5_ _ _ hrun2;have hB':=hB;simp only [Region.specB,Bool.and_eq_true,decide_eq_true_eq] at hB';obtain ⟨⟨⟨⟨⟨⟨_,hnl⟩,_⟩,_⟩,hd⟩,hlook⟩,_⟩:=hB';have hnl':n+1 < l.length:=by simpa using hnl
 have hd':j5_ (l.take (n+1))=true:=by simpa using hd
 have hdn:j5_ (l.take n)=true:=by
  have:=i0_ (l.take (n+1)) n hd';rwa [List.take_take,Nat.min_eq_left (Nat.le_succ n)] at this
 have hlen:(l.take n).length=n:=by simp;omega
 rw [hlen] at hrl;have hat:∀ {i:Nat} {o:Oper},i < n→l[i]? = some o→(l.take n)[i]? = some o:=fun {i o} hi ho=>by rw [List.getElem?_take_of_lt hi];exact ho
 have hat1:∀ {i:Nat} {o:Oper},i < n+1→l[i]? = some o→(l.take (n+1))[i]? = some o:=fun {i o} hi ho=>by rw [List.getElem?_take_of_lt hi];exact ho
 have hta:∀ {i:Nat} {o:Oper},(l.take n)[i]? = some o→i < n∧l[i]? = some o:=fun {i o} ho=>by
  have hi:i < n:=by have:=(List.getElem?_eq_some_iff.1 ho).1;omega
  rw [List.getElem?_take_of_lt hi] at ho;exact ⟨hi,ho⟩
 have hrs:∀ {i:Nat},i < n→rs[i]? = some (rs.getD i .any):=fun {i} hi=>by simp [List.getD,show i < rs.length by omega]
 have hlk:∀ i,i < n+1→∀ o,l[i]? = some o→∀ t∈o.looksAt l.toArray,∀ j,j < n+1→∀ q,l[j]? = some q→q.dst=some t→Region.waitsFor .any l.toArray i j=true∧j < i:=by
  intro i hi o ho;have h:=List.all_eq_true.1 hlook i (List.mem_range.2 hi);simp only [List.getElem?_toArray,ho,Bool.and_eq_true] at h;have haft:∀ e∈o.after,Region.binds .any e=true→e.on < i:=fun e he hb=>by
   have h1:=Array.all_eq_true'.1 h.2 e he;simp only [hb,Bool.not_true,Bool.false_or,decide_eq_true_eq] at h1;exact h1
  intro t ht j hj q hq hqd;have h1:=List.all_eq_true.1 (List.all_eq_true.1 h.1 t ht) j (List.mem_range.2 hj);simp only [hq,Option.bind_some,hqd,bne_self_eq_false,Bool.false_or] at h1;refine ⟨h1,?_⟩;obtain ⟨o',ho',e,he,hb,hon⟩:=Region.waitsFor_spec h1;have:o'=o:=Option.some.inj (ho'.symm.trans (by simpa using ho));subst this;rw [←hon];exact haft e he hb
 have txt_in:∀ {i j:Nat} {q:Oper} {t:Nat},j < i→i≤n→l[j]? = some q→q.dst=some t→lkp (d5_ st ((l.take n).take i) (rs.take i)).s t=rs.getD j .any:=fun {i j q t} hj hi hq ht=>
  r1_ ((l.take n).take i) (rs.take i) st t j q (rs.getD j .any) (i0_ _ _ hdn) (by rw [List.getElem?_take_of_lt hj];exact hat (by omega) hq) (by rw [List.getElem?_take_of_lt hj];exact hrs (by omega)) ht
 have txt_out:∀ {i t:Nat},(∀ j q,j < n→l[j]? = some q→q.dst≠some t)→lkp (d5_ st ((l.take n).take i) (rs.take i)).s t=lkp st.s t:=fun {i t} ho=>
  p6_ _ _ _ _ fun q hq he=>by
   obtain ⟨j,hj⟩:=List.mem_iff_getElem?.1 (List.mem_of_mem_take hq);obtain ⟨h1,h2⟩:=hta hj;exact ho j q h1 h2 he
 have hfull:d5_ st (l.take n) rs=d5_ st ((l.take n).take n) (rs.take n):=by
  rw [List.take_of_length_le (l:=l.take n) (by rw [hlen];exact Nat.le_refl _),List.take_of_length_le (l:=rs) (by omega)]
 refine wp_region_any hm ?_;have hdn':∀ {j:Nat} {q:Oper} {d':Nat},j < n→l[j]? = some q→q.dst=some d'→d'≠d:=fun {j q d'} hj hq hqd he=>by
  subst he;have:j=n:=l4_ hd' (hat1 (by omega) hq) (hat1 (Nat.lt_succ_self n) hso) hqd hsg.2;omega
 have hfullT:∀ t,lkp (d5_ st (l.take n) rs).s t=lkp (d5_ st ((l.take n).take n) (rs.take n)).s t:=fun t=>by rw [←hfull]
 have hin_ls:∀ {i:Nat} {o:Oper} {t:Nat},i < n→l[i]? = some o→o8_ l n n i=false→t∈o.looksAt l.toArray++o.dst.toList→t∈ls:=fun {i o t} hi ho hnb ht=>by
  rw [←hls];unfold a1s;refine List.mem_flatMap.2 ⟨i,List.mem_range.2 hi,?_⟩;rw [hnb,ho];simpa using ht
 have hlateno:∀ {i:Nat} {o:Oper} {t:Nat},i < n→l[i]? = some o→o8_ l n n i=false→t∈o.looksAt l.toArray++o.dst.toList→π (lkp (d5_ st ((l.take n).take n) (rs.take n)).s t)=lkp (d5_ st ((l.take n).take n) (rs.take n)).s t:=fun {i o t} hi ho hnb ht=>by
  rw [←hfull];exact hpl t (hin_ls hi ho hnb ht)
 have hlen2:rs2.length=n:=by rw [hrl2,hlen]
 have hrs2:∀ {i:Nat},i < n→rs2[i]? = some (rs2.getD i .any):=fun {i} hi=>by simp [List.getD,show i < rs2.length by omega]
 have txt_in2:∀ {i j:Nat} {q:Oper} {t:Nat},j < i→i≤n→l[j]? = some q→q.dst=some t→lkp (d5_ ⟨st.s,h1⟩ ((l.take n).take i) (rs2.take i)).s t=rs2.getD j .any:=fun {i j q t} hj hi hq ht=>
  r1_ ((l.take n).take i) (rs2.take i) ⟨st.s,h1⟩ t j q (rs2.getD j .any) (i0_ _ _ hdn) (by rw [List.getElem?_take_of_lt hj];exact hat (by omega) hq) (by rw [List.getElem?_take_of_lt hj];exact hrs2 (by omega)) ht
 have txt_out2:∀ {i t:Nat},(∀ j q,j < n→l[j]? = some q→q.dst≠some t)→lkp (d5_ ⟨st.s,h1⟩ ((l.take n).take i) (rs2.take i)).s t=lkp st.s t:=fun {i t} ho=>
  p6_ _ _ ⟨st.s,h1⟩ _ fun q hq he=>by
   obtain ⟨j,hj⟩:=List.mem_iff_getElem?.1 (List.mem_of_mem_take hq);obtain ⟨h1,h2⟩:=hta hj;exact ho j q h1 h2 he
 have hfull2:d5_ ⟨st.s,h1⟩ (l.take n) rs2=d5_ ⟨st.s,h1⟩ ((l.take n).take n) (rs2.take n):=by
  rw [List.take_of_length_le (l:=l.take n) (by rw [hlen];exact Nat.le_refl _),List.take_of_length_le (l:=rs2) (by omega)]
 have heqS:∀ t∈ls,lkp (d5_ ⟨st.s,h1⟩ ((l.take n).take n) (rs2.take n)).s t=lkp (d5_ st ((l.take n).take n) (rs.take n)).s t:=fun t ht=>by
  rw [←hfull,←hfull2];exact heq2 t ht
 have hSee:∀ {i:Nat} {o:Oper},i < n→l[i]? = some o→o8_ l n n i=false→∀ t∈o.looksAt l.toArray,lkp (d5_ ⟨st.s,h1⟩ ((l.take n).take i) (rs2.take i)).s t=lkp (d5_ st ((l.take n).take i) (rs.take i)).s t:=fun {i o} hi ho hnb t ht=>by
  have h3:=heqS t (hin_ls hi ho hnb (List.mem_append_left _ ht));by_cases hex:∃ (j:Nat) (q:Oper),j < n∧l[j]? = some q∧q.dst=some t
  ·obtain ⟨j,q,hj,hq,hqd⟩:=hex;obtain ⟨_,h5⟩:=hlk i (by omega) o ho t ht j (by omega) q hq hqd;rw [txt_in2 hj (Nat.le_refl _) hq hqd,txt_in hj (Nat.le_refl _) hq hqd] at h3;rw [txt_in2 h5 (by omega) hq hqd,txt_in h5 (by omega) hq hqd];exact h3
  ·have hn2:∀ j q,j < n→l[j]? = some q→q.dst≠some t:=fun j q hj hq he=>hex ⟨j,q,hj,hq,he⟩;rw [txt_out2 hn2,txt_out hn2]
 have hReq:∀ {i:Nat} {o:Oper} {t:Nat},i < n→l[i]? = some o→o8_ l n n i=false→o.dst=some t→rs2.getD i .any=rs.getD i .any:=fun {i o t} hi ho hnb ht=>by
  have h3:=heqS t (hin_ls hi ho hnb (List.mem_append_right _ (by rw [ht];simp)));rw [txt_in2 hi (Nat.le_refl _) ho ht,txt_in hi (Nat.le_refl _) ho ht] at h3;exact h3
 refine p2_ (Inv:=fun listed a w=>HeadInv .any l.toArray (n+1) listed∧∃ (p:Pl) (s:List (Nat×AV)),Rel M0 w0 N p ⟨s,if listed.getD n false=true then h1 else st.h⟩ a w ∧
   (∀ (j:Nat) (q:Oper) (d:Nat),j < n→listed.getD j false=true→l[j]? = some q→q.dst=some d→lkp s d=pzB π (listed.getD n false) (rs.getD j .any)) ∧
   (∀ t,t≠d→(∀ j q,j < n→l[j]? = some q→q.dst≠some t)→lkp s t=pzB π (listed.getD n false) (lkp st.s t))∧(listed.getD n false=true→lkp s d=av)) hB (fun _ _ _ inv=>inv.1) ?_ ?_ _ _ _ _ ?_ (by simp)
 ·rintro listed a w i o ⟨head,p,s,R,S1,S2,S3⟩ hi hin ho hiu;have ho':l[i]? = some o:=by simpa using ho
  obtain ⟨_,o2,ho2,hdone⟩:=mem_ready.1 hi;have:o2=o:=Option.some.inj (ho2.symm.trans ho);subst this;have hisz:i < listed.size:=by rw [head.size];simpa using (by omega:i < l.length)
  have hself:(listed.setIfInBounds i true).getD i false=true:=by simp [hisz]
  have hoth:∀ {j:Nat},i≠j→(listed.setIfInBounds i true).getD j false=listed.getD j false:=fun hne=>getD_set_ne false hne;have hwait:∀ j,Region.waitsFor .any l.toArray i j=true→listed.getD j false=true:=by
   intro j hj;obtain ⟨o3,ho3,e,he,hb,hon⟩:=Region.waitsFor_spec hj;have:o3=o2:=Option.some.inj (ho3.symm.trans ho);subst this;rw [←hon];exact hdone e he hb
  have hnd:∀ t∈o2.looksAt l.toArray,t≠d:=fun t ht he=>by
   subst he;have:=(hlk i hin o2 ho' t ht n (Nat.lt_succ_self n) so hso hsg.2).2;omega
  have hop:∀ {k:Nat},i≤k→k≤n→∀ t∈o2.looksAt l.toArray,lkp s t=pzB π (listed.getD n false) (lkp (d5_ st ((l.take n).take k) (rs.take k)).s t):=fun {k} hik hkn t ht=>by
   by_cases hex:∃ (j:Nat) (q:Oper),j < n∧l[j]? = some q∧q.dst=some t
   ·obtain ⟨j,q,hj,hq,hqd⟩:=hex;obtain ⟨h1,h2⟩:=hlk i hin o2 ho' t ht j (by omega) q hq hqd;rw [txt_in (by omega) hkn hq hqd];exact S1 j q t hj (hwait j h1) hq hqd
   ·have hno:∀ j q,j < n→l[j]? = some q→q.dst≠some t:=fun j q hj hq he=>hex ⟨j,q,hj,hq,he⟩;rw [txt_out hno,S2 t (hnd t ht) hno]
  have hnot:∀ {j:Nat} {q:Oper} {d d':Nat},j < n→j≠i→l[j]? = some q→q.dst=some d→o2.dst=some d'→d'≠d:=fun {j q d d'} hj hji hq hqd hd2 he=>by
   subst he;exact hji (l4_ hd' (hat1 (by omega) hq) (hat1 hin ho') hqd hd2)
  by_cases hni:i=n
  ·subst hni;have:o2=so:=Option.some.inj (ho'.symm.trans hso);subst this;have hiu':=getD_both hiu;rw [hiu'] at R;simp only [Bool.false_eq_true,if_false] at R;have hev:∀ z:Operand,z∈o2.op.operands→ev ⟨s,(d5_ st (l.take i) rs).h⟩ z=ev (d5_ st (l.take i) rs) z:=fun z hz=>by
    cases z with
    | tmp t=>
     show lkp s t=lkp _ t;rw [hfull];have:=hop (Nat.le_refl _) (Nat.le_refl _) t (List.mem_append_left _ (List.mem_filterMap.2 ⟨.tmp t,by simpa using hz,rfl⟩));rw [hiu'] at this;exact this
    | const v=>rfl
    | global g=>rfl
    | func f=>rfl
   unfold wpOp;simp only [ho];rw [if_pos (by simp [Region.wanted,hsg.1])];refine Or.inl ?_;refine hsp (List.all_eq_true.1 hN o2 (List.mem_of_getElem? ho')) p a w s (by rw [h0_];exact R) (fun z hz=>by
    rw [h0_];have:=hev z hz;rw [h0_] at this;exact this) _ _ fun p' a' w' R'=>?_
   refine ⟨head.set hi hin,p',_,by rw [hself];exact R',fun j q d' hj hl hq hqd=>?_,fun t htd ht=>?_,fun _=>by simp [lkp]⟩
   ·rw [hself,lkp,if_neg (fun e=>hdn' hj hq hqd e.symm),hπ];rw [hoth (by omega)] at hl;have:=S1 j q d' hj hl hq hqd;rw [hiu'] at this;rw [this];rfl
   ·rw [hself,lkp,if_neg (fun e=>htd e.symm),hπ];have:=S2 t htd ht;rw [hiu'] at this;rw [this];rfl
  ·have hin':i < n:=by omega
   have hstep:=S i o2 (rs.getD i .any) (hat hin' ho') (hrs hin');have hheap:((listed.setIfInBounds i true).getD n false)=listed.getD n false:=hoth hni;have hpgr:∀ t,o2.dst=some t→pzB π (listed.getD n false) (rs.getD i .any)=rs.getD i .any:=fun t ht=>by
    cases hb:listed.getD n false
    ·rfl
    ·have hnb:o8_ l n n i=false:=by
      cases hc:o8_ l n n i
      ·rfl
      ·have:=g5_ head n n i (fun j hj=>by
        obtain ⟨o6,ho6,e,he,hb',hon⟩:=Region.waitsFor_spec hj;have:=head.closed n o6 ho6 hb e he hb';rwa [hon] at this) hc
       rw [getD_both hiu] at this;cases this
     have:=hlateno (t:=t) hin' ho' hnb (List.mem_append_right _ (by rw [ht];simp));rw [txt_in hin' (Nat.le_refl _) ho' ht] at this;exact this
   have fin:∀ r v w',(∀ t,o2.dst=some t→r=rs.getD i .any)→V1 w' (Mof M0 (if listed.getD n false=true then h1 else st.h) p) (if listed.getD n false=true then h1 else st.h) p r v→Below w.heap.size w w'→(fun listed a w=>HeadInv .any l.toArray (n+1) listed∧∃ (p:Pl) (s:List (Nat×AV)),Rel M0 w0 N p ⟨s,if listed.getD n false=true then h1 else st.h⟩ a w ∧
     (∀ (j:Nat) (q:Oper) (d:Nat),j < n→listed.getD j false=true→l[j]? = some q→q.dst=some d→lkp s d=pzB π (listed.getD n false) (rs.getD j .any)) ∧
     (∀ t,t≠d→(∀ j q,j < n→l[j]? = some q→q.dst≠some t)→lkp s t=pzB π (listed.getD n false) (lkp st.s t))∧(listed.getD n false=true→lkp s d=av)) (listed.setIfInBounds i true) (a.put o2.dst v) w':=fun r v w' hrr hv hb=>by
    have R':=(R.later hb).put (d:=o2.dst) (f8_ (List.all_eq_true.1 hN o2 (List.mem_of_getElem? ho'))) hv;have hes:(VS.put ⟨s,if listed.getD n false=true then h1 else st.h⟩ o2.dst r)=⟨(VS.put ⟨s,if listed.getD n false=true then h1 else st.h⟩ o2.dst r).s,if listed.getD n false=true then h1 else st.h⟩:=by cases o2.dst<;>rfl
    rw [hes] at R';refine ⟨head.set hi hin,p,_,by rw [hheap];exact R',fun j q d hj hl hq hqd=>?_,fun t htd ht=>?_,fun hl=>?_⟩
    ·rw [g7_,hheap];by_cases hji:j=i
     ·subst hji;have:q=o2:=Option.some.inj (hq.symm.trans ho');subst this;rw [if_pos hqd,hpgr d hqd];exact hrr d hqd
     ·rw [if_neg fun e=>hnot hj hji hq hqd e rfl];rw [hoth (Ne.symm hji)] at hl;exact S1 j q d hj hl hq hqd
    ·rw [g7_,if_neg (ht i o2 hin' ho'),hheap];exact S2 t htd ht
    ·rw [hheap] at hl;rw [g7_,if_neg fun e=>hdn' hin' ho' e rfl];exact S3 hl
   have hopE:∀ t∈o2.looksAt l.toArray,lkp s t=lkp (d5_ st ((l.take n).take i) (rs.take i)).s t:=fun t ht=>by
    have h2:=hop (Nat.le_refl i) (by omega) t ht;have h3:=hop (show i≤n by omega) (Nat.le_refl n) t ht;cases hb:listed.getD n false
    ·rw [hb] at h2;exact h2
    ·have hnb:o8_ l n n i=false:=by
      cases hc:o8_ l n n i
      ·rfl
      ·have:=g5_ head n n i (fun j hj=>by
        obtain ⟨o6,ho6,e,he,hb',hon⟩:=Region.waitsFor_spec hj;have:=head.closed n o6 ho6 hb e he hb';rwa [hon] at this) hc
       rw [getD_both hiu] at this;cases this
     have hno:=hlateno hin' ho' hnb (List.mem_append_left _ ht);rw [hb] at h2 h3;by_cases hex:∃ (j:Nat) (q:Oper),j < n∧l[j]? = some q∧q.dst=some t
     ·obtain ⟨j,q,hj,hq,hqd⟩:=hex;obtain ⟨_,h5⟩:=hlk i hin o2 ho' t ht j (by omega) q hq hqd;rw [txt_in hj (Nat.le_refl _) hq hqd] at hno;rw [txt_in h5 (by omega) hq hqd] at h2 ⊢;rw [h2];exact hno
     ·have hn2:∀ j q,j < n→l[j]? = some q→q.dst≠some t:=fun j q hj hq he=>hex ⟨j,q,hj,hq,he⟩;rw [txt_out hn2] at hno;rw [txt_out hn2] at h2 ⊢;rw [h2];exact hno
   obtain ⟨Sx,r,hSx,hSh,hSo,hrr⟩ : ∃ (Sx:VS) (r:AV),q4_ P l o2 Sx r∧Sx.h=(if listed.getD n false=true then h1 else st.h)∧(∀ t∈o2.looksAt l.toArray,lkp s t=lkp Sx.s t)∧∀ t,o2.dst=some t→r=rs.getD i .any:=by
    cases hb:listed.getD n false
    ·exact ⟨_,_,hstep,by rw [h0_];rfl,hopE,fun _ _=>rfl⟩
    ·have hnb:o8_ l n n i=false:=by
      cases hc:o8_ l n n i
      ·rfl
      ·have:=g5_ head n n i (fun j hj=>by
        obtain ⟨o6,ho6,e,he,hb',hon⟩:=Region.waitsFor_spec hj;have:=head.closed n o6 ho6 hb e he hb';rwa [hon] at this) hc
       rw [getD_both hiu] at this;cases this
     exact ⟨_,_,S2r i o2 (rs2.getD i .any) (hat hin' ho') (hrs2 hin'),by rw [h0_];rfl,fun t ht=>(hopE t ht).trans (hSee hin' ho' hnb t ht).symm,fun t ht=>hReq hin' ho' hnb ht⟩
   have hgive:j2_ P Sx.h (ev Sx) o2.op r→gives P o2 a w fun v w''=>V1 w'' (Mof M0 (if listed.getD n false=true then h1 else st.h) p) (if listed.getD n false=true then h1 else st.h) p r v∧Below w.heap.size w w'':=by
    intro hg;rw [hSh] at hg;refine q1_ R.objs R.mok R.h0 R.glob (fun _ _ hb=>.inl hb) (fun x hx=>?_) hg;cases x with
    | tmp t=>
     show V1 _ _ _ _ (lkp Sx.s t) _;rw [←hSo t (List.mem_append_left _ (List.mem_filterMap.2 ⟨.tmp t,by simpa using hx,rfl⟩))];exact R.slots t
    | const v=>exact .base _ _ (.lit v)
    | global g=>exact .base _ _ (R.evalG g)
    | func f=>exact .base _ _ (.lit _)
   have hy:=fun j=>i6_ (ops:=l) (j:=j) R hN;have hguard:∀ (j:Nat) (want:Bool) (v:Value),o2.guard=some (j,want)→e1_ l Sx j = .lit v→e1_ l ⟨s,if listed.getD n false=true then h1 else st.h⟩ j = .lit v:=by
    intro j want v hg hv;unfold e1_ at hv ⊢;cases hj:l[j]? with
    | none=>simpa [hj] using hv
    | some q=>
     cases hq:q.dst with
     | none=>simpa [hj,hq] using hv
     | some d=>
      have hmem:d∈o2.looksAt l.toArray:=by
       unfold Oper.looksAt;refine List.mem_append_right _ ?_;simp [hg,hj,hq]
      simp only [hj,hq] at hv ⊢;rw [hSo d hmem];exact hv
   unfold wpOp;simp only [ho];unfold q4_ at hSx;split at hSx
   ·rename_i hg;rw [if_pos (by simp [Region.wanted,hg])];exact Or.inl (e2_ (hgive hSx) rfl fun v w' hv=>fin r v w' hrr hv.1 hv.2)
   ·rename_i j want hg;split at hSx
    ·rename_i b hb;have hyb:=(hy j).1 b (hguard j want _ hg hb);split at hSx
     ·rename_i hw;subst hw;rw [if_pos (by simp [Region.wanted,hg,hyb])];exact Or.inl (e2_ (hgive hSx) rfl fun v w' hv=>fin r v w' hrr hv.1 hv.2)
     ·rename_i hw;rw [if_neg (by simpa [Region.wanted,hg,hyb] using hw)];exact fin r undef w hrr (by rw [hSx];exact .base _ _ (.lit _)) (Below.refl _ _)
    ·rename_i us hb;have hyb:=(hy j).2 us (hguard j want _ hg hb);rw [if_neg (by simp [Region.wanted,hg,hyb])];exact fin r undef w hrr (by rw [hSx];exact .base _ _ (.lit _)) (Below.refl _ _)
    ·exact hSx.elim
 ·rintro listed a w ⟨head,p,s,R,S1,S2,S3⟩ hall;rw [hall n (by omega)] at R;simp only [if_true] at R;rw [hall n (by omega)] at S1 S2 S3;have R':=R.weak (s':=(d,av)::(d5_ st (l.take n) rs).s.map (fun q=>(q.1,π q.2))) fun t=>by
   show lkp ((d,av)::(d5_ st (l.take n) rs).s.map (fun q=>(q.1,π q.2))) t=lkp s t∨_;refine .inl ?_;rw [lkp];split
   ·rename_i he;subst he;exact (S3 rfl).symm
   ·rename_i he;rw [hπ,hfull];by_cases hex:∃ (j:Nat) (q:Oper),j < n∧l[j]? = some q∧q.dst=some t
    ·obtain ⟨j,q,hj,hq,hqd⟩:=hex;rw [txt_in hj (Nat.le_refl _) hq hqd];exact (S1 j q t hj (hall j (by omega)) hq hqd).symm
    ·have hno:∀ j q,j < n→l[j]? = some q→q.dst≠some t:=fun j q hj hq he=>hex ⟨j,q,hj,hq,he⟩;rw [txt_out hno,S2 t (fun e=>he e.symm) hno];rfl
  have hNd:(l.drop (n+1)).all (q9_ N)=true:=List.all_eq_true.2 fun q hq=>List.all_eq_true.1 hN q (List.mem_of_mem_drop hq);exact hK hN hNd p _ w R'
 ·refine ⟨⟨by simp,fun j oj _ hl=>(by rw [getD_replicate_false] at hl;cases hl),fun t _ ht=>getD_in (by simpa using ht) (getD_replicate_false _ _)⟩,p0,st.s,?_,fun j q d _ hl=>(by rw [getD_replicate_false] at hl;cases hl),fun _ _ _=>by rw [getD_replicate_false];rfl,fun hl=>(by rw [getD_replicate_false] at hl;cases hl)⟩;rw [getD_replicate_false];exact R0.later (Below.refl _ _).drew
theorem a6n {h0:Hp} {E:Operand→AV} {o:Oper} {d t id k e:Nat} {x y:Operand} {ti te:TI} {pend:Option Nat} {qs:List (List (List AV))} {es:List (List AV)} {c:AV} (hop:o.op = .call ⟨.builtin .append,#[x,y],#[t,t]⟩) (hd:o.dst=some d) (hx:E x = .slw id k 1 es) (hy:E y = .sl 1 [[c]])
  (hti:c3_ P t=some ti) (hte:c3_ P ti.elem=some te) (hi:h0[id]? = some (some (.bag e 1 false pend qs))) (hc:ti.kind=1∧te.size=1∧te.zero.length=1∧te.bytes≤100000∧k < qs.length∧(pend=none∨pend=some k)∧h0.all (a5l id)=true∧es.length+1≤1000000000) :
  d2b P M0 w0 N h0 E o d (.slw id k 1 (es++[[c]])) (unW id) (h0.set id (some (.bag e 1 false (some k) qs))):=fun hdb p a w s R hE K' Q' hK=>by
 obtain ⟨dst,op,ty,pos,after,guard⟩:=o;simp only at hop hd;subst hop hd;have ex:ev ⟨s,h0⟩ x = .slw id k 1 es:=(hE x (by simp [Op.operands,Call.operands])).trans hx;have ey:ev ⟨s,h0⟩ y = .sl 1 [[c]]:=(hE y (by simp [Op.operands,Call.operands])).trans hy;obtain ⟨c1,c2,c3,c4,c5,c6,c7,c8⟩:=hc;have ht:s6_ P ⟨s,h0⟩ ⟨some d,.call ⟨.builtin .append,#[x,y],#[t,t]⟩,ty,pos,after,guard⟩=some ⟨(d,.slw id k 1 (es++[[c]]))::s.map (fun q=>(q.1,unW id q.2)),h0.set id (some (.bag e 1 false (some k) qs))⟩:=by
  unfold s6_;simp only [ex,ey,hti,hi,hte];rw [if_pos ⟨trivial,c1,c2,c3,c4,trivial,trivial,trivial,trivial,c5,c6,c7,c8⟩]
 obtain ⟨v,w',p',hh⟩:=a7b (P:=P) R hdb ht;unfold Oper.wp;rcases hh with ⟨h1,h2⟩|⟨h1,_,h2⟩
 ·rw [h1];exact hK _ _ _ h2
 ·rw [h1];exact hK _ _ _ h2
theorem a6o {h0:Hp} {E:Operand→AV} {o:Oper} {d k e sz:Nat} {nl:Bool} {es:List (List AV)} {xs:Array Operand} {cts:Array TypeId} (hop:o.op = .call ⟨.value (.func k),xs,cts⟩) (hd:o.dst=some d) (hc:VCo P k (xs.toList.map E) e sz nl es) (hp:(xs.toList.map E).all (m3_ 5)=true) :
  d2b P M0 w0 N h0 E o d (.osl h0.length) (fun v=>v) (h0++[some (.arr e sz nl es)]):=fun hdb p a w s R hE K' Q' hK=>by
 obtain ⟨dst,op,ty,pos,after,guard⟩:=o;simp only at hop hd;subst hop hd;have hargs:xs.toList.map (ev ⟨s,h0⟩)=xs.toList.map E:=List.map_congr_left fun z hz=>hE z (by simp only [Op.operands,Call.operands];exact Array.mem_append_right _ (by simpa using hz));refine c6d (P:=P) (ow:=[d]) (c:=⟨.value (.func k),xs,cts⟩) (d:=d) R hdb (by simp [u5_]) (e:=e) (sz:=sz) (nl:=nl) (es:=es) ?_ fun p a w R=>hK p a w ?_
 ·unfold c0t z0_;simp only [ev];simp only [hargs];exact ⟨hc,hp⟩
 ·simpa using R
theorem a1t (s:List (Nat×AV)) (t:Nat) : lkp (s.map fun q=>(q.1,(fun v=>v) q.2)) t=(fun v=>v) (lkp s t):=by simp
end
section
variable {P:Program} {M0:Nat→Nat→Prop} {w0:Bas} {N:Nm} {p:Pl} {st:VS} {a:Act} {w:World} {Q:Exit→VS→Prop}
theorem V1.conv {w:World} {M M':Nat→Nat→Prop} {h h':Hp} {p p':Pl} {id:Nat} (hM:∀ b j,¬M b j→¬M' b j) (hl:h.length≤h'.length) (hp:∀ i,p' i=p i)
  (hO:∀ i e sz nl es v,h'[i]? = some (some (.arr e sz nl es))→(∀ e sz nl es,h[i]? = some (some (.arr e sz nl es))→Osl w (p i) e sz nl es.length v)→(∀ e sz nl pend qs,h[i]? = some (some (.bag e sz nl pend qs))→Osl w (p i) e 1 nl qs.length v)→Osl w (p i) e sz nl es.length v)
  (hG:∀ i e sz nl pend qs v,h'[i]? = some (some (.bag e sz nl pend qs))→(∀ e sz nl es,h[i]? = some (some (.arr e sz nl es))→Osl w (p i) e sz nl es.length v)→(∀ e sz nl pend qs,h[i]? = some (some (.bag e sz nl pend qs))→Osl w (p i) e 1 nl qs.length v)→Osl w (p i) e 1 nl qs.length v)
  (hW:∀ i k sz v,i≠id→i < h.length→Sp w h p i k sz v→Sp w h' p' i k sz v) :
  ∀ (n:Nat) (av:AV) (v:Value),V1 w M h p av v→j4_ id n av=true→V1 w M' h' p' av v
 | 0,_,_,_,hb=>by simp [j4_] at hb
 | n+1,av,v,hv,hb=>by
  have ih:=V1.conv (w:=w) (p:=p) (h:=h) hM hl hp hO hG hW n;cases hv with
  | base _ _ h0=>exact .base _ _ (h0.keep (Keeps.refl _ _) fun b j _=>hM b j)
  | agg cs us hl h1 hv=>
   simp only [j4_] at hb;exact .agg cs us hl h1 fun i c u hc hu=>ih c u (hv i c u hc hu) (List.all_eq_true.1 hb c (List.mem_of_getElem? hc))
  | tup cs us hl hv=>
   simp only [j4_] at hb;exact .tup cs us hl fun i c u hc hu=>ih c u (hv i c u hc hu) (List.all_eq_true.1 hb c (List.mem_of_getElem? hc))
  | fn f x y us vs hl hl' hv hv'=>
   simp only [j4_,Bool.and_eq_true] at hb;exact .fn f x y us vs hl hl' (fun i c u hc hu=>ih c u (hv i c u hc hu) (List.all_eq_true.1 hb.1 c (List.mem_of_getElem? hc))) (fun i c u hc hu=>ih c u (hv' i c u hc hu) (List.all_eq_true.1 hb.2 c (List.mem_of_getElem? hc)))
  | iface t x u hv=>exact .iface t x u (ih x u hv (by simpa [j4_] using hb))
  | ref i off hid=>rw [←hp i];exact .ref i off (Nat.lt_of_lt_of_le hid hl)
  | aref i sz k off hid=>rw [←hp i];exact .aref i sz k off (Nat.lt_of_lt_of_le hid hl)
  | osl i A m c hid hv hvb=>exact .osl i A m c (Nat.lt_of_lt_of_le hid hl) (fun e sz nl es he=>by rw [hp i];exact hO i e sz nl es _ he hv hvb) fun e sz nl pend qs he=>by rw [hp i];exact hG i e sz nl pend qs _ he hv hvb
  | slw i k sz es _ hid h0 hs=>
   have hn:i≠id:=by simpa [j4_] using hb
   exact .slw i k sz es v (Nat.lt_of_lt_of_le hid hl) (h0.keep (Keeps.refl _ _) fun b j _=>hM b j) (hW i k sz v hn hid hs)
  | mp i hid=>rw [←hp i];exact .mp i (Nat.lt_of_lt_of_le hid hl)
theorem Rel.retell {h2:Hp} {p':Pl} {ob ob2:Ob} {id:Nat} (R:Rel M0 w0 N p st a w) (hi:st.h[id]? = some (some ob)) (hh:h2=st.h.set id (some ob2)) (hlv:m8_ ob2=true→m8_ ob=true) (hpb:∀ i,p' i=p i) (hpS:∀ i,i≠id→p'.S i=p.S i) (hS:∀ b j,p'.S id b j→p.S id b j)
  (f:AV→AV) (hlk:∀ (s:List (Nat×AV)) (t:Nat),lkp (s.map fun q=>(q.1,f q.2)) t=f (lkp s t))
  (hf:(∀ b j,¬Mof M0 st.h p b j→¬Mof M0 h2 p' b j)→∀ {x:AV} {u:Value},V1 w (Mof M0 st.h p) st.h p x u→V1 w (Mof M0 h2 p') h2 p' (f x) u)
  (hbx:∀ (i:Nat) (cs:List AV),i≠id→st.h[i]? = some (some (.box cs))→∀ c∈cs,f c=c)
  (hob:(∀ b j,¬Mof M0 st.h p b j→¬Mof M0 h2 p' b j)→ObOK w0 w (Mof M0 h2 p') h2 p' id ob2) : Rel M0 w0 N p' ⟨st.s.map (fun q=>(q.1,f q.2)),h2⟩ a w:=by
 subst hh;have hid:=(List.getElem?_eq_some_iff.1 hi).1;have h2id:(st.h.set id (some ob2))[id]? = some (some ob2):=List.getElem?_set_self hid;have h2o:∀ (i:Nat) (o:Ob),i≠id→(st.h.set id (some ob2))[i]? = some (some o)→st.h[i]? = some (some o):=fun i o hn h=>by rwa [List.getElem?_set_ne (Ne.symm hn)] at h
 have hOs:∀ {i b j},p'.O i b j→p.O i b j:=fun {i b j} hO=>by
  rcases hO with hO|hO
  ·exact .inl (by rw [←hpb];exact hO)
  ·by_cases he:i=id
   ·subst he;exact .inr (hS b j hO)
   ·rw [hpS i he] at hO;exact .inr hO
 have hM:∀ b j,¬Mof M0 st.h p b j→¬Mof M0 (st.h.set id (some ob2)) p' b j:=fun b j hn hm=>by
  rcases hm with hm|⟨i,o,hio,hlo,hO⟩
  ·exact hn (.inl hm)
  ·by_cases he:i=id
   ·subst he;rw [h2id] at hio;simp only [Option.some.injEq] at hio;subst hio;exact hn (.inr ⟨i,_,hi,hlv hlo,hOs hO⟩)
   ·exact hn (.inr ⟨i,o,h2o i o he hio,hlo,hOs hO⟩)
 have hV:=fun {x:AV} {u:Value} => hf hM (x:=x) (u:=u);refine ⟨R.defers,R.size,R.below,R.m0,R.x0,fun i=>?_,fun i o hio=>?_,fun i i' o o' hio hio' hlo hlo' x j j' hO hO'=>?_⟩
 ·show V1 _ _ _ _ (lkp (st.s.map fun q=>(q.1,f q.2)) i) _;rw [hlk];exact hV (R.slots i)
 ·by_cases he:i=id
  ·subst he;rw [h2id] at hio;simp only [Option.some.injEq] at hio;subst hio;exact hob hM
  ·have hio':=h2o i o he hio;exact (R.objs i o hio').keep (fun _=>⟨hpb i,hpS i he⟩) (fun _ _ _ _ _=>rfl) (Nat.le_refl _) (fun hx=>hx.keep (Keeps.refl _ _) fun b j _=>hM b j) fun cs hcs c hc u hx=>by
    have:=hV hx;rw [hbx i cs he (by rw [hio',hcs]) c hc] at this;exact this
 ·have key:∀ {i o},(st.h.set id (some ob2))[i]? = some (some o)→m8_ o=true→∃ o1,st.h[i]? = some (some o1)∧m8_ o1=true:=fun {i o} hio hlo=>by
   by_cases he:i=id
   ·subst he;rw [h2id] at hio;simp only [Option.some.injEq] at hio;subst hio;exact ⟨_,hi,hlv hlo⟩
   ·exact ⟨o,h2o i o he hio,hlo⟩
  obtain ⟨o1,e1,l1⟩:=key hio hlo;obtain ⟨o2,e2,l2⟩:=key hio' hlo';exact R.inj i i' o1 o2 e1 e2 l1 l2 x j j' (hOs hO) (hOs hO')
theorem c5s {w:World} {M M':Nat→Nat→Prop} {h h':Hp} {p p':Pl} {id:Nat} (hM:∀ b j,¬M b j→¬M' b j) (hV:∀ (av:AV) (v:Value),V1 w M h p av v→j4_ id 5 av=true→V1 w M' h' p' av v) {x:AV} {u:Value} (hx:V1 w M h p x u) : V1 w M' h' p' (unW id x) u:=by
 by_cases hs:∃ i k sz es,x = .slw i k sz es
 ·obtain ⟨i,k',sz',es',rfl⟩:=hs;by_cases hn:i=id
  ·rw [show unW id (.slw i k' sz' es') = .sl sz' es' from if_pos hn];exact .base _ _ (hx.slw_inv.2.1.keep (Keeps.refl _ _) fun b j _=>hM b j)
  ·rw [show unW id (.slw i k' sz' es') = .slw i k' sz' es' from if_neg hn];exact hV _ _ hx (by simpa [j4_] using hn)
 ·have e:unW id x=if j4_ id 5 x=true then x else .any:=by cases x<;>first|rfl|exact absurd ⟨_,_,_,_,rfl⟩ hs
  rw [e];split
  ·rename_i hn;exact hV _ _ hx hn
  ·exact .base _ _ (.any _)
theorem c5t {id:Nat} {c:AV} (h:j4_ id 5 c=true) : unW id c=c:=by
 by_cases hs:∃ i k sz es,c = .slw i k sz es
 ·obtain ⟨i,k,sz,es,rfl⟩:=hs;have hn:i≠id:=by simpa [j4_] using h
  exact if_neg hn
 ·have e:unW id c=if j4_ id 5 c=true then c else .any:=by cases c<;>first|rfl|exact absurd ⟨_,_,_,_,rfl⟩ hs
  rw [e,if_pos h]
theorem Rel.toBag {id e n sz:Nat} (R:Rel M0 w0 N p st a w) (hi:st.h[id]? = some (some (.arr e 1 false (List.replicate n [.lit (.slice none 0 0)])))) (hsz:0 < sz) (hall:st.h.all (a5l id)=true) :
  Rel M0 w0 N p ⟨st.s.map (fun q=>(q.1,unW id q.2)),st.h.set id (some (.bag e sz false none (List.replicate n [])))⟩ a w:=by
 have hid:=(List.getElem?_eq_some_iff.1 hi).1;obtain ⟨o1,o2,o3⟩:=R.objs id _ hi;rw [if_neg (by simp)] at o3;obtain ⟨q1,cur,q2,q3,q4⟩:=o3;have hlid:m8_ (Ob.arr e 1 false (List.replicate n [.lit (.slice none 0 0)]))=true:=rfl;have hnil:∀ k,k < n→cur[k]? = some (.slice none 0 0):=fun k hk=>by
  obtain ⟨u,hu,hv⟩:=q4 k [.lit (.slice none 0 0)] 0 (.lit (.slice none 0 0)) (by simp [hk]) rfl;rw [show k*1+0=k by omega] at hu;cases hv;exact hu
 refine R.retell (p':=p) (ob2:=.bag e sz false none (List.replicate n [])) hi rfl (fun _=>rfl) (fun _=>rfl) (fun _ _=>rfl) (fun _ _ h=>h) (unW id) (s5_ id) (fun hM {x u} hx=>c5s hM (fun av v hv hn=>V1.conv hM (by simp) (fun _=>rfl) (fun i e' sz' nl es' v he ha hb=>?_) (fun i e' sz' nl pend' qs' v he ha hb=>?_) (fun i k sz' v hn _ hs=>hs.keep (fun e' sz'' pe' qs' he=>?_) (Nat.le_refl _)) 5 av v hv hn) hx) (fun i cs _ hcs c hc=>c5t (z6_ hall i cs hcs c hc)) fun hM=>⟨hsz,?_⟩
 ·by_cases hn:i=id
  ·subst hn;rw [List.getElem?_set_self hid] at he;cases he
  ·rw [List.getElem?_set_ne (Ne.symm hn)] at he;exact ha _ _ _ _ he
 ·by_cases hn:i=id
  ·subst hn;rw [List.getElem?_set_self hid] at he;simp only [Option.some.injEq,Ob.bag.injEq] at he;obtain ⟨rfl,rfl,rfl,rfl,rfl⟩:=he;have:=ha _ _ _ _ hi;simpa using this
  ·rw [List.getElem?_set_ne (Ne.symm hn)] at he;exact hb _ _ _ _ _ he
 ·rw [List.getElem?_set_ne (Ne.symm hn)] at he;exact ⟨he,rfl,rfl,fun _ _ _ _=>rfl⟩
 ·rw [if_neg (by simp)];refine ⟨fun b j hO=>(R.objs id _ hi).own hlid b j hO,fun j=>q1.2 _ _,cur,q2,by simp at q3 ⊢;omega,fun k x hx=>?_,fun k k' v v' hk hk' _ _ _ hv hv'=>?_⟩
  ·have hkn:k < n:=by have:=(List.getElem?_eq_some_iff.1 hx).1;simpa using this
   have hxe:x=[]:=by
    have:=List.mem_of_getElem? hx;simp at this;exact this.2
   subst hxe;exact ⟨_,hnil k hkn,.slNil _ _ _,fun _=>⟨none,0,0,rfl,Nat.le_refl _,fun h=>absurd h (Nat.lt_irrefl 0)⟩⟩
  ·rw [hnil k (by simpa using hk)] at hv;simp only [Option.some.injEq] at hv;subst hv;intro b o n c b' o' n' c' e1;simp at e1
theorem Rel.bagArr {id e sz:Nat} {pend:Option Nat} {qs:List (List (List AV))} (R:Rel M0 w0 N p st a w) (hi:st.h[id]? = some (some (.bag e sz false pend qs))) (hall:st.h.all (a5l id)=true) :
  ∃ p',Rel M0 w0 N p' ⟨st.s.map (fun q=>(q.1,unW id q.2)),st.h.set id (some (.arr e 1 false (qs.map fun q=>[.sl sz q])))⟩ a w:=by
 have hid:=(List.getElem?_eq_some_iff.1 hi).1;obtain ⟨b1,b2,cur,b3,b4,b5,b6⟩:=R.bagRow hi;obtain ⟨p',hpb,hpS,hpid⟩ : ∃ p':Pl,(∀ i,p' i=p i)∧(∀ i,i≠id→p'.S i=p.S i)∧∀ b j,¬p'.S id b j:=⟨⟨p.b,fun i=>if i=id then fun _ _=>False else p.S i⟩,fun _=>rfl,fun i hn=>if_neg hn,fun b j h=>by simp at h⟩
 refine ⟨p',R.retell (p':=p') (ob2:=.arr e 1 false (qs.map fun q=>[.sl sz q])) hi rfl (fun _=>rfl) hpb hpS (fun b j h=>absurd h (hpid b j)) (unW id) (s5_ id) (fun hM {x u} hx=>c5s (p:=p) (h:=st.h) hM (fun av v hv hn=>V1.conv (p:=p) (h:=st.h) hM (by simp) hpb (fun i e' sz' nl es' v he ha hb=>?_) (fun i e' sz' nl pend' qs' v he ha hb=>?_) (fun i k sz' v hn _ hs=>hs.keep (fun e' sz'' pe' qs' he=>?_) (Nat.le_refl _)) 5 av v hv hn) hx) (fun i cs _ hcs c hc=>c5t (z6_ hall i cs hcs c hc)) fun hM=>⟨Nat.one_pos,fun k x hx=>?_,?_⟩⟩
 ·by_cases hn:i=id
  ·subst hn;rw [List.getElem?_set_self hid] at he;simp only [Option.some.injEq,Ob.arr.injEq] at he;obtain ⟨rfl,rfl,rfl,rfl⟩:=he;have:=hb _ _ _ _ _ hi;simpa using this
  ·rw [List.getElem?_set_ne (Ne.symm hn)] at he;exact ha _ _ _ _ he
 ·by_cases hn:i=id
  ·subst hn;rw [List.getElem?_set_self hid] at he;cases he
  ·rw [List.getElem?_set_ne (Ne.symm hn)] at he;exact hb _ _ _ _ _ he
 ·rw [List.getElem?_set_ne (Ne.symm hn)] at he;exact ⟨he,hpb i,hpS i hn,fun _ _ _ _=>rfl⟩
 ·obtain ⟨q,_,rfl⟩:=g2_ hx;exact ⟨rfl,fun c hc=>by simp only [List.mem_singleton] at hc;subst hc;rfl⟩
 ·rw [if_neg (by simp)];refine ⟨⟨fun j=>by rw [hpb];exact (b1 _ j (.inl rfl)).1,hpid⟩,cur,by rw [hpb];exact b3,by simpa using b4,fun k x j c hk hj=>?_⟩;obtain ⟨q,hq,rfl⟩:=g2_ hk;cases j with
  | succ j=>simp at hj
  | zero=>
   simp only [List.getElem?_cons_zero,Option.some.injEq] at hj;subst hj;obtain ⟨v,h1,h2,_⟩:=b5 k q hq;exact ⟨v,by simpa using h1,h2.keep (Keeps.refl _ _) fun b j _=>hM b j⟩
theorem a2z (id:Nat) : ∀ (s:List (Nat×AV)) (i:Nat),lkp (s.map fun q=>(q.1,purge id q.2)) i=purge id (lkp s i)
 | [],i=>by simp [lkp,purge,g0_]
 | (d,v)::r,i=>by
  simp only [List.map_cons,lkp];split
  ·rfl
  ·exact a2z id r i
def c5u (id:Nat) : Option Ob→Bool
 | some (.box cs)=>cs.all (g0_ id 5)
 | _=>true
theorem Rel.anew {r e sz e2 sz2:Nat} {nl:Bool} {es:List (List AV)} (R:Rel M0 w0 N p st a w) (hi:st.h[r]? = some (some (.arr e sz nl es))) (hsz:0 < sz2) (hall:st.h.all (c5u r)=true) :
  Rel M0 w0 N p ⟨st.s.map (fun q=>(q.1,purge r q.2)),st.h.set r (some (.arr e2 sz2 true []))⟩ a w:=by
 have hid:=(List.getElem?_eq_some_iff.1 hi).1;have hbx:∀ (i:Nat) (cs:List AV),st.h[i]? = some (some (.box cs))→∀ c∈cs,g0_ r 5 c=true:=fun i cs hi c hc=>by
  have:=List.all_eq_true.1 hall _ (List.mem_of_getElem? hi);exact List.all_eq_true.1 this c hc
 have h2o:∀ (i:Nat) (ob:Ob),i≠r→(st.h.set r (some (.arr e2 sz2 true [])))[i]? = some (some ob)→st.h[i]? = some (some ob):=fun i ob hn h=>by rwa [List.getElem?_set_ne (Ne.symm hn)] at h
 refine R.retell (p':=p) (ob2:=.arr e2 sz2 true []) hi rfl (fun h=>by cases h) (fun _=>rfl) (fun _ _=>rfl) (fun _ _ h=>h) (purge r) (a2z r) (fun hM {x u} hx=>?_) (fun i cs _ hcs c hc=>if_pos (hbx i cs hcs c hc)) fun hM=>⟨hsz,fun k x hk=>by simp at hk,rfl⟩
 unfold purge;split
 ·rename_i hn;exact V1.purge (Keeps.refl _ _) (fun b j _=>hM b j) (by simp) (fun _ _=>rfl) (fun i e sz nl es v hn he hv=>hv _ _ _ _ (h2o i _ hn he)) (fun i e sz nl pe qs v hn he hv=>hv _ _ _ _ _ (h2o i _ hn he)) (fun i k sz v hn _ hs=>hs.keep (fun e sz pe qs he=>⟨h2o i _ hn he,rfl,rfl,fun _ _ _ _=>rfl⟩) (Nat.le_refl _)) 5 x u hx hn
 ·exact .base _ _ (.any _)
end
attribute [go_sem] c5u
section
variable {P:Program} {M0:Nat→Nat→Prop} {w0:Bas} {N:Nm} {p:Pl} {st:VS} {a:Act} {w:World}
theorem Rel.deadCell {bi j r:Nat} {cs:List AV} (R:Rel M0 w0 N p st a w) (hb:st.h[bi]? = some (some (.box cs))) (hj:cs[j]? = some (.osl r)) : Rel M0 w0 N p ⟨st.s,st.h.set bi (some (.box (cs.set j (.osl bi))))⟩ a w:=by
 have hbl:bi < st.h.length:=(List.getElem?_eq_some_iff.1 hb).1;have hget:∀ (i:Nat) (ob:Ob),(st.h.set bi (some (.box (cs.set j (.osl bi)))))[i]? = some (some ob)→(i=bi∧ob = .box (cs.set j (.osl bi)))∨(i≠bi∧st.h[i]? = some (some ob)):=fun i ob h=>by
  by_cases he:bi=i
  ·subst he;rw [List.getElem?_set_self hbl] at h;simp only [Option.some.injEq] at h;exact .inl ⟨rfl,h.symm⟩
  ·rw [List.getElem?_set_ne he] at h;exact .inr ⟨fun h=>he h.symm,h⟩
 refine (R.reheap _ (by simp) (fun i ob hi hl=>?_) (fun i e sz nl es hil he=>?_) (fun i e sz nl pe qs hil he=>?_) fun i ob hi hne' keep=>?_).1
 ·rcases hget i ob hi with ⟨rfl,rfl⟩|⟨_,hi'⟩
  ·exact ⟨_,hb,rfl⟩
  ·exact ⟨ob,hi',hl⟩
 ·rcases hget i _ he with ⟨_,h⟩|⟨_,h⟩
  ·cases h
  ·exact h
 ·rcases hget i _ he with ⟨_,h⟩|⟨_,h⟩
  ·cases h
  ·exact h
 ·rcases hget i ob hi with ⟨rfl,rfl⟩|⟨_,hi'⟩
  ·obtain ⟨h1,cur,e2,h2,h3,h4,h5⟩:=R.objs i _ hb;refine ⟨h1,cur,e2,h2,by simpa using h3,fun c hc=>?_,fun k c hk=>?_⟩
   ·rcases List.mem_or_eq_of_mem_set hc with h|rfl
    ·exact h4 c h
    ·rfl
   ·rw [List.getElem?_set] at hk;by_cases he:j=k
    ·subst he;have hjl:j < cs.length:=(List.getElem?_eq_some_iff.1 hj).1;rw [if_pos rfl,if_pos hjl] at hk;simp only [Option.some.injEq] at hk;subst hk;obtain ⟨u,hu,hv⟩:=h5 j _ hj;obtain ⟨A,m,c,rfl,_,_⟩:=hv.osl_inv;refine ⟨_,hu,.osl _ _ _ _ (by simpa using hbl) (fun e3 sz3 nl3 es3 he3=>?_) fun e3 sz3 nl3 pe3 qs3 he3=>?_⟩
     ·rw [List.getElem?_set_self hbl] at he3;cases he3
     ·rw [List.getElem?_set_self hbl] at he3;cases he3
    ·rw [if_neg he] at hk;obtain ⟨u,hu,hv⟩:=h5 k c hk;exact ⟨u,hu,keep hv⟩
  ·exact absurd hi' hne'
theorem a3a {c b:Code} {Q:Exit→VS→Prop} (T:VS) (h1:∀ K:VS→Prop,(∀ st',Le st' T→K st')→VWp P M0 w0 N c (a2n K Q) st) (h2:VWp P M0 w0 N b Q T) : VWp P M0 w0 N c (a2n (VWp P M0 w0 N b Q) Q) st:=h1 _ fun _ hle=>vle hle h2
end
section
variable {P:Program} {w:World} {M:Nat→Nat→Prop}
end
section
variable {P:Program} {M0:Nat→Nat→Prop} {w0:Bas} {N:Nm} {p:Pl} {st:VS} {ops l:List Oper} {Q:Exit→VS→Prop}
end
end Go.Proofs.YtoibondihdhnoaaDoor
