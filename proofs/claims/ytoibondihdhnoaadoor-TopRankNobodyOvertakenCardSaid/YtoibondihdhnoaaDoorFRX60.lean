/- Texts in one: A drawing region that calls for a row of the call's own and stores it into an older row; operations that read other variables may come behind: of every program; no condition. Printed by mkstore3.py. -/
import Derived.Test.YtoibondihdhnoaaDoorFRX12
import Derived.Test.YtoibondihdhnoaaDoorFRX17
namespace Go.Proofs.YtoibondihdhnoaaDoor
open Go.RowKit
def c1t (l:List Oper) (n c:Nat) (js:List Nat) : Bool:=o8_ l n n c&&(List.range n).all fun i=>((i == c || o8_ l n c i) || (match l[i]? with|some o=>a6l o|none=>false)) || (js.contains i&&(match l[i]? with|some o=>a9c o|none=>false))
section
variable {P:Program} {M0:Nat→Nat→Prop} {w0:Bas} {N:Nm} {p:Pl} {st:VS} {a:Act} {w:World} {Q:Exit→VS→Prop}
theorem c9j {id:Nat} {l:List Oper} (n c:Nat) (js:List Nat) (ow:List Nat) {k e sz dc:Nat} {nl:Bool} {es:List (List AV)} {args:List AV} {xs:Array Operand} {cts:Array TypeId} (g:VCo P k args e sz nl es) (hm:P.follows .mixedOrders=true) (hB:Region.specB l.toArray (n+1)=true) (hcn:c < n) (hL:c1t l n c js=true) {so oc:Oper} {ty:TypeId} {x y:Operand} (hso:l[n]? = some so) (hsg:so.guard=none∧so.dst=none) (hsop:so.op = .store ty x y)
  (hoc:l[c]? = some oc) (hcg:oc.op = .call ⟨.value (.func k),xs,cts⟩∧oc.dst=some dc∧oc.guard=none)
  (h:n1_ P l (fun i=>i == c) (l.take n) 0 st fun T=>xs.toList.map (ev T)=args∧args.all (m3_ 5)=true∧∃ h1,q2_ P ow ⟨(dc,.osl st.h.length)::T.s,st.h++[some (.arr e sz nl es)]⟩ so=some ⟨(dc,.osl st.h.length)::T.s,h1⟩∧a7r P T (st.h++[some (.arr e sz nl es)]) l js∧a7r P T h1 l js∧y2_ P ow l (l.drop (n+1)) ⟨(dc,.osl st.h.length)::T.s,h1⟩ (Q .normal)) : VWp P M0 w0 N (.region id l.toArray true) Q st:=fun hCd p0 a0 wst R0=>by
 have hN:l.all (q9_ N)=true:=by simpa [n7_] using hCd
 obtain ⟨rs,hrl,⟨hargs,hpure,h1,htail,hlate2,hlate,hK⟩,Sx,hAny⟩:=l2_ _ _ _ h;obtain ⟨hc1,hc2,hc3⟩:=hcg;have hB':=hB;simp only [Region.specB,Bool.and_eq_true,decide_eq_true_eq] at hB';obtain ⟨⟨⟨⟨⟨⟨_,hnl⟩,_⟩,_⟩,hd⟩,hlook⟩,_⟩:=hB';have hnl':n+1 < l.length:=by simpa using hnl
 have hd':j5_ (l.take (n+1))=true:=by simpa using hd
 have hdn:j5_ (l.take n)=true:=by
  have:=i0_ (l.take (n+1)) n hd';rwa [List.take_take,Nat.min_eq_left (Nat.le_succ n)] at this
 have hlen:(l.take n).length=n:=by simp;omega
 rw [hlen] at hrl;have hat:∀ {i:Nat} {o:Oper},i < n→l[i]? = some o→(l.take n)[i]? = some o:=fun {i o} hi ho=>by rw [List.getElem?_take_of_lt hi];exact ho
 have hat1:∀ {i:Nat} {o:Oper},i < n+1→l[i]? = some o→(l.take (n+1))[i]? = some o:=fun {i o} hi ho=>by rw [List.getElem?_take_of_lt hi];exact ho
 have hta:∀ {i:Nat} {o:Oper},(l.take n)[i]? = some o→i < n∧l[i]? = some o:=fun {i o} ho=>by
  have hi:i < n:=by have:=(List.getElem?_eq_some_iff.1 ho).1;omega
  rw [List.getElem?_take_of_lt hi] at ho;exact ⟨hi,ho⟩
 have hrs:∀ {i:Nat},i < n→rs[i]? = some (rs.getD i .any):=fun {i} hi=>by simp [List.getD,show i < rs.length by omega]
 have hlk:∀ i,i < n+1→∀ o,l[i]? = some o→∀ t∈o.looksAt l.toArray,∀ j,j < n+1→∀ q,l[j]? = some q→q.dst=some t→Region.waitsFor .any l.toArray i j=true∧j < i:=by
  intro i hi o ho;have h:=List.all_eq_true.1 hlook i (List.mem_range.2 hi);simp only [List.getElem?_toArray,ho,Bool.and_eq_true] at h;have haft:∀ e∈o.after,Region.binds .any e=true→e.on < i:=fun e he hb=>by
   have h1:=Array.all_eq_true'.1 h.2 e he;simp only [hb,Bool.not_true,Bool.false_or,decide_eq_true_eq] at h1;exact h1
  intro t ht j hj q hq hqd;have h1:=List.all_eq_true.1 (List.all_eq_true.1 h.1 t ht) j (List.mem_range.2 hj);simp only [hq,Option.bind_some,hqd,bne_self_eq_false,Bool.false_or] at h1;refine ⟨h1,?_⟩;obtain ⟨o',ho',e,he,hb,hon⟩:=Region.waitsFor_spec h1;have:o'=o:=Option.some.inj (ho'.symm.trans (by simpa using ho));subst this;rw [←hon];exact haft e he hb
 have txt_in:∀ {i j:Nat} {q:Oper} {t:Nat},j < i→i≤n→l[j]? = some q→q.dst=some t→lkp (d5_ st ((l.take n).take i) (rs.take i)).s t=rs.getD j .any:=fun {i j q t} hj hi hq ht=>
  r1_ ((l.take n).take i) (rs.take i) st t j q (rs.getD j .any) (i0_ _ _ hdn) (by rw [List.getElem?_take_of_lt hj];exact hat (by omega) hq) (by rw [List.getElem?_take_of_lt hj];exact hrs (by omega)) ht
 have txt_out:∀ {i t:Nat},(∀ j q,j < n→l[j]? = some q→q.dst≠some t)→lkp (d5_ st ((l.take n).take i) (rs.take i)).s t=lkp st.s t:=fun {i t} ho=>
  p6_ _ _ _ _ fun q hq he=>by
   obtain ⟨j,hj⟩:=List.mem_iff_getElem?.1 (List.mem_of_mem_take hq);obtain ⟨h1,h2⟩:=hta hj;exact ho j q h1 h2 he
 have hfull:d5_ st (l.take n) rs=d5_ st ((l.take n).take n) (rs.take n):=by
  rw [List.take_of_length_le (l:=l.take n) (by rw [hlen];exact Nat.le_refl _),List.take_of_length_le (l:=rs) (by omega)]
 have hLc:o8_ l n n c=true:=by
  unfold c1t at hL;rw [Bool.and_eq_true] at hL;exact hL.1
 have hLa:∀ i,i < n→((i=c∨o8_ l n c i=true)∨(match l[i]? with|some o=>a6l o|none=>false)=true)∨(js.contains i&&(match l[i]? with|some o=>a9c o|none=>false))=true:=fun i hi=>by
  unfold c1t at hL;rw [Bool.and_eq_true] at hL;have:=List.all_eq_true.1 hL.2 i (List.mem_range.2 hi);simpa only [Bool.or_eq_true,beq_iff_eq] using this
 have hcany:rs.getD c .any = .any:=by
  have:=hAny c oc (by simp) (hat hcn hoc);rw [List.getD_eq_getElem?_getD,this];rfl
 have hdcT:∀ {k:Nat},c < k→k≤n→lkp (d5_ st ((l.take n).take k) (rs.take k)).s dc = .any:=fun hck hkn=>by
  rw [txt_in hck hkn hoc hc2,hcany]
 refine wp_region_any hm ?_;refine p2_ (Inv:=fun listed a w=>HeadInv .any l.toArray (n+1) listed∧∃ (p:Pl) (s:List (Nat×AV)),Rel M0 w0 N p ⟨s,if listed.getD n false=true then h1 else if listed.getD c false=true then st.h++[some (.arr e sz nl es)] else st.h⟩ a w∧(∀ (j:Nat) (q:Oper) (d:Nat),j < n→j≠c→listed.getD j false=true→l[j]? = some q→q.dst=some d→lkp s d=rs.getD j .any)∧(∀ t,(∀ j q,j < n→l[j]? = some q→q.dst≠some t)→lkp s t=lkp st.s t)∧(listed.getD c false=true→lkp s dc = .osl st.h.length)) hB (fun _ _ _ inv=>inv.1) ?_ ?_ _ _ _ _ ?_ (by simp)
 ·rintro listed a w i o ⟨head,p,s,R,S1,S2,S3⟩ hi hin ho hiu;have ho':l[i]? = some o:=by simpa using ho
  obtain ⟨_,o2,ho2,hdone⟩:=mem_ready.1 hi;have:o2=o:=Option.some.inj (ho2.symm.trans ho);subst this;have hisz:i < listed.size:=by rw [head.size];simpa using (by omega:i < l.length)
  have hself:(listed.setIfInBounds i true).getD i false=true:=by simp [hisz]
  have hoth:∀ {j:Nat},i≠j→(listed.setIfInBounds i true).getD j false=listed.getD j false:=fun hne=>getD_set_ne false hne;have hwait:∀ j,Region.waitsFor .any l.toArray i j=true→listed.getD j false=true:=by
   intro j hj;obtain ⟨o3,ho3,e,he,hb,hon⟩:=Region.waitsFor_spec hj;have:o3=o2:=Option.some.inj (ho3.symm.trans ho);subst this;rw [←hon];exact hdone e he hb
  have hclosed:∀ {m i':Nat},listed.getD m false=true→o8_ l n m i'=true→listed.getD i' false=true:=fun {m i'} hm' hnb=>
   g5_ head n m i' (fun j hj=>by
    obtain ⟨o6,ho6,e,he,hb',hon⟩:=Region.waitsFor_spec hj;have:=head.closed m o6 ho6 hm' e he hb';rwa [hon] at this) hnb
  have hop:∀ {k:Nat},i≤k→k≤n→∀ t∈o2.looksAt l.toArray,t≠dc→lkp (d5_ st ((l.take n).take k) (rs.take k)).s t=lkp s t:=fun {k} hik hkn t ht htd=>by
   by_cases hex:∃ (j:Nat) (q:Oper),j < n∧l[j]? = some q∧q.dst=some t
   ·obtain ⟨j,q,hj,hq,hqd⟩:=hex;obtain ⟨h1,h2⟩:=hlk i hin o2 ho' t ht j (by omega) q hq hqd;rw [txt_in (by omega) hkn hq hqd];refine (S1 j q t hj (fun hjc=>?_) (hwait j h1) hq hqd).symm;subst hjc;obtain rfl:=Option.some.inj (hq.symm.trans hoc);exact htd (Option.some.inj (hqd.symm.trans hc2))
   ·have hno:∀ j q,j < n→l[j]? = some q→q.dst≠some t:=fun j q hj hq he=>hex ⟨j,q,hj,hq,he⟩;rw [txt_out hno,S2 t hno]
  have hdci:∀ t∈o2.looksAt l.toArray,t=dc→c < i:=fun t ht htd=>(hlk i hin o2 ho' t ht c (by omega) oc hoc (by rw [hc2,htd])).2;have hop2:∀ t∈o2.looksAt l.toArray,lkp (d5_ st ((l.take n).take i) (rs.take i)).s t=lkp s t∨lkp (d5_ st ((l.take n).take i) (rs.take i)).s t = .any:=fun t ht=>by
   by_cases htd:t=dc
   ·subst htd;exact .inr (hdcT (hdci _ ht rfl) (by omega))
   ·exact .inl (hop (Nat.le_refl _) (by omega) t ht htd)
  have hnot:∀ {j:Nat} {q:Oper} {d d':Nat},j < n→j≠i→l[j]? = some q→q.dst=some d→o2.dst=some d'→d'≠d:=fun {j q d d'} hj hji hq hqd hd2 he=>by
   subst he;exact hji (l4_ hd' (hat1 (by omega) hq) (hat1 hin ho') hqd hd2)
  by_cases hni:i=n
  ·subst hni;have:o2=so:=Option.some.inj (ho'.symm.trans hso);subst this;have hiu':=getD_both hiu;have hcl:listed.getD c false=true:=g5_ head i i c hwait hLc;rw [hiu'] at R;simp only [Bool.false_eq_true,if_false,hcl,if_true] at R;have hev:∀ z:Operand,z∈o2.op.operands→ev ⟨s,st.h++[some (.arr e sz nl es)]⟩ z=ev ⟨(dc,.osl st.h.length)::(d5_ st (l.take i) rs).s,st.h++[some (.arr e sz nl es)]⟩ z:=fun z hz=>by
    cases z with
    | tmp t=>
     show lkp s t=lkp ((dc,.osl st.h.length)::_) t;rw [lkp];by_cases htd:dc=t
     ·rw [if_pos htd,←htd];exact S3 hcl
     ·rw [if_neg htd,hfull];exact (hop (Nat.le_refl _) (Nat.le_refl _) t (List.mem_append_left _ (List.mem_filterMap.2 ⟨.tmp t,by simpa using hz,rfl⟩)) (Ne.symm htd)).symm
    | const v=>rfl
    | global g=>rfl
    | func f=>rfl
   have hcon:=b5r (T:=⟨(dc,.osl st.h.length)::(d5_ st (l.take i) rs).s,st.h++[some (.arr e sz nl es)]⟩) (s:=s) hsop (hev x (by rw [hsop];simp [Op.operands])) (hev y (by rw [hsop];simp [Op.operands])) htail;obtain ⟨v,w',p',hh⟩:=b2n (P:=P) R (List.all_eq_true.1 hN o2 (List.mem_of_getElem? ho')) hcon;have fin:∀ v p',Rel M0 w0 N p' ⟨s,h1⟩ (a.put o2.dst v) w'→(fun listed a w=>HeadInv .any l.toArray (i+1) listed∧∃ (p:Pl) (s:List (Nat×AV)),Rel M0 w0 N p ⟨s,if listed.getD i false=true then h1 else if listed.getD c false=true then st.h++[some (.arr e sz nl es)] else st.h⟩ a w∧(∀ (j:Nat) (q:Oper) (d:Nat),j < i→j≠c→listed.getD j false=true→l[j]? = some q→q.dst=some d→lkp s d=rs.getD j .any)∧(∀ t,(∀ j q,j < i→l[j]? = some q→q.dst≠some t)→lkp s t=lkp st.s t)∧(listed.getD c false=true→lkp s dc = .osl st.h.length)) (listed.setIfInBounds i true) (a.put o2.dst v) w':=fun v p' R'=>by
    refine ⟨head.set hi hin,p',s,by rw [hself];exact R',fun j q d hj hjc hl hq hqd=>?_,S2,fun _=>S3 hcl⟩;rw [hoth (by omega)] at hl;exact S1 j q d hj hjc hl hq hqd
   unfold wpOp;simp only [ho];rw [if_pos (by simp [Region.wanted,hsg.1])];refine Or.inl ?_;unfold Oper.wp;rcases hh with ⟨h2,h3⟩|⟨h2,_,h3⟩
   ·rw [h2];exact fin _ _ h3
   ·rw [h2];exact fin _ _ h3
  have hin':i < n:=by omega
  by_cases hic:i=c
  ·subst hic;have:o2=oc:=Option.some.inj (ho'.symm.trans hoc);subst this;have hiu':=getD_both hiu;have hnl:listed.getD n false=false:=by
    cases hb:listed.getD n false
    ·rfl
    ·rw [hclosed hb hLc] at hiu';cases hiu'
   rw [hnl,hiu'] at R;simp only [Bool.false_eq_true,if_false] at R;unfold wpOp;simp only [ho];rw [if_pos (by simp [Region.wanted,hc3])];refine Or.inl ?_;have hargs2:xs.toList.map (ev ⟨s,st.h⟩)=args:=by
    rw [←hargs];refine List.map_congr_left fun z hz=>?_;cases z with
    | tmp t=>
     show lkp s t=lkp _ t;have hmem:t∈o2.looksAt l.toArray:=List.mem_append_left _ (List.mem_filterMap.2 ⟨.tmp t,by
      have:(Operand.tmp t)∈o2.op.operands:=by rw [hc1];simp only [Op.operands,Call.operands];exact Array.mem_append_right _ (by simpa using hz)
      simpa using this,rfl⟩)
     rw [hfull];refine (hop (by omega) (Nat.le_refl _) t hmem fun htd=>?_).symm;have:=hdci t hmem htd;omega
    | const v=>rfl
    | global g=>rfl
    | func f=>rfl
   refine a6o (E:=ev ⟨s,st.h⟩) hc1 hc2 (by rw [hargs2];exact g) (by rw [hargs2];exact hpure) (List.all_eq_true.1 hN o2 (List.mem_of_getElem? ho')) p a w s R (fun z _=>rfl) _ _ fun p' a' w' R'=>?_;have hsl:∀ t,lkp ((dc,AV.osl st.h.length)::s) t=if dc=t then .osl st.h.length else lkp s t:=fun t=>by
    rw [lkp]
   have R2:Rel M0 w0 N p' ⟨(dc,.osl st.h.length)::s,st.h++[some (.arr e sz nl es)]⟩ a' w':=by simpa using R'
   refine ⟨head.set hi hin,p',_,by rw [hoth hni,hself,hnl];exact R2,fun j q d hj hjc hl hq hqd=>?_,fun t ht=>?_,fun _=>?_⟩
   ·rw [hsl,if_neg (fun he=>hnot hj hjc hq hqd hc2 he)];rw [hoth (Ne.symm hjc)] at hl;exact S1 j q d hj hjc hl hq hqd
   ·rw [hsl,if_neg fun he=>ht i o2 hcn hoc (by rw [hc2,he])];exact S2 t ht
   ·rw [hsl,if_pos rfl]
  ·have hstep:=(Sx i o2 (rs.getD i .any) (by simpa using hic) (hat hin' ho') (hrs hin')).1;have hheap:((listed.setIfInBounds i true).getD n false)=listed.getD n false:=hoth hni;have hheapc:((listed.setIfInBounds i true).getD c false)=listed.getD c false:=hoth hic;have fin:∀ v w',V1 w' (Mof M0 (if listed.getD n false=true then h1 else if listed.getD c false=true then st.h++[some (.arr e sz nl es)] else st.h) p) (if listed.getD n false=true then h1 else if listed.getD c false=true then st.h++[some (.arr e sz nl es)] else st.h) p (rs.getD i .any) v→Below w.heap.size w w'→(fun listed a w=>HeadInv .any l.toArray (n+1) listed∧∃ (p:Pl) (s:List (Nat×AV)),Rel M0 w0 N p ⟨s,if listed.getD n false=true then h1 else if listed.getD c false=true then st.h++[some (.arr e sz nl es)] else st.h⟩ a w∧(∀ (j:Nat) (q:Oper) (d:Nat),j < n→j≠c→listed.getD j false=true→l[j]? = some q→q.dst=some d→lkp s d=rs.getD j .any)∧(∀ t,(∀ j q,j < n→l[j]? = some q→q.dst≠some t)→lkp s t=lkp st.s t)∧(listed.getD c false=true→lkp s dc = .osl st.h.length)) (listed.setIfInBounds i true) (a.put o2.dst v) w':=fun v w' hv hb=>by
    have R':=(R.later hb).put (d:=o2.dst) (f8_ (List.all_eq_true.1 hN o2 (List.mem_of_getElem? ho'))) hv;have hes:(VS.put ⟨s,if listed.getD n false=true then h1 else if listed.getD c false=true then st.h++[some (.arr e sz nl es)] else st.h⟩ o2.dst (rs.getD i .any))=⟨(VS.put ⟨s,if listed.getD n false=true then h1 else if listed.getD c false=true then st.h++[some (.arr e sz nl es)] else st.h⟩ o2.dst (rs.getD i .any)).s,if listed.getD n false=true then h1 else if listed.getD c false=true then st.h++[some (.arr e sz nl es)] else st.h⟩:=by cases o2.dst<;>rfl
    rw [hes] at R';refine ⟨head.set hi hin,p,_,by rw [hheap,hheapc];exact R',fun j q d hj hjc hl hq hqd=>?_,fun t ht=>?_,fun hl=>?_⟩
    ·rw [g7_];by_cases hji:j=i
     ·subst hji;have:q=o2:=Option.some.inj (hq.symm.trans ho');subst this;rw [if_pos hqd]
     ·rw [if_neg fun e=>hnot hj hji hq hqd e rfl];rw [hoth (Ne.symm hji)] at hl;exact S1 j q d hj hjc hl hq hqd
    ·rw [g7_,if_neg (ht i o2 hin' ho')];exact S2 t ht
    ·rw [hheapc] at hl;rw [g7_,if_neg fun e=>hnot hcn (Ne.symm hic) hoc hc2 e rfl];exact S3 hl
   have hld:∀ {h':Hp},a7r P (d5_ st (l.take n) rs) h' l js→(js.contains i&&(match l[i]? with|some o=>a9c o|none=>false))=true→j2_ P st.h (ev (d5_ st ((l.take n).take i) (rs.take i))) o2.op (rs.getD i .any)→j2_ P h' (ev (d5_ st ((l.take n).take i) (rs.take i))) o2.op (rs.getD i .any):=fun {h'} hlt' h2 hg=>by
    simp only [ho',Bool.and_eq_true,List.contains_iff_mem] at h2;obtain ⟨hmem,hld⟩:=h2;obtain ⟨z,hz1,hz2⟩:=b3i hlt' hmem ho';unfold a9c at hld;rw [Bool.and_eq_true] at hld;have hh:∀ u∈o2.looksAt l.toArray,lkp (d5_ st ((l.take n).take i) (rs.take i)).s u=lkp (d5_ st (l.take n) rs).s u:=fun u hu=>by
     rw [hfull];by_cases hex:∃ (j:Nat) (q:Oper),j < n∧l[j]? = some q∧q.dst=some u
     ·obtain ⟨j,q,hj,hq,hqd⟩:=hex;obtain ⟨_,h5⟩:=hlk i hin o2 ho' u hu j (by omega) q hq hqd;rw [txt_in h5 (by omega) hq hqd,txt_in hj (Nat.le_refl _) hq hqd]
     ·have hno:∀ j q,j < n→l[j]? = some q→q.dst≠some u:=fun j q hj hq he=>hex ⟨j,q,hj,hq,he⟩;rw [txt_out hno,txt_out hno]
    obtain ⟨dst,op,ty2,pos,after,guard⟩:=o2;simp only at hld hz1 hz2 hg hh ⊢;cases op with
    | load tt xx=>
     cases xx with
     | tmp u=>
      have hu:u∈Oper.looksAt l.toArray ⟨dst,.load tt (.tmp u),ty2,pos,after,guard⟩:=List.mem_append_left _ (List.mem_filterMap.2 ⟨.tmp u,by simp [Op.operands],rfl⟩);have he:ev (d5_ st ((l.take n).take i) (rs.take i)) (.tmp u)=ev (d5_ st (l.take n) rs) (.tmp u):=hh u hu;have hhz:(d5_ st (l.take n) rs).h=st.h:=h0_ ..;rw [hhz] at hz1;have:rs.getD i .any=z:=b7w he hg hz1;rw [this];exact b5s he.symm hz2
     | const v=>cases hld.2
     | global g=>cases hld.2
     | func f=>cases hld.2
    | _=>cases hld.2
   have hgive:j2_ P st.h (ev (d5_ st ((l.take n).take i) (rs.take i))) o2.op (rs.getD i .any)→gives P o2 a w fun v w''=>V1 w'' (Mof M0 (if listed.getD n false=true then h1 else if listed.getD c false=true then st.h++[some (.arr e sz nl es)] else st.h) p) (if listed.getD n false=true then h1 else if listed.getD c false=true then st.h++[some (.arr e sz nl es)] else st.h) p (rs.getD i .any) v∧Below w.heap.size w w'':=by
    intro hg;have hlo:listed.getD c false=true→((match l[i]? with|some o=>a6l o|none=>false)=true)∨(js.contains i&&(match l[i]? with|some o=>a9c o|none=>false))=true:=fun hcl=>by
     rcases hLa i hin' with ((h2|h2)|h2)|h2
     ·exact absurd h2 hic
     ·have:=hclosed hcl h2;rw [getD_both hiu] at this;cases this
     ·exact .inl h2
     ·exact .inr h2
    have hg':j2_ P (if listed.getD n false=true then h1 else if listed.getD c false=true then st.h++[some (.arr e sz nl es)] else st.h) (ev (d5_ st ((l.take n).take i) (rs.take i))) o2.op (rs.getD i .any):=by
     split
     ·rename_i hln;rcases hlo (hclosed hln hLc) with h2|h2
      ·rw [ho'] at h2;exact a2x h2 hg
      ·exact hld hlate h2 hg
     ·split
      ·rename_i hcl;rcases hlo hcl with h2|h2
       ·rw [ho'] at h2;exact a2x h2 hg
       ·exact hld hlate2 h2 hg
      ·exact hg
    refine q1_ R.objs R.mok R.h0 R.glob (fun _ _ hb=>.inl hb) (fun x hx=>?_) hg';cases x with
    | tmp t=>
     show V1 _ _ _ _ (lkp (d5_ st ((l.take n).take i) (rs.take i)).s t) _;rcases hop2 t (List.mem_append_left _ (List.mem_filterMap.2 ⟨.tmp t,by simpa using hx,rfl⟩)) with h2|h2
     ·rw [h2];exact R.slots t
     ·rw [h2];exact .base _ _ (.any _)
    | const v=>exact .base _ _ (.lit v)
    | global g=>exact .base _ _ (R.evalG g)
    | func f=>exact .base _ _ (.lit _)
   have hy:=fun j=>i6_ (ops:=l) (j:=j) R hN;have hguard:∀ (j:Nat) (want:Bool) (v:Value),o2.guard=some (j,want)→e1_ l (d5_ st ((l.take n).take i) (rs.take i)) j = .lit v→e1_ l ⟨s,if listed.getD n false=true then h1 else if listed.getD c false=true then st.h++[some (.arr e sz nl es)] else st.h⟩ j = .lit v:=by
    intro j want v hg hv;unfold e1_ at hv ⊢;cases hj:l[j]? with
    | none=>simpa [hj] using hv
    | some q=>
     cases hq:q.dst with
     | none=>simpa [hj,hq] using hv
     | some d=>
      have hmem:d∈o2.looksAt l.toArray:=by
       unfold Oper.looksAt;refine List.mem_append_right _ ?_;simp [hg,hj,hq]
      simp only [hj,hq] at hv ⊢;rcases hop2 d hmem with h2|h2
      ·rw [←h2];exact hv
      ·rw [h2] at hv;cases hv
   unfold wpOp;simp only [ho];unfold q4_ at hstep;split at hstep
   ·rename_i hg;rw [if_pos (by simp [Region.wanted,hg])];rw [h0_] at hstep;exact Or.inl (e2_ (hgive hstep) rfl fun v w' hv=>fin v w' hv.1 hv.2)
   ·rename_i j want hg;split at hstep
    ·rename_i b hb;have hyb:=(hy j).1 b (hguard j want _ hg hb);split at hstep
     ·rename_i hw;subst hw;rw [if_pos (by simp [Region.wanted,hg,hyb])];rw [h0_] at hstep;exact Or.inl (e2_ (hgive hstep) rfl fun v w' hv=>fin v w' hv.1 hv.2)
     ·rename_i hw;rw [if_neg (by simpa [Region.wanted,hg,hyb] using hw)];exact fin undef w (by rw [hstep];exact .base _ _ (.lit _)) (Below.refl _ _)
    ·rename_i us hb;have hyb:=(hy j).2 us (hguard j want _ hg hb);rw [if_neg (by simp [Region.wanted,hg,hyb])];exact fin undef w (by rw [hstep];exact .base _ _ (.lit _)) (Below.refl _ _)
    ·exact hstep.elim
 ·rintro listed a w ⟨head,p,s,R,S1,S2,S3⟩ hall;rw [hall n (by omega)] at R;simp only [if_true] at R;have R':=R.weak (s':=(dc,.osl st.h.length)::(d5_ st (l.take n) rs).s) fun t=>by
   show lkp ((dc,.osl st.h.length)::(d5_ st (l.take n) rs).s) t=lkp s t∨_;rw [lkp];by_cases htd:dc=t
   ·rw [if_pos htd,←htd];exact .inl (S3 (hall c (by omega))).symm
   ·rw [if_neg htd,hfull];by_cases hex:∃ (j:Nat) (q:Oper),j < n∧l[j]? = some q∧q.dst=some t
    ·obtain ⟨j,q,hj,hq,hqd⟩:=hex;rw [txt_in hj (Nat.le_refl _) hq hqd];refine .inl (S1 j q t hj (fun hjc=>?_) (hall j (by omega)) hq hqd).symm;subst hjc;obtain rfl:=Option.some.inj (hq.symm.trans hoc);exact htd (Option.some.inj (hc2.symm.trans hqd))
    ·have hno:∀ j q,j < n→l[j]? = some q→q.dst≠some t:=fun j q hj hq he=>hex ⟨j,q,hj,hq,he⟩;rw [txt_out hno,S2 t hno];exact .inl rfl
  have hNd:(l.drop (n+1)).all (q9_ N)=true:=List.all_eq_true.2 fun q hq=>List.all_eq_true.1 hN q (List.mem_of_mem_drop hq);exact r0_ (ow:=ow) hN (fun p st a w R h=>⟨st,p,R,h⟩) (l.drop (n+1)) p _ _ w hNd R' hK
 ·refine ⟨⟨by simp,fun j oj _ hl=>(by rw [getD_replicate_false] at hl;cases hl),fun t _ ht=>getD_in (by simpa using ht) (getD_replicate_false _ _)⟩,p0,st.s,?_,fun j q d _ _ hl=>(by rw [getD_replicate_false] at hl;cases hl),fun _ _=>rfl,fun hl=>(by rw [getD_replicate_false] at hl;cases hl)⟩;rw [getD_replicate_false,getD_replicate_false];exact R0.later (Below.refl _ _).drew
end
end Go.Proofs.YtoibondihdhnoaaDoor
