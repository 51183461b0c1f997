/- Texts in one: A drawing region that calls for a row of the call's own and stores it into an older row; operations that read other variables may come behind: of every program; no condition. Printed by mkstore3.py. -/
import Derived.Test.YtoibondihdhnoaaGreatDoorFRP8
import Derived.Test.YtoibondihdhnoaaGreatDoorFRP15
namespace Go.Proofs.YtoibondihdhnoaaGreatDoor
open Go.RowKit
def C5 (l:List Oper) (n c:Nat) (js:List Nat) : Bool:=fC l n n c&&(List.range n).all fun i=>((i == c || fC l n c i) || (match l[i]? with|some o=>sL o|none=>false)) || (js.contains i&&(match l[i]? with|some o=>sM o|none=>false))
section
variable {P:Program} {M0:Nat→Nat→Prop} {w0:Bas} {N:Nm} {p:Pl} {st:VS} {a:Act} {w:World} {Q:Exit→VS→Prop}
theorem Pw {id:Nat} {l:List Oper} (n c:Nat) (js:List Nat) (ow:List Nat) {k e sz dc:Nat} {nl:Bool} {es:List (List AV)} {args:List AV} {xs:Array Operand} {lv:Array TypeId} (g:VCo P k args e sz nl es) (hm:P.follows .mixedOrders=true) (hB:Region.specB l.toArray (n+1)=true) (yd:c < n) (hL:C5 l n c js=true) {so oc:Oper} {ty:TypeId} {x y:Operand} (gI:l[n]? = some so) (kM:so.guard=none∧so.dst=none) (ir:so.op = .store ty x y)
  (ou:l[c]? = some oc) (Hs:oc.op = .call ⟨.value (.func k),xs,lv⟩∧oc.dst=some dc∧oc.guard=none)
  (h:iI P l (fun i=>i == c) (l.take n) 0 st fun T=>xs.toList.map (ev T)=args∧args.all (e_ 5)=true∧∃ h1,jN P ow ⟨(dc,.osl st.h.length)::T.s,st.h++[some (.arr e sz nl es)]⟩ so=some ⟨(dc,.osl st.h.length)::T.s,h1⟩∧ps P T (st.h++[some (.arr e sz nl es)]) l js∧ps P T h1 l js∧dS P ow l (l.drop (n+1)) ⟨(dc,.osl st.h.length)::T.s,h1⟩ (Q .normal)) : VWp P M0 w0 N (.region id l.toArray true) Q st:=fun iw p0 a0 rE R0=>by
 have hN:l.all (cU N)=true:=by simpa [eY] using iw
 obtain ⟨rs,dO,⟨e8,kh,h1,eE,sO,oz,hK⟩,Sx,oi⟩:=rN _ _ _ h;obtain ⟨pq,eP,na⟩:=Hs;have cZ:=hB;simp only [Region.specB,Bool.and_eq_true,decide_eq_true_eq] at cZ;obtain ⟨⟨⟨⟨⟨⟨_,aK⟩,_⟩,_⟩,hd⟩,a_⟩,_⟩:=cZ;have eB:n+1 < l.length:=by simpa using aK
 have c_:dF (l.take (n+1))=true:=by simpa using hd
 have oQ:dF (l.take n)=true:=by
  have:=ly (l.take (n+1)) n c_;rwa [List.take_take,Nat.min_eq_left (Nat.le_succ n)] at this
 have hlen:(l.take n).length=n:=by simp;omega
 rw [hlen] at dO;have bb:∀ {i:Nat} {o:Oper},i < n→l[i]? = some o→(l.take n)[i]? = some o:=fun {i o} hi ho=>by rw [List.getElem?_take_of_lt hi];exact ho
 have fm:∀ {i:Nat} {o:Oper},i < n+1→l[i]? = some o→(l.take (n+1))[i]? = some o:=fun {i o} hi ho=>by rw [List.getElem?_take_of_lt hi];exact ho
 have iR:∀ {i:Nat} {o:Oper},(l.take n)[i]? = some o→i < n∧l[i]? = some o:=fun {i o} ho=>by
  have hi:i < n:=by have:=(List.getElem?_eq_some_iff.1 ho).1;omega
  rw [List.getElem?_take_of_lt hi] at ho;exact ⟨hi,ho⟩
 have dB:∀ {i:Nat},i < n→rs[i]? = some (rs.getD i .any):=fun {i} hi=>by simp [List.getD,show i < rs.length by omega]
 have cm:∀ i,i < n+1→∀ o,l[i]? = some o→∀ t∈o.looksAt l.toArray,∀ j,j < n+1→∀ q,l[j]? = some q→q.dst=some t→Region.waitsFor .any l.toArray i j=true∧j < i:=by
  intro i hi o ho;have h:=List.all_eq_true.1 a_ i (List.mem_range.2 hi);simp only [List.getElem?_toArray,ho,Bool.and_eq_true] at h;have eC:∀ e∈o.after,Region.binds .any e=true→e.on < i:=fun e he hb=>by
   have h1:=Array.all_eq_true'.1 h.2 e he;simp only [hb,Bool.not_true,Bool.false_or,decide_eq_true_eq] at h1;exact h1
  intro t ht j hj q hq aA;have h1:=List.all_eq_true.1 (List.all_eq_true.1 h.1 t ht) j (List.mem_range.2 hj);simp only [hq,Option.bind_some,aA,bne_self_eq_false,Bool.false_or] at h1;refine ⟨h1,?_⟩;obtain ⟨o',aJ,e,he,hb,cf⟩:=Region.waitsFor_spec h1;have:o'=o:=Option.some.inj (aJ.symm.trans (by simpa using ho));subst this;rw [←cf];exact eC e he hb
 have aO:∀ {i j:Nat} {q:Oper} {t:Nat},j < i→i≤n→l[j]? = some q→q.dst=some t→lkp (aH st ((l.take n).take i) (rs.take i)).s t=rs.getD j .any:=fun {i j q t} hj hi hq ht=>
  ma ((l.take n).take i) (rs.take i) st t j q (rs.getD j .any) (ly _ _ oQ) (by rw [List.getElem?_take_of_lt hj];exact bb (by omega) hq) (by rw [List.getElem?_take_of_lt hj];exact dB (by omega)) ht
 have aI:∀ {i t:Nat},(∀ j q,j < n→l[j]? = some q→q.dst≠some t)→lkp (aH st ((l.take n).take i) (rs.take i)).s t=lkp st.s t:=fun {i t} ho=>
  lz _ _ _ _ fun q hq he=>by
   obtain ⟨j,hj⟩:=List.mem_iff_getElem?.1 (List.mem_of_mem_take hq);obtain ⟨h1,h2⟩:=iR hj;exact ho j q h1 h2 he
 have aW:aH st (l.take n) rs=aH st ((l.take n).take n) (rs.take n):=by
  rw [List.take_of_length_le (l:=l.take n) (by rw [hlen];exact Nat.le_refl _),List.take_of_length_le (l:=rs) (by omega)]
 have C6:fC l n n c=true:=by
  unfold C5 at hL;rw [Bool.and_eq_true] at hL;exact hL.1
 have Px:∀ i,i < n→((i=c∨fC l n c i=true)∨(match l[i]? with|some o=>sL o|none=>false)=true)∨(js.contains i&&(match l[i]? with|some o=>sM o|none=>false))=true:=fun i hi=>by
  unfold C5 at hL;rw [Bool.and_eq_true] at hL;have:=List.all_eq_true.1 hL.2 i (List.mem_range.2 hi);simpa only [Bool.or_eq_true,beq_iff_eq] using this
 have wX:rs.getD c .any = .any:=by
  have:=oi c oc (by simp) (bb yd ou);rw [List.getD_eq_getElem?_getD,this];rfl
 have C7:∀ {k:Nat},c < k→k≤n→lkp (aH st ((l.take n).take k) (rs.take k)).s dc = .any:=fun qd jf=>by
  rw [aO qd jf ou eP,wX]
 refine wp_region_any hm ?_;refine qu (Inv:=fun listed a w=>HeadInv .any l.toArray (n+1) listed∧∃ (p:Pl) (s:List (Nat×AV)),Rel M0 w0 N p ⟨s,if listed.getD n false=true then h1 else if listed.getD c false=true then st.h++[some (.arr e sz nl es)] else st.h⟩ a w∧(∀ (j:Nat) (q:Oper) (d:Nat),j < n→j≠c→listed.getD j false=true→l[j]? = some q→q.dst=some d→lkp s d=rs.getD j .any)∧(∀ t,(∀ j q,j < n→l[j]? = some q→q.dst≠some t)→lkp s t=lkp st.s t)∧(listed.getD c false=true→lkp s dc = .osl st.h.length)) hB (fun _ _ _ inv=>inv.1) ?_ ?_ _ _ _ _ ?_ (by simp)
 ·rintro listed a w i o ⟨head,p,s,R,S1,S2,S3⟩ hi ba ho ep;have aJ:l[i]? = some o:=by simpa using ho
  obtain ⟨_,o2,jX,cG⟩:=mem_ready.1 hi;have:o2=o:=Option.some.inj (jX.symm.trans ho);subst this;have bz:i < listed.size:=by rw [head.size];simpa using (by omega:i < l.length)
  have bH:(listed.setIfInBounds i true).getD i false=true:=by simp [bz]
  have aV:∀ {j:Nat},i≠j→(listed.setIfInBounds i true).getD j false=listed.getD j false:=fun aq=>getD_set_ne false aq;have bB:∀ j,Region.waitsFor .any l.toArray i j=true→listed.getD j false=true:=by
   intro j hj;obtain ⟨o3,kP,e,he,hb,cf⟩:=Region.waitsFor_spec hj;have:o3=o2:=Option.some.inj (kP.symm.trans ho);subst this;rw [←cf];exact cG e he hb
  have jt:∀ {m i':Nat},listed.getD m false=true→fC l n m i'=true→listed.getD i' false=true:=fun {m i'} qb fI=>
   mM head n m i' (fun j hj=>by
    obtain ⟨o6,jZ,e,he,eQ,cf⟩:=Region.waitsFor_spec hj;have:=head.closed m o6 jZ qb e he eQ;rwa [cf] at this) fI
  have cj:∀ {k:Nat},i≤k→k≤n→∀ t∈o2.looksAt l.toArray,t≠dc→lkp (aH st ((l.take n).take k) (rs.take k)).s t=lkp s t:=fun {k} pD jf t ht fK=>by
   by_cases hex:∃ (j:Nat) (q:Oper),j < n∧l[j]? = some q∧q.dst=some t
   ·obtain ⟨j,q,hj,hq,aA⟩:=hex;obtain ⟨h1,h2⟩:=cm i ba o2 aJ t ht j (by omega) q hq aA;rw [aO (by omega) jf hq aA];refine (S1 j q t hj (fun jG=>?_) (bB j h1) hq aA).symm;subst jG;obtain rfl:=Option.some.inj (hq.symm.trans ou);exact fK (Option.some.inj (aA.symm.trans eP))
   ·have bg:∀ j q,j < n→l[j]? = some q→q.dst≠some t:=fun j q hj hq he=>hex ⟨j,q,hj,hq,he⟩;rw [aI bg,S2 t bg]
  have wY:∀ t∈o2.looksAt l.toArray,t=dc→c < i:=fun t ht fK=>(cm i ba o2 aJ t ht c (by omega) oc ou (by rw [eP,fK])).2;have wZ:∀ t∈o2.looksAt l.toArray,lkp (aH st ((l.take n).take i) (rs.take i)).s t=lkp s t∨lkp (aH st ((l.take n).take i) (rs.take i)).s t = .any:=fun t ht=>by
   by_cases fK:t=dc
   ·subst fK;exact .inr (C7 (wY _ ht rfl) (by omega))
   ·exact .inl (cj (Nat.le_refl _) (by omega) t ht fK)
  have bW:∀ {j:Nat} {q:Oper} {d d':Nat},j < n→j≠i→l[j]? = some q→q.dst=some d→o2.dst=some d'→d'≠d:=fun {j q d d'} hj cq hq aA dC he=>by
   subst he;exact cq (mK c_ (fm (by omega) hq) (fm ba aJ) aA dC)
  by_cases mL:i=n
  ·subst mL;have:o2=so:=Option.some.inj (aJ.symm.trans gI);subst this;have cP:=getD_both ep;have jE:listed.getD c false=true:=mM head i i c bB C6;rw [cP] at R;simp only [Bool.false_eq_true,if_false,jE,if_true] at R;have jY:∀ z:Operand,z∈o2.op.operands→ev ⟨s,st.h++[some (.arr e sz nl es)]⟩ z=ev ⟨(dc,.osl st.h.length)::(aH st (l.take i) rs).s,st.h++[some (.arr e sz nl es)]⟩ z:=fun z hz=>by
    cases z with
    | tmp t=>
     show lkp s t=lkp ((dc,.osl st.h.length)::_) t;rw [lkp];by_cases fK:dc=t
     ·rw [if_pos fK,←fK];exact S3 jE
     ·rw [if_neg fK,aW];exact (cj (Nat.le_refl _) (Nat.le_refl _) t (List.mem_append_left _ (List.mem_filterMap.2 ⟨.tmp t,by simpa using hz,rfl⟩)) (Ne.symm fK)).symm
    | const v=>rfl
    | global g=>rfl
    | func f=>rfl
   have eT:=Ij (T:=⟨(dc,.osl st.h.length)::(aH st (l.take i) rs).s,st.h++[some (.arr e sz nl es)]⟩) (s:=s) ir (jY x (by rw [ir];simp [Op.operands])) (jY y (by rw [ir];simp [Op.operands])) eE;obtain ⟨v,w',p',hh⟩:=zr (P:=P) R (List.all_eq_true.1 hN o2 (List.mem_of_getElem? aJ)) eT;have fin:∀ v p',Rel M0 w0 N p' ⟨s,h1⟩ (a.put o2.dst v) w'→(fun listed a w=>HeadInv .any l.toArray (i+1) listed∧∃ (p:Pl) (s:List (Nat×AV)),Rel M0 w0 N p ⟨s,if listed.getD i false=true then h1 else if listed.getD c false=true then st.h++[some (.arr e sz nl es)] else st.h⟩ a w∧(∀ (j:Nat) (q:Oper) (d:Nat),j < i→j≠c→listed.getD j false=true→l[j]? = some q→q.dst=some d→lkp s d=rs.getD j .any)∧(∀ t,(∀ j q,j < i→l[j]? = some q→q.dst≠some t)→lkp s t=lkp st.s t)∧(listed.getD c false=true→lkp s dc = .osl st.h.length)) (listed.setIfInBounds i true) (a.put o2.dst v) w':=fun v p' R'=>by
    refine ⟨head.set hi ba,p',s,by rw [bH];exact R',fun j q d hj jG hl hq aA=>?_,S2,fun _=>S3 jE⟩;rw [aV (by omega)] at hl;exact S1 j q d hj jG hl hq aA
   unfold wpOp;simp only [ho];rw [if_pos (by simp [Region.wanted,kM.1])];refine Or.inl ?_;unfold Oper.wp;rcases hh with ⟨h2,h3⟩|⟨h2,_,h3⟩
   ·rw [h2];exact fin _ _ h3
   ·rw [h2];exact fin _ _ h3
  have cC:i < n:=by omega
  by_cases mV:i=c
  ·subst mV;have:o2=oc:=Option.some.inj (aJ.symm.trans ou);subst this;have cP:=getD_both ep;have aK:listed.getD n false=false:=by
    cases hb:listed.getD n false
    ·rfl
    ·rw [jt hb C6] at cP;cases cP
   rw [aK,cP] at R;simp only [Bool.false_eq_true,if_false] at R;unfold wpOp;simp only [ho];rw [if_pos (by simp [Region.wanted,na])];refine Or.inl ?_;have oA:xs.toList.map (ev ⟨s,st.h⟩)=args:=by
    rw [←e8];refine List.map_congr_left fun z hz=>?_;cases z with
    | tmp t=>
     show lkp s t=lkp _ t;have cH:t∈o2.looksAt l.toArray:=List.mem_append_left _ (List.mem_filterMap.2 ⟨.tmp t,by
      have:(Operand.tmp t)∈o2.op.operands:=by rw [pq];simp only [Op.operands,Call.operands];exact Array.mem_append_right _ (by simpa using hz)
      simpa using this,rfl⟩)
     rw [aW];refine (cj (by omega) (Nat.le_refl _) t cH fun fK=>?_).symm;have:=wY t cH fK;omega
    | const v=>rfl
    | global g=>rfl
    | func f=>rfl
   refine th (E:=ev ⟨s,st.h⟩) pq eP (by rw [oA];exact g) (by rw [oA];exact kh) (List.all_eq_true.1 hN o2 (List.mem_of_getElem? aJ)) p a w s R (fun z _=>rfl) _ _ fun p' a' w' R'=>?_;have mN:∀ t,lkp ((dc,AV.osl st.h.length)::s) t=if dc=t then .osl st.h.length else lkp s t:=fun t=>by
    rw [lkp]
   have R2:Rel M0 w0 N p' ⟨(dc,.osl st.h.length)::s,st.h++[some (.arr e sz nl es)]⟩ a' w':=by simpa using R'
   refine ⟨head.set hi ba,p',_,by rw [aV mL,bH,aK];exact R2,fun j q d hj jG hl hq aA=>?_,fun t ht=>?_,fun _=>?_⟩
   ·rw [mN,if_neg (fun he=>bW hj jG hq aA eP he)];rw [aV (Ne.symm jG)] at hl;exact S1 j q d hj jG hl hq aA
   ·rw [mN,if_neg fun he=>ht i o2 yd ou (by rw [eP,he])];exact S2 t ht
   ·rw [mN,if_pos rfl]
  ·have aj:=(Sx i o2 (rs.getD i .any) (by simpa using mV) (bb cC aJ) (dB cC)).1;have dG:((listed.setIfInBounds i true).getD n false)=listed.getD n false:=aV mL;have oB:((listed.setIfInBounds i true).getD c false)=listed.getD c false:=aV mV;have fin:∀ v w',V1 w' (Mof M0 (if listed.getD n false=true then h1 else if listed.getD c false=true then st.h++[some (.arr e sz nl es)] else st.h) p) (if listed.getD n false=true then h1 else if listed.getD c false=true then st.h++[some (.arr e sz nl es)] else st.h) p (rs.getD i .any) v→Below w.heap.size w w'→(fun listed a w=>HeadInv .any l.toArray (n+1) listed∧∃ (p:Pl) (s:List (Nat×AV)),Rel M0 w0 N p ⟨s,if listed.getD n false=true then h1 else if listed.getD c false=true then st.h++[some (.arr e sz nl es)] else st.h⟩ a w∧(∀ (j:Nat) (q:Oper) (d:Nat),j < n→j≠c→listed.getD j false=true→l[j]? = some q→q.dst=some d→lkp s d=rs.getD j .any)∧(∀ t,(∀ j q,j < n→l[j]? = some q→q.dst≠some t)→lkp s t=lkp st.s t)∧(listed.getD c false=true→lkp s dc = .osl st.h.length)) (listed.setIfInBounds i true) (a.put o2.dst v) w':=fun v w' hv hb=>by
    have R':=(R.later hb).put (d:=o2.dst) (eZ (List.all_eq_true.1 hN o2 (List.mem_of_getElem? aJ))) hv;have cI:(VS.put ⟨s,if listed.getD n false=true then h1 else if listed.getD c false=true then st.h++[some (.arr e sz nl es)] else st.h⟩ o2.dst (rs.getD i .any))=⟨(VS.put ⟨s,if listed.getD n false=true then h1 else if listed.getD c false=true then st.h++[some (.arr e sz nl es)] else st.h⟩ o2.dst (rs.getD i .any)).s,if listed.getD n false=true then h1 else if listed.getD c false=true then st.h++[some (.arr e sz nl es)] else st.h⟩:=by cases o2.dst<;>rfl
    rw [cI] at R';refine ⟨head.set hi ba,p,_,by rw [dG,oB];exact R',fun j q d hj jG hl hq aA=>?_,fun t ht=>?_,fun hl=>?_⟩
    ·rw [fL];by_cases cq:j=i
     ·subst cq;have:q=o2:=Option.some.inj (hq.symm.trans aJ);subst this;rw [if_pos aA]
     ·rw [if_neg fun e=>bW hj cq hq aA e rfl];rw [aV (Ne.symm cq)] at hl;exact S1 j q d hj jG hl hq aA
    ·rw [fL,if_neg (ht i o2 cC aJ)];exact S2 t ht
    ·rw [oB] at hl;rw [fL,if_neg fun e=>bW yd (Ne.symm mV) ou eP e rfl];exact S3 hl
   have jQ:∀ {h':Hp},ps P (aH st (l.take n) rs) h' l js→(js.contains i&&(match l[i]? with|some o=>sM o|none=>false))=true→dt P st.h (ev (aH st ((l.take n).take i) (rs.take i))) o2.op (rs.getD i .any)→dt P h' (ev (aH st ((l.take n).take i) (rs.take i))) o2.op (rs.getD i .any):=fun {h'} h_ h2 hg=>by
    simp only [aJ,Bool.and_eq_true,List.contains_iff_mem] at h2;obtain ⟨cH,jQ⟩:=h2;obtain ⟨z,fO,w7⟩:=C8 h_ cH aJ;unfold sM at jQ;rw [Bool.and_eq_true] at jQ;have hh:∀ u∈o2.looksAt l.toArray,lkp (aH st ((l.take n).take i) (rs.take i)).s u=lkp (aH st (l.take n) rs).s u:=fun u hu=>by
     rw [aW];by_cases hex:∃ (j:Nat) (q:Oper),j < n∧l[j]? = some q∧q.dst=some u
     ·obtain ⟨j,q,hj,hq,aA⟩:=hex;obtain ⟨_,h5⟩:=cm i ba o2 aJ u hu j (by omega) q hq aA;rw [aO h5 (by omega) hq aA,aO hj (Nat.le_refl _) hq aA]
     ·have bg:∀ j q,j < n→l[j]? = some q→q.dst≠some u:=fun j q hj hq he=>hex ⟨j,q,hj,hq,he⟩;rw [aI bg,aI bg]
    obtain ⟨dst,op,C9,pos,after,guard⟩:=o2;simp only at jQ fO w7 hg hh ⊢;cases op with
    | load tt xx=>
     cases xx with
     | tmp u=>
      have hu:u∈Oper.looksAt l.toArray ⟨dst,.load tt (.tmp u),C9,pos,after,guard⟩:=List.mem_append_left _ (List.mem_filterMap.2 ⟨.tmp u,by simp [Op.operands],rfl⟩);have he:ev (aH st ((l.take n).take i) (rs.take i)) (.tmp u)=ev (aH st (l.take n) rs) (.tmp u):=hh u hu;have C_:(aH st (l.take n) rs).h=st.h:=ea ..;rw [C_] at fO;have:rs.getD i .any=z:=Ik he hg fO;rw [this];exact Il he.symm w7
     | const v=>cases jQ.2
     | global g=>cases jQ.2
     | func f=>cases jQ.2
    | _=>cases jQ.2
   have bx:dt P st.h (ev (aH st ((l.take n).take i) (rs.take i))) o2.op (rs.getD i .any)→gives P o2 a w fun v w''=>V1 w'' (Mof M0 (if listed.getD n false=true then h1 else if listed.getD c false=true then st.h++[some (.arr e sz nl es)] else st.h) p) (if listed.getD n false=true then h1 else if listed.getD c false=true then st.h++[some (.arr e sz nl es)] else st.h) p (rs.getD i .any) v∧Below w.heap.size w w'':=by
    intro hg;have bs:listed.getD c false=true→((match l[i]? with|some o=>sL o|none=>false)=true)∨(js.contains i&&(match l[i]? with|some o=>sM o|none=>false))=true:=fun jE=>by
     rcases Px i cC with ((h2|h2)|h2)|h2
     ·exact absurd h2 mV
     ·have:=jt jE h2;rw [getD_both ep] at this;cases this
     ·exact .inl h2
     ·exact .inr h2
    have fj:dt P (if listed.getD n false=true then h1 else if listed.getD c false=true then st.h++[some (.arr e sz nl es)] else st.h) (ev (aH st ((l.take n).take i) (rs.take i))) o2.op (rs.getD i .any):=by
     split
     ·rename_i jh;rcases bs (jt jh C6) with h2|h2
      ·rw [aJ] at h2;exact zD h2 hg
      ·exact jQ oz h2 hg
     ·split
      ·rename_i jE;rcases bs jE with h2|h2
       ·rw [aJ] at h2;exact zD h2 hg
       ·exact jQ sO h2 hg
      ·exact hg
    refine nC R.objs R.mok R.h0 R.glob (fun _ _ hb=>.inl hb) (fun x hx=>?_) fj;cases x with
    | tmp t=>
     show V1 _ _ _ _ (lkp (aH st ((l.take n).take i) (rs.take i)).s t) _;rcases wZ t (List.mem_append_left _ (List.mem_filterMap.2 ⟨.tmp t,by simpa using hx,rfl⟩)) with h2|h2
     ·rw [h2];exact R.slots t
     ·rw [h2];exact .base _ _ (.any _)
    | const v=>exact .base _ _ (.lit v)
    | global g=>exact .base _ _ (R.evalG g)
    | func f=>exact .base _ _ (.lit _)
   have hy:=fun j=>nv (ops:=l) (j:=j) R hN;have bj:∀ (j:Nat) (want:Bool) (v:Value),o2.guard=some (j,want)→cV l (aH st ((l.take n).take i) (rs.take i)) j = .lit v→cV l ⟨s,if listed.getD n false=true then h1 else if listed.getD c false=true then st.h++[some (.arr e sz nl es)] else st.h⟩ j = .lit v:=by
    intro j want v hg hv;unfold cV at hv ⊢;cases hj:l[j]? with
    | none=>simpa [hj] using hv
    | some q=>
     cases hq:q.dst with
     | none=>simpa [hj,hq] using hv
     | some d=>
      have cH:d∈o2.looksAt l.toArray:=by
       unfold Oper.looksAt;refine List.mem_append_right _ ?_;simp [hg,hj,hq]
      simp only [hj,hq] at hv ⊢;rcases wZ d cH with h2|h2
      ·rw [←h2];exact hv
      ·rw [h2] at hv;cases hv
   unfold wpOp;simp only [ho];unfold jB at aj;split at aj
   ·rename_i hg;rw [if_pos (by simp [Region.wanted,hg])];rw [ea] at aj;exact Or.inl (iS (bx aj) rfl fun v w' hv=>fin v w' hv.1 hv.2)
   ·rename_i j want hg;split at aj
    ·rename_i b hb;have dU:=(hy j).1 b (bj j want _ hg hb);split at aj
     ·rename_i hw;subst hw;rw [if_pos (by simp [Region.wanted,hg,dU])];rw [ea] at aj;exact Or.inl (iS (bx aj) rfl fun v w' hv=>fin v w' hv.1 hv.2)
     ·rename_i hw;rw [if_neg (by simpa [Region.wanted,hg,dU] using hw)];exact fin undef w (by rw [aj];exact .base _ _ (.lit _)) (Below.refl _ _)
    ·rename_i us hb;have dU:=(hy j).2 us (bj j want _ hg hb);rw [if_neg (by simp [Region.wanted,hg,dU])];exact fin undef w (by rw [aj];exact .base _ _ (.lit _)) (Below.refl _ _)
    ·exact aj.elim
 ·rintro listed a w ⟨head,p,s,R,S1,S2,S3⟩ aE;rw [aE n (by omega)] at R;simp only [if_true] at R;have R':=R.weak (s':=(dc,.osl st.h.length)::(aH st (l.take n) rs).s) fun t=>by
   show lkp ((dc,.osl st.h.length)::(aH st (l.take n) rs).s) t=lkp s t∨_;rw [lkp];by_cases fK:dc=t
   ·rw [if_pos fK,←fK];exact .inl (S3 (aE c (by omega))).symm
   ·rw [if_neg fK,aW];by_cases hex:∃ (j:Nat) (q:Oper),j < n∧l[j]? = some q∧q.dst=some t
    ·obtain ⟨j,q,hj,hq,aA⟩:=hex;rw [aO hj (Nat.le_refl _) hq aA];refine .inl (S1 j q t hj (fun jG=>?_) (aE j (by omega)) hq aA).symm;subst jG;obtain rfl:=Option.some.inj (hq.symm.trans ou);exact fK (Option.some.inj (eP.symm.trans aA))
    ·have bg:∀ j q,j < n→l[j]? = some q→q.dst≠some t:=fun j q hj hq he=>hex ⟨j,q,hj,hq,he⟩;rw [aI bg,S2 t bg];exact .inl rfl
  have ia:(l.drop (n+1)).all (cU N)=true:=List.all_eq_true.2 fun q hq=>List.all_eq_true.1 hN q (List.mem_of_mem_drop hq);exact l9 (ow:=ow) hN (fun p st a w R h=>⟨st,p,R,h⟩) (l.drop (n+1)) p _ _ w ia R' hK
 ·refine ⟨⟨by simp,fun j oj _ hl=>(by rw [getD_replicate_false] at hl;cases hl),fun t _ ht=>getD_in (by simpa using ht) (getD_replicate_false _ _)⟩,p0,st.s,?_,fun j q d _ _ hl=>(by rw [getD_replicate_false] at hl;cases hl),fun _ _=>rfl,fun hl=>(by rw [getD_replicate_false] at hl;cases hl)⟩;rw [getD_replicate_false,getD_replicate_false];exact R0.later (Below.refl _ _).drew
end
end Go.Proofs.YtoibondihdhnoaaGreatDoor
