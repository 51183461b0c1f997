/- Texts in one: A drawing region that calls for a row of the call's own and stores it into an older row; operations that read other variables may come behind: of every program; no condition. Printed by mkstore3.py. -/
import Derived.Test.YtoibondihdhnoaaGreatDoorFRK8
import Derived.Test.YtoibondihdhnoaaGreatDoorFRK15
namespace Go.Proofs.YtoibondihdhnoaaGreatDoor
open Go.RowKit
def CR (l:List Oper) (n c:Nat) (js:List Nat) : Bool:=fM l n n c&&(List.range n).all fun i=>((i == c || fM l n c i) || (match l[i]? with|some o=>uj o|none=>false)) || (js.contains i&&(match l[i]? with|some o=>wL o|none=>false))
section
variable {P:Program} {M0:Nat→Nat→Prop} {w0:Bas} {N:Nm} {p:Pl} {st:VS} {a:Act} {w:World} {Q:Exit→VS→Prop}
theorem OE {id:Nat} {l:List Oper} (n c:Nat) (js:List Nat) (ow:List Nat) {k e sz dc:Nat} {nl:Bool} {es:List (List AV)} {args:List AV} {xs:Array Operand} {ln:Array TypeId} (g:VCo P k args e sz nl es) (hm:P.follows .mixedOrders=true) (hB:Region.specB l.toArray (n+1)=true) (xR:c < n) (hL:CR l n c js=true) {so oc:Oper} {ty:TypeId} {x y:Operand} (h_:l[n]? = some so) (mo:so.guard=none∧so.dst=none) (lj:so.op = .store ty x y)
  (n7:l[c]? = some oc) (GF:oc.op = .call ⟨.value (.func k),xs,ln⟩∧oc.dst=some dc∧oc.guard=none)
  (h:iE P l (fun i=>i == c) (l.take n) 0 st fun T=>xs.toList.map (ev T)=args∧args.all (fh 5)=true∧∃ h1,j9 P ow ⟨(dc,.osl st.h.length)::T.s,st.h++[some (.arr e sz nl es)]⟩ so=some ⟨(dc,.osl st.h.length)::T.s,h1⟩∧p6 P T (st.h++[some (.arr e sz nl es)]) l js∧p6 P T h1 l js∧ef P ow l (l.drop (n+1)) ⟨(dc,.osl st.h.length)::T.s,h1⟩ (Q .normal)) : VWp P M0 w0 N (.region id l.toArray true) Q st:=fun iS p0 a0 s8 R0=>by
 have hN:l.all (cX N)=true:=by simpa [fk] using iS
 obtain ⟨rs,dQ,⟨fg,kg,h1,fD,sQ,wM,hK⟩,Sx,nP⟩:=rK _ _ _ h;obtain ⟨o7,gD,o8⟩:=GF;have dm:=hB;simp only [Region.specB,Bool.and_eq_true,decide_eq_true_eq] at dm;obtain ⟨⟨⟨⟨⟨⟨_,aJ⟩,_⟩,_⟩,hd⟩,bh⟩,_⟩:=dm;have eZ:n+1 < l.length:=by simpa using aJ
 have dv:dW (l.take (n+1))=true:=by simpa using hd
 have qi:dW (l.take n)=true:=by
  have:=mq (l.take (n+1)) n dv;rwa [List.take_take,Nat.min_eq_left (Nat.le_succ n)] at this
 have hlen:(l.take n).length=n:=by simp;omega
 rw [hlen] at dQ;have bb:∀ {i:Nat} {o:Oper},i < n→l[i]? = some o→(l.take n)[i]? = some o:=fun {i o} hi ho=>by rw [List.getElem?_take_of_lt hi];exact ho
 have gK:∀ {i:Nat} {o:Oper},i < n+1→l[i]? = some o→(l.take (n+1))[i]? = some o:=fun {i o} hi ho=>by rw [List.getElem?_take_of_lt hi];exact ho
 have jA:∀ {i:Nat} {o:Oper},(l.take n)[i]? = some o→i < n∧l[i]? = some o:=fun {i o} ho=>by
  have hi:i < n:=by have:=(List.getElem?_eq_some_iff.1 ho).1;omega
  rw [List.getElem?_take_of_lt hi] at ho;exact ⟨hi,ho⟩
 have dX:∀ {i:Nat},i < n→rs[i]? = some (rs.getD i .any):=fun {i} hi=>by simp [List.getD,show i < rs.length by omega]
 have cn:∀ i,i < n+1→∀ o,l[i]? = some o→∀ t∈o.looksAt l.toArray,∀ j,j < n+1→∀ q,l[j]? = some q→q.dst=some t→Region.waitsFor .any l.toArray i j=true∧j < i:=by
  intro i hi o ho;have h:=List.all_eq_true.1 bh i (List.mem_range.2 hi);simp only [List.getElem?_toArray,ho,Bool.and_eq_true] at h;have fm:∀ e∈o.after,Region.binds .any e=true→e.on < i:=fun e he hb=>by
   have h1:=Array.all_eq_true'.1 h.2 e he;simp only [hb,Bool.not_true,Bool.false_or,decide_eq_true_eq] at h1;exact h1
  intro t ht j hj q hq aE;have h1:=List.all_eq_true.1 (List.all_eq_true.1 h.1 t ht) j (List.mem_range.2 hj);simp only [hq,Option.bind_some,aE,bne_self_eq_false,Bool.false_or] at h1;refine ⟨h1,?_⟩;obtain ⟨o',aM,e,he,hb,cA⟩:=Region.waitsFor_spec h1;have:o'=o:=Option.some.inj (aM.symm.trans (by simpa using ho));subst this;rw [←cA];exact fm e he hb
 have aV:∀ {i j:Nat} {q:Oper} {t:Nat},j < i→i≤n→l[j]? = some q→q.dst=some t→lkp (aH st ((l.take n).take i) (rs.take i)).s t=rs.getD j .any:=fun {i j q t} hj hi hq ht=>
  mr ((l.take n).take i) (rs.take i) st t j q (rs.getD j .any) (mq _ _ qi) (by rw [List.getElem?_take_of_lt hj];exact bb (by omega) hq) (by rw [List.getElem?_take_of_lt hj];exact dX (by omega)) ht
 have aO:∀ {i t:Nat},(∀ j q,j < n→l[j]? = some q→q.dst≠some t)→lkp (aH st ((l.take n).take i) (rs.take i)).s t=lkp st.s t:=fun {i t} ho=>
  lR _ _ _ _ fun q hq he=>by
   obtain ⟨j,hj⟩:=List.mem_iff_getElem?.1 (List.mem_of_mem_take hq);obtain ⟨h1,h2⟩:=jA hj;exact ho j q h1 h2 he
 have ba:aH st (l.take n) rs=aH st ((l.take n).take n) (rs.take n):=by
  rw [List.take_of_length_le (l:=l.take n) (by rw [hlen];exact Nat.le_refl _),List.take_of_length_le (l:=rs) (by omega)]
 have CS:fM l n n c=true:=by
  unfold CR at hL;rw [Bool.and_eq_true] at hL;exact hL.1
 have OF:∀ i,i < n→((i=c∨fM l n c i=true)∨(match l[i]? with|some o=>uj o|none=>false)=true)∨(js.contains i&&(match l[i]? with|some o=>wL o|none=>false))=true:=fun i hi=>by
  unfold CR at hL;rw [Bool.and_eq_true] at hL;have:=List.all_eq_true.1 hL.2 i (List.mem_range.2 hi);simpa only [Bool.or_eq_true,beq_iff_eq] using this
 have wN:rs.getD c .any = .any:=by
  have:=nP c oc (by simp) (bb xR n7);rw [List.getD_eq_getElem?_getD,this];rfl
 have CT:∀ {k:Nat},c < k→k≤n→lkp (aH st ((l.take n).take k) (rs.take k)).s dc = .any:=fun lK jU=>by
  rw [aV lK jU n7 gD,wN]
 refine wp_region_any hm ?_;refine rC (Inv:=fun listed a w=>HeadInv .any l.toArray (n+1) listed∧∃ (p:Pl) (s:List (Nat×AV)),Rel M0 w0 N p ⟨s,if listed.getD n false=true then h1 else if listed.getD c false=true then st.h++[some (.arr e sz nl es)] else st.h⟩ a w∧(∀ (j:Nat) (q:Oper) (d:Nat),j < n→j≠c→listed.getD j false=true→l[j]? = some q→q.dst=some d→lkp s d=rs.getD j .any)∧(∀ t,(∀ j q,j < n→l[j]? = some q→q.dst≠some t)→lkp s t=lkp st.s t)∧(listed.getD c false=true→lkp s dc = .osl st.h.length)) hB (fun _ _ _ inv=>inv.1) ?_ ?_ _ _ _ _ ?_ (by simp)
 ·rintro listed a w i o ⟨head,p,s,R,S1,S2,S3⟩ hi bc ho e8;have aM:l[i]? = some o:=by simpa using ho
  obtain ⟨_,o2,kL,cW⟩:=mem_ready.1 hi;have:o2=o:=Option.some.inj (kL.symm.trans ho);subst this;have bF:i < listed.size:=by rw [head.size];simpa using (by omega:i < l.length)
  have bW:(listed.setIfInBounds i true).getD i false=true:=by simp [bF]
  have a_:∀ {j:Nat},i≠j→(listed.setIfInBounds i true).getD j false=listed.getD j false:=fun au=>getD_set_ne false au;have bK:∀ j,Region.waitsFor .any l.toArray i j=true→listed.getD j false=true:=by
   intro j hj;obtain ⟨o3,lS,e,he,hb,cA⟩:=Region.waitsFor_spec hj;have:o3=o2:=Option.some.inj (lS.symm.trans ho);subst this;rw [←cA];exact cW e he hb
  have jw:∀ {m i':Nat},listed.getD m false=true→fM l n m i'=true→listed.getD i' false=true:=fun {m i'} oM fL=>
   nf head n m i' (fun j hj=>by
    obtain ⟨o6,kM,e,he,fo,cA⟩:=Region.waitsFor_spec hj;have:=head.closed m o6 kM oM e he fo;rwa [cA] at this) fL
  have cP:∀ {k:Nat},i≤k→k≤n→∀ t∈o2.looksAt l.toArray,t≠dc→lkp (aH st ((l.take n).take k) (rs.take k)).s t=lkp s t:=fun {k} qk jU t ht fN=>by
   by_cases hex:∃ (j:Nat) (q:Oper),j < n∧l[j]? = some q∧q.dst=some t
   ·obtain ⟨j,q,hj,hq,aE⟩:=hex;obtain ⟨h1,h2⟩:=cn i bc o2 aM t ht j (by omega) q hq aE;rw [aV (by omega) jU hq aE];refine (S1 j q t hj (fun eV=>?_) (bK j h1) hq aE).symm;subst eV;obtain rfl:=Option.some.inj (hq.symm.trans n7);exact fN (Option.some.inj (aE.symm.trans gD))
   ·have bm:∀ j q,j < n→l[j]? = some q→q.dst≠some t:=fun j q hj hq he=>hex ⟨j,q,hj,hq,he⟩;rw [aO bm,S2 t bm]
  have wO:∀ t∈o2.looksAt l.toArray,t=dc→c < i:=fun t ht fN=>(cn i bc o2 aM t ht c (by omega) oc n7 (by rw [gD,fN])).2;have wP:∀ t∈o2.looksAt l.toArray,lkp (aH st ((l.take n).take i) (rs.take i)).s t=lkp s t∨lkp (aH st ((l.take n).take i) (rs.take i)).s t = .any:=fun t ht=>by
   by_cases fN:t=dc
   ·subst fN;exact .inr (CT (wO _ ht rfl) (by omega))
   ·exact .inl (cP (Nat.le_refl _) (by omega) t ht fN)
  have cg:∀ {j:Nat} {q:Oper} {d d':Nat},j < n→j≠i→l[j]? = some q→q.dst=some d→o2.dst=some d'→d'≠d:=fun {j q d d'} hj cK hq aE dY he=>by
   subst he;exact cK (na dv (gK (by omega) hq) (gK bc aM) aE dY)
  by_cases pr:i=n
  ·subst pr;have:o2=so:=Option.some.inj (aM.symm.trans h_);subst this;have cY:=getD_both e8;have jE:listed.getD c false=true:=nf head i i c bK CS;rw [cY] at R;simp only [Bool.false_eq_true,if_false,jE,if_true] at R;have oB:∀ z:Operand,z∈o2.op.operands→ev ⟨s,st.h++[some (.arr e sz nl es)]⟩ z=ev ⟨(dc,.osl st.h.length)::(aH st (l.take i) rs).s,st.h++[some (.arr e sz nl es)]⟩ z:=fun z hz=>by
    cases z with
    | tmp t=>
     show lkp s t=lkp ((dc,.osl st.h.length)::_) t;rw [lkp];by_cases fN:dc=t
     ·rw [if_pos fN,←fN];exact S3 jE
     ·rw [if_neg fN,ba];exact (cP (Nat.le_refl _) (Nat.le_refl _) t (List.mem_append_left _ (List.mem_filterMap.2 ⟨.tmp t,by simpa using hz,rfl⟩)) (Ne.symm fN)).symm
    | const v=>rfl
    | global g=>rfl
    | func f=>rfl
   have fV:=OG (T:=⟨(dc,.osl st.h.length)::(aH st (l.take i) rs).s,st.h++[some (.arr e sz nl es)]⟩) (s:=s) lj (oB x (by rw [lj];simp [Op.operands])) (oB y (by rw [lj];simp [Op.operands])) fD;obtain ⟨v,w',p',hh⟩:=Cq (P:=P) R (List.all_eq_true.1 hN o2 (List.mem_of_getElem? aM)) fV;have fin:∀ v p',Rel M0 w0 N p' ⟨s,h1⟩ (a.put o2.dst v) w'→(fun listed a w=>HeadInv .any l.toArray (i+1) listed∧∃ (p:Pl) (s:List (Nat×AV)),Rel M0 w0 N p ⟨s,if listed.getD i false=true then h1 else if listed.getD c false=true then st.h++[some (.arr e sz nl es)] else st.h⟩ a w∧(∀ (j:Nat) (q:Oper) (d:Nat),j < i→j≠c→listed.getD j false=true→l[j]? = some q→q.dst=some d→lkp s d=rs.getD j .any)∧(∀ t,(∀ j q,j < i→l[j]? = some q→q.dst≠some t)→lkp s t=lkp st.s t)∧(listed.getD c false=true→lkp s dc = .osl st.h.length)) (listed.setIfInBounds i true) (a.put o2.dst v) w':=fun v p' R'=>by
    refine ⟨head.set hi bc,p',s,by rw [bW];exact R',fun j q d hj eV hl hq aE=>?_,S2,fun _=>S3 jE⟩;rw [a_ (by omega)] at hl;exact S1 j q d hj eV hl hq aE
   unfold wpOp;simp only [ho];rw [if_pos (by simp [Region.wanted,mo.1])];refine Or.inl ?_;unfold Oper.wp;rcases hh with ⟨h2,h3⟩|⟨h2,_,h3⟩
   ·rw [h2];exact fin _ _ h3
   ·rw [h2];exact fin _ _ h3
  have cZ:i < n:=by omega
  by_cases mF:i=c
  ·subst mF;have:o2=oc:=Option.some.inj (aM.symm.trans n7);subst this;have cY:=getD_both e8;have aJ:listed.getD n false=false:=by
    cases hb:listed.getD n false
    ·rfl
    ·rw [jw hb CS] at cY;cases cY
   rw [aJ,cY] at R;simp only [Bool.false_eq_true,if_false] at R;unfold wpOp;simp only [ho];rw [if_pos (by simp [Region.wanted,o8])];refine Or.inl ?_;have oh:xs.toList.map (ev ⟨s,st.h⟩)=args:=by
    rw [←fg];refine List.map_congr_left fun z hz=>?_;cases z with
    | tmp t=>
     show lkp s t=lkp _ t;have c_:t∈o2.looksAt l.toArray:=List.mem_append_left _ (List.mem_filterMap.2 ⟨.tmp t,by
      have:(Operand.tmp t)∈o2.op.operands:=by rw [o7];simp only [Op.operands,Call.operands];exact Array.mem_append_right _ (by simpa using hz)
      simpa using this,rfl⟩)
     rw [ba];refine (cP (by omega) (Nat.le_refl _) t c_ fun fN=>?_).symm;have:=wO t c_ fN;omega
    | const v=>rfl
    | global g=>rfl
    | func f=>rfl
   refine ta (E:=ev ⟨s,st.h⟩) o7 gD (by rw [oh];exact g) (by rw [oh];exact kg) (List.all_eq_true.1 hN o2 (List.mem_of_getElem? aM)) p a w s R (fun z _=>rfl) _ _ fun p' a' w' R'=>?_;have ky:∀ t,lkp ((dc,AV.osl st.h.length)::s) t=if dc=t then .osl st.h.length else lkp s t:=fun t=>by
    rw [lkp]
   have R2:Rel M0 w0 N p' ⟨(dc,.osl st.h.length)::s,st.h++[some (.arr e sz nl es)]⟩ a' w':=by simpa using R'
   refine ⟨head.set hi bc,p',_,by rw [a_ pr,bW,aJ];exact R2,fun j q d hj eV hl hq aE=>?_,fun t ht=>?_,fun _=>?_⟩
   ·rw [ky,if_neg (fun he=>cg hj eV hq aE gD he)];rw [a_ (Ne.symm eV)] at hl;exact S1 j q d hj eV hl hq aE
   ·rw [ky,if_neg fun he=>ht i o2 xR n7 (by rw [gD,he])];exact S2 t ht
   ·rw [ky,if_pos rfl]
  ·have aj:=(Sx i o2 (rs.getD i .any) (by simpa using mF) (bb cZ aM) (dX cZ)).1;have eH:((listed.setIfInBounds i true).getD n false)=listed.getD n false:=a_ pr;have oi:((listed.setIfInBounds i true).getD c false)=listed.getD c false:=a_ mF;have fin:∀ v w',V1 w' (Mof M0 (if listed.getD n false=true then h1 else if listed.getD c false=true then st.h++[some (.arr e sz nl es)] else st.h) p) (if listed.getD n false=true then h1 else if listed.getD c false=true then st.h++[some (.arr e sz nl es)] else st.h) p (rs.getD i .any) v→Below w.heap.size w w'→(fun listed a w=>HeadInv .any l.toArray (n+1) listed∧∃ (p:Pl) (s:List (Nat×AV)),Rel M0 w0 N p ⟨s,if listed.getD n false=true then h1 else if listed.getD c false=true then st.h++[some (.arr e sz nl es)] else st.h⟩ a w∧(∀ (j:Nat) (q:Oper) (d:Nat),j < n→j≠c→listed.getD j false=true→l[j]? = some q→q.dst=some d→lkp s d=rs.getD j .any)∧(∀ t,(∀ j q,j < n→l[j]? = some q→q.dst≠some t)→lkp s t=lkp st.s t)∧(listed.getD c false=true→lkp s dc = .osl st.h.length)) (listed.setIfInBounds i true) (a.put o2.dst v) w':=fun v w' hv hb=>by
    have R':=(R.later hb).put (d:=o2.dst) (fw (List.all_eq_true.1 hN o2 (List.mem_of_getElem? aM))) hv;have cL:(VS.put ⟨s,if listed.getD n false=true then h1 else if listed.getD c false=true then st.h++[some (.arr e sz nl es)] else st.h⟩ o2.dst (rs.getD i .any))=⟨(VS.put ⟨s,if listed.getD n false=true then h1 else if listed.getD c false=true then st.h++[some (.arr e sz nl es)] else st.h⟩ o2.dst (rs.getD i .any)).s,if listed.getD n false=true then h1 else if listed.getD c false=true then st.h++[some (.arr e sz nl es)] else st.h⟩:=by cases o2.dst<;>rfl
    rw [cL] at R';refine ⟨head.set hi bc,p,_,by rw [eH,oi];exact R',fun j q d hj eV hl hq aE=>?_,fun t ht=>?_,fun hl=>?_⟩
    ·rw [gr];by_cases cK:j=i
     ·subst cK;have:q=o2:=Option.some.inj (hq.symm.trans aM);subst this;rw [if_pos aE]
     ·rw [if_neg fun e=>cg hj cK hq aE e rfl];rw [a_ (Ne.symm cK)] at hl;exact S1 j q d hj eV hl hq aE
    ·rw [gr,if_neg (ht i o2 cZ aM)];exact S2 t ht
    ·rw [oi] at hl;rw [gr,if_neg fun e=>cg xR (Ne.symm mF) n7 gD e rfl];exact S3 hl
   have o9:∀ {h':Hp},p6 P (aH st (l.take n) rs) h' l js→(js.contains i&&(match l[i]? with|some o=>wL o|none=>false))=true→dJ P st.h (ev (aH st ((l.take n).take i) (rs.take i))) o2.op (rs.getD i .any)→dJ P h' (ev (aH st ((l.take n).take i) (rs.take i))) o2.op (rs.getD i .any):=fun {h'} g_ h2 hg=>by
    simp only [aM,Bool.and_eq_true,List.contains_iff_mem] at h2;obtain ⟨c_,o9⟩:=h2;obtain ⟨z,gM,G_⟩:=Ha g_ c_ aM;unfold wL at o9;rw [Bool.and_eq_true] at o9;have hh:∀ u∈o2.looksAt l.toArray,lkp (aH st ((l.take n).take i) (rs.take i)).s u=lkp (aH st (l.take n) rs).s u:=fun u hu=>by
     rw [ba];by_cases hex:∃ (j:Nat) (q:Oper),j < n∧l[j]? = some q∧q.dst=some u
     ·obtain ⟨j,q,hj,hq,aE⟩:=hex;obtain ⟨_,h5⟩:=cn i bc o2 aM u hu j (by omega) q hq aE;rw [aV h5 (by omega) hq aE,aV hj (Nat.le_refl _) hq aE]
     ·have bm:∀ j q,j < n→l[j]? = some q→q.dst≠some u:=fun j q hj hq he=>hex ⟨j,q,hj,hq,he⟩;rw [aO bm,aO bm]
    obtain ⟨dst,op,OH,pos,after,guard⟩:=o2;simp only at o9 gM G_ hg hh ⊢;cases op with
    | load tt xx=>
     cases xx with
     | tmp u=>
      have hu:u∈Oper.looksAt l.toArray ⟨dst,.load tt (.tmp u),OH,pos,after,guard⟩:=List.mem_append_left _ (List.mem_filterMap.2 ⟨.tmp u,by simp [Op.operands],rfl⟩);have he:ev (aH st ((l.take n).take i) (rs.take i)) (.tmp u)=ev (aH st (l.take n) rs) (.tmp u):=hh u hu;have OI:(aH st (l.take n) rs).h=st.h:=eP ..;rw [OI] at gM;have:rs.getD i .any=z:=OJ he hg gM;rw [this];exact OK he.symm G_
     | const v=>cases o9.2
     | global g=>cases o9.2
     | func f=>cases o9.2
    | _=>cases o9.2
   have bL:dJ P st.h (ev (aH st ((l.take n).take i) (rs.take i))) o2.op (rs.getD i .any)→gives P o2 a w fun v w''=>V1 w'' (Mof M0 (if listed.getD n false=true then h1 else if listed.getD c false=true then st.h++[some (.arr e sz nl es)] else st.h) p) (if listed.getD n false=true then h1 else if listed.getD c false=true then st.h++[some (.arr e sz nl es)] else st.h) p (rs.getD i .any) v∧Below w.heap.size w w'':=by
    intro hg;have bu:listed.getD c false=true→((match l[i]? with|some o=>uj o|none=>false)=true)∨(js.contains i&&(match l[i]? with|some o=>wL o|none=>false))=true:=fun jE=>by
     rcases OF i cZ with ((h2|h2)|h2)|h2
     ·exact absurd h2 mF
     ·have:=jw jE h2;rw [getD_both e8] at this;cases this
     ·exact .inl h2
     ·exact .inr h2
    have fA:dJ P (if listed.getD n false=true then h1 else if listed.getD c false=true then st.h++[some (.arr e sz nl es)] else st.h) (ev (aH st ((l.take n).take i) (rs.take i))) o2.op (rs.getD i .any):=by
     split
     ·rename_i kO;rcases bu (jw kO CS) with h2|h2
      ·rw [aM] at h2;exact CU h2 hg
      ·exact o9 wM h2 hg
     ·split
      ·rename_i jE;rcases bu jE with h2|h2
       ·rw [aM] at h2;exact CU h2 hg
       ·exact o9 sQ h2 hg
      ·exact hg
    refine oC R.objs R.mok R.h0 R.glob (fun _ _ hb=>.inl hb) (fun x hx=>?_) fA;cases x with
    | tmp t=>
     show V1 _ _ _ _ (lkp (aH st ((l.take n).take i) (rs.take i)).s t) _;rcases wP t (List.mem_append_left _ (List.mem_filterMap.2 ⟨.tmp t,by simpa using hx,rfl⟩)) with h2|h2
     ·rw [h2];exact R.slots t
     ·rw [h2];exact .base _ _ (.any _)
    | const v=>exact .base _ _ (.lit v)
    | global g=>exact .base _ _ (R.evalG g)
    | func f=>exact .base _ _ (.lit _)
   have hy:=fun j=>oA (ops:=l) (j:=j) R hN;have bG:∀ (j:Nat) (want:Bool) (v:Value),o2.guard=some (j,want)→db l (aH st ((l.take n).take i) (rs.take i)) j = .lit v→db l ⟨s,if listed.getD n false=true then h1 else if listed.getD c false=true then st.h++[some (.arr e sz nl es)] else st.h⟩ j = .lit v:=by
    intro j want v hg hv;unfold db at hv ⊢;cases hj:l[j]? with
    | none=>simpa [hj] using hv
    | some q=>
     cases hq:q.dst with
     | none=>simpa [hj,hq] using hv
     | some d=>
      have c_:d∈o2.looksAt l.toArray:=by
       unfold Oper.looksAt;refine List.mem_append_right _ ?_;simp [hg,hj,hq]
      simp only [hj,hq] at hv ⊢;rcases wP d c_ with h2|h2
      ·rw [←h2];exact hv
      ·rw [h2] at hv;cases hv
   unfold wpOp;simp only [ho];unfold jV at aj;split at aj
   ·rename_i hg;rw [if_pos (by simp [Region.wanted,hg])];rw [eP] at aj;exact Or.inl (jB (bL aj) rfl fun v w' hv=>fin v w' hv.1 hv.2)
   ·rename_i j want hg;split at aj
    ·rename_i b hb;have eQ:=(hy j).1 b (bG j want _ hg hb);split at aj
     ·rename_i hw;subst hw;rw [if_pos (by simp [Region.wanted,hg,eQ])];rw [eP] at aj;exact Or.inl (jB (bL aj) rfl fun v w' hv=>fin v w' hv.1 hv.2)
     ·rename_i hw;rw [if_neg (by simpa [Region.wanted,hg,eQ] using hw)];exact fin undef w (by rw [aj];exact .base _ _ (.lit _)) (Below.refl _ _)
    ·rename_i us hb;have eQ:=(hy j).2 us (bG j want _ hg hb);rw [if_neg (by simp [Region.wanted,hg,eQ])];exact fin undef w (by rw [aj];exact .base _ _ (.lit _)) (Below.refl _ _)
    ·exact aj.elim
 ·rintro listed a w ⟨head,p,s,R,S1,S2,S3⟩ aG;rw [aG n (by omega)] at R;simp only [if_true] at R;have R':=R.weak (s':=(dc,.osl st.h.length)::(aH st (l.take n) rs).s) fun t=>by
   show lkp ((dc,.osl st.h.length)::(aH st (l.take n) rs).s) t=lkp s t∨_;rw [lkp];by_cases fN:dc=t
   ·rw [if_pos fN,←fN];exact .inl (S3 (aG c (by omega))).symm
   ·rw [if_neg fN,ba];by_cases hex:∃ (j:Nat) (q:Oper),j < n∧l[j]? = some q∧q.dst=some t
    ·obtain ⟨j,q,hj,hq,aE⟩:=hex;rw [aV hj (Nat.le_refl _) hq aE];refine .inl (S1 j q t hj (fun eV=>?_) (aG j (by omega)) hq aE).symm;subst eV;obtain rfl:=Option.some.inj (hq.symm.trans n7);exact fN (Option.some.inj (gD.symm.trans aE))
    ·have bm:∀ j q,j < n→l[j]? = some q→q.dst≠some t:=fun j q hj hq he=>hex ⟨j,q,hj,hq,he⟩;rw [aO bm,S2 t bm];exact .inl rfl
  have iC:(l.drop (n+1)).all (cX N)=true:=List.all_eq_true.2 fun q hq=>List.all_eq_true.1 hN q (List.mem_of_mem_drop hq);exact mn (ow:=ow) hN (fun p st a w R h=>⟨st,p,R,h⟩) (l.drop (n+1)) p _ _ w iC R' hK
 ·refine ⟨⟨by simp,fun j oj _ hl=>(by rw [getD_replicate_false] at hl;cases hl),fun t _ ht=>getD_in (by simpa using ht) (getD_replicate_false _ _)⟩,p0,st.s,?_,fun j q d _ _ hl=>(by rw [getD_replicate_false] at hl;cases hl),fun _ _=>rfl,fun hl=>(by rw [getD_replicate_false] at hl;cases hl)⟩;rw [getD_replicate_false,getD_replicate_false];exact R0.later (Below.refl _ _).drew
end
end Go.Proofs.YtoibondihdhnoaaGreatDoor
