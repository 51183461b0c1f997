/- Texts in one: A call that writes to its caller's variables, rows and maps, in a d3b: of every program; no condition. -/
import Derived.Test.YtoibondihdhnoaaGreatDoorFRQ6
import Derived.Test.YtoibondihdhnoaaGreatDoorFRQ11
namespace Go.Proofs.YtoibondihdhnoaaGreatDoor
open Go.RowKit
section
variable {P:Program} {M0:Nat→Nat→Prop} {w0:Bas} {N:Nm} {p:Pl} {st:VS} {a:Act} {w:World} {Q:Exit→VS→Prop}
theorem xb {ow:List Nat} {ops:List Oper} {K:VS→Prop} {Q:Exit→Act→World→Prop} {l2:List Oper} (dM:ops.all (cR N)=true) (hk:∀ p st a w,Rel M0 w0 N p st a w→K st→wpList P ops.toArray Q l2 a w) :
  ∀ (l:List Oper) (p:Pl) (st:VS) (a:Act) (w:World),l.all (cR N)=true→Rel M0 w0 N p st a w→dU P ow ops l st K→wpList P ops.toArray Q (l++l2) a w
 | [],p,st,a,w,_,R,h=>hk p st a w R h
 | o::l,p,st,a,w,hl,R,h=>by
  simp only [List.all_cons,Bool.and_eq_true] at hl;have ih:=fun p st a w=>xb (ow:=ow) (l2:=l2) dM hk l p st a w hl.2;refine wpList_step fun X Y=>?_;simp only [dU,VOp] at h;have ku:VDo P ow o st (fun aI=>dU P ow ops l aI K)→o.wp P a w X Q:=fun h=>xc R hl.1 h fun p st a w R h=>Y _ _ (ih p st a w R h);have mg:dU P ow ops l (st.put o.dst (.lit undef)) K→X (a.put o.dst undef) w:=fun h=>Y _ _ (ih p _ _ w (R.put (dZ hl.1) (.base _ _ (.lit _))) h);split at h
  ·rename_i hg;simp only [Region.wanted,hg,if_true];exact ku h
  ·rename_i j want hg;obtain ⟨ux,zV⟩:=pa (j:=j) R dM;simp only [Region.wanted,hg];split at h
   ·rename_i b hb;rw [ux b hb];by_cases hw:b=want
    ·subst hw;rw [if_pos (by simp)];rw [if_pos rfl] at h;exact ku h
    ·rw [if_neg (by simpa using hw)];rw [if_neg hw] at h;exact mg h
   ·rename_i vs hb;rw [zV vs hb,if_neg (by simp)];exact mg h
   ·exact h.elim
theorem IL {IM:Nat} {l l1 l2:List Oper} (ow:List Nat) (n:Nat) (hl:l.take n=l1∧l.drop n=l2) (h:dU P ow l l1 st fun zW=>∃ mR,(∀ p a w,Rel M0 w0 N p zW a w→∃ p2,Rel M0 w0 N p2 mR a w)∧dU P ow l l2 mR (Q .normal)) : VWp P M0 w0 N (.region IM l.toArray false) Q st:=fun hB p a w R=>by
 have dq:l.all (cR N)=true:=by simpa [e_] using hB
 have ez:l=l1++l2:=by rw [←hl.1,←hl.2,List.take_append_drop]
 have mh:l1.all (cR N)=true:=by
  rw [ez,List.all_append,Bool.and_eq_true] at dq;exact dq.1
 have IN:l2.all (cR N)=true:=by
  rw [ez,List.all_append,Bool.and_eq_true] at dq;exact dq.2
 refine wp_region_lit ?_;have:=xb (P:=P) (M0:=M0) (w0:=w0) (N:=N) (ow:=ow) (ops:=l) (Q:=fun e a' w'=>∃ aI p',Rel M0 w0 N p' aI a' w'∧Q e aI) (l2:=l2) dq (fun p st a w R h=>by
  obtain ⟨mR,h1,h2⟩:=h;obtain ⟨p2,R2⟩:=h1 p a w R;exact mS (ow:=ow) dq (fun p st a w R h=>⟨st,p,R,h⟩) l2 p2 _ a w IN R2 h2) l1 p st a w mh R h
 rw [ez] at this ⊢;exact this
theorem hZ {c:Code} {mR:VS} {Q:Exit→VS→Prop} (h:∀ p a w,Rel M0 w0 N p st a w→∃ p2,Rel M0 w0 N p2 mR a w) (k:VWp P M0 w0 N c Q mR) : VWp P M0 w0 N c Q st:=fun hC p a w R=>
 let ⟨p2,R2⟩:=h p a w R
 k hC p2 a w R2
theorem p9 {h:Hp} {bi:Nat} {dL:List AV} {x ob:Ob} {i:Nat} (hi:(h.set bi (some (.box dL))++[some x])[i]? = some (some ob)) (hb:bi < h.length) : (i=bi∧ob = .box dL)∨(i≠bi∧h[i]? = some (some ob))∨(i=h.length∧ob=x):=by
 rcases Nat.lt_or_ge i h.length with hl|hl
 ·rw [List.getElem?_append_left (by simpa using hl),List.getElem?_set] at hi;by_cases he:bi=i
  ·rw [if_pos he,if_pos hb] at hi;simp only [Option.some.injEq] at hi;exact .inl ⟨he.symm,hi.symm⟩
  ·rw [if_neg he] at hi;exact .inr (.inl ⟨fun h=>he h.symm,hi⟩)
 ·rw [List.getElem?_append_right (by simpa using hl)] at hi;simp only [List.length_set] at hi;cases hh:i - h.length with
  | zero=>
   rw [hh] at hi;simp at hi;exact .inr (.inr ⟨by omega,hi.symm⟩)
  | succ n=>rw [hh] at hi;simp at hi
theorem Rel.nilCell (R:Rel M0 w0 N p st a w) {bi j e sz:Nat} {cs:List AV} (hb:st.h[bi]? = some (some (.box cs))) (hj:cs[j]? = some (.lit (.slice none 0 0))) (aJ:0 < sz) : Rel M0 w0 N p ⟨st.s,st.h.set bi (some (.box (cs.set j (.osl st.h.length))))++[some (.arr e sz true [])]⟩ a w:=by
 have dk:bi < st.h.length:=(List.getElem?_eq_some_iff.1 hb).1;refine (R.reheap _ (by simp) (fun i ob hi hl=>?_) (fun i e sz nl es cC he=>?_) (fun i e sz nl pe qs cC he=>?_) fun i ob hi aq keep=>?_).1
 ·rcases p9 hi dk with ⟨rfl,rfl⟩|⟨_,bo⟩|⟨rfl,rfl⟩
  ·exact ⟨_,hb,rfl⟩
  ·exact ⟨ob,bo,hl⟩
  ·cases hl
 ·rcases p9 he dk with ⟨_,h⟩|⟨_,h⟩|⟨h,_⟩
  ·cases h
  ·exact h
  ·omega
 ·rcases p9 he dk with ⟨_,h⟩|⟨_,h⟩|⟨h,_⟩
  ·cases h
  ·exact h
  ·omega
 ·rcases p9 hi dk with ⟨rfl,rfl⟩|⟨_,bo⟩|⟨rfl,rfl⟩
  ·obtain ⟨h1,cur,e2,h2,h3,h4,h5⟩:=R.objs i _ hb;refine ⟨h1,cur,e2,h2,by simpa using h3,fun c hc=>?_,fun k c hk=>?_⟩
   ·rcases List.mem_or_eq_of_mem_set hc with h|rfl
    ·exact h4 c h
    ·rfl
   ·rw [List.getElem?_set] at hk;by_cases he:j=k
    ·subst he;have bM:j < cs.length:=(List.getElem?_eq_some_iff.1 hj).1;rw [if_pos rfl,if_pos bM] at hk;simp only [Option.some.injEq] at hk;subst hk;obtain ⟨u,hu,hv⟩:=h5 j _ hj;obtain rfl:=hv.lit_inv;refine ⟨_,hu,.osl _ _ _ _ (by simp) (fun e3 uy uz sT iZ=>?_) fun e3 uy uz DN DO iZ=>?_⟩
     ·rw [List.getElem?_append_right (by simp)] at iZ;simp at iZ;obtain ⟨rfl,rfl,rfl,rfl⟩:=iZ;exact ⟨⟨none,rfl⟩,rfl⟩
     ·rw [List.getElem?_append_right (by simp)] at iZ;simp at iZ
    ·rw [if_neg he] at hk;obtain ⟨u,hu,hv⟩:=h5 k c hk;exact ⟨u,hu,keep hv⟩
  ·exact absurd bo aq
  ·exact ⟨aJ,(fun k x hk=>by simp at hk),rfl⟩
end
def xd (τ:Nat→Nat) (H:Hp) : Nat→Hp→Prop
 | _,[]=>True
 | k,o::r=>H[τ k]? = some (o.map (jL τ))∧xd τ H (k+1) r
def xe (n:Nat) (h:Hp) : Bool:=h.all fun o=>match o with|some ob=>oh n ob|none=>true
theorem DP {τ:Nat→Nat} {H:Hp} : ∀ {h:Hp} {i k:Nat},xd τ H i h→k < h.length→H[τ (i+k)]? = (h[k]?).map (Option.map (jL τ))
 | [],i,k,_,hk=>by simp at hk
 | o::r,i,0,hf,_=>by simpa using hf.1
 | o::r,i,k+1,hf,hk=>by
  have:=DP (i:=i+1) (k:=k) hf.2 (by simpa using hk);rw [show i+(k+1)=i+1+k by omega,this];simp
theorem DQ {n:Nat} {h:Hp} (hi:xe n h=true) (k:Nat) (ob:Ob) (hk:h[k]? = some (some ob)) : oh n ob=true:=by
 have:=List.all_eq_true.1 hi (some ob) (List.mem_of_getElem? hk);simpa using this
def DS (σ:List Nat) (L:Nat) : Bool:=decide σ.Nodup&&σ.all fun i=>Nat.blt i L
section
variable (P:Program)
def dv (st:VS) (c:Call) (σ Kr Ko:List Nat) (h':Hp) (r:AV) : Prop:=
 match p_ P (ev st) c with
 | none=>False
 | some (k,xs)=>∃ h args ks,VH P k h args ks h' r∧xs=args.map (jn (tau σ st.h.length) 5)∧args.all (bg h.length 5)=true∧xe h.length h=true∧xe h'.length h'=true∧bg h'.length 5 r=true∧h.length=σ.length∧Nat.ble h.length h'.length=true ∧
   DS σ st.h.length=true∧xd (tau σ st.h.length) st.h 0 h∧zU σ h args ks Kr Ko=true
end
def xf (st:VS) (d:Option Tmp) (σ Kr Ko:List Nat) (h':Hp) (r:AV) : VS:=
 VS.put ⟨p6 (okB σ Kr Ko) st.s,kr σ st.h.length (okB σ Kr Ko) st.h h'⟩ d (jn (tau σ st.h.length) 5 r)
section
variable {P:Program} {M0:Nat→Nat→Prop} {w0:Bas} {N:Nm} {p:Pl} {st:VS} {a:Act} {w w':World}
theorem IP (R:Rel M0 w0 N p st a w) {o:Oper} {c:Call} {σ Kr Ko:List Nat} {h':Hp} {r:AV} {K':Act→World→Prop} {Q:Exit→Act→World→Prop} (cS:o.op = .call c) (hd:cR N o=true) (hc:dv P st c σ Kr Ko h' r)
  (hk:∀ p a w,Rel M0 w0 N p (xf st o.dst σ Kr Ko h' r) a w→K' a w) : o.wp P a w K' Q:=by
 obtain ⟨dst,op,ty,pos,after,guard⟩:=o;simp only at cS;subst cS;obtain ⟨callee,bH,mi⟩:=c;have ak:=dZ hd;unfold dv at hc;split at hc
 ·exact hc.elim
 ·rename_i k xs cK;obtain ⟨h,args,ks,hv,d_,zX,zY,uA,zZ,hlen,hle,rf,dN,dV⟩:=hc;obtain ⟨lj,eA⟩:=hv;obtain ⟨vs,aB,iw,gz⟩:=xg (P:=P) (dst:=dst) (ty:=ty) (pos:=pos) (after:=after) (guard:=guard) (fun x _=>R.eval x) cK lj;have pb:σ.length≤h'.length:=by rw [←hlen];exact Nat.le_of_ble_eq_true hle
  simp only [DS,Bool.and_eq_true,decide_eq_true_eq] at rf;have hn:=rf.1;have hL:∀ i∈σ,i < st.h.length:=fun i hi=>by simpa using List.all_eq_true.1 rf.2 i hi
  have uB:∀ k,k < h.length→∃ i,σ[k]? = some i∧tau σ st.h.length k=i:=fun k hk=>by
   have dH:k < σ.length:=by omega
   exact ⟨σ[k],List.getElem?_eq_getElem dH,by unfold tau;rw [List.getElem?_eq_getElem dH]⟩
  have E:Emb h ⟨fun k=>p (tau σ st.h.length k),fun k=>p.S (tau σ st.h.length k)⟩ st.h p (tau σ st.h.length):=by
   refine ⟨fun k hk=>?_,fun k hk=>?_,fun _ _=>rfl,fun _ _=>rfl⟩
   ·obtain ⟨i,hi,ht⟩:=uB k hk;rw [ht];exact hL i (List.mem_of_getElem? hi)
   ·have:=DP dN hk;rwa [Nat.zero_add] at this
  generalize jN:(⟨fun k=>p (tau σ st.h.length k),fun k=>p.S (tau σ st.h.length k)⟩ : Pl)=pc at E;have aF:∀ k ob,h[k]? = some (some ob)→b_ ob=true→∀ b j,pc.O k b j→o7 σ st.h p b j:=fun k ob hk hl b j hO=>by
   have cB:=(List.getElem?_eq_some_iff.1 hk).1;obtain ⟨i,hi,ht⟩:=uB k cB;refine ⟨tau σ st.h.length k,_,by rw [ht];exact List.mem_of_getElem? hi,oY E hk,by rw [qZ];exact hl,(og E cB).2 hO⟩
  have uq:∀ b j,o7 σ st.h p b j→Mof M0 st.h p b j:=fun b j ⟨i,ob,_,hi,hl,hO⟩=>.inr ⟨i,ob,hi,hl,hO⟩;have uC:∀ b j,¬Mof M0 st.h p b j→¬Mof (oth M0 σ st.h p) h pc b j:=fun b j jq hm=>by
   rcases hm with (hm|⟨i,ob,_,hi,hl,hO⟩)|⟨k,ob,hk,hl,hO⟩
   ·exact jq (.inl hm)
   ·exact jq (.inr ⟨i,ob,hi,hl,hO⟩)
   ·exact jq (uq b j (aF k ob hk hl b j hO))
  have IQ:∀ b j,oth M0 σ st.h p b j→Mof M0 st.h p b j:=fun b j hm=>by
   rcases hm with hm|⟨i,ob,_,hi,hl,hO⟩
   ·exact .inl hm
   ·exact .inr ⟨i,ob,hi,hl,hO⟩
  have z7:∀ b j,oth M0 σ st.h p b j→¬o7 σ st.h p b j:=fun b j hm ⟨i',ob',jM,bo,bn,cw⟩=>by
   rcases hm with hm|⟨i,ob,hs,hi,hl,hO⟩
   ·exact R.h0 b j hm ((R.objs i' ob' bo).own bn b j cw).1
   ·exact hs (by rw [R.inj i i' ob ob' hi bo hl bn b j j hO cw];exact jM)
  have ga:∀ (i:Nat) (x:AV) (v:Value),args[i]? = some x→vs[i]? = some v→V1 w (Mof (oth M0 σ st.h p) h pc) h pc x v:=fun i x v hx hv=>by
   refine V1.back E uC 5 x v (gz i _ v (by rw [d_,List.getElem?_map,hx];rfl) hv) (List.all_eq_true.1 zX x (List.mem_of_getElem? hx))
  unfold Oper.wp;rw [aB];simp only [Oper.upon];refine (eA w (oth M0 σ st.h p) (o7 σ st.h p) pc vs (R.mok.sub IQ) (R.mok.sub uq) z7 (by rw [iw,d_,List.length_map]) ga (fun k ob hk=>?_) (fun k k' ob ob' hk dH hl bn b j j' hO cw=>?_)).mono ?_
  ·exact ObOK.back (w0':=w0) E uC (List.getElem?_eq_some_iff.1 hk).1 (fun hl b j hO=>.inr (aF k ob hk hl b j hO)) (DQ zY k ob hk) (R.objs _ _ (oY E hk))
  ·have cB:=(List.getElem?_eq_some_iff.1 hk).1;have z8:=(List.getElem?_eq_some_iff.1 dH).1;exact IC hn hL (R.inj _ _ _ _ (oY E hk) (oY E dH) (by rw [qZ];exact hl) (by rw [qZ];exact bn) b j j' ((og E cB).2 hO) ((og E z8).2 cw))
  ·rintro en w' ⟨v,q,rfl,hB,hr,hO,hI,rh⟩;simp only [zU,Bool.and_eq_true] at dV;obtain ⟨R2,hres⟩:=R.ret (Kr:=Kr) (Ko:=Ko) hn hL pb hB hO hI (DQ uA) (fun i hi k hk=>by
     have h1:=List.all_eq_true.1 dV.1 i hi;simp only [sR hn hk] at h1;obtain ⟨m,hm,sU⟩:=List.any_eq_true.1 h1;have ha:∃ x,args[m]? = some x:=by
      cases hx:args[m]? with
      | some x=>exact ⟨x,rfl⟩
      | none=>simp [List.getD,hx,sS] at sU
     obtain ⟨x,hx⟩:=ha;have lO:m < vs.length:=by rw [iw,d_,List.length_map];exact (List.getElem?_eq_some_iff.1 hx).1
     have dr:args.getD m .any=x:=by simp [List.getD,hx]
     rw [dr] at sU;rw [IK sU (ga m x _ hx (List.getElem?_eq_getElem lO)) (rh m x _ hm hx (List.getElem?_eq_getElem lO)),←jN];show p (tau σ st.h.length k)=p i;unfold tau;rw [hk]) (fun i hi k hk v hv=>by
     have h1:=List.all_eq_true.1 dV.2 i hi;simp only [sR hn hk,Bool.and_eq_true] at h1;obtain ⟨aP,h1⟩:=h1;obtain ⟨m,hm,sU⟩:=List.any_eq_true.1 h1;have ha:∃ x,args[m]? = some x:=by
      cases hx:args[m]? with
      | some x=>exact ⟨x,rfl⟩
      | none=>simp [List.getD,hx,xa] at sU
     obtain ⟨x,hx⟩:=ha;have lO:m < vs.length:=by rw [iw,d_,List.length_map];exact (List.getElem?_eq_some_iff.1 hx).1
     have dr:args.getD m .any=x:=by simp [List.getD,hx]
     rw [dr] at sU;have IS:x = .osl k:=by
      cases x<;>simp_all [xa]
     subst IS;have b1:=ga m _ _ hx (List.getElem?_eq_getElem lO);have b2:=rh m _ _ hm hx (List.getElem?_eq_getElem lO);have cB:k < h.length:=by rw [hlen];exact (List.getElem?_eq_some_iff.1 hk).1
     have ht:tau σ st.h.length k=i:=by unfold tau;rw [hk]
     have uD:pc k=p i:=by rw [←jN];show p (tau σ st.h.length k)=p i;rw [ht]
     have iM:v=vs[m]:=by
      obtain ⟨A,n1,c1,e1,_,f1⟩:=hv.osl_inv;obtain ⟨_,_,_,_,_,f2⟩:=hv.bag_inv;obtain ⟨A',qa,QL,QM,_,IT⟩:=b1.osl_inv;obtain ⟨_,_,_,_,_,IU⟩:=b1.bag_inv;unfold zT at aP;split at aP
      ·rename_i e sz nl es he;have hH:=oY E he;rw [ht] at hH;have g1:=f1 _ _ _ _ hH;have g2:=IT _ _ _ _ he;rw [uD] at g2;exact g1.uniq (by simpa using aP) (R.objs _ _ hH).1 g2
      ·rename_i e sz nl pe qs he;have hH:=oY E he;rw [ht] at hH;have g1:=f2 _ _ _ _ _ hH;have g2:=IU _ _ _ _ _ he;rw [uD] at g2;exact g1.uniq (by simpa using aP) Nat.one_pos g2
      ·cases aP
     rw [iM];exact b2)
   have ri:=hres r v hr zZ;refine hk (iW σ st.h.length p q) _ _ ?_;unfold xf;cases dst with
   | none=>exact R2
   | some d=>exact R2.putS (ak d rfl) ri
def VL (P:Program) (M0:Nat→Nat→Prop) (w0:Bas) (N:Nm) (ops:List Oper) (Q:Exit→VS→Prop) (l:List Oper) (st:VS) : Prop:=
 ops.all (cR N)=true→l.all (cR N)=true→∀ p a w,Rel M0 w0 N p st a w→wpList P ops.toArray (fun e a' w'=>∃ aI p',Rel M0 w0 N p' aI a' w'∧Q e aI) l a w
variable {ops l:List Oper} {Q:Exit→VS→Prop}
theorem cF (h:Q .normal st) : VL P M0 w0 N ops Q [] st:=fun _ _ p _a _w R=>wpList_nil ⟨st,p,R,h⟩
theorem bb (ow:List Nat) (n:Nat) {l1 l2:List Oper} (hl:l.take n=l1∧l.drop n=l2) (h:dU P ow ops l1 st fun aI=>VL P M0 w0 N ops Q l2 aI) : VL P M0 w0 N ops Q l st:=fun dM hB p a w R=>by
 have ez:l=l1++l2:=by rw [←hl.1,←hl.2,List.take_append_drop]
 rw [ez,List.all_append,Bool.and_eq_true] at hB;have:=xb (P:=P) (M0:=M0) (w0:=w0) (N:=N) (ow:=ow) (ops:=ops) (Q:=fun e a' w'=>∃ aI p',Rel M0 w0 N p' aI a' w'∧Q e aI) (l2:=l2) dM (fun p st a w R h=>h dM hB.2 p a w R) l1 p st a w hB.1 R h;rw [ez];exact this
theorem z_ {mR:VS} (h:∀ p a w,Rel M0 w0 N p st a w→∃ p2,Rel M0 w0 N p2 mR a w) (k:VL P M0 w0 N ops Q l mR) : VL P M0 w0 N ops Q l st:=fun h1 h2 p a w R=>
 let ⟨p2,R2⟩:=h p a w R
 k h1 h2 p2 a w R2
def Aa (ops:List Oper) (st:VS) (o:Oper) : Prop:=match o.guard with
 | none=>True
 | some (j,want)=>cY ops st j = .lit (.bool want)
theorem dI {o:Oper} {c:Call} (σ Kr Ko:List Nat) (h':Hp) (r:AV) (cS:o.op = .call c) (hg:Aa ops st o) (hc:dv P st c σ Kr Ko h' r) (k:VL P M0 w0 N ops Q l (xf st o.dst σ Kr Ko h' r)) : VL P M0 w0 N ops Q (o::l) st:=fun dM hB p a w R=>by
 simp only [List.all_cons,Bool.and_eq_true] at hB;refine wpList_step fun X Y=>?_;have ku:o.wp P a w X (fun e a' w'=>∃ aI p',Rel M0 w0 N p' aI a' w'∧Q e aI):=IP R cS hB.1 hc fun p a w R=>Y _ _ (k dM hB.2 p a w R);unfold Aa at hg;split at hg
 ·rename_i mf;simp only [Region.wanted,mf,if_true];exact ku
 ·rename_i j want mf;obtain ⟨ux,_⟩:=pa (j:=j) R dM;simp only [Region.wanted,mf,ux want hg];rw [if_pos (by simp)];exact ku
theorem dm {id:Nat} (h:VL P M0 w0 N l Q l st) : VWp P M0 w0 N (.region id l.toArray false) Q st:=fun hB p a w R=>by
 have dq:l.all (cR N)=true:=by simpa [e_] using hB
 exact wp_region_lit (h dq dq p a w R)
end
end Go.Proofs.YtoibondihdhnoaaGreatDoor
namespace Go.Proofs.YtoibondihdhnoaaGreatDoor
attribute [go_sem] p6 okB okA uk mO mP kr xf jn jL tau jo xd xe zU sS xa zT Aa w9 p7 w_ DJ
end Go.Proofs.YtoibondihdhnoaaGreatDoor
