/- Texts in one: A call that writes to its caller's variables, rows and maps, in a d7b: of every program; no condition. -/
import Derived.Test.YtoibondihdhnoaaGreatDoorFRZ5
import Derived.Test.YtoibondihdhnoaaGreatDoorFRZ10
namespace Go.Proofs.YtoibondihdhnoaaGreatDoor
open Go.RowKit
section
variable {P:Program} {M0:Nat→Nat→Prop} {w0:Bas} {N:Nm} {p:Pl} {st:VS} {a:Act} {w:World} {Q:Exit→VS→Prop}
theorem Eb {ow:List Nat} {ops:List Oper} {K:VS→Prop} {Q:Exit→Act→World→Prop} {l2:List Oper} (dU:ops.all (dz N)=true) (hk:∀ p st a w,Rel M0 w0 N p st a w→K st→wpList P ops.toArray Q l2 a w) :
  ∀ (l:List Oper) (p:Pl) (st:VS) (a:Act) (w:World),l.all (dz N)=true→Rel M0 w0 N p st a w→eA P ow ops l st K→wpList P ops.toArray Q (l++l2) a w
 | [],p,st,a,w,_,R,h=>hk p st a w R h
 | o::l,p,st,a,w,hl,R,h=>by
  simp only [List.all_cons,Bool.and_eq_true] at hl;have ih:=fun p st a w=>Eb (ow:=ow) (l2:=l2) dU hk l p st a w hl.2;refine wpList_step fun X Y=>?_;simp only [eA,VOp] at h;have nH:VDo P ow o st (fun aR=>eA P ow ops l aR K)→o.wp P a w X Q:=fun h=>Ec R hl.1 h fun p st a w R h=>Y _ _ (ih p st a w R h);have l6:eA P ow ops l (st.put o.dst (.lit undef)) K→X (a.put o.dst undef) w:=fun h=>Y _ _ (ih p _ _ w (R.put (fL hl.1) (.base _ _ (.lit _))) h);split at h
  ·rename_i hg;simp only [Region.wanted,hg,if_true];exact nH h
  ·rename_i j want hg;obtain ⟨uy,Av⟩:=rf (j:=j) R dU;simp only [Region.wanted,hg];split at h
   ·rename_i b hb;rw [uy b hb];by_cases hw:b=want
    ·subst hw;rw [if_pos (by simp)];rw [if_pos rfl] at h;exact nH h
    ·rw [if_neg (by simpa using hw)];rw [if_neg hw] at h;exact l6 h
   ·rename_i vs hb;rw [Av vs hb,if_neg (by simp)];exact l6 h
   ·exact h.elim
theorem fa {c:Code} {rh:VS} {Q:Exit→VS→Prop} (h:∀ p a w,Rel M0 w0 N p st a w→∃ p2,Rel M0 w0 N p2 rh a w) (k:VWp P M0 w0 N c Q rh) : VWp P M0 w0 N c Q st:=fun hC p a w R=>
 let ⟨p2,R2⟩:=h p a w R
 k hC p2 a w R2
theorem xA {h:Hp} {bi:Nat} {dP:List AV} {x ob:Ob} {i:Nat} (hi:(h.set bi (some (.box dP))++[some x])[i]? = some (some ob)) (hb:bi < h.length) : (i=bi∧ob = .box dP)∨(i≠bi∧h[i]? = some (some ob))∨(i=h.length∧ob=x):=by
 rcases Nat.lt_or_ge i h.length with hl|hl
 ·rw [List.getElem?_append_left (by simpa using hl),List.getElem?_set] at hi;by_cases he:bi=i
  ·rw [if_pos he,if_pos hb] at hi;simp only [Option.some.injEq] at hi;exact .inl ⟨he.symm,hi.symm⟩
  ·rw [if_neg he] at hi;exact .inr (.inl ⟨fun h=>he h.symm,hi⟩)
 ·rw [List.getElem?_append_right (by simpa using hl)] at hi;simp only [List.length_set] at hi;cases hh:i - h.length with
  | zero=>
   rw [hh] at hi;simp at hi;exact .inr (.inr ⟨by omega,hi.symm⟩)
  | succ n=>rw [hh] at hi;simp at hi
theorem Rel.nilCell (R:Rel M0 w0 N p st a w) {bi j e sz:Nat} {cs:List AV} (hb:st.h[bi]? = some (some (.box cs))) (hj:cs[j]? = some (.lit (.slice none 0 0))) (aM:0 < sz) : Rel M0 w0 N p ⟨st.s,st.h.set bi (some (.box (cs.set j (.osl st.h.length))))++[some (.arr e sz true [])]⟩ a w:=by
 have eN:bi < st.h.length:=(List.getElem?_eq_some_iff.1 hb).1;refine (R.reheap _ (by simp) (fun i ob hi hl=>?_) (fun i e sz nl es cK he=>?_) (fun i e sz nl pe qs cK he=>?_) fun i ob hi aC keep=>?_).1
 ·rcases xA hi eN with ⟨rfl,rfl⟩|⟨_,bF⟩|⟨rfl,rfl⟩
  ·exact ⟨_,hb,rfl⟩
  ·exact ⟨ob,bF,hl⟩
  ·cases hl
 ·rcases xA he eN with ⟨_,h⟩|⟨_,h⟩|⟨h,_⟩
  ·cases h
  ·exact h
  ·omega
 ·rcases xA he eN with ⟨_,h⟩|⟨_,h⟩|⟨h,_⟩
  ·cases h
  ·exact h
  ·omega
 ·rcases xA hi eN with ⟨rfl,rfl⟩|⟨_,bF⟩|⟨rfl,rfl⟩
  ·obtain ⟨h1,cur,e2,h2,h3,h4,h5⟩:=R.objs i _ hb;refine ⟨h1,cur,e2,h2,by simpa using h3,fun c hc=>?_,fun k c hk=>?_⟩
   ·rcases List.mem_or_eq_of_mem_set hc with h|rfl
    ·exact h4 c h
    ·rfl
   ·rw [List.getElem?_set] at hk;by_cases he:j=k
    ·subst he;have bK:j < cs.length:=(List.getElem?_eq_some_iff.1 hj).1;rw [if_pos rfl,if_pos bK] at hk;simp only [Option.some.injEq] at hk;subst hk;obtain ⟨u,hu,hv⟩:=h5 j _ hj;obtain rfl:=hv.lit_inv;refine ⟨_,hu,.osl _ _ _ _ (by simp) (fun e3 Aw Ax uz l7=>?_) fun e3 Aw Ax JL JM l7=>?_⟩
     ·rw [List.getElem?_append_right (by simp)] at l7;simp at l7;obtain ⟨rfl,rfl,rfl,rfl⟩:=l7;exact ⟨⟨none,rfl⟩,rfl⟩
     ·rw [List.getElem?_append_right (by simp)] at l7;simp at l7
    ·rw [if_neg he] at hk;obtain ⟨u,hu,hv⟩:=h5 k c hk;exact ⟨u,hu,keep hv⟩
  ·exact absurd bF aC
  ·exact ⟨aM,(fun k x hk=>by simp at hk),rfl⟩
end
def xB (τ:Nat→Nat) (H:Hp) : Nat→Hp→Prop
 | _,[]=>True
 | k,o::r=>H[τ k]? = some (o.map (jF τ))∧xB τ H (k+1) r
def xC (n:Nat) (h:Hp) : Bool:=h.all fun o=>match o with|some ob=>nF n ob|none=>true
theorem Ed {τ:Nat→Nat} {H:Hp} : ∀ {h:Hp} {i k:Nat},xB τ H i h→k < h.length→H[τ (i+k)]? = (h[k]?).map (Option.map (jF τ))
 | [],i,k,_,hk=>by simp at hk
 | o::r,i,0,hf,_=>by simpa using hf.1
 | o::r,i,k+1,hf,hk=>by
  have:=Ed (i:=i+1) (k:=k) hf.2 (by simpa using hk);rw [show i+(k+1)=i+1+k by omega,this];simp
theorem Ee {n:Nat} {h:Hp} (hi:xC n h=true) (k:Nat) (ob:Ob) (hk:h[k]? = some (some ob)) : nF n ob=true:=by
 have:=List.all_eq_true.1 hi (some ob) (List.mem_of_getElem? hk);simpa using this
def Ef (σ:List Nat) (L:Nat) : Bool:=decide σ.Nodup&&σ.all fun i=>Nat.blt i L
section
variable (P:Program)
def dM (st:VS) (c:Call) (σ Kr Ko:List Nat) (h':Hp) (r:AV) : Prop:=
 match ri P (ev st) c with
 | none=>False
 | some (k,xs)=>∃ h args ks,VH P k h args ks h' r∧xs=args.map (jn (tau σ st.h.length) 5)∧args.all (bj h.length 5)=true∧xC h.length h=true∧xC h'.length h'=true∧bj h'.length 5 r=true∧h.length=σ.length∧Nat.ble h.length h'.length=true ∧
   Ef σ st.h.length=true∧xB (tau σ st.h.length) st.h 0 h∧At σ h args ks Kr Ko=true
end
def xD (st:VS) (d:Option Tmp) (σ Kr Ko:List Nat) (h':Hp) (r:AV) : VS:=
 VS.put ⟨pS (okB σ Kr Ko) st.s,j7 σ st.h.length (okB σ Kr Ko) st.h h'⟩ d (jn (tau σ st.h.length) 5 r)
section
variable {P:Program} {M0:Nat→Nat→Prop} {w0:Bas} {N:Nm} {p:Pl} {st:VS} {a:Act} {w w':World}
theorem JN (R:Rel M0 w0 N p st a w) {o:Oper} {c:Call} {σ Kr Ko:List Nat} {h':Hp} {r:AV} {K':Act→World→Prop} {Q:Exit→Act→World→Prop} (dm:o.op = .call c) (hd:dz N o=true) (hc:dM P st c σ Kr Ko h' r)
  (hk:∀ p a w,Rel M0 w0 N p (xD st o.dst σ Kr Ko h' r) a w→K' a w) : o.wp P a w K' Q:=by
 obtain ⟨dst,op,ty,pos,after,guard⟩:=o;simp only at dm;subst dm;obtain ⟨callee,bL,oG⟩:=c;have aw:=fL hd;unfold dM at hc;split at hc
 ·exact hc.elim
 ·rename_i k xs cJ;obtain ⟨h,args,ks,hv,dG,Ay,Az,uA,AA,hlen,hle,rj,dV,dA⟩:=hc;obtain ⟨oH,fj⟩:=hv;obtain ⟨vs,aG,iQ,gA⟩:=AB (P:=P) (dst:=dst) (ty:=ty) (pos:=pos) (after:=after) (guard:=guard) (fun x _=>R.eval x) cJ oH;have oI:σ.length≤h'.length:=by rw [←hlen];exact Nat.le_of_ble_eq_true hle
  simp only [Ef,Bool.and_eq_true,decide_eq_true_eq] at rj;have hn:=rj.1;have hL:∀ i∈σ,i < st.h.length:=fun i hi=>by simpa using List.all_eq_true.1 rj.2 i hi
  have uB:∀ k,k < h.length→∃ i,σ[k]? = some i∧tau σ st.h.length k=i:=fun k hk=>by
   have dy:k < σ.length:=by omega
   exact ⟨σ[k],List.getElem?_eq_getElem dy,by unfold tau;rw [List.getElem?_eq_getElem dy]⟩
  have E:Emb h ⟨fun k=>p (tau σ st.h.length k),fun k=>p.S (tau σ st.h.length k)⟩ st.h p (tau σ st.h.length):=by
   refine ⟨fun k hk=>?_,fun k hk=>?_,fun _ _=>rfl,fun _ _=>rfl⟩
   ·obtain ⟨i,hi,ht⟩:=uB k hk;rw [ht];exact hL i (List.mem_of_getElem? hi)
   ·have:=Ed dV hk;rwa [Nat.zero_add] at this
  generalize kL:(⟨fun k=>p (tau σ st.h.length k),fun k=>p.S (tau σ st.h.length k)⟩ : Pl)=pc at E;have aE:∀ k ob,h[k]? = some (some ob)→cH ob=true→∀ b j,pc.O k b j→oD σ st.h p b j:=fun k ob hk hl b j hO=>by
   have bJ:=(List.getElem?_eq_some_iff.1 hk).1;obtain ⟨i,hi,ht⟩:=uB k bJ;refine ⟨tau σ st.h.length k,_,by rw [ht];exact List.mem_of_getElem? hi,oB E hk,by rw [qZ];exact hl,(nE E bJ).2 hO⟩
  have uv:∀ b j,oD σ st.h p b j→Mof M0 st.h p b j:=fun b j ⟨i,ob,_,hi,hl,hO⟩=>.inr ⟨i,ob,hi,hl,hO⟩;have Eg:∀ b j,¬Mof M0 st.h p b j→¬Mof (oth M0 σ st.h p) h pc b j:=fun b j jq hm=>by
   rcases hm with (hm|⟨i,ob,_,hi,hl,hO⟩)|⟨k,ob,hk,hl,hO⟩
   ·exact jq (.inl hm)
   ·exact jq (.inr ⟨i,ob,hi,hl,hO⟩)
   ·exact jq (uv b j (aE k ob hk hl b j hO))
  have JO:∀ b j,oth M0 σ st.h p b j→Mof M0 st.h p b j:=fun b j hm=>by
   rcases hm with hm|⟨i,ob,_,hi,hl,hO⟩
   ·exact .inl hm
   ·exact .inr ⟨i,ob,hi,hl,hO⟩
  have AD:∀ b j,oth M0 σ st.h p b j→¬oD σ st.h p b j:=fun b j hm ⟨i',ob',jG,bF,bp,cO⟩=>by
   rcases hm with hm|⟨i,ob,hs,hi,hl,hO⟩
   ·exact R.h0 b j hm ((R.objs i' ob' bF).own bp b j cO).1
   ·exact hs (by rw [R.inj i i' ob ob' hi bF hl bp b j j hO cO];exact jG)
  have dB:∀ (i:Nat) (x:AV) (v:Value),args[i]? = some x→vs[i]? = some v→V1 w (Mof (oth M0 σ st.h p) h pc) h pc x v:=fun i x v hx hv=>by
   refine V1.back E Eg 5 x v (gA i _ v (by rw [dG,List.getElem?_map,hx];rfl) hv) (List.all_eq_true.1 Ay x (List.mem_of_getElem? hx))
  unfold Oper.wp;rw [aG];simp only [Oper.upon];refine (fj w (oth M0 σ st.h p) (oD σ st.h p) pc vs (R.mok.sub JO) (R.mok.sub uv) AD (by rw [iQ,dG,List.length_map]) dB (fun k ob hk=>?_) (fun k k' ob ob' hk dy hl bp b j j' hO cO=>?_)).mono ?_
  ·exact ObOK.back (w0':=w0) E Eg (List.getElem?_eq_some_iff.1 hk).1 (fun hl b j hO=>.inr (aE k ob hk hl b j hO)) (Ee Az k ob hk) (R.objs _ _ (oB E hk))
  ·have bJ:=(List.getElem?_eq_some_iff.1 hk).1;have AE:=(List.getElem?_eq_some_iff.1 dy).1;exact JB hn hL (R.inj _ _ _ _ (oB E hk) (oB E dy) (by rw [qZ];exact hl) (by rw [qZ];exact bp) b j j' ((nE E bJ).2 hO) ((nE E AE).2 cO))
  ·rintro en w' ⟨v,q,rfl,hB,hr,hO,hI,lp⟩;simp only [At,Bool.and_eq_true] at dA;obtain ⟨R2,gB⟩:=R.ret (Kr:=Kr) (Ko:=Ko) hn hL oI hB hO hI (Ee uA) (fun i hi k hk=>by
     have h1:=List.all_eq_true.1 dA.1 i hi;simp only [sY hn hk] at h1;obtain ⟨m,hm,s0⟩:=List.any_eq_true.1 h1;have ha:∃ x,args[m]? = some x:=by
      cases hx:args[m]? with
      | some x=>exact ⟨x,rfl⟩
      | none=>simp [List.getD,hx,sZ] at s0
     obtain ⟨x,hx⟩:=ha;have lr:m < vs.length:=by rw [iQ,dG,List.length_map];exact (List.getElem?_eq_some_iff.1 hx).1
     have dn:args.getD m .any=x:=by simp [List.getD,hx]
     rw [dn] at s0;rw [JK s0 (dB m x _ hx (List.getElem?_eq_getElem lr)) (lp m x _ hm hx (List.getElem?_eq_getElem lr)),←kL];show p (tau σ st.h.length k)=p i;unfold tau;rw [hk]) (fun i hi k hk v hv=>by
     have h1:=List.all_eq_true.1 dA.2 i hi;simp only [sY hn hk,Bool.and_eq_true] at h1;obtain ⟨ba,h1⟩:=h1;obtain ⟨m,hm,s0⟩:=List.any_eq_true.1 h1;have ha:∃ x,args[m]? = some x:=by
      cases hx:args[m]? with
      | some x=>exact ⟨x,rfl⟩
      | none=>simp [List.getD,hx,xz] at s0
     obtain ⟨x,hx⟩:=ha;have lr:m < vs.length:=by rw [iQ,dG,List.length_map];exact (List.getElem?_eq_some_iff.1 hx).1
     have dn:args.getD m .any=x:=by simp [List.getD,hx]
     rw [dn] at s0;have JP:x = .osl k:=by
      cases x<;>simp_all [xz]
     subst JP;have b1:=dB m _ _ hx (List.getElem?_eq_getElem lr);have b2:=lp m _ _ hm hx (List.getElem?_eq_getElem lr);have bJ:k < h.length:=by rw [hlen];exact (List.getElem?_eq_some_iff.1 hk).1
     have ht:tau σ st.h.length k=i:=by unfold tau;rw [hk]
     have uC:pc k=p i:=by rw [←kL];show p (tau σ st.h.length k)=p i;rw [ht]
     have iw:v=vs[m]:=by
      obtain ⟨A,n1,c1,e1,_,f1⟩:=hv.osl_inv;obtain ⟨_,_,_,_,_,f2⟩:=hv.bag_inv;obtain ⟨A',pW,RA,RB,_,JQ⟩:=b1.osl_inv;obtain ⟨_,_,_,_,_,JR⟩:=b1.bag_inv;unfold As at ba;split at ba
      ·rename_i e sz nl es he;have hH:=oB E he;rw [ht] at hH;have g1:=f1 _ _ _ _ hH;have g2:=JQ _ _ _ _ he;rw [uC] at g2;exact g1.uniq (by simpa using ba) (R.objs _ _ hH).1 g2
      ·rename_i e sz nl pe qs he;have hH:=oB E he;rw [ht] at hH;have g1:=f2 _ _ _ _ _ hH;have g2:=JR _ _ _ _ _ he;rw [uC] at g2;exact g1.uniq (by simpa using ba) Nat.one_pos g2
      ·cases ba
     rw [iw];exact b2)
   have AF:=gB r v hr AA;refine hk (iN σ st.h.length p q) _ _ ?_;unfold xD;cases dst with
   | none=>exact R2
   | some d=>exact R2.putS (aw d rfl) AF
def VL (P:Program) (M0:Nat→Nat→Prop) (w0:Bas) (N:Nm) (ops:List Oper) (Q:Exit→VS→Prop) (l:List Oper) (st:VS) : Prop:=
 ops.all (dz N)=true→l.all (dz N)=true→∀ p a w,Rel M0 w0 N p st a w→wpList P ops.toArray (fun e a' w'=>∃ aR p',Rel M0 w0 N p' aR a' w'∧Q e aR) l a w
variable {ops l:List Oper} {Q:Exit→VS→Prop}
theorem c_ (h:Q .normal st) : VL P M0 w0 N ops Q [] st:=fun _ _ p _a _w R=>wpList_nil ⟨st,p,R,h⟩
theorem bM (ow:List Nat) (n:Nat) {l1 l2:List Oper} (hl:l.take n=l1∧l.drop n=l2) (h:eA P ow ops l1 st fun aR=>VL P M0 w0 N ops Q l2 aR) : VL P M0 w0 N ops Q l st:=fun dU hB p a w R=>by
 have iR:l=l1++l2:=by rw [←hl.1,←hl.2,List.take_append_drop]
 rw [iR,List.all_append,Bool.and_eq_true] at hB;have:=Eb (P:=P) (M0:=M0) (w0:=w0) (N:=N) (ow:=ow) (ops:=ops) (Q:=fun e a' w'=>∃ aR p',Rel M0 w0 N p' aR a' w'∧Q e aR) (l2:=l2) dU (fun p st a w R h=>h dU hB.2 p a w R) l1 p st a w hB.1 R h;rw [iR];exact this
theorem AG {rh:VS} (h:∀ p a w,Rel M0 w0 N p st a w→∃ p2,Rel M0 w0 N p2 rh a w) (k:VL P M0 w0 N ops Q l rh) : VL P M0 w0 N ops Q l st:=fun h1 h2 p a w R=>
 let ⟨p2,R2⟩:=h p a w R
 k h1 h2 p2 a w R2
def AH (ops:List Oper) (st:VS) (o:Oper) : Prop:=match o.guard with
 | none=>True
 | some (j,want)=>df ops st j = .lit (.bool want)
theorem eo {o:Oper} {c:Call} (σ Kr Ko:List Nat) (h':Hp) (r:AV) (dm:o.op = .call c) (hg:AH ops st o) (hc:dM P st c σ Kr Ko h' r) (k:VL P M0 w0 N ops Q l (xD st o.dst σ Kr Ko h' r)) : VL P M0 w0 N ops Q (o::l) st:=fun dU hB p a w R=>by
 simp only [List.all_cons,Bool.and_eq_true] at hB;refine wpList_step fun X Y=>?_;have nH:o.wp P a w X (fun e a' w'=>∃ aR p',Rel M0 w0 N p' aR a' w'∧Q e aR):=JN R dm hB.1 hc fun p a w R=>Y _ _ (k dU hB.2 p a w R);unfold AH at hg;split at hg
 ·rename_i pV;simp only [Region.wanted,pV,if_true];exact nH
 ·rename_i j want pV;obtain ⟨uy,_⟩:=rf (j:=j) R dU;simp only [Region.wanted,pV,uy want hg];rw [if_pos (by simp)];exact nH
theorem ec {id:Nat} (h:VL P M0 w0 N l Q l st) : VWp P M0 w0 N (.region id l.toArray false) Q st:=fun hB p a w R=>by
 have fb:l.all (dz N)=true:=by simpa [fJ] using hB
 exact wp_region_lit (h fb fb p a w R)
end
end Go.Proofs.YtoibondihdhnoaaGreatDoor
namespace Go.Proofs.YtoibondihdhnoaaGreatDoor
attribute [go_sem] pS okB okA uq mu mw j7 xD jn jF tau jo xB xC At sZ xz As AH xw pT xx D8
end Go.Proofs.YtoibondihdhnoaaGreatDoor
