/- Texts in one: A call that writes to its caller's variables, rows and maps, in a d4m: of every program; no condition. -/
import Derived.Test.YtoibondihdhnoaaGreatDoorFRY5
import Derived.Test.YtoibondihdhnoaaGreatDoorFRY10
namespace Go.Proofs.YtoibondihdhnoaaGreatDoor
open Go.RowKit
section
variable {P:Program} {M0:Nat→Nat→Prop} {w0:Bas} {N:Nm} {p:Pl} {st:VS} {a:Act} {w:World} {Q:Exit→VS→Prop}
theorem As {ow:List Nat} {ops:List Oper} {K:VS→Prop} {Q:Exit→Act→World→Prop} {l2:List Oper} (ew:ops.all (cW N)=true) (hk:∀ p st a w,Rel M0 w0 N p st a w→K st→wpList P ops.toArray Q l2 a w) :
  ∀ (l:List Oper) (p:Pl) (st:VS) (a:Act) (w:World),l.all (cW N)=true→Rel M0 w0 N p st a w→dP P ow ops l st K→wpList P ops.toArray Q (l++l2) a w
 | [],p,st,a,w,_,R,h=>hk p st a w R h
 | o::l,p,st,a,w,hl,R,h=>by
  simp only [List.all_cons,Bool.and_eq_true] at hl;have ih:=fun p st a w=>As (ow:=ow) (l2:=l2) ew hk l p st a w hl.2;refine wpList_step fun X Y=>?_;simp only [dP,VOp] at h;have kc:VDo P ow o st (fun aK=>dP P ow ops l aK K)→o.wp P a w X Q:=fun h=>xm R hl.1 h fun p st a w R h=>Y _ _ (ih p st a w R h);have mi:dP P ow ops l (st.put o.dst (.lit undef)) K→X (a.put o.dst undef) w:=fun h=>Y _ _ (ih p _ _ w (R.put (fh hl.1) (.base _ _ (.lit _))) h);split at h
  ·rename_i hg;simp only [Region.wanted,hg,if_true];exact kc h
  ·rename_i j want hg;obtain ⟨uV,At⟩:=pb (j:=j) R ew;simp only [Region.wanted,hg];split at h
   ·rename_i b hb;rw [uV b hb];by_cases hw:b=want
    ·subst hw;rw [if_pos (by simp)];rw [if_pos rfl] at h;exact kc h
    ·rw [if_neg (by simpa using hw)];rw [if_neg hw] at h;exact mi h
   ·rename_i vs hb;rw [At vs hb,if_neg (by simp)];exact mi h
   ·exact h.elim
theorem IS {IT:Nat} {l l1 l2:List Oper} (ow:List Nat) (n:Nat) (hl:l.take n=l1∧l.drop n=l2) (h:dP P ow l l1 st fun Au=>∃ mO,(∀ p a w,Rel M0 w0 N p Au a w→∃ p2,Rel M0 w0 N p2 mO a w)∧dP P ow l l2 mO (Q .normal)) : VWp P M0 w0 N (.region IT l.toArray false) Q st:=fun hB p a w R=>by
 have dp:l.all (cW N)=true:=by simpa [fg] using hB
 have ez:l=l1++l2:=by rw [←hl.1,←hl.2,List.take_append_drop]
 have mj:l1.all (cW N)=true:=by
  rw [ez,List.all_append,Bool.and_eq_true] at dp;exact dp.1
 have IU:l2.all (cW N)=true:=by
  rw [ez,List.all_append,Bool.and_eq_true] at dp;exact dp.2
 refine wp_region_lit ?_;have:=As (P:=P) (M0:=M0) (w0:=w0) (N:=N) (ow:=ow) (ops:=l) (Q:=fun e a' w'=>∃ aK p',Rel M0 w0 N p' aK a' w'∧Q e aK) (l2:=l2) dp (fun p st a w R h=>by
  obtain ⟨mO,h1,h2⟩:=h;obtain ⟨p2,R2⟩:=h1 p a w R;exact mP (ow:=ow) dp (fun p st a w R h=>⟨st,p,R,h⟩) l2 p2 _ a w IU R2 h2) l1 p st a w mj R h
 rw [ez] at this ⊢;exact this
theorem ib {c:Code} {mO:VS} {Q:Exit→VS→Prop} (h:∀ p a w,Rel M0 w0 N p st a w→∃ p2,Rel M0 w0 N p2 mO a w) (k:VWp P M0 w0 N c Q mO) : VWp P M0 w0 N c Q st:=fun hC p a w R=>
 let ⟨p2,R2⟩:=h p a w R
 k hC p2 a w R2
theorem qd {h:Hp} {bi:Nat} {dI:List AV} {x ob:Ob} {i:Nat} (hi:(h.set bi (some (.box dI))++[some x])[i]? = some (some ob)) (hb:bi < h.length) : (i=bi∧ob = .box dI)∨(i≠bi∧h[i]? = some (some ob))∨(i=h.length∧ob=x):=by
 rcases Nat.lt_or_ge i h.length with hl|hl
 ·rw [List.getElem?_append_left (by simpa using hl),List.getElem?_set] at hi;by_cases he:bi=i
  ·rw [if_pos he,if_pos hb] at hi;simp only [Option.some.injEq] at hi;exact .inl ⟨he.symm,hi.symm⟩
  ·rw [if_neg he] at hi;exact .inr (.inl ⟨fun h=>he h.symm,hi⟩)
 ·rw [List.getElem?_append_right (by simpa using hl)] at hi;simp only [List.length_set] at hi;cases hh:i - h.length with
  | zero=>
   rw [hh] at hi;simp at hi;exact .inr (.inr ⟨by omega,hi.symm⟩)
  | succ n=>rw [hh] at hi;simp at hi
theorem Rel.nilCell (R:Rel M0 w0 N p st a w) {bi j e sz:Nat} {cs:List AV} (hb:st.h[bi]? = some (some (.box cs))) (hj:cs[j]? = some (.lit (.slice none 0 0))) (aM:0 < sz) : Rel M0 w0 N p ⟨st.s,st.h.set bi (some (.box (cs.set j (.osl st.h.length))))++[some (.arr e sz true [])]⟩ a w:=by
 have dq:bi < st.h.length:=(List.getElem?_eq_some_iff.1 hb).1;refine (R.reheap _ (by simp) (fun i ob hi hl=>?_) (fun i e sz nl es cu he=>?_) (fun i e sz nl pe qs cu he=>?_) fun i ob hi ax keep=>?_).1
 ·rcases qd hi dq with ⟨rfl,rfl⟩|⟨_,br⟩|⟨rfl,rfl⟩
  ·exact ⟨_,hb,rfl⟩
  ·exact ⟨ob,br,hl⟩
  ·cases hl
 ·rcases qd he dq with ⟨_,h⟩|⟨_,h⟩|⟨h,_⟩
  ·cases h
  ·exact h
  ·omega
 ·rcases qd he dq with ⟨_,h⟩|⟨_,h⟩|⟨h,_⟩
  ·cases h
  ·exact h
  ·omega
 ·rcases qd hi dq with ⟨rfl,rfl⟩|⟨_,br⟩|⟨rfl,rfl⟩
  ·obtain ⟨h1,cur,e2,h2,h3,h4,h5⟩:=R.objs i _ hb;refine ⟨h1,cur,e2,h2,by simpa using h3,fun c hc=>?_,fun k c hk=>?_⟩
   ·rcases List.mem_or_eq_of_mem_set hc with h|rfl
    ·exact h4 c h
    ·rfl
   ·rw [List.getElem?_set] at hk;by_cases he:j=k
    ·subst he;have bB:j < cs.length:=(List.getElem?_eq_some_iff.1 hj).1;rw [if_pos rfl,if_pos bB] at hk;simp only [Option.some.injEq] at hk;subst hk;obtain ⟨u,hu,hv⟩:=h5 j _ hj;obtain rfl:=hv.lit_inv;refine ⟨_,hu,.osl _ _ _ _ (by simp) (fun e3 uW uX tx i_=>?_) fun e3 uW uX DQ DS i_=>?_⟩
     ·rw [List.getElem?_append_right (by simp)] at i_;simp at i_;obtain ⟨rfl,rfl,rfl,rfl⟩:=i_;exact ⟨⟨none,rfl⟩,rfl⟩
     ·rw [List.getElem?_append_right (by simp)] at i_;simp at i_
    ·rw [if_neg he] at hk;obtain ⟨u,hu,hv⟩:=h5 k c hk;exact ⟨u,hu,keep hv⟩
  ·exact absurd br ax
  ·exact ⟨aM,(fun k x hk=>by simp at hk),rfl⟩
end
def xn (τ:Nat→Nat) (H:Hp) : Nat→Hp→Prop
 | _,[]=>True
 | k,o::r=>H[τ k]? = some (o.map (jK τ))∧xn τ H (k+1) r
def xo (n:Nat) (h:Hp) : Bool:=h.all fun o=>match o with|some ob=>oi n ob|none=>true
theorem DT {τ:Nat→Nat} {H:Hp} : ∀ {h:Hp} {i k:Nat},xn τ H i h→k < h.length→H[τ (i+k)]? = (h[k]?).map (Option.map (jK τ))
 | [],i,k,_,hk=>by simp at hk
 | o::r,i,0,hf,_=>by simpa using hf.1
 | o::r,i,k+1,hf,hk=>by
  have:=DT (i:=i+1) (k:=k) hf.2 (by simpa using hk);rw [show i+(k+1)=i+1+k by omega,this];simp
theorem DU {n:Nat} {h:Hp} (hi:xo n h=true) (k:Nat) (ob:Ob) (hk:h[k]? = some (some ob)) : oi n ob=true:=by
 have:=List.all_eq_true.1 hi (some ob) (List.mem_of_getElem? hk);simpa using this
def DV (σ:List Nat) (L:Nat) : Bool:=decide σ.Nodup&&σ.all fun i=>Nat.blt i L
section
variable (P:Program)
def dU (st:VS) (c:Call) (σ Kr Ko:List Nat) (h':Hp) (r:AV) : Prop:=
 match qe P (ev st) c with
 | none=>False
 | some (k,xs)=>∃ h args ks,VH P k h args ks h' r∧xs=args.map (jo (tau σ st.h.length) 5)∧args.all (bc h.length 5)=true∧xo h.length h=true∧xo h'.length h'=true∧bc h'.length 5 r=true∧h.length=σ.length∧Nat.ble h.length h'.length=true ∧
   DV σ st.h.length=true∧xn (tau σ st.h.length) st.h 0 h∧Ar σ h args ks Kr Ko=true
end
def xp (st:VS) (d:Option Tmp) (σ Kr Ko:List Nat) (h':Hp) (r:AV) : VS:=
 VS.put ⟨qa (okB σ Kr Ko) st.s,kb σ st.h.length (okB σ Kr Ko) st.h h'⟩ d (jo (tau σ st.h.length) 5 r)
section
variable {P:Program} {M0:Nat→Nat→Prop} {w0:Bas} {N:Nm} {p:Pl} {st:VS} {a:Act} {w w':World}
theorem IV (R:Rel M0 w0 N p st a w) {o:Oper} {c:Call} {σ Kr Ko:List Nat} {h':Hp} {r:AV} {K':Act→World→Prop} {Q:Exit→Act→World→Prop} (cT:o.op = .call c) (hd:cW N o=true) (hc:dU P st c σ Kr Ko h' r)
  (hk:∀ p a w,Rel M0 w0 N p (xp st o.dst σ Kr Ko h' r) a w→K' a w) : o.wp P a w K' Q:=by
 obtain ⟨dst,op,ty,pos,after,guard⟩:=o;simp only at cT;subst cT;obtain ⟨callee,bH,ml⟩:=c;have aq:=fh hd;unfold dU at hc;split at hc
 ·exact hc.elim
 ·rename_i k xs cK;obtain ⟨h,args,ks,hv,dV,Av,Aw,uY,Ay,hlen,hle,rB,dJ,dQ⟩:=hc;obtain ⟨k6,eA⟩:=hv;obtain ⟨vs,aD,ix,gx⟩:=xq (P:=P) (dst:=dst) (ty:=ty) (pos:=pos) (after:=after) (guard:=guard) (fun x _=>R.eval x) cK k6;have pd:σ.length≤h'.length:=by rw [←hlen];exact Nat.le_of_ble_eq_true hle
  simp only [DV,Bool.and_eq_true,decide_eq_true_eq] at rB;have hn:=rB.1;have hL:∀ i∈σ,i < st.h.length:=fun i hi=>by simpa using List.all_eq_true.1 rB.2 i hi
  have uZ:∀ k,k < h.length→∃ i,σ[k]? = some i∧tau σ st.h.length k=i:=fun k hk=>by
   have dF:k < σ.length:=by omega
   exact ⟨σ[k],List.getElem?_eq_getElem dF,by unfold tau;rw [List.getElem?_eq_getElem dF]⟩
  have E:Emb h ⟨fun k=>p (tau σ st.h.length k),fun k=>p.S (tau σ st.h.length k)⟩ st.h p (tau σ st.h.length):=by
   refine ⟨fun k hk=>?_,fun k hk=>?_,fun _ _=>rfl,fun _ _=>rfl⟩
   ·obtain ⟨i,hi,ht⟩:=uZ k hk;rw [ht];exact hL i (List.mem_of_getElem? hi)
   ·have:=DT dJ hk;rwa [Nat.zero_add] at this
  generalize jM:(⟨fun k=>p (tau σ st.h.length k),fun k=>p.S (tau σ st.h.length k)⟩ : Pl)=pc at E;have aE:∀ k ob,h[k]? = some (some ob)→cn ob=true→∀ b j,pc.O k b j→o8 σ st.h p b j:=fun k ob hk hl b j hO=>by
   have ca:=(List.getElem?_eq_some_iff.1 hk).1;obtain ⟨i,hi,ht⟩:=uZ k ca;refine ⟨tau σ st.h.length k,_,by rw [ht];exact List.mem_of_getElem? hi,oZ E hk,by rw [ru];exact hl,(oh E ca).2 hO⟩
  have uS:∀ b j,o8 σ st.h p b j→Mof M0 st.h p b j:=fun b j ⟨i,ob,_,hi,hl,hO⟩=>.inr ⟨i,ob,hi,hl,hO⟩;have DW:∀ b j,¬Mof M0 st.h p b j→¬Mof (oth M0 σ st.h p) h pc b j:=fun b j jr hm=>by
   rcases hm with (hm|⟨i,ob,_,hi,hl,hO⟩)|⟨k,ob,hk,hl,hO⟩
   ·exact jr (.inl hm)
   ·exact jr (.inr ⟨i,ob,hi,hl,hO⟩)
   ·exact jr (uS b j (aE k ob hk hl b j hO))
  have IW:∀ b j,oth M0 σ st.h p b j→Mof M0 st.h p b j:=fun b j hm=>by
   rcases hm with hm|⟨i,ob,_,hi,hl,hO⟩
   ·exact .inl hm
   ·exact .inr ⟨i,ob,hi,hl,hO⟩
  have Az:∀ b j,oth M0 σ st.h p b j→¬o8 σ st.h p b j:=fun b j hm ⟨i',ob',jL,br,bj,ct⟩=>by
   rcases hm with hm|⟨i,ob,hs,hi,hl,hO⟩
   ·exact R.h0 b j hm ((R.objs i' ob' br).own bj b j ct).1
   ·exact hs (by rw [R.inj i i' ob ob' hi br hl bj b j j hO ct];exact jL)
  have eB:∀ (i:Nat) (x:AV) (v:Value),args[i]? = some x→vs[i]? = some v→V1 w (Mof (oth M0 σ st.h p) h pc) h pc x v:=fun i x v hx hv=>by
   refine V1.back E DW 5 x v (gx i _ v (by rw [dV,List.getElem?_map,hx];rfl) hv) (List.all_eq_true.1 Av x (List.mem_of_getElem? hx))
  unfold Oper.wp;rw [aD];simp only [Oper.upon];refine (eA w (oth M0 σ st.h p) (o8 σ st.h p) pc vs (R.mok.sub IW) (R.mok.sub uS) Az (by rw [ix,dV,List.length_map]) eB (fun k ob hk=>?_) (fun k k' ob ob' hk dF hl bj b j j' hO ct=>?_)).mono ?_
  ·exact ObOK.back (w0':=w0) E DW (List.getElem?_eq_some_iff.1 hk).1 (fun hl b j hO=>.inr (aE k ob hk hl b j hO)) (DU Aw k ob hk) (R.objs _ _ (oZ E hk))
  ·have ca:=(List.getElem?_eq_some_iff.1 hk).1;have AA:=(List.getElem?_eq_some_iff.1 dF).1;exact IH hn hL (R.inj _ _ _ _ (oZ E hk) (oZ E dF) (by rw [ru];exact hl) (by rw [ru];exact bj) b j j' ((oh E ca).2 hO) ((oh E AA).2 ct))
  ·rintro en w' ⟨v,q,rfl,hB,hr,hO,hI,rC⟩;simp only [Ar,Bool.and_eq_true] at dQ;obtain ⟨R2,hres⟩:=R.ret (Kr:=Kr) (Ko:=Ko) hn hL pd hB hO hI (DU uY) (fun i hi k hk=>by
     have h1:=List.all_eq_true.1 dQ.1 i hi;simp only [tv hn hk] at h1;obtain ⟨m,hm,tz⟩:=List.any_eq_true.1 h1;have ha:∃ x,args[m]? = some x:=by
      cases hx:args[m]? with
      | some x=>exact ⟨x,rfl⟩
      | none=>simp [List.getD,hx,tw] at tz
     obtain ⟨x,hx⟩:=ha;have lM:m < vs.length:=by rw [ix,dV,List.length_map];exact (List.getElem?_eq_some_iff.1 hx).1
     have dr:args.getD m .any=x:=by simp [List.getD,hx]
     rw [dr] at tz;rw [IQ tz (eB m x _ hx (List.getElem?_eq_getElem lM)) (rC m x _ hm hx (List.getElem?_eq_getElem lM)),←jM];show p (tau σ st.h.length k)=p i;unfold tau;rw [hk]) (fun i hi k hk v hv=>by
     have h1:=List.all_eq_true.1 dQ.2 i hi;simp only [tv hn hk,Bool.and_eq_true] at h1;obtain ⟨aS,h1⟩:=h1;obtain ⟨m,hm,tz⟩:=List.any_eq_true.1 h1;have ha:∃ x,args[m]? = some x:=by
      cases hx:args[m]? with
      | some x=>exact ⟨x,rfl⟩
      | none=>simp [List.getD,hx,xl] at tz
     obtain ⟨x,hx⟩:=ha;have lM:m < vs.length:=by rw [ix,dV,List.length_map];exact (List.getElem?_eq_some_iff.1 hx).1
     have dr:args.getD m .any=x:=by simp [List.getD,hx]
     rw [dr] at tz;have IX:x = .osl k:=by
      cases x<;>simp_all [xl]
     subst IX;have b1:=eB m _ _ hx (List.getElem?_eq_getElem lM);have b2:=rC m _ _ hm hx (List.getElem?_eq_getElem lM);have ca:k < h.length:=by rw [hlen];exact (List.getElem?_eq_some_iff.1 hk).1
     have ht:tau σ st.h.length k=i:=by unfold tau;rw [hk]
     have u9:pc k=p i:=by rw [←jM];show p (tau σ st.h.length k)=p i;rw [ht]
     have iK:v=vs[m]:=by
      obtain ⟨A,n1,c1,e1,_,f1⟩:=hv.osl_inv;obtain ⟨_,_,_,_,_,f2⟩:=hv.bag_inv;obtain ⟨A',qf,QD,QE,_,IY⟩:=b1.osl_inv;obtain ⟨_,_,_,_,_,IZ⟩:=b1.bag_inv;unfold Aq at aS;split at aS
      ·rename_i e sz nl es he;have hH:=oZ E he;rw [ht] at hH;have g1:=f1 _ _ _ _ hH;have g2:=IY _ _ _ _ he;rw [u9] at g2;exact g1.uniq (by simpa using aS) (R.objs _ _ hH).1 g2
      ·rename_i e sz nl pe qs he;have hH:=oZ E he;rw [ht] at hH;have g1:=f2 _ _ _ _ _ hH;have g2:=IZ _ _ _ _ _ he;rw [u9] at g2;exact g1.uniq (by simpa using aS) Nat.one_pos g2
      ·cases aS
     rw [iK];exact b2)
   have rD:=hres r v hr Ay;refine hk (iW σ st.h.length p q) _ _ ?_;unfold xp;cases dst with
   | none=>exact R2
   | some d=>exact R2.putS (aq d rfl) rD
def VL (P:Program) (M0:Nat→Nat→Prop) (w0:Bas) (N:Nm) (ops:List Oper) (Q:Exit→VS→Prop) (l:List Oper) (st:VS) : Prop:=
 ops.all (cW N)=true→l.all (cW N)=true→∀ p a w,Rel M0 w0 N p st a w→wpList P ops.toArray (fun e a' w'=>∃ aK p',Rel M0 w0 N p' aK a' w'∧Q e aK) l a w
variable {ops l:List Oper} {Q:Exit→VS→Prop}
theorem da (h:Q .normal st) : VL P M0 w0 N ops Q [] st:=fun _ _ p _a _w R=>wpList_nil ⟨st,p,R,h⟩
theorem bM (ow:List Nat) (n:Nat) {l1 l2:List Oper} (hl:l.take n=l1∧l.drop n=l2) (h:dP P ow ops l1 st fun aK=>VL P M0 w0 N ops Q l2 aK) : VL P M0 w0 N ops Q l st:=fun ew hB p a w R=>by
 have ez:l=l1++l2:=by rw [←hl.1,←hl.2,List.take_append_drop]
 rw [ez,List.all_append,Bool.and_eq_true] at hB;have:=As (P:=P) (M0:=M0) (w0:=w0) (N:=N) (ow:=ow) (ops:=ops) (Q:=fun e a' w'=>∃ aK p',Rel M0 w0 N p' aK a' w'∧Q e aK) (l2:=l2) ew (fun p st a w R h=>h ew hB.2 p a w R) l1 p st a w hB.1 R h;rw [ez];exact this
theorem AB {mO:VS} (h:∀ p a w,Rel M0 w0 N p st a w→∃ p2,Rel M0 w0 N p2 mO a w) (k:VL P M0 w0 N ops Q l mO) : VL P M0 w0 N ops Q l st:=fun h1 h2 p a w R=>
 let ⟨p2,R2⟩:=h p a w R
 k h1 h2 p2 a w R2
def AD (ops:List Oper) (st:VS) (o:Oper) : Prop:=match o.guard with
 | none=>True
 | some (j,want)=>cI ops st j = .lit (.bool want)
theorem eI {o:Oper} {c:Call} (σ Kr Ko:List Nat) (h':Hp) (r:AV) (cT:o.op = .call c) (hg:AD ops st o) (hc:dU P st c σ Kr Ko h' r) (k:VL P M0 w0 N ops Q l (xp st o.dst σ Kr Ko h' r)) : VL P M0 w0 N ops Q (o::l) st:=fun ew hB p a w R=>by
 simp only [List.all_cons,Bool.and_eq_true] at hB;refine wpList_step fun X Y=>?_;have kc:o.wp P a w X (fun e a' w'=>∃ aK p',Rel M0 w0 N p' aK a' w'∧Q e aK):=IV R cT hB.1 hc fun p a w R=>Y _ _ (k ew hB.2 p a w R);unfold AD at hg;split at hg
 ·rename_i mh;simp only [Region.wanted,mh,if_true];exact kc
 ·rename_i j want mh;obtain ⟨uV,_⟩:=pb (j:=j) R ew;simp only [Region.wanted,mh,uV want hg];rw [if_pos (by simp)];exact kc
theorem eC {id:Nat} (h:VL P M0 w0 N l Q l st) : VWp P M0 w0 N (.region id l.toArray false) Q st:=fun hB p a w R=>by
 have dp:l.all (cW N)=true:=by simpa [fg] using hB
 exact wp_region_lit (h dp dp p a w R)
end
end Go.Proofs.YtoibondihdhnoaaGreatDoor
namespace Go.Proofs.YtoibondihdhnoaaGreatDoor
attribute [go_sem] qa okB okA uP mL mM kb xp jo jK tau jq xn xo Ar tw xl Aq AD xi qb xj DM
end Go.Proofs.YtoibondihdhnoaaGreatDoor
