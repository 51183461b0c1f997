/- Texts in one: A call that writes to its caller's variables, rows and maps, in a d2z: of every program; no condition. -/
import Derived.Test.YtoibondihdhnoaaGreatDoorFRK6
import Derived.Test.YtoibondihdhnoaaGreatDoorFRK11
namespace Go.Proofs.YtoibondihdhnoaaGreatDoor
open Go.RowKit
section
variable {P:Program} {M0:Nat→Nat→Prop} {w0:Bas} {N:Nm} {p:Pl} {st:VS} {a:Act} {w:World} {Q:Exit→VS→Prop}
theorem zY {ow:List Nat} {ops:List Oper} {K:VS→Prop} {Q:Exit→Act→World→Prop} {l2:List Oper} (eD:ops.all (cX N)=true) (hk:∀ p st a w,Rel M0 w0 N p st a w→K st→wpList P ops.toArray Q l2 a w) :
  ∀ (l:List Oper) (p:Pl) (st:VS) (a:Act) (w:World),l.all (cX N)=true→Rel M0 w0 N p st a w→ef P ow ops l st K→wpList P ops.toArray Q (l++l2) a w
 | [],p,st,a,w,_,R,h=>hk p st a w R h
 | o::l,p,st,a,w,hl,R,h=>by
  simp only [List.all_cons,Bool.and_eq_true] at hl;have ih:=fun p st a w=>zY (ow:=ow) (l2:=l2) eD hk l p st a w hl.2;refine wpList_step fun X Y=>?_;simp only [ef,VOp] at h;have ku:VDo P ow o st (fun aK=>ef P ow ops l aK K)→o.wp P a w X Q:=fun h=>xk R hl.1 h fun p st a w R h=>Y _ _ (ih p st a w R h);have ml:ef P ow ops l (st.put o.dst (.lit undef)) K→X (a.put o.dst undef) w:=fun h=>Y _ _ (ih p _ _ w (R.put (fw hl.1) (.base _ _ (.lit _))) h);split at h
  ·rename_i hg;simp only [Region.wanted,hg,if_true];exact ku h
  ·rename_i j want hg;obtain ⟨uC,zZ⟩:=oA (j:=j) R eD;simp only [Region.wanted,hg];split at h
   ·rename_i b hb;rw [uC b hb];by_cases hw:b=want
    ·subst hw;rw [if_pos (by simp)];rw [if_pos rfl] at h;exact ku h
    ·rw [if_neg (by simpa using hw)];rw [if_neg hw] at h;exact ml h
   ·rename_i vs hb;rw [zZ vs hb,if_neg (by simp)];exact ml h
   ·exact h.elim
theorem IA {IB:Nat} {l l1 l2:List Oper} (ow:List Nat) (n:Nat) (hl:l.take n=l1∧l.drop n=l2) (h:ef P ow l l1 st fun z7=>∃ mW,(∀ p a w,Rel M0 w0 N p z7 a w→∃ p2,Rel M0 w0 N p2 mW a w)∧ef P ow l l2 mW (Q .normal)) : VWp P M0 w0 N (.region IB l.toArray false) Q st:=fun hB p a w R=>by
 have dm:l.all (cX N)=true:=by simpa [fk] using hB
 have eE:l=l1++l2:=by rw [←hl.1,←hl.2,List.take_append_drop]
 have mm:l1.all (cX N)=true:=by
  rw [eE,List.all_append,Bool.and_eq_true] at dm;exact dm.1
 have IC:l2.all (cX N)=true:=by
  rw [eE,List.all_append,Bool.and_eq_true] at dm;exact dm.2
 refine wp_region_lit ?_;have:=zY (P:=P) (M0:=M0) (w0:=w0) (N:=N) (ow:=ow) (ops:=l) (Q:=fun e a' w'=>∃ aK p',Rel M0 w0 N p' aK a' w'∧Q e aK) (l2:=l2) dm (fun p st a w R h=>by
  obtain ⟨mW,h1,h2⟩:=h;obtain ⟨p2,R2⟩:=h1 p a w R;exact mn (ow:=ow) dm (fun p st a w R h=>⟨st,p,R,h⟩) l2 p2 _ a w IC R2 h2) l1 p st a w mm R h
 rw [eE] at this ⊢;exact this
theorem ir {c:Code} {mW:VS} {Q:Exit→VS→Prop} (h:∀ p a w,Rel M0 w0 N p st a w→∃ p2,Rel M0 w0 N p2 mW a w) (k:VWp P M0 w0 N c Q mW) : VWp P M0 w0 N c Q st:=fun hC p a w R=>
 let ⟨p2,R2⟩:=h p a w R
 k hC p2 a w R2
theorem qf {h:Hp} {bi:Nat} {dU:List AV} {x ob:Ob} {i:Nat} (hi:(h.set bi (some (.box dU))++[some x])[i]? = some (some ob)) (hb:bi < h.length) : (i=bi∧ob = .box dU)∨(i≠bi∧h[i]? = some (some ob))∨(i=h.length∧ob=x):=by
 rcases Nat.lt_or_ge i h.length with hl|hl
 ·rw [List.getElem?_append_left (by simpa using hl),List.getElem?_set] at hi;by_cases he:bi=i
  ·rw [if_pos he,if_pos hb] at hi;simp only [Option.some.injEq] at hi;exact .inl ⟨he.symm,hi.symm⟩
  ·rw [if_neg he] at hi;exact .inr (.inl ⟨fun h=>he h.symm,hi⟩)
 ·rw [List.getElem?_append_right (by simpa using hl)] at hi;simp only [List.length_set] at hi;cases hh:i - h.length with
  | zero=>
   rw [hh] at hi;simp at hi;exact .inr (.inr ⟨by omega,hi.symm⟩)
  | succ n=>rw [hh] at hi;simp at hi
theorem Rel.nilCell (R:Rel M0 w0 N p st a w) {bi j e sz:Nat} {cs:List AV} (hb:st.h[bi]? = some (some (.box cs))) (hj:cs[j]? = some (.lit (.slice none 0 0))) (aL:0 < sz) : Rel M0 w0 N p ⟨st.s,st.h.set bi (some (.box (cs.set j (.osl st.h.length))))++[some (.arr e sz true [])]⟩ a w:=by
 have de:bi < st.h.length:=(List.getElem?_eq_some_iff.1 hb).1;refine (R.reheap _ (by simp) (fun i ob hi hl=>?_) (fun i e sz nl es cC he=>?_) (fun i e sz nl pe qs cC he=>?_) fun i ob hi au keep=>?_).1
 ·rcases qf hi de with ⟨rfl,rfl⟩|⟨_,bA⟩|⟨rfl,rfl⟩
  ·exact ⟨_,hb,rfl⟩
  ·exact ⟨ob,bA,hl⟩
  ·cases hl
 ·rcases qf he de with ⟨_,h⟩|⟨_,h⟩|⟨h,_⟩
  ·cases h
  ·exact h
  ·omega
 ·rcases qf he de with ⟨_,h⟩|⟨_,h⟩|⟨h,_⟩
  ·cases h
  ·exact h
  ·omega
 ·rcases qf hi de with ⟨rfl,rfl⟩|⟨_,bA⟩|⟨rfl,rfl⟩
  ·obtain ⟨h1,cur,e2,h2,h3,h4,h5⟩:=R.objs i _ hb;refine ⟨h1,cur,e2,h2,by simpa using h3,fun c hc=>?_,fun k c hk=>?_⟩
   ·rcases List.mem_or_eq_of_mem_set hc with h|rfl
    ·exact h4 c h
    ·rfl
   ·rw [List.getElem?_set] at hk;by_cases he:j=k
    ·subst he;have bI:j < cs.length:=(List.getElem?_eq_some_iff.1 hj).1;rw [if_pos rfl,if_pos bI] at hk;simp only [Option.some.injEq] at hk;subst hk;obtain ⟨u,hu,hv⟩:=h5 j _ hj;obtain rfl:=hv.lit_inv;refine ⟨_,hu,.osl _ _ _ _ (by simp) (fun e3 uD uE s5 jg=>?_) fun e3 uD uE DI DJ jg=>?_⟩
     ·rw [List.getElem?_append_right (by simp)] at jg;simp at jg;obtain ⟨rfl,rfl,rfl,rfl⟩:=jg;exact ⟨⟨none,rfl⟩,rfl⟩
     ·rw [List.getElem?_append_right (by simp)] at jg;simp at jg
    ·rw [if_neg he] at hk;obtain ⟨u,hu,hv⟩:=h5 k c hk;exact ⟨u,hu,keep hv⟩
  ·exact absurd bA au
  ·exact ⟨aL,(fun k x hk=>by simp at hk),rfl⟩
end
def xl (τ:Nat→Nat) (H:Hp) : Nat→Hp→Prop
 | _,[]=>True
 | k,o::r=>H[τ k]? = some (o.map (jP τ))∧xl τ H (k+1) r
def xm (n:Nat) (h:Hp) : Bool:=h.all fun o=>match o with|some ob=>ov n ob|none=>true
theorem DK {τ:Nat→Nat} {H:Hp} : ∀ {h:Hp} {i k:Nat},xl τ H i h→k < h.length→H[τ (i+k)]? = (h[k]?).map (Option.map (jP τ))
 | [],i,k,_,hk=>by simp at hk
 | o::r,i,0,hf,_=>by simpa using hf.1
 | o::r,i,k+1,hf,hk=>by
  have:=DK (i:=i+1) (k:=k) hf.2 (by simpa using hk);rw [show i+(k+1)=i+1+k by omega,this];simp
theorem DL {n:Nat} {h:Hp} (hi:xm n h=true) (k:Nat) (ob:Ob) (hk:h[k]? = some (some ob)) : ov n ob=true:=by
 have:=List.all_eq_true.1 hi (some ob) (List.mem_of_getElem? hk);simpa using this
def DM (σ:List Nat) (L:Nat) : Bool:=decide σ.Nodup&&σ.all fun i=>Nat.blt i L
section
variable (P:Program)
def dx (st:VS) (c:Call) (σ Kr Ko:List Nat) (h':Hp) (r:AV) : Prop:=
 match qg P (ev st) c with
 | none=>False
 | some (k,xs)=>∃ h args ks,VH P k h args ks h' r∧xs=args.map (jx (tau σ st.h.length) 5)∧args.all (bn h.length 5)=true∧xm h.length h=true∧xm h'.length h'=true∧bn h'.length 5 r=true∧h.length=σ.length∧Nat.ble h.length h'.length=true ∧
   DM σ st.h.length=true∧xl (tau σ st.h.length) st.h 0 h∧zX σ h args ks Kr Ko=true
end
def xn (st:VS) (d:Option Tmp) (σ Kr Ko:List Nat) (h':Hp) (r:AV) : VS:=
 VS.put ⟨qd (okB σ Kr Ko) st.s,kt σ st.h.length (okB σ Kr Ko) st.h h'⟩ d (jx (tau σ st.h.length) 5 r)
section
variable {P:Program} {M0:Nat→Nat→Prop} {w0:Bas} {N:Nm} {p:Pl} {st:VS} {a:Act} {w w':World}
theorem ID (R:Rel M0 w0 N p st a w) {o:Oper} {c:Call} {σ Kr Ko:List Nat} {h':Hp} {r:AV} {K':Act→World→Prop} {Q:Exit→Act→World→Prop} (cP:o.op = .call c) (hd:cX N o=true) (hc:dx P st c σ Kr Ko h' r)
  (hk:∀ p a w,Rel M0 w0 N p (xn st o.dst σ Kr Ko h' r) a w→K' a w) : o.wp P a w K' Q:=by
 obtain ⟨dst,op,ty,pos,after,guard⟩:=o;simp only at cP;subst cP;obtain ⟨callee,bJ,ln⟩:=c;have aq:=fw hd;unfold dx at hc;split at hc
 ·exact hc.elim
 ·rename_i k xs cQ;obtain ⟨h,args,ks,hv,eo,z8,z_,uF,Aa,hlen,hle,rv,dV,eg⟩:=hc;obtain ⟨lp,eG⟩:=hv;obtain ⟨vs,aC,gJ,gI⟩:=xo (P:=P) (dst:=dst) (ty:=ty) (pos:=pos) (after:=after) (guard:=guard) (fun x _=>R.eval x) cQ lp;have po:σ.length≤h'.length:=by rw [←hlen];exact Nat.le_of_ble_eq_true hle
  simp only [DM,Bool.and_eq_true,decide_eq_true_eq] at rv;have hn:=rv.1;have hL:∀ i∈σ,i < st.h.length:=fun i hi=>by simpa using List.all_eq_true.1 rv.2 i hi
  have uG:∀ k,k < h.length→∃ i,σ[k]? = some i∧tau σ st.h.length k=i:=fun k hk=>by
   have dP:k < σ.length:=by omega
   exact ⟨σ[k],List.getElem?_eq_getElem dP,by unfold tau;rw [List.getElem?_eq_getElem dP]⟩
  have E:Emb h ⟨fun k=>p (tau σ st.h.length k),fun k=>p.S (tau σ st.h.length k)⟩ st.h p (tau σ st.h.length):=by
   refine ⟨fun k hk=>?_,fun k hk=>?_,fun _ _=>rfl,fun _ _=>rfl⟩
   ·obtain ⟨i,hi,ht⟩:=uG k hk;rw [ht];exact hL i (List.mem_of_getElem? hi)
   ·have:=DK dV hk;rwa [Nat.zero_add] at this
  generalize jS:(⟨fun k=>p (tau σ st.h.length k),fun k=>p.S (tau σ st.h.length k)⟩ : Pl)=pc at E;have aD:∀ k ob,h[k]? = some (some ob)→cp ob=true→∀ b j,pc.O k b j→ph σ st.h p b j:=fun k ob hk hl b j hO=>by
   have cF:=(List.getElem?_eq_some_iff.1 hk).1;obtain ⟨i,hi,ht⟩:=uG k cF;refine ⟨tau σ st.h.length k,_,by rw [ht];exact List.mem_of_getElem? hi,pf E hk,by rw [rn];exact hl,(ou E cF).2 hO⟩
  have uz:∀ b j,ph σ st.h p b j→Mof M0 st.h p b j:=fun b j ⟨i,ob,_,hi,hl,hO⟩=>.inr ⟨i,ob,hi,hl,hO⟩;have DN:∀ b j,¬Mof M0 st.h p b j→¬Mof (oth M0 σ st.h p) h pc b j:=fun b j jz hm=>by
   rcases hm with (hm|⟨i,ob,_,hi,hl,hO⟩)|⟨k,ob,hk,hl,hO⟩
   ·exact jz (.inl hm)
   ·exact jz (.inr ⟨i,ob,hi,hl,hO⟩)
   ·exact jz (uz b j (aD k ob hk hl b j hO))
  have IE:∀ b j,oth M0 σ st.h p b j→Mof M0 st.h p b j:=fun b j hm=>by
   rcases hm with hm|⟨i,ob,_,hi,hl,hO⟩
   ·exact .inl hm
   ·exact .inr ⟨i,ob,hi,hl,hO⟩
  have Ab:∀ b j,oth M0 σ st.h p b j→¬ph σ st.h p b j:=fun b j hm ⟨i',ob',jQ,bA,bp,cw⟩=>by
   rcases hm with hm|⟨i,ob,hs,hi,hl,hO⟩
   ·exact R.h0 b j hm ((R.objs i' ob' bA).own bp b j cw).1
   ·exact hs (by rw [R.inj i i' ob ob' hi bA hl bp b j j hO cw];exact jQ)
  have fg:∀ (i:Nat) (x:AV) (v:Value),args[i]? = some x→vs[i]? = some v→V1 w (Mof (oth M0 σ st.h p) h pc) h pc x v:=fun i x v hx hv=>by
   refine V1.back E DN 5 x v (gI i _ v (by rw [eo,List.getElem?_map,hx];rfl) hv) (List.all_eq_true.1 z8 x (List.mem_of_getElem? hx))
  unfold Oper.wp;rw [aC];simp only [Oper.upon];refine (eG w (oth M0 σ st.h p) (ph σ st.h p) pc vs (R.mok.sub IE) (R.mok.sub uz) Ab (by rw [gJ,eo,List.length_map]) fg (fun k ob hk=>?_) (fun k k' ob ob' hk dP hl bp b j j' hO cw=>?_)).mono ?_
  ·exact ObOK.back (w0':=w0) E DN (List.getElem?_eq_some_iff.1 hk).1 (fun hl b j hO=>.inr (aD k ob hk hl b j hO)) (DL z_ k ob hk) (R.objs _ _ (pf E hk))
  ·have cF:=(List.getElem?_eq_some_iff.1 hk).1;have Ac:=(List.getElem?_eq_some_iff.1 dP).1;exact Ir hn hL (R.inj _ _ _ _ (pf E hk) (pf E dP) (by rw [rn];exact hl) (by rw [rn];exact bp) b j j' ((ou E cF).2 hO) ((ou E Ac).2 cw))
  ·rintro en w' ⟨v,q,rfl,hB,hr,hO,hI,ry⟩;simp only [zX,Bool.and_eq_true] at eg;obtain ⟨R2,hres⟩:=R.ret (Kr:=Kr) (Ko:=Ko) hn hL po hB hO hI (DL uF) (fun i hi k hk=>by
     have h1:=List.all_eq_true.1 eg.1 i hi;simp only [s0 hn hk] at h1;obtain ⟨m,hm,s6⟩:=List.any_eq_true.1 h1;have ha:∃ x,args[m]? = some x:=by
      cases hx:args[m]? with
      | some x=>exact ⟨x,rfl⟩
      | none=>simp [List.getD,hx,s4] at s6
     obtain ⟨x,hx⟩:=ha;have lQ:m < vs.length:=by rw [gJ,eo,List.length_map];exact (List.getElem?_eq_some_iff.1 hx).1
     have du:args.getD m .any=x:=by simp [List.getD,hx]
     rw [du] at s6;rw [Iz s6 (fg m x _ hx (List.getElem?_eq_getElem lQ)) (ry m x _ hm hx (List.getElem?_eq_getElem lQ)),←jS];show p (tau σ st.h.length k)=p i;unfold tau;rw [hk]) (fun i hi k hk v hv=>by
     have h1:=List.all_eq_true.1 eg.2 i hi;simp only [s0 hn hk,Bool.and_eq_true] at h1;obtain ⟨aX,h1⟩:=h1;obtain ⟨m,hm,s6⟩:=List.any_eq_true.1 h1;have ha:∃ x,args[m]? = some x:=by
      cases hx:args[m]? with
      | some x=>exact ⟨x,rfl⟩
      | none=>simp [List.getD,hx,xj] at s6
     obtain ⟨x,hx⟩:=ha;have lQ:m < vs.length:=by rw [gJ,eo,List.length_map];exact (List.getElem?_eq_some_iff.1 hx).1
     have du:args.getD m .any=x:=by simp [List.getD,hx]
     rw [du] at s6;have IF:x = .osl k:=by
      cases x<;>simp_all [xj]
     subst IF;have b1:=fg m _ _ hx (List.getElem?_eq_getElem lQ);have b2:=ry m _ _ hm hx (List.getElem?_eq_getElem lQ);have cF:k < h.length:=by rw [hlen];exact (List.getElem?_eq_some_iff.1 hk).1
     have ht:tau σ st.h.length k=i:=by unfold tau;rw [hk]
     have uH:pc k=p i:=by rw [←jS];show p (tau σ st.h.length k)=p i;rw [ht]
     have iu:v=vs[m]:=by
      obtain ⟨A,n1,c1,e1,_,f1⟩:=hv.osl_inv;obtain ⟨_,_,_,_,_,f2⟩:=hv.bag_inv;obtain ⟨A',qh,P9,P_,_,IG⟩:=b1.osl_inv;obtain ⟨_,_,_,_,_,IH⟩:=b1.bag_inv;unfold zW at aX;split at aX
      ·rename_i e sz nl es he;have hH:=pf E he;rw [ht] at hH;have g1:=f1 _ _ _ _ hH;have g2:=IG _ _ _ _ he;rw [uH] at g2;exact g1.uniq (by simpa using aX) (R.objs _ _ hH).1 g2
      ·rename_i e sz nl pe qs he;have hH:=pf E he;rw [ht] at hH;have g1:=f2 _ _ _ _ _ hH;have g2:=IH _ _ _ _ _ he;rw [uH] at g2;exact g1.uniq (by simpa using aX) Nat.one_pos g2
      ·cases aX
     rw [iu];exact b2)
   have rz:=hres r v hr Aa;refine hk (jd σ st.h.length p q) _ _ ?_;unfold xn;cases dst with
   | none=>exact R2
   | some d=>exact R2.putS (aq d rfl) rz
def VL (P:Program) (M0:Nat→Nat→Prop) (w0:Bas) (N:Nm) (ops:List Oper) (Q:Exit→VS→Prop) (l:List Oper) (st:VS) : Prop:=
 ops.all (cX N)=true→l.all (cX N)=true→∀ p a w,Rel M0 w0 N p st a w→wpList P ops.toArray (fun e a' w'=>∃ aK p',Rel M0 w0 N p' aK a' w'∧Q e aK) l a w
variable {ops l:List Oper} {Q:Exit→VS→Prop}
theorem cR (h:Q .normal st) : VL P M0 w0 N ops Q [] st:=fun _ _ p _a _w R=>wpList_nil ⟨st,p,R,h⟩
theorem bz (ow:List Nat) (n:Nat) {l1 l2:List Oper} (hl:l.take n=l1∧l.drop n=l2) (h:ef P ow ops l1 st fun aK=>VL P M0 w0 N ops Q l2 aK) : VL P M0 w0 N ops Q l st:=fun eD hB p a w R=>by
 have eE:l=l1++l2:=by rw [←hl.1,←hl.2,List.take_append_drop]
 rw [eE,List.all_append,Bool.and_eq_true] at hB;have:=zY (P:=P) (M0:=M0) (w0:=w0) (N:=N) (ow:=ow) (ops:=ops) (Q:=fun e a' w'=>∃ aK p',Rel M0 w0 N p' aK a' w'∧Q e aK) (l2:=l2) eD (fun p st a w R h=>h eD hB.2 p a w R) l1 p st a w hB.1 R h;rw [eE];exact this
theorem Ad {mW:VS} (h:∀ p a w,Rel M0 w0 N p st a w→∃ p2,Rel M0 w0 N p2 mW a w) (k:VL P M0 w0 N ops Q l mW) : VL P M0 w0 N ops Q l st:=fun h1 h2 p a w R=>
 let ⟨p2,R2⟩:=h p a w R
 k h1 h2 p2 a w R2
def Ae (ops:List Oper) (st:VS) (o:Oper) : Prop:=match o.guard with
 | none=>True
 | some (j,want)=>db ops st j = .lit (.bool want)
theorem dF {o:Oper} {c:Call} (σ Kr Ko:List Nat) (h':Hp) (r:AV) (cP:o.op = .call c) (hg:Ae ops st o) (hc:dx P st c σ Kr Ko h' r) (k:VL P M0 w0 N ops Q l (xn st o.dst σ Kr Ko h' r)) : VL P M0 w0 N ops Q (o::l) st:=fun eD hB p a w R=>by
 simp only [List.all_cons,Bool.and_eq_true] at hB;refine wpList_step fun X Y=>?_;have ku:o.wp P a w X (fun e a' w'=>∃ aK p',Rel M0 w0 N p' aK a' w'∧Q e aK):=ID R cP hB.1 hc fun p a w R=>Y _ _ (k eD hB.2 p a w R);unfold Ae at hg;split at hg
 ·rename_i mj;simp only [Region.wanted,mj,if_true];exact ku
 ·rename_i j want mj;obtain ⟨uC,_⟩:=oA (j:=j) R eD;simp only [Region.wanted,mj,uC want hg];rw [if_pos (by simp)];exact ku
theorem dB {id:Nat} (h:VL P M0 w0 N l Q l st) : VWp P M0 w0 N (.region id l.toArray false) Q st:=fun hB p a w R=>by
 have dm:l.all (cX N)=true:=by simpa [fk] using hB
 exact wp_region_lit (h dm dm p a w R)
end
end Go.Proofs.YtoibondihdhnoaaGreatDoor
namespace Go.Proofs.YtoibondihdhnoaaGreatDoor
attribute [go_sem] qd okB okA uw mT mU kt xn jx jP tau jy xl xm zX s4 xj zW Ae xg qe xh DE
end Go.Proofs.YtoibondihdhnoaaGreatDoor
