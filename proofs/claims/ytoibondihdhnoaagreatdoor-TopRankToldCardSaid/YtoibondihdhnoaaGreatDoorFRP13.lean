/- Texts in one: A call that writes to its caller's variables, rows and maps, in a d5a: of every program; no condition. -/
import Derived.Test.YtoibondihdhnoaaGreatDoorFRP6
import Derived.Test.YtoibondihdhnoaaGreatDoorFRP11
namespace Go.Proofs.YtoibondihdhnoaaGreatDoor
open Go.RowKit
section
variable {P:Program} {M0:Nat→Nat→Prop} {w0:Bas} {N:Nm} {p:Pl} {st:VS} {a:Act} {w:World} {Q:Exit→VS→Prop}
theorem Al {ow:List Nat} {ops:List Oper} {K:VS→Prop} {Q:Exit→Act→World→Prop} {l2:List Oper} (ew:ops.all (cU N)=true) (hk:∀ p st a w,Rel M0 w0 N p st a w→K st→wpList P ops.toArray Q l2 a w) :
  ∀ (l:List Oper) (p:Pl) (st:VS) (a:Act) (w:World),l.all (cU N)=true→Rel M0 w0 N p st a w→dS P ow ops l st K→wpList P ops.toArray Q (l++l2) a w
 | [],p,st,a,w,_,R,h=>hk p st a w R h
 | o::l,p,st,a,w,hl,R,h=>by
  simp only [List.all_cons,Bool.and_eq_true] at hl;have ih:=fun p st a w=>Al (ow:=ow) (l2:=l2) ew hk l p st a w hl.2;refine wpList_step fun X Y=>?_;simp only [dS,VOp] at h;have kv:VDo P ow o st (fun aL=>dS P ow ops l aL K)→o.wp P a w X Q:=fun h=>xy R hl.1 h fun p st a w R h=>Y _ _ (ih p st a w R h);have mG:dS P ow ops l (st.put o.dst (.lit undef)) K→X (a.put o.dst undef) w:=fun h=>Y _ _ (ih p _ _ w (R.put (eZ hl.1) (.base _ _ (.lit _))) h);split at h
  ·rename_i hg;simp only [Region.wanted,hg,if_true];exact kv h
  ·rename_i j want hg;obtain ⟨uK,Am⟩:=nv (j:=j) R ew;simp only [Region.wanted,hg];split at h
   ·rename_i b hb;rw [uK b hb];by_cases hw:b=want
    ·subst hw;rw [if_pos (by simp)];rw [if_pos rfl] at h;exact kv h
    ·rw [if_neg (by simpa using hw)];rw [if_neg hw] at h;exact mG h
   ·rename_i vs hb;rw [Am vs hb,if_neg (by simp)];exact mG h
   ·exact h.elim
theorem JJ {JK:Nat} {l l1 l2:List Oper} (ow:List Nat) (n:Nat) (hl:l.take n=l1∧l.drop n=l2) (h:dS P ow l l1 st fun Ao=>∃ nw,(∀ p a w,Rel M0 w0 N p Ao a w→∃ p2,Rel M0 w0 N p2 nw a w)∧dS P ow l l2 nw (Q .normal)) : VWp P M0 w0 N (.region JK l.toArray false) Q st:=fun hB p a w R=>by
 have cZ:l.all (cU N)=true:=by simpa [eY] using hB
 have ez:l=l1++l2:=by rw [←hl.1,←hl.2,List.take_append_drop]
 have mH:l1.all (cU N)=true:=by
  rw [ez,List.all_append,Bool.and_eq_true] at cZ;exact cZ.1
 have JL:l2.all (cU N)=true:=by
  rw [ez,List.all_append,Bool.and_eq_true] at cZ;exact cZ.2
 refine wp_region_lit ?_;have:=Al (P:=P) (M0:=M0) (w0:=w0) (N:=N) (ow:=ow) (ops:=l) (Q:=fun e a' w'=>∃ aL p',Rel M0 w0 N p' aL a' w'∧Q e aL) (l2:=l2) cZ (fun p st a w R h=>by
  obtain ⟨nw,h1,h2⟩:=h;obtain ⟨p2,R2⟩:=h1 p a w R;exact l9 (ow:=ow) cZ (fun p st a w R h=>⟨st,p,R,h⟩) l2 p2 _ a w JL R2 h2) l1 p st a w mH R h
 rw [ez] at this ⊢;exact this
theorem jA {c:Code} {nw:VS} {Q:Exit→VS→Prop} (h:∀ p a w,Rel M0 w0 N p st a w→∃ p2,Rel M0 w0 N p2 nw a w) (k:VWp P M0 w0 N c Q nw) : VWp P M0 w0 N c Q st:=fun hC p a w R=>
 let ⟨p2,R2⟩:=h p a w R
 k hC p2 a w R2
theorem qp {h:Hp} {bi:Nat} {dR:List AV} {x ob:Ob} {i:Nat} (hi:(h.set bi (some (.box dR))++[some x])[i]? = some (some ob)) (hb:bi < h.length) : (i=bi∧ob = .box dR)∨(i≠bi∧h[i]? = some (some ob))∨(i=h.length∧ob=x):=by
 rcases Nat.lt_or_ge i h.length with hl|hl
 ·rw [List.getElem?_append_left (by simpa using hl),List.getElem?_set] at hi;by_cases he:bi=i
  ·rw [if_pos he,if_pos hb] at hi;simp only [Option.some.injEq] at hi;exact .inl ⟨he.symm,hi.symm⟩
  ·rw [if_neg he] at hi;exact .inr (.inl ⟨fun h=>he h.symm,hi⟩)
 ·rw [List.getElem?_append_right (by simpa using hl)] at hi;simp only [List.length_set] at hi;cases hh:i - h.length with
  | zero=>
   rw [hh] at hi;simp at hi;exact .inr (.inr ⟨by omega,hi.symm⟩)
  | succ n=>rw [hh] at hi;simp at hi
theorem Rel.nilCell (R:Rel M0 w0 N p st a w) {bi j e sz:Nat} {cs:List AV} (hb:st.h[bi]? = some (some (.box cs))) (hj:cs[j]? = some (.lit (.slice none 0 0))) (aM:0 < sz) : Rel M0 w0 N p ⟨st.s,st.h.set bi (some (.box (cs.set j (.osl st.h.length))))++[some (.arr e sz true [])]⟩ a w:=by
 have dv:bi < st.h.length:=(List.getElem?_eq_some_iff.1 hb).1;refine (R.reheap _ (by simp) (fun i ob hi hl=>?_) (fun i e sz nl es cz he=>?_) (fun i e sz nl pe qs cz he=>?_) fun i ob hi aq keep=>?_).1
 ·rcases qp hi dv with ⟨rfl,rfl⟩|⟨_,bw⟩|⟨rfl,rfl⟩
  ·exact ⟨_,hb,rfl⟩
  ·exact ⟨ob,bw,hl⟩
  ·cases hl
 ·rcases qp he dv with ⟨_,h⟩|⟨_,h⟩|⟨h,_⟩
  ·cases h
  ·exact h
  ·omega
 ·rcases qp he dv with ⟨_,h⟩|⟨_,h⟩|⟨h,_⟩
  ·cases h
  ·exact h
  ·omega
 ·rcases qp hi dv with ⟨rfl,rfl⟩|⟨_,bw⟩|⟨rfl,rfl⟩
  ·obtain ⟨h1,cur,e2,h2,h3,h4,h5⟩:=R.objs i _ hb;refine ⟨h1,cur,e2,h2,by simpa using h3,fun c hc=>?_,fun k c hk=>?_⟩
   ·rcases List.mem_or_eq_of_mem_set hc with h|rfl
    ·exact h4 c h
    ·rfl
   ·rw [List.getElem?_set] at hk;by_cases he:j=k
    ·subst he;have b_:j < cs.length:=(List.getElem?_eq_some_iff.1 hj).1;rw [if_pos rfl,if_pos b_] at hk;simp only [Option.some.injEq] at hk;subst hk;obtain ⟨u,hu,hv⟩:=h5 j _ hj;obtain rfl:=hv.lit_inv;refine ⟨_,hu,.osl _ _ _ _ (by simp) (fun e3 uL uM ta jd=>?_) fun e3 uL uM Eo Ep jd=>?_⟩
     ·rw [List.getElem?_append_right (by simp)] at jd;simp at jd;obtain ⟨rfl,rfl,rfl,rfl⟩:=jd;exact ⟨⟨none,rfl⟩,rfl⟩
     ·rw [List.getElem?_append_right (by simp)] at jd;simp at jd
    ·rw [if_neg he] at hk;obtain ⟨u,hu,hv⟩:=h5 k c hk;exact ⟨u,hu,keep hv⟩
  ·exact absurd bw aq
  ·exact ⟨aM,(fun k x hk=>by simp at hk),rfl⟩
end
def xz (τ:Nat→Nat) (H:Hp) : Nat→Hp→Prop
 | _,[]=>True
 | k,o::r=>H[τ k]? = some (o.map (jT τ))∧xz τ H (k+1) r
def xA (n:Nat) (h:Hp) : Bool:=h.all fun o=>match o with|some ob=>oN n ob|none=>true
theorem Er {τ:Nat→Nat} {H:Hp} : ∀ {h:Hp} {i k:Nat},xz τ H i h→k < h.length→H[τ (i+k)]? = (h[k]?).map (Option.map (jT τ))
 | [],i,k,_,hk=>by simp at hk
 | o::r,i,0,hf,_=>by simpa using hf.1
 | o::r,i,k+1,hf,hk=>by
  have:=Er (i:=i+1) (k:=k) hf.2 (by simpa using hk);rw [show i+(k+1)=i+1+k by omega,this];simp
theorem Es {n:Nat} {h:Hp} (hi:xA n h=true) (k:Nat) (ob:Ob) (hk:h[k]? = some (some ob)) : oN n ob=true:=by
 have:=List.all_eq_true.1 hi (some ob) (List.mem_of_getElem? hk);simpa using this
def Et (σ:List Nat) (L:Nat) : Bool:=decide σ.Nodup&&σ.all fun i=>Nat.blt i L
section
variable (P:Program)
def fk (st:VS) (c:Call) (σ Kr Ko:List Nat) (h':Hp) (r:AV) : Prop:=
 match qq P (ev st) c with
 | none=>False
 | some (k,xs)=>∃ h args ks,VH P k h args ks h' r∧xs=args.map (jx (tau σ st.h.length) 5)∧args.all (bh h.length 5)=true∧xA h.length h=true∧xA h'.length h'=true∧bh h'.length 5 r=true∧h.length=σ.length∧Nat.ble h.length h'.length=true ∧
   Et σ st.h.length=true∧xz (tau σ st.h.length) st.h 0 h∧Ak σ h args ks Kr Ko=true
end
def xB (st:VS) (d:Option Tmp) (σ Kr Ko:List Nat) (h':Hp) (r:AV) : VS:=
 VS.put ⟨qn (okB σ Kr Ko) st.s,ku σ st.h.length (okB σ Kr Ko) st.h h'⟩ d (jx (tau σ st.h.length) 5 r)
section
variable {P:Program} {M0:Nat→Nat→Prop} {w0:Bas} {N:Nm} {p:Pl} {st:VS} {a:Act} {w w':World}
theorem JM (R:Rel M0 w0 N p st a w) {o:Oper} {c:Call} {σ Kr Ko:List Nat} {h':Hp} {r:AV} {K':Act→World→Prop} {Q:Exit→Act→World→Prop} (cj:o.op = .call c) (hd:cU N o=true) (hc:fk P st c σ Kr Ko h' r)
  (hk:∀ p a w,Rel M0 w0 N p (xB st o.dst σ Kr Ko h' r) a w→K' a w) : o.wp P a w K' Q:=by
 obtain ⟨dst,op,ty,pos,after,guard⟩:=o;simp only at cj;subst cj;obtain ⟨callee,bG,lv⟩:=c;have ao:=eZ hd;unfold fk at hc;split at hc
 ·exact hc.elim
 ·rename_i k xs cO;obtain ⟨h,args,ks,hv,ee,Ap,Aq,uN,Ar,hlen,hle,rA,dT,d_⟩:=hc;obtain ⟨lx,eA⟩:=hv;obtain ⟨vs,aC,fW,gH⟩:=xC (P:=P) (dst:=dst) (ty:=ty) (pos:=pos) (after:=after) (guard:=guard) (fun x _=>R.eval x) cO lx;have pB:σ.length≤h'.length:=by rw [←hlen];exact Nat.le_of_ble_eq_true hle
  simp only [Et,Bool.and_eq_true,decide_eq_true_eq] at rA;have hn:=rA.1;have hL:∀ i∈σ,i < st.h.length:=fun i hi=>by simpa using List.all_eq_true.1 rA.2 i hi
  have uO:∀ k,k < h.length→∃ i,σ[k]? = some i∧tau σ st.h.length k=i:=fun k hk=>by
   have dN:k < σ.length:=by omega
   exact ⟨σ[k],List.getElem?_eq_getElem dN,by unfold tau;rw [List.getElem?_eq_getElem dN]⟩
  have E:Emb h ⟨fun k=>p (tau σ st.h.length k),fun k=>p.S (tau σ st.h.length k)⟩ st.h p (tau σ st.h.length):=by
   refine ⟨fun k hk=>?_,fun k hk=>?_,fun _ _=>rfl,fun _ _=>rfl⟩
   ·obtain ⟨i,hi,ht⟩:=uO k hk;rw [ht];exact hL i (List.mem_of_getElem? hi)
   ·have:=Er dT hk;rwa [Nat.zero_add] at this
  generalize jV:(⟨fun k=>p (tau σ st.h.length k),fun k=>p.S (tau σ st.h.length k)⟩ : Pl)=pc at E;have aD:∀ k ob,h[k]? = some (some ob)→cn ob=true→∀ b j,pc.O k b j→px σ st.h p b j:=fun k ob hk hl b j hO=>by
   have db:=(List.getElem?_eq_some_iff.1 hk).1;obtain ⟨i,hi,ht⟩:=uO k db;refine ⟨tau σ st.h.length k,_,by rw [ht];exact List.mem_of_getElem? hi,pv E hk,by rw [rr];exact hl,(oM E db).2 hO⟩
  have uH:∀ b j,px σ st.h p b j→Mof M0 st.h p b j:=fun b j ⟨i,ob,_,hi,hl,hO⟩=>.inr ⟨i,ob,hi,hl,hO⟩;have Eu:∀ b j,¬Mof M0 st.h p b j→¬Mof (oth M0 σ st.h p) h pc b j:=fun b j jz hm=>by
   rcases hm with (hm|⟨i,ob,_,hi,hl,hO⟩)|⟨k,ob,hk,hl,hO⟩
   ·exact jz (.inl hm)
   ·exact jz (.inr ⟨i,ob,hi,hl,hO⟩)
   ·exact jz (uH b j (aD k ob hk hl b j hO))
  have JN:∀ b j,oth M0 σ st.h p b j→Mof M0 st.h p b j:=fun b j hm=>by
   rcases hm with hm|⟨i,ob,_,hi,hl,hO⟩
   ·exact .inl hm
   ·exact .inr ⟨i,ob,hi,hl,hO⟩
  have As:∀ b j,oth M0 σ st.h p b j→¬px σ st.h p b j:=fun b j hm ⟨i',ob',jU,bw,bm,cw⟩=>by
   rcases hm with hm|⟨i,ob,hs,hi,hl,hO⟩
   ·exact R.h0 b j hm ((R.objs i' ob' bw).own bm b j cw).1
   ·exact hs (by rw [R.inj i i' ob ob' hi bw hl bm b j j hO cw];exact jU)
  have e8:∀ (i:Nat) (x:AV) (v:Value),args[i]? = some x→vs[i]? = some v→V1 w (Mof (oth M0 σ st.h p) h pc) h pc x v:=fun i x v hx hv=>by
   refine V1.back E Eu 5 x v (gH i _ v (by rw [ee,List.getElem?_map,hx];rfl) hv) (List.all_eq_true.1 Ap x (List.mem_of_getElem? hx))
  unfold Oper.wp;rw [aC];simp only [Oper.upon];refine (eA w (oth M0 σ st.h p) (px σ st.h p) pc vs (R.mok.sub JN) (R.mok.sub uH) As (by rw [fW,ee,List.length_map]) e8 (fun k ob hk=>?_) (fun k k' ob ob' hk dN hl bm b j j' hO cw=>?_)).mono ?_
  ·exact ObOK.back (w0':=w0) E Eu (List.getElem?_eq_some_iff.1 hk).1 (fun hl b j hO=>.inr (aD k ob hk hl b j hO)) (Es Aq k ob hk) (R.objs _ _ (pv E hk))
  ·have db:=(List.getElem?_eq_some_iff.1 hk).1;have At:=(List.getElem?_eq_some_iff.1 dN).1;exact JA hn hL (R.inj _ _ _ _ (pv E hk) (pv E dN) (by rw [rr];exact hl) (by rw [rr];exact bm) b j j' ((oM E db).2 hO) ((oM E At).2 cw))
  ·rintro en w' ⟨v,q,rfl,hB,hr,hO,hI,rB⟩;simp only [Ak,Bool.and_eq_true] at d_;obtain ⟨R2,hres⟩:=R.ret (Kr:=Kr) (Ko:=Ko) hn hL pB hB hO hI (Es uN) (fun i hi k hk=>by
     have h1:=List.all_eq_true.1 d_.1 i hi;simp only [s9 hn hk] at h1;obtain ⟨m,hm,tc⟩:=List.any_eq_true.1 h1;have ha:∃ x,args[m]? = some x:=by
      cases hx:args[m]? with
      | some x=>exact ⟨x,rfl⟩
      | none=>simp [List.getD,hx,s_] at tc
     obtain ⟨x,hx⟩:=ha;have l_:m < vs.length:=by rw [fW,ee,List.length_map];exact (List.getElem?_eq_some_iff.1 hx).1
     have dq:args.getD m .any=x:=by simp [List.getD,hx]
     rw [dq] at tc;rw [JI tc (e8 m x _ hx (List.getElem?_eq_getElem l_)) (rB m x _ hm hx (List.getElem?_eq_getElem l_)),←jV];show p (tau σ st.h.length k)=p i;unfold tau;rw [hk]) (fun i hi k hk v hv=>by
     have h1:=List.all_eq_true.1 d_.2 i hi;simp only [s9 hn hk,Bool.and_eq_true] at h1;obtain ⟨aR,h1⟩:=h1;obtain ⟨m,hm,tc⟩:=List.any_eq_true.1 h1;have ha:∃ x,args[m]? = some x:=by
      cases hx:args[m]? with
      | some x=>exact ⟨x,rfl⟩
      | none=>simp [List.getD,hx,xw] at tc
     obtain ⟨x,hx⟩:=ha;have l_:m < vs.length:=by rw [fW,ee,List.length_map];exact (List.getElem?_eq_some_iff.1 hx).1
     have dq:args.getD m .any=x:=by simp [List.getD,hx]
     rw [dq] at tc;have JO:x = .osl k:=by
      cases x<;>simp_all [xw]
     subst JO;have b1:=e8 m _ _ hx (List.getElem?_eq_getElem l_);have b2:=rB m _ _ hm hx (List.getElem?_eq_getElem l_);have db:k < h.length:=by rw [hlen];exact (List.getElem?_eq_some_iff.1 hk).1
     have ht:tau σ st.h.length k=i:=by unfold tau;rw [hk]
     have uP:pc k=p i:=by rw [←jV];show p (tau σ st.h.length k)=p i;rw [ht]
     have iv:v=vs[m]:=by
      obtain ⟨A,n1,c1,e1,_,f1⟩:=hv.osl_inv;obtain ⟨_,_,_,_,_,f2⟩:=hv.bag_inv;obtain ⟨A',qt,RM,RN,_,JP⟩:=b1.osl_inv;obtain ⟨_,_,_,_,_,JQ⟩:=b1.bag_inv;unfold Aj at aR;split at aR
      ·rename_i e sz nl es he;have hH:=pv E he;rw [ht] at hH;have g1:=f1 _ _ _ _ hH;have g2:=JP _ _ _ _ he;rw [uP] at g2;exact g1.uniq (by simpa using aR) (R.objs _ _ hH).1 g2
      ·rename_i e sz nl pe qs he;have hH:=pv E he;rw [ht] at hH;have g1:=f2 _ _ _ _ _ hH;have g2:=JQ _ _ _ _ _ he;rw [uP] at g2;exact g1.uniq (by simpa using aR) Nat.one_pos g2
      ·cases aR
     rw [iv];exact b2)
   have rC:=hres r v hr Ar;refine hk (ja σ st.h.length p q) _ _ ?_;unfold xB;cases dst with
   | none=>exact R2
   | some d=>exact R2.putS (ao d rfl) rC
def VL (P:Program) (M0:Nat→Nat→Prop) (w0:Bas) (N:Nm) (ops:List Oper) (Q:Exit→VS→Prop) (l:List Oper) (st:VS) : Prop:=
 ops.all (cU N)=true→l.all (cU N)=true→∀ p a w,Rel M0 w0 N p st a w→wpList P ops.toArray (fun e a' w'=>∃ aL p',Rel M0 w0 N p' aL a' w'∧Q e aL) l a w
variable {ops l:List Oper} {Q:Exit→VS→Prop}
theorem dA (h:Q .normal st) : VL P M0 w0 N ops Q [] st:=fun _ _ p _a _w R=>wpList_nil ⟨st,p,R,h⟩
theorem ca (ow:List Nat) (n:Nat) {l1 l2:List Oper} (hl:l.take n=l1∧l.drop n=l2) (h:dS P ow ops l1 st fun aL=>VL P M0 w0 N ops Q l2 aL) : VL P M0 w0 N ops Q l st:=fun ew hB p a w R=>by
 have ez:l=l1++l2:=by rw [←hl.1,←hl.2,List.take_append_drop]
 rw [ez,List.all_append,Bool.and_eq_true] at hB;have:=Al (P:=P) (M0:=M0) (w0:=w0) (N:=N) (ow:=ow) (ops:=ops) (Q:=fun e a' w'=>∃ aL p',Rel M0 w0 N p' aL a' w'∧Q e aL) (l2:=l2) ew (fun p st a w R h=>h ew hB.2 p a w R) l1 p st a w hB.1 R h;rw [ez];exact this
theorem Au {nw:VS} (h:∀ p a w,Rel M0 w0 N p st a w→∃ p2,Rel M0 w0 N p2 nw a w) (k:VL P M0 w0 N ops Q l nw) : VL P M0 w0 N ops Q l st:=fun h1 h2 p a w R=>
 let ⟨p2,R2⟩:=h p a w R
 k h1 h2 p2 a w R2
def Av (ops:List Oper) (st:VS) (o:Oper) : Prop:=match o.guard with
 | none=>True
 | some (j,want)=>cV ops st j = .lit (.bool want)
theorem fJ {o:Oper} {c:Call} (σ Kr Ko:List Nat) (h':Hp) (r:AV) (cj:o.op = .call c) (hg:Av ops st o) (hc:fk P st c σ Kr Ko h' r) (k:VL P M0 w0 N ops Q l (xB st o.dst σ Kr Ko h' r)) : VL P M0 w0 N ops Q (o::l) st:=fun ew hB p a w R=>by
 simp only [List.all_cons,Bool.and_eq_true] at hB;refine wpList_step fun X Y=>?_;have kv:o.wp P a w X (fun e a' w'=>∃ aL p',Rel M0 w0 N p' aL a' w'∧Q e aL):=JM R cj hB.1 hc fun p a w R=>Y _ _ (k ew hB.2 p a w R);unfold Av at hg;split at hg
 ·rename_i mF;simp only [Region.wanted,mF,if_true];exact kv
 ·rename_i j want mF;obtain ⟨uK,_⟩:=nv (j:=j) R ew;simp only [Region.wanted,mF,uK want hg];rw [if_pos (by simp)];exact kv
theorem fB {id:Nat} (h:VL P M0 w0 N l Q l st) : VWp P M0 w0 N (.region id l.toArray false) Q st:=fun hB p a w R=>by
 have cZ:l.all (cU N)=true:=by simpa [eY] using hB
 exact wp_region_lit (h cZ cZ p a w R)
end
end Go.Proofs.YtoibondihdhnoaaGreatDoor
namespace Go.Proofs.YtoibondihdhnoaaGreatDoor
attribute [go_sem] qn okB okA uE nr ns ku xB jx jT tau jy xz xA Ak s_ xw Aj Av xt qo xu Ek
end Go.Proofs.YtoibondihdhnoaaGreatDoor
