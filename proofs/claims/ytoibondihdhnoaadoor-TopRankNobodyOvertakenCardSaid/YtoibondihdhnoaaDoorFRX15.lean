/- Texts in one: A call that writes to its caller's variables, rows and maps, in a d2o: of every program; no condition. -/
import Derived.Test.YtoibondihdhnoaaDoorFRX5
import Derived.Test.YtoibondihdhnoaaDoorFRX13
namespace Go.Proofs.YtoibondihdhnoaaDoor
open Go.RowKit
section
variable {P:Program} {M0:Nat→Nat→Prop} {w0:Bas} {N:Nm} {p:Pl} {st:VS} {a:Act} {w:World} {Q:Exit→VS→Prop}
theorem a7u {ow:List Nat} {ops:List Oper} {K:VS→Prop} {Q:Exit→Act→World→Prop} {l2:List Oper} (hops:ops.all (q9_ N)=true) (hk:∀ p st a w,Rel M0 w0 N p st a w→K st→wpList P ops.toArray Q l2 a w) :
  ∀ (l:List Oper) (p:Pl) (st:VS) (a:Act) (w:World),l.all (q9_ N)=true→Rel M0 w0 N p st a w→y2_ P ow ops l st K→wpList P ops.toArray Q (l++l2) a w
 | [],p,st,a,w,_,R,h=>hk p st a w R h
 | o::l,p,st,a,w,hl,R,h=>by
  simp only [List.all_cons,Bool.and_eq_true] at hl;have ih:=fun p st a w=>a7u (ow:=ow) (l2:=l2) hops hk l p st a w hl.2;refine wpList_step fun X Y=>?_;simp only [y2_,VOp] at h;have hdo:VDo P ow o st (fun st'=>y2_ P ow ops l st' K)→o.wp P a w X Q:=fun h=>b4z R hl.1 h fun p st a w R h=>Y _ _ (ih p st a w R h);have hsk:y2_ P ow ops l (st.put o.dst (.lit undef)) K→X (a.put o.dst undef) w:=fun h=>Y _ _ (ih p _ _ w (R.put (f8_ hl.1) (.base _ _ (.lit _))) h);split at h
  ·rename_i hg;simp only [Region.wanted,hg,if_true];exact hdo h
  ·rename_i j want hg;obtain ⟨hy1,hy2⟩:=i6_ (j:=j) R hops;simp only [Region.wanted,hg];split at h
   ·rename_i b hb;rw [hy1 b hb];by_cases hw:b=want
    ·subst hw;rw [if_pos (by simp)];rw [if_pos rfl] at h;exact hdo h
    ·rw [if_neg (by simpa using hw)];rw [if_neg hw] at h;exact hsk h
   ·rename_i vs hb;rw [hy2 vs hb,if_neg (by simp)];exact hsk h
   ·exact h.elim
theorem c2v {rid:Nat} {l l1 l2:List Oper} (ow:List Nat) (n:Nat) (hl:l.take n=l1∧l.drop n=l2) (h:y2_ P ow l l1 st fun st1=>∃ st2,(∀ p a w,Rel M0 w0 N p st1 a w→∃ p2,Rel M0 w0 N p2 st2 a w)∧y2_ P ow l l2 st2 (Q .normal)) : VWp P M0 w0 N (.region rid l.toArray false) Q st:=fun hB p a w R=>by
 have hB':l.all (q9_ N)=true:=by simpa [n7_] using hB
 have hsplit:l=l1++l2:=by rw [←hl.1,←hl.2,List.take_append_drop]
 have hB1:l1.all (q9_ N)=true:=by
  rw [hsplit,List.all_append,Bool.and_eq_true] at hB';exact hB'.1
 have hB2:l2.all (q9_ N)=true:=by
  rw [hsplit,List.all_append,Bool.and_eq_true] at hB';exact hB'.2
 refine wp_region_lit ?_;have:=a7u (P:=P) (M0:=M0) (w0:=w0) (N:=N) (ow:=ow) (ops:=l) (Q:=fun e a' w'=>∃ st' p',Rel M0 w0 N p' st' a' w'∧Q e st') (l2:=l2) hB' (fun p st a w R h=>by
  obtain ⟨st2,h1,h2⟩:=h;obtain ⟨p2,R2⟩:=h1 p a w R;exact r0_ (ow:=ow) hB' (fun p st a w R h=>⟨st,p,R,h⟩) l2 p2 _ a w hB2 R2 h2) l1 p st a w hB1 R h
 rw [hsplit] at this ⊢;exact this
theorem u0_ {c:Code} {st2:VS} {Q:Exit→VS→Prop} (h:∀ p a w,Rel M0 w0 N p st a w→∃ p2,Rel M0 w0 N p2 st2 a w) (k:VWp P M0 w0 N c Q st2) : VWp P M0 w0 N c Q st:=fun hC p a w R=>
 let ⟨p2,R2⟩:=h p a w R
 k hC p2 a w R2
theorem t1_ {h:Hp} {bi:Nat} {cs':List AV} {x ob:Ob} {i:Nat} (hi:(h.set bi (some (.box cs'))++[some x])[i]? = some (some ob)) (hb:bi < h.length) : (i=bi∧ob = .box cs')∨(i≠bi∧h[i]? = some (some ob))∨(i=h.length∧ob=x):=by
 rcases Nat.lt_or_ge i h.length with hl|hl
 ·rw [List.getElem?_append_left (by simpa using hl),List.getElem?_set] at hi;by_cases he:bi=i
  ·rw [if_pos he,if_pos hb] at hi;simp only [Option.some.injEq] at hi;exact .inl ⟨he.symm,hi.symm⟩
  ·rw [if_neg he] at hi;exact .inr (.inl ⟨fun h=>he h.symm,hi⟩)
 ·rw [List.getElem?_append_right (by simpa using hl)] at hi;simp only [List.length_set] at hi;cases hh:i - h.length with
  | zero=>
   rw [hh] at hi;simp at hi;exact .inr (.inr ⟨by omega,hi.symm⟩)
  | succ n=>rw [hh] at hi;simp at hi
theorem Rel.nilCell (R:Rel M0 w0 N p st a w) {bi j e sz:Nat} {cs:List AV} (hb:st.h[bi]? = some (some (.box cs))) (hj:cs[j]? = some (.lit (.slice none 0 0))) (hsz:0 < sz) : Rel M0 w0 N p ⟨st.s,st.h.set bi (some (.box (cs.set j (.osl st.h.length))))++[some (.arr e sz true [])]⟩ a w:=by
 have hbl:bi < st.h.length:=(List.getElem?_eq_some_iff.1 hb).1;refine (R.reheap _ (by simp) (fun i ob hi hl=>?_) (fun i e sz nl es hil he=>?_) (fun i e sz nl pe qs hil he=>?_) fun i ob hi hne keep=>?_).1
 ·rcases t1_ hi hbl with ⟨rfl,rfl⟩|⟨_,hi'⟩|⟨rfl,rfl⟩
  ·exact ⟨_,hb,rfl⟩
  ·exact ⟨ob,hi',hl⟩
  ·cases hl
 ·rcases t1_ he hbl with ⟨_,h⟩|⟨_,h⟩|⟨h,_⟩
  ·cases h
  ·exact h
  ·omega
 ·rcases t1_ he hbl with ⟨_,h⟩|⟨_,h⟩|⟨h,_⟩
  ·cases h
  ·exact h
  ·omega
 ·rcases t1_ hi hbl with ⟨rfl,rfl⟩|⟨_,hi'⟩|⟨rfl,rfl⟩
  ·obtain ⟨h1,cur,e2,h2,h3,h4,h5⟩:=R.objs i _ hb;refine ⟨h1,cur,e2,h2,by simpa using h3,fun c hc=>?_,fun k c hk=>?_⟩
   ·rcases List.mem_or_eq_of_mem_set hc with h|rfl
    ·exact h4 c h
    ·rfl
   ·rw [List.getElem?_set] at hk;by_cases he:j=k
    ·subst he;have hjl:j < cs.length:=(List.getElem?_eq_some_iff.1 hj).1;rw [if_pos rfl,if_pos hjl] at hk;simp only [Option.some.injEq] at hk;subst hk;obtain ⟨u,hu,hv⟩:=h5 j _ hj;obtain rfl:=hv.lit_inv;refine ⟨_,hu,.osl _ _ _ _ (by simp) (fun e3 sz3 nl3 es3 he3=>?_) fun e3 sz3 nl3 pe3 qs3 he3=>?_⟩
     ·rw [List.getElem?_append_right (by simp)] at he3;simp at he3;obtain ⟨rfl,rfl,rfl,rfl⟩:=he3;exact ⟨⟨none,rfl⟩,rfl⟩
     ·rw [List.getElem?_append_right (by simp)] at he3;simp at he3
    ·rw [if_neg he] at hk;obtain ⟨u,hu,hv⟩:=h5 k c hk;exact ⟨u,hu,keep hv⟩
  ·exact absurd hi' hne
  ·exact ⟨hsz,(fun k x hk=>by simp at hk),rfl⟩
end
def d1z (τ:Nat→Nat) (H:Hp) : Nat→Hp→Prop
 | _,[]=>True
 | k,o::r=>H[τ k]? = some (o.map (a9d τ))∧d1z τ H (k+1) r
def d2a (n:Nat) (h:Hp) : Bool:=h.all fun o=>match o with|some ob=>c2j n ob|none=>true
theorem b8c {τ:Nat→Nat} {H:Hp} : ∀ {h:Hp} {i k:Nat},d1z τ H i h→k < h.length→H[τ (i+k)]? = (h[k]?).map (Option.map (a9d τ))
 | [],i,k,_,hk=>by simp at hk
 | o::r,i,0,hf,_=>by simpa using hf.1
 | o::r,i,k+1,hf,hk=>by
  have:=b8c (i:=i+1) (k:=k) hf.2 (by simpa using hk);rw [show i+(k+1)=i+1+k by omega,this];simp
theorem b8d {n:Nat} {h:Hp} (hi:d2a n h=true) (k:Nat) (ob:Ob) (hk:h[k]? = some (some ob)) : c2j n ob=true:=by
 have:=List.all_eq_true.1 hi (some ob) (List.mem_of_getElem? hk);simpa using this
def d4e (σ:List Nat) (L:Nat) : Bool:=decide σ.Nodup&&σ.all fun i=>Nat.blt i L
section
variable (P:Program)
def j7_ (st:VS) (c:Call) (σ Kr Ko:List Nat) (h':Hp) (r:AV) : Prop:=
 match z0_ P (ev st) c with
 | none=>False
 | some (k,xs)=>∃ h args ks,VH P k h args ks h' r∧xs=args.map (a8z (tau σ st.h.length) 5)∧args.all (h5_ h.length 5)=true∧d2a h.length h=true∧d2a h'.length h'=true∧h5_ h'.length 5 r=true∧h.length=σ.length∧Nat.ble h.length h'.length=true ∧
   d4e σ st.h.length=true∧d1z (tau σ st.h.length) st.h 0 h∧c6r σ h args ks Kr Ko=true
end
def b3n (st:VS) (d:Option Tmp) (σ Kr Ko:List Nat) (h':Hp) (r:AV) : VS:=
 VS.put ⟨c5q (okB σ Kr Ko) st.s,b1m σ st.h.length (okB σ Kr Ko) st.h h'⟩ d (a8z (tau σ st.h.length) 5 r)
section
variable {P:Program} {M0:Nat→Nat→Prop} {w0:Bas} {N:Nm} {p:Pl} {st:VS} {a:Act} {w w':World}
theorem c2w (R:Rel M0 w0 N p st a w) {o:Oper} {c:Call} {σ Kr Ko:List Nat} {h':Hp} {r:AV} {K':Act→World→Prop} {Q:Exit→Act→World→Prop} (hop:o.op = .call c) (hd:q9_ N o=true) (hc:j7_ P st c σ Kr Ko h' r)
  (hk:∀ p a w,Rel M0 w0 N p (b3n st o.dst σ Kr Ko h' r) a w→K' a w) : o.wp P a w K' Q:=by
 obtain ⟨dst,op,ty,pos,after,guard⟩:=o;simp only at hop;subst hop;obtain ⟨callee,cargs,cts⟩:=c;have hlt:=f8_ hd;unfold j7_ at hc;split at hc
 ·exact hc.elim
 ·rename_i k xs hcal;obtain ⟨h,args,ks,hv,hxs,hidA,hidH,hidH',hidR,hlen,hle,hsig,hfit,hkeep⟩:=hc;obtain ⟨hgo,hcalls⟩:=hv;obtain ⟨vs,hrun,hvl,hvs⟩:=a0n (P:=P) (dst:=dst) (ty:=ty) (pos:=pos) (after:=after) (guard:=guard) (fun x _=>R.eval x) hcal hgo;have hle':σ.length≤h'.length:=by rw [←hlen];exact Nat.le_of_ble_eq_true hle
  simp only [d4e,Bool.and_eq_true,decide_eq_true_eq] at hsig;have hn:=hsig.1;have hL:∀ i∈σ,i < st.h.length:=fun i hi=>by simpa using List.all_eq_true.1 hsig.2 i hi
  have htau:∀ k,k < h.length→∃ i,σ[k]? = some i∧tau σ st.h.length k=i:=fun k hk=>by
   have hk':k < σ.length:=by omega
   exact ⟨σ[k],List.getElem?_eq_getElem hk',by unfold tau;rw [List.getElem?_eq_getElem hk']⟩
  have E:Emb h ⟨fun k=>p (tau σ st.h.length k),fun k=>p.S (tau σ st.h.length k)⟩ st.h p (tau σ st.h.length):=by
   refine ⟨fun k hk=>?_,fun k hk=>?_,fun _ _=>rfl,fun _ _=>rfl⟩
   ·obtain ⟨i,hi,ht⟩:=htau k hk;rw [ht];exact hL i (List.mem_of_getElem? hi)
   ·have:=b8c hfit hk;rwa [Nat.zero_add] at this
  generalize hpc:(⟨fun k=>p (tau σ st.h.length k),fun k=>p.S (tau σ st.h.length k)⟩ : Pl)=pc at E;have hcell:∀ k ob,h[k]? = some (some ob)→m8_ ob=true→∀ b j,pc.O k b j→c2r σ st.h p b j:=fun k ob hk hl b j hO=>by
   have hkl:=(List.getElem?_eq_some_iff.1 hk).1;obtain ⟨i,hi,ht⟩:=htau k hkl;refine ⟨tau σ st.h.length k,_,by rw [ht];exact List.mem_of_getElem? hi,r3_ E hk,by rw [r9_];exact hl,(a5y E hkl).2 hO⟩
  have hXM:∀ b j,c2r σ st.h p b j→Mof M0 st.h p b j:=fun b j ⟨i,ob,_,hi,hl,hO⟩=>.inr ⟨i,ob,hi,hl,hO⟩;have hMM:∀ b j,¬Mof M0 st.h p b j→¬Mof (oth M0 σ st.h p) h pc b j:=fun b j hn1 hm=>by
   rcases hm with (hm|⟨i,ob,_,hi,hl,hO⟩)|⟨k,ob,hk,hl,hO⟩
   ·exact hn1 (.inl hm)
   ·exact hn1 (.inr ⟨i,ob,hi,hl,hO⟩)
   ·exact hn1 (hXM b j (hcell k ob hk hl b j hO))
  have hoM:∀ b j,oth M0 σ st.h p b j→Mof M0 st.h p b j:=fun b j hm=>by
   rcases hm with hm|⟨i,ob,_,hi,hl,hO⟩
   ·exact .inl hm
   ·exact .inr ⟨i,ob,hi,hl,hO⟩
  have hdis:∀ b j,oth M0 σ st.h p b j→¬c2r σ st.h p b j:=fun b j hm ⟨i',ob',hs',hi',hl',hO'⟩=>by
   rcases hm with hm|⟨i,ob,hs,hi,hl,hO⟩
   ·exact R.h0 b j hm ((R.objs i' ob' hi').own hl' b j hO').1
   ·exact hs (by rw [R.inj i i' ob ob' hi hi' hl hl' b j j hO hO'];exact hs')
  have hargs:∀ (i:Nat) (x:AV) (v:Value),args[i]? = some x→vs[i]? = some v→V1 w (Mof (oth M0 σ st.h p) h pc) h pc x v:=fun i x v hx hv=>by
   refine V1.back E hMM 5 x v (hvs i _ v (by rw [hxs,List.getElem?_map,hx];rfl) hv) (List.all_eq_true.1 hidA x (List.mem_of_getElem? hx))
  unfold Oper.wp;rw [hrun];simp only [Oper.upon];refine (hcalls w (oth M0 σ st.h p) (c2r σ st.h p) pc vs (R.mok.sub hoM) (R.mok.sub hXM) hdis (by rw [hvl,hxs,List.length_map]) hargs (fun k ob hk=>?_) (fun k k' ob ob' hk hk' hl hl' b j j' hO hO'=>?_)).mono ?_
  ·exact ObOK.back (w0':=w0) E hMM (List.getElem?_eq_some_iff.1 hk).1 (fun hl b j hO=>.inr (hcell k ob hk hl b j hO)) (b8d hidH k ob hk) (R.objs _ _ (r3_ E hk))
  ·have hkl:=(List.getElem?_eq_some_iff.1 hk).1;have hkl':=(List.getElem?_eq_some_iff.1 hk').1;exact c6q hn hL (R.inj _ _ _ _ (r3_ E hk) (r3_ E hk') (by rw [r9_];exact hl) (by rw [r9_];exact hl') b j j' ((a5y E hkl).2 hO) ((a5y E hkl').2 hO'))
  ·rintro en w' ⟨v,q,rfl,hB,hr,hO,hI,hks⟩;simp only [c6r,Bool.and_eq_true] at hkeep;obtain ⟨R2,hres⟩:=R.ret (Kr:=Kr) (Ko:=Ko) hn hL hle' hB hO hI (b8d hidH') (fun i hi k hk=>by
     have h1:=List.all_eq_true.1 hkeep.1 i hi;simp only [a0i hn hk] at h1;obtain ⟨m,hm,hm2⟩:=List.any_eq_true.1 h1;have ha:∃ x,args[m]? = some x:=by
      cases hx:args[m]? with
      | some x=>exact ⟨x,rfl⟩
      | none=>simp [List.getD,hx,a6m] at hm2
     obtain ⟨x,hx⟩:=ha;have hxl:m < vs.length:=by rw [hvl,hxs,List.length_map];exact (List.getElem?_eq_some_iff.1 hx).1
     have hge:args.getD m .any=x:=by simp [List.getD,hx]
     rw [hge] at hm2;rw [b8b hm2 (hargs m x _ hx (List.getElem?_eq_getElem hxl)) (hks m x _ hm hx (List.getElem?_eq_getElem hxl)),←hpc];show p (tau σ st.h.length k)=p i;unfold tau;rw [hk]) (fun i hi k hk v hv=>by
     have h1:=List.all_eq_true.1 hkeep.2 i hi;simp only [a0i hn hk,Bool.and_eq_true] at h1;obtain ⟨hrow,h1⟩:=h1;obtain ⟨m,hm,hm2⟩:=List.any_eq_true.1 h1;have ha:∃ x,args[m]? = some x:=by
      cases hx:args[m]? with
      | some x=>exact ⟨x,rfl⟩
      | none=>simp [List.getD,hx,b3m] at hm2
     obtain ⟨x,hx⟩:=ha;have hxl:m < vs.length:=by rw [hvl,hxs,List.length_map];exact (List.getElem?_eq_some_iff.1 hx).1
     have hge:args.getD m .any=x:=by simp [List.getD,hx]
     rw [hge] at hm2;have hxo:x = .osl k:=by
      cases x<;>simp_all [b3m]
     subst hxo;have b1:=hargs m _ _ hx (List.getElem?_eq_getElem hxl);have b2:=hks m _ _ hm hx (List.getElem?_eq_getElem hxl);have hkl:k < h.length:=by rw [hlen];exact (List.getElem?_eq_some_iff.1 hk).1
     have ht:tau σ st.h.length k=i:=by unfold tau;rw [hk]
     have hpi:pc k=p i:=by rw [←hpc];show p (tau σ st.h.length k)=p i;rw [ht]
     have hvv:v=vs[m]:=by
      obtain ⟨A,n1,c1,e1,_,f1⟩:=hv.osl_inv;obtain ⟨_,_,_,_,_,f2⟩:=hv.bag_inv;obtain ⟨A',n1',c1',e1',_,f1'⟩:=b1.osl_inv;obtain ⟨_,_,_,_,_,f2'⟩:=b1.bag_inv;unfold d2q at hrow;split at hrow
      ·rename_i e sz nl es he;have hH:=r3_ E he;rw [ht] at hH;have g1:=f1 _ _ _ _ hH;have g2:=f1' _ _ _ _ he;rw [hpi] at g2;exact g1.uniq (by simpa using hrow) (R.objs _ _ hH).1 g2
      ·rename_i e sz nl pe qs he;have hH:=r3_ E he;rw [ht] at hH;have g1:=f2 _ _ _ _ _ hH;have g2:=f2' _ _ _ _ _ he;rw [hpi] at g2;exact g1.uniq (by simpa using hrow) Nat.one_pos g2
      ·cases hrow
     rw [hvv];exact b2)
   have hr2:=hres r v hr hidR;refine hk (w3_ σ st.h.length p q) _ _ ?_;unfold b3n;cases dst with
   | none=>exact R2
   | some d=>exact R2.putS (hlt d rfl) hr2
def VL (P:Program) (M0:Nat→Nat→Prop) (w0:Bas) (N:Nm) (ops:List Oper) (Q:Exit→VS→Prop) (l:List Oper) (st:VS) : Prop:=
 ops.all (q9_ N)=true→l.all (q9_ N)=true→∀ p a w,Rel M0 w0 N p st a w→wpList P ops.toArray (fun e a' w'=>∃ st' p',Rel M0 w0 N p' st' a' w'∧Q e st') l a w
variable {ops l:List Oper} {Q:Exit→VS→Prop}
theorem e3_ (h:Q .normal st) : VL P M0 w0 N ops Q [] st:=fun _ _ p _a _w R=>wpList_nil ⟨st,p,R,h⟩
theorem b9_ (ow:List Nat) (n:Nat) {l1 l2:List Oper} (hl:l.take n=l1∧l.drop n=l2) (h:y2_ P ow ops l1 st fun st'=>VL P M0 w0 N ops Q l2 st') : VL P M0 w0 N ops Q l st:=fun hops hB p a w R=>by
 have hsplit:l=l1++l2:=by rw [←hl.1,←hl.2,List.take_append_drop]
 rw [hsplit,List.all_append,Bool.and_eq_true] at hB;have:=a7u (P:=P) (M0:=M0) (w0:=w0) (N:=N) (ow:=ow) (ops:=ops) (Q:=fun e a' w'=>∃ st' p',Rel M0 w0 N p' st' a' w'∧Q e st') (l2:=l2) hops (fun p st a w R h=>h hops hB.2 p a w R) l1 p st a w hB.1 R h;rw [hsplit];exact this
theorem b1t {st2:VS} (h:∀ p a w,Rel M0 w0 N p st a w→∃ p2,Rel M0 w0 N p2 st2 a w) (k:VL P M0 w0 N ops Q l st2) : VL P M0 w0 N ops Q l st:=fun h1 h2 p a w R=>
 let ⟨p2,R2⟩:=h p a w R
 k h1 h2 p2 a w R2
def b8e (ops:List Oper) (st:VS) (o:Oper) : Prop:=match o.guard with
 | none=>True
 | some (j,want)=>e1_ ops st j = .lit (.bool want)
theorem e5_ {o:Oper} {c:Call} (σ Kr Ko:List Nat) (h':Hp) (r:AV) (hop:o.op = .call c) (hg:b8e ops st o) (hc:j7_ P st c σ Kr Ko h' r) (k:VL P M0 w0 N ops Q l (b3n st o.dst σ Kr Ko h' r)) : VL P M0 w0 N ops Q (o::l) st:=fun hops hB p a w R=>by
 simp only [List.all_cons,Bool.and_eq_true] at hB;refine wpList_step fun X Y=>?_;have hdo:o.wp P a w X (fun e a' w'=>∃ st' p',Rel M0 w0 N p' st' a' w'∧Q e st'):=c2w R hop hB.1 hc fun p a w R=>Y _ _ (k hops hB.2 p a w R);unfold b8e at hg;split at hg
 ·rename_i hgd;simp only [Region.wanted,hgd,if_true];exact hdo
 ·rename_i j want hgd;obtain ⟨hy1,_⟩:=i6_ (j:=j) R hops;simp only [Region.wanted,hgd,hy1 want hg];rw [if_pos (by simp)];exact hdo
theorem c6_ {id:Nat} (h:VL P M0 w0 N l Q l st) : VWp P M0 w0 N (.region id l.toArray false) Q st:=fun hB p a w R=>by
 have hB':l.all (q9_ N)=true:=by simpa [n7_] using hB
 exact wp_region_lit (h hB' hB' p a w R)
end
end Go.Proofs.YtoibondihdhnoaaDoor
namespace Go.Proofs.YtoibondihdhnoaaDoor
attribute [go_sem] c5q okB okA b7z a4o a4p b1m b3n a8z a9d tau y1_ d1z d2a c6r a6m b3m d2q b8e c2t c5r c2u d0g
end Go.Proofs.YtoibondihdhnoaaDoor
