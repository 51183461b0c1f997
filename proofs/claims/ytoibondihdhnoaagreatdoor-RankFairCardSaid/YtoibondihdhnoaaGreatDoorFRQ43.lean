/- Texts in one: Walks: an event is noted in the diary. -/
import Derived.Test.YtoibondihdhnoaaGreatDoorFRQ9
import Derived.Test.YtoibondihdhnoaaGreatDoorFRQ31
import Derived.Test.YtoibondihdhnoaaGreatDoorFRQ35
import Derived.Test.YtoibondihdhnoaaGreatDoorFRQ32
namespace Go.Proofs.YtoibondihdhnoaaGreatDoor
open Go.RowKit
set_option maxRecDepth 100000
set_option maxHeartbeats 2000000
theorem yU {w:World} {M:Nat→Nat→Prop} {v:Value} {e:Int} {sz:Nat} (hv:V0 w M (.tup [bG,I e]) v) : V0 w M (.tup [.sl sz [],I e]) v:=by
 cases hv with
 | tup _ us hl hh=>
  refine .tup _ us hl fun i c u hc hu=>?_;rcases i with _|i
  ·simp only [List.getElem?_cons_zero,Option.some.injEq] at hc;subst hc;exact (hh 0 _ u rfl hu).nilSl sz
  ·exact hh (i+1) c u hc hu
theorem Gc (r:Ru) (l:List Ev) (out:List Sg) (a:Bool) (n e:Int) (he:e≠0) (ho:out.length≤1000000000) (g:VH Tryz.prog 85 [some (.box [.osl 1]),some (.arr 45 3 true [])] [bJ r,cp l,pC] [2] [some (.box [.osl 1]),some (.arr 45 3 a (out.map Sg.av))] (.tup [.lit (.pointer none),I n,I e])) :
  VC Tryz.prog 30 [bJ r,cp l] (.tup [bG,I e]):=by
 have g2:=bN (decide (out.length≤200)) 8;have g3:VC Tryz.prog 88 [.sl 1 ([e,unl (decide (out.length≤200)) 8].map dt)] (I (fst [e,unl (decide (out.length≤200)) 8])):=eL _ rfl rfl;rw [show fst [e,unl (decide (out.length≤200)) 8]=e by simp [fst,he]] at g3;have ed:decide ((out.length:Int)≤200)=decide (out.length≤200):=by
  by_cases h:out.length≤200
  ·rw [decide_eq_true h,decide_eq_true (by omega)]
  ·rw [decide_eq_false h,decide_eq_false (by omega)]
 rw [←ed] at g2 g3;generalize unl (decide ((out.length:Int)≤200)) 8=A2 at *;clear ed;unfold pC at g;refine aL Tryz.func30 rfl (by kernel_rfl) rfl fun M0 w0=>?_;simp only [Tryz.ntmps30,Tryz.results30,aC];repeat' with_reducible apply af
 refine ah [] ?_;repeat' with_reducible first|apply af|apply ae|apply aa|(apply ab;intro X Y;go_simp;apply Y;clear Y X)
 refine ah [] ?_;repeat' with_reducible first|apply af|apply ae|apply aa|(apply ab;intro X Y;go_simp;apply Y;clear Y X)
 refine hZ (fun p a w R=>⟨_,R.nilCell (bi:=0) (j:=0) (e:=45) (sz:=3) rfl rfl (by decide)⟩) ?_;go_simp;skip
 refine dm (bb [] 3 ⟨rfl,rfl⟩ ?_);simp only [au];repeat' with_reducible first|apply aa|(apply ab;intro X Y;go_simp;apply Y;clear Y X)
 refine dI [0,1] [0] [] [some (.box [.osl 1]),some (.arr 45 3 a (out.map Sg.av))] (.tup [.lit (.pointer none),I n,I e]) rfl (by go_simp) ?_ ?_
 ·unfold dv;go_simp;refine ⟨_,_,_,g,?_⟩;go_simp;kernel_rfl
 go_simp;refine bb [] 7 ⟨rfl,rfl⟩ ?_;simp only [au];repeat' with_reducible first|apply aa|(apply ab;intro X Y;go_simp;apply Y;clear Y X)
 apply cF;repeat' with_reducible first|apply af|apply ae
 refine ah [] ?_;repeat' first|(with_reducible first|apply af|apply ae|apply aa)|((with_reducible apply ab);intro X Y;go_simp;(first|(with_reducible refine ⟨_,g2,?_⟩)|(refine ⟨_,g3,?_⟩)|skip);apply Y;clear Y X)
 refine ah [] ?_;repeat' with_reducible first|apply af|apply ae|apply aa|(apply ax;·go_simp)|(apply ab;intro X Y;go_simp;apply Y;clear Y X)
 repeat' with_reducible first|apply ae|apply aW|apply az|apply aa|refine ah [] ?_|(apply ab;intro X Y;go_simp;apply Y;clear Y X)
 go_simp
theorem Mr (r:Ru) (s:St) (mv:List Sg) (b:Bool) (l:List Ev) (out:List Sg) (a:Bool) (ho:out.length≤1000000000) (g:VH Tryz.prog 85 [some (.box [.osl 1]),some (.arr 45 3 true [])] [bJ r,cp l,pC] [2] [some (.box [.osl 1]),some (.arr 45 3 a (out.map Sg.av)),some (.bag 62 1 false none (bA s.q)),some (.box [.osl 2,.osl 4,I s.time,.sl 4 (r.ranks.map Rk.av),I r.back,I r.ret,.sl 3 (mv.map Sg.av)]),some (.arr 148 3 b (s.tk.map Tk.av))] (.tup [.ref 3 0,I 0,I 0])) :
  VC Tryz.prog 30 [bJ r,cp l] (.tup [.sl 3 (if out.length≤200 then out.map Sg.av else []),I (unl (decide (out.length≤200)) 8)]):=by
 have g2:=bN (decide (out.length≤200)) 8;have g3:VC Tryz.prog 88 [.sl 1 ([0,unl (decide (out.length≤200)) 8].map dt)] (I (fst [0,unl (decide (out.length≤200)) 8])):=eL _ rfl rfl;have ed:decide ((out.length:Int)≤200)=decide (out.length≤200):=by
  by_cases h:out.length≤200
  ·rw [decide_eq_true h,decide_eq_true (by omega)]
  ·rw [decide_eq_false h,decide_eq_false (by omega)]
 by_cases h2:out.length≤200
 ·rw [if_pos h2];have eu:unl (decide (out.length≤200)) 8=0:=by rw [decide_eq_true h2];rfl
  rw [eu] at g2 g3 ⊢;rw [show fst [0,0]=0 from rfl] at g3;rw [←ed] at g2;clear ed eu h2;unfold pC at g;refine aL Tryz.func30 rfl (by kernel_rfl) rfl fun M0 w0=>?_;simp only [Tryz.ntmps30,Tryz.results30,aC];repeat' with_reducible apply af
  refine ah [] ?_;repeat' with_reducible first|apply af|apply ae|apply aa|(apply ab;intro X Y;go_simp;apply Y;clear Y X)
  refine ah [] ?_;repeat' with_reducible first|apply af|apply ae|apply aa|(apply ab;intro X Y;go_simp;apply Y;clear Y X)
  refine hZ (fun p a w R=>⟨_,R.nilCell (bi:=0) (j:=0) (e:=45) (sz:=3) rfl rfl (by decide)⟩) ?_;go_simp;skip
  refine dm (bb [] 3 ⟨rfl,rfl⟩ ?_);simp only [au];repeat' with_reducible first|apply aa|(apply ab;intro X Y;go_simp;apply Y;clear Y X)
  refine dI [0,1] [0] [] [some (.box [.osl 1]),some (.arr 45 3 a (out.map Sg.av)),some (.bag 62 1 false none (bA s.q)),some (.box [.osl 2,.osl 4,I s.time,.sl 4 (r.ranks.map Rk.av),I r.back,I r.ret,.sl 3 (mv.map Sg.av)]),some (.arr 148 3 b (s.tk.map Tk.av))] (.tup [.ref 3 0,I 0,I 0]) rfl (by go_simp) ?_ ?_
  ·unfold dv;go_simp;refine ⟨_,_,_,g,?_⟩;go_simp;kernel_rfl
  go_simp;refine bb [] 7 ⟨rfl,rfl⟩ ?_;simp only [au];repeat' with_reducible first|apply aa|(apply ab;intro X Y;go_simp;apply Y;clear Y X)
  apply cF;repeat' with_reducible first|apply af|apply ae
  refine ah [] ?_;repeat' first|(with_reducible first|apply af|apply ae|apply aa)|((with_reducible apply ab);intro X Y;go_simp;(first|(with_reducible refine ⟨_,g2,?_⟩)|(refine ⟨_,g3,?_⟩)|skip);apply Y;clear Y X)
  refine ah [] ?_;repeat' with_reducible first|apply af|apply ae|apply aw|apply aa|(apply ar;·go_simp)|(apply ab;intro X Y;go_simp;apply Y;clear Y X)
  refine gV 0 0 1 rfl rfl rfl ?_;repeat' with_reducible first|apply ae|apply az|apply aa|refine ah [] ?_|(apply ab;intro X Y;go_simp;apply Y;clear Y X)
  go_simp
 ·rw [if_neg h2];have eu:unl (decide (out.length≤200)) 8=8:=by rw [decide_eq_false h2];rfl
  rw [eu] at g2 g3 ⊢;rw [show fst [0,8]=8 from rfl] at g3;rw [←ed] at g2;refine VC.weak (r:=.tup [bG,I 8]) ?_ fun w M v hv=>yU hv;clear ed eu h2;unfold pC at g;refine aL Tryz.func30 rfl (by kernel_rfl) rfl fun M0 w0=>?_;simp only [Tryz.ntmps30,Tryz.results30,aC];repeat' with_reducible apply af
  refine ah [] ?_;repeat' with_reducible first|apply af|apply ae|apply aa|(apply ab;intro X Y;go_simp;apply Y;clear Y X)
  refine ah [] ?_;repeat' with_reducible first|apply af|apply ae|apply aa|(apply ab;intro X Y;go_simp;apply Y;clear Y X)
  refine hZ (fun p a w R=>⟨_,R.nilCell (bi:=0) (j:=0) (e:=45) (sz:=3) rfl rfl (by decide)⟩) ?_;go_simp;skip
  refine dm (bb [] 3 ⟨rfl,rfl⟩ ?_);simp only [au];repeat' with_reducible first|apply aa|(apply ab;intro X Y;go_simp;apply Y;clear Y X)
  refine dI [0,1] [0] [] [some (.box [.osl 1]),some (.arr 45 3 a (out.map Sg.av)),some (.bag 62 1 false none (bA s.q)),some (.box [.osl 2,.osl 4,I s.time,.sl 4 (r.ranks.map Rk.av),I r.back,I r.ret,.sl 3 (mv.map Sg.av)]),some (.arr 148 3 b (s.tk.map Tk.av))] (.tup [.ref 3 0,I 0,I 0]) rfl (by go_simp) ?_ ?_
  ·unfold dv;go_simp;refine ⟨_,_,_,g,?_⟩;go_simp;kernel_rfl
  go_simp;refine bb [] 7 ⟨rfl,rfl⟩ ?_;simp only [au];repeat' with_reducible first|apply aa|(apply ab;intro X Y;go_simp;apply Y;clear Y X)
  apply cF;repeat' with_reducible first|apply af|apply ae
  refine ah [] ?_;repeat' first|(with_reducible first|apply af|apply ae|apply aa)|((with_reducible apply ab);intro X Y;go_simp;(first|(with_reducible refine ⟨_,g2,?_⟩)|(refine ⟨_,g3,?_⟩)|skip);apply Y;clear Y X)
  refine ah [] ?_;repeat' with_reducible first|apply af|apply ae|apply aa|(apply ax;·go_simp)|(apply ab;intro X Y;go_simp;apply Y;clear Y X)
  repeat' with_reducible first|apply ae|apply aW|apply az|apply aa|refine ah [] ?_|(apply ab;intro X Y;go_simp;apply Y;clear Y X)
  go_simp
theorem BW {r:Ru} {t:T3} {x:Ev} (h:apE r t.1 x=0) : (stepT r t x).1=(apU r t.1 x).1∧(stepT r t x).2.1=(apU r t.1 x).2:=by
 constructor<;>simp only [stepT,apR,if_pos h]
theorem Gd {r:Ru} : ∀ (l:List Ev) (k:Nat) (t:T3) (y:List Sg×Bool),(goP r k l t.1).2.2=0→(runTS r k l (t,y)).2.1=y.1++iC r l t.1∧(runTS r k l (t,y)).1.1=(goP r k l t.1).1
 | [],_,_,y,_=>⟨(List.append_nil y.1).symm,rfl⟩
 | x::l,k,t,y,h=>by
  obtain ⟨h1,h2⟩:=qx h;obtain ⟨e1,e2⟩:=BW (t:=t) h1;rw [runTS,goP,iC,if_neg (by simp [h1]),if_neg (by simp [h1]),if_neg (by simp [h1])];rw [←e1] at h2;obtain ⟨g1,g2⟩:=Gd l (k+1) (stepT r t x) (y.1++gL x++(stepT r t x).2.1,false) h2;rw [g1,g2,e1,e2];exact ⟨by simp [List.append_assoc],rfl⟩
theorem Ge {r:Ru} (hr:RuOK r) : ∀ (l:List Ev) (k:Nat) (t:T3) (y:List Sg×Bool),Inv r t.1→(runTS r k l (t,y)).2.1.length≤y.1.length+l.length*1100
 | [],_,_,y,_=>by rw [runTS];exact Nat.le_add_right _ _
 | x::l,k,t,y,hi=>by
  rw [runTS];by_cases h1:apE r t.1 x=0
  ·obtain ⟨e1,e2⟩:=BW (t:=t) h1;rw [if_neg (by simp [h1])];have h2:=(hi.ap hr h1).1;rw [←e1] at h2;have:=Ge hr l (k+1) (stepT r t x) (y.1++gL x++(stepT r t x).2.1,false) h2;have h3:=(xZ hr hi h1).1;rw [←e2] at h3;have h4:(gL x).length≤1:=by
    unfold gL;split
    ·exact Nat.zero_le _
    ·split<;>exact Nat.le_refl _
   refine Nat.le_trans this ?_;rw [List.length_append,List.length_append,List.length_cons];omega
  ·rw [if_pos h1,List.length_cons];exact Nat.le_add_right _ _
def tR (r:Ru) (l:List Ev) : List Sg×Int:=if eG r l≠0 then ([],eG r l) else if (goP r 0 l (st0 r)).2.2≠0 then ([],(goP r 0 l (st0 r)).2.2) else if (iC r l (st0 r)).length≤200 then (iC r l (st0 r),0) else ([],8)
theorem Ms (r:Ru) (l:List Ev) (h:SmallL r l) : VC Tryz.prog 30 [bJ r,cp l] (.tup [.sl 3 ((tR r l).1.map Sg.av),I (tR r l).2]):=by
 unfold tR;by_cases h0:eG r l=0
 ·rw [if_neg (by simp [h0])];obtain ⟨hr,_,hl⟩:=x_ h0;obtain ⟨z,hz⟩ : ∃ z,runTS r 0 l (t0 r,([],true))=z:=⟨_,rfl⟩
  have hlen:=Ge hr l 0 (t0 r) ([],true) (Inv.st0 hr);rw [hz] at hlen;have mY:z.2.1.length≤1000000000:=by
   refine Nat.le_trans hlen ?_;show 0+_≤_;omega
  by_cases h1:(goP r 0 l (st0 r)).2.2=0
  ·rw [if_neg (by simp [h1])];have g:=E2 r l _ _ h.nm hr hl h.c h0 z hz (.inr ⟨h1,rfl,rfl⟩);have e:=Gd l 0 (t0 r) ([],true) h1;rw [hz] at e;have:=Mr r z.1.1 z.1.2.1 z.1.2.2 l z.2.1 z.2.2 mY g;rw [e.1,List.nil_append] at this;by_cases h2:(iC r l (st0 r)).length≤200
   ·rw [if_pos h2];rw [if_pos (show (iC r l (t0 r).1).length≤200 from h2),decide_eq_true (show (iC r l (t0 r).1).length≤200 from h2)] at this;exact this
   ·rw [if_neg h2];rw [if_neg (show ¬(iC r l (t0 r).1).length≤200 from h2),decide_eq_false (show ¬(iC r l (t0 r).1).length≤200 from h2)] at this;exact this
  ·rw [if_pos h1];have g:=E2 r l _ _ h.nm hr hl h.c h0 z hz (.inl ⟨h1,rfl,rfl⟩);exact (Gc r l z.2.1 z.2.2 _ _ h1 mY g).weak fun w M v hv=>yU hv
 ·rw [if_pos h0];exact (Gc r l [] true 0 _ h0 (by decide) (Kl r l h.n h.nm h0)).weak fun w M v hv=>yU hv
def iG (d:Dy) (a b:Bool) : Hp:=[some (.box [.osl 1,.mp 2,.osl 3,.mp 4]),some (.arr 167 4 a (d.st.map Sy.av)),some (.mpo (4,.i64) d.op),some (.arr 67 3 b (d.wt.map Wt.av)),some (.mpo (4,.i64) d.sv)]
theorem Mt (log:List Ev) (d:Dy) (a b:Bool) (i:Nat) (hi:i < log.length) (hl:log.length≤1000000) (h4:(aA log i).kind=4) :
  VH Tryz.prog 143 (iG d a b) [.ref 0 0,cp log,I (i:Int)] [0] (iG d a b) (.tup []):=by
 obtain ⟨w1,w2,w3,w4,w5,w6⟩:=ixs (m:=i) (by omega);refine dn Tryz.func143 rfl (by kernel_rfl) rfl (fun _=>by kernel_rfl) fun M0 w0 vs=>?_;simp only [Tryz.ntmps143,Tryz.results143,aC];unfold iG;repeat' with_reducible first|apply af|apply ae|apply aW|apply az|apply aa|refine ah [] ?_|(apply ax;·go_simp)|(apply ab;intro X Y;go_simp;apply Y;clear Y X)
 go_simp
theorem Mu (log:List Ev) (d:Dy) (a b:Bool) (i:Nat) (hi:i < log.length) (hl:log.length≤1000000) (h0:(aA log i).kind=0) (hs:d.st.length≤i) (hv:NumOK d.sv i) :
  VH Tryz.prog 143 (iG d a b) [.ref 0 0,cp log,I (i:Int)] [0] (iG (eQ log d i (aA log i)) false b) (.tup []):=by
 obtain ⟨w1,w2,w3,w4,w5,w6⟩:=ixs (m:=i) (by omega);unfold eQ;rw [if_neg (by omega),if_pos h0];obtain ⟨n1,n2,n3⟩:=hv.at_ (aA log i).car;unfold kH;generalize iF d.sv (aA log i).car=V at *;have n4:IntKind.i64.wrap V=V:=gG (by omega) (by omega);have n5:d.st.length+1≤1000000000:=by omega
 refine dn Tryz.func143 rfl (by kernel_rfl) rfl (fun _=>by kernel_rfl) fun M0 w0 vs=>?_;simp only [Tryz.ntmps143,Tryz.results143,aC];unfold iG;repeat' with_reducible first|apply af|apply ae|apply aw|apply aa|refine ah [] ?_|(apply ax;·go_simp)|(apply ar;·go_simp)|(apply ab;intro X Y;go_simp;apply Y;clear Y X)
 refine oB 11 [] (by kernel_rfl) (by kernel_rfl) ?_;simp only [au];repeat' with_reducible first|apply af|apply ae|apply aa|apply aQ|((first|apply ab|apply aR);intro X Y;go_simp;apply Y;clear Y X)
 refine rH 10 [39] 1 [0,29] (by kernel_rfl) (by kernel_rfl) (by kernel_rfl) (by kernel_rfl) rfl ⟨rfl,rfl⟩ rfl ?_;simp only [au];repeat' with_reducible first|apply aQ|(apply aR;intro X Y;go_simp;apply Y;clear Y X)
 refine ⟨_,by go_simp,by go_simp;exact rfl,?_,?_⟩
 ·intro t ht;simp only [List.mem_cons,List.not_mem_nil,or_false] at ht;rcases ht with rfl|rfl<;>rfl
 go_simp;repeat' with_reducible first|apply af|apply ae|apply aa|(apply ab;intro X Y;go_simp;apply Y;clear Y X)
 refine oB 8 [] (by kernel_rfl) (by kernel_rfl) ?_;simp only [au];repeat' with_reducible first|apply ae|apply aW|apply az|apply aa|apply aQ|((first|apply ab|apply aR);intro X Y;go_simp;apply Y;clear Y X)
 go_simp
theorem Mw (log:List Ev) (d:Dy) (a b:Bool) (i:Nat) (hi:i < log.length) (hl:log.length≤1000000) (hk:(aA log i).kind=2) (h:DyOK log i d) (hh:eh (aA log i).car d.st=true) :
  VH Tryz.prog 143 (iG d a b) [.ref 0 0,cp log,I (i:Int)] [0] (iG (eQ log d i (aA log i)) a b) (.tup []):=by
 obtain ⟨w1,w2,w3,w4,w5,w6⟩:=ixs (m:=i) (by omega);have ho:=h.op _ hh;obtain ⟨j,hj,bM,ia,nG⟩:=qw d.st 0 hh;rw [Nat.zero_add] at hj;unfold eQ;rw [if_neg (by omega),if_neg (by omega),nG];rw [hj] at ho;have fD:=h.st _ (List.getElem_mem bM);obtain ⟨c1,c2,c3,c4,c5⟩:=fD;obtain ⟨y,hy⟩ : ∃ y,d.st[j]=y:=⟨_,rfl⟩
 rw [hy] at ia c1 c2 c3 c4 c5 ⊢;have e1:∀ hh:j < (d.st.map Sy.av).length,(d.st.map Sy.av)[j]'hh=Sy.av y:=fun hh=>by rw [List.getElem_map,hy]
 have e2:j < (d.st.map Sy.av).length:=by simpa using bM
 have ej:((j:Int)).toNat=j:=by omega
 have HY:=Lib.hid hy;obtain ⟨yc,ya,yw,yd⟩:=y;simp only [Sy.av] at e1;simp only at ia c1 c2 c3 c4 c5;have e3:(d.st.set j (ir (aA log i) i ⟨yc,ya,yw,yd⟩)).map Sy.av=(d.st.map Sy.av).set j [S yc,I ya,I yw,I (yd+1)]:=by
  rw [List.map_set];unfold ir;rw [hk];rfl
 have e4:kX log d.st (aA log i)=[]:=by unfold kX;rw [if_neg (by omega)]
 rw [if_neg (by omega),if_neg (by omega),e4,List.append_nil];have e5:IntKind.i64.wrap (yd+1)=yd+1:=gG (by omega) (by omega);unfold iG;simp only;rw [e3];generalize d.st.map Sy.av=E at *;clear h hh hj nG e3 e4 HY c1 c2 c3 c4 c5 ia;refine dn Tryz.func143 rfl (by kernel_rfl) rfl (fun _=>by kernel_rfl) fun M0 w0 vs=>?_;simp only [Tryz.ntmps143,Tryz.results143,aC];repeat' with_reducible first|apply af|apply ae|apply aw|apply aa|refine ah [] ?_|(apply ar;·go_simp)|(apply ab;intro X Y;go_simp;apply Y;clear Y X)
 refine oB 13 [] (by kernel_rfl) (by kernel_rfl) ?_;simp only [au];repeat' with_reducible first|apply af|apply ae|apply aa|apply aQ|(apply aR;intro X Y;go_simp;apply Y;clear Y X)
 repeat' with_reducible first|apply af|apply ae|apply aE|apply bc|apply aa|refine ah [] ?_|(apply ax;·go_simp)|(apply ar;·go_simp)|(apply ab;intro X Y;go_simp;apply Y;clear Y X)
 go_simp
theorem Mx (log:List Ev) (d:Dy) (a b:Bool) (i:Nat) (hi:i < log.length) (hl:log.length≤1000000) (hk:(aA log i).kind=3) (h:DyOK log i d) (hh:eh (aA log i).car d.st=true) :
  VH Tryz.prog 143 (iG d a b) [.ref 0 0,cp log,I (i:Int)] [0] (iG (eQ log d i (aA log i)) a b) (.tup []):=by
 obtain ⟨w1,w2,w3,w4,w5,w6⟩:=ixs (m:=i) (by omega);have ho:=h.op _ hh;obtain ⟨j,hj,bM,ia,nG⟩:=qw d.st 0 hh;rw [Nat.zero_add] at hj;unfold eQ;rw [if_neg (by omega),if_neg (by omega),nG];rw [hj] at ho;have fD:=h.st _ (List.getElem_mem bM);obtain ⟨c1,c2,c3,c4,c5⟩:=fD;obtain ⟨y,hy⟩ : ∃ y,d.st[j]=y:=⟨_,rfl⟩
 rw [hy] at ia c1 c2 c3 c4 c5 ⊢;have e1:∀ hh:j < (d.st.map Sy.av).length,(d.st.map Sy.av)[j]'hh=Sy.av y:=fun hh=>by rw [List.getElem_map,hy]
 have e2:j < (d.st.map Sy.av).length:=by simpa using bM
 have ej:((j:Int)).toNat=j:=by omega
 have HY:=Lib.hid hy;obtain ⟨yc,ya,yw,yd⟩:=y;simp only [Sy.av] at e1;simp only at ia c1 c2 c3 c4 c5;have e3:(d.st.set j (ir (aA log i) i ⟨yc,ya,yw,yd⟩)).map Sy.av=(d.st.map Sy.av).set j [S yc,I ya,I (i:Int),I yd]:=by
  rw [List.map_set];unfold ir;rw [hk];rfl
 have e4:kX log d.st (aA log i)=[]:=by unfold kX;rw [if_neg (by omega)]
 rw [if_neg (by omega),if_neg (by omega),e4,List.append_nil];unfold iG;simp only;rw [e3];generalize d.st.map Sy.av=E at *;clear h hh hj nG e3 e4 HY c1 c2 c3 c4 c5 ia;refine dn Tryz.func143 rfl (by kernel_rfl) rfl (fun _=>by kernel_rfl) fun M0 w0 vs=>?_;simp only [Tryz.ntmps143,Tryz.results143,aC];repeat' with_reducible first|apply af|apply ae|apply aw|apply aa|refine ah [] ?_|(apply ar;·go_simp)|(apply ab;intro X Y;go_simp;apply Y;clear Y X)
 refine oB 13 [] (by kernel_rfl) (by kernel_rfl) ?_;simp only [au];repeat' with_reducible first|apply af|apply ae|apply aa|apply aQ|(apply aR;intro X Y;go_simp;apply Y;clear Y X)
 repeat' with_reducible first|apply af|apply ae|apply aE|apply bc|apply aa|refine ah [] ?_|(apply ax;·go_simp)|(apply ar;·go_simp)|(apply ab;intro X Y;go_simp;apply Y;clear Y X)
 go_simp
theorem My (log:List Ev) (d:Dy) (a b:Bool) (i:Nat) (hi:i < log.length) (hl:log.length≤1000000) (hk:(aA log i).kind=5) (h:DyOK log i d) (hh:eh (aA log i).car d.st=true) :
  VH Tryz.prog 143 (iG d a b) [.ref 0 0,cp log,I (i:Int)] [0] (iG (eQ log d i (aA log i)) a b) (.tup []):=by
 obtain ⟨w1,w2,w3,w4,w5,w6⟩:=ixs (m:=i) (by omega);have ho:=h.op _ hh;obtain ⟨j,hj,bM,ia,nG⟩:=qw d.st 0 hh;rw [Nat.zero_add] at hj;unfold eQ;rw [if_neg (by omega),if_neg (by omega),nG];rw [hj] at ho;have fD:=h.st _ (List.getElem_mem bM);obtain ⟨c1,c2,c3,c4,c5⟩:=fD;obtain ⟨y,hy⟩ : ∃ y,d.st[j]=y:=⟨_,rfl⟩
 rw [hy] at ia c1 c2 c3 c4 c5 ⊢;have e1:∀ hh:j < (d.st.map Sy.av).length,(d.st.map Sy.av)[j]'hh=Sy.av y:=fun hh=>by rw [List.getElem_map,hy]
 have e2:j < (d.st.map Sy.av).length:=by simpa using bM
 have ej:((j:Int)).toNat=j:=by omega
 have HY:=Lib.hid hy;obtain ⟨yc,ya,yw,yd⟩:=y;simp only [Sy.av] at e1;simp only at ia c1 c2 c3 c4 c5;have e3:(d.st.set j (ir (aA log i) i ⟨yc,ya,yw,yd⟩)).map Sy.av=(d.st.map Sy.av).set j [S yc,I ya,I (-1),I yd]:=by
  rw [List.map_set];unfold ir;rw [hk];rfl
 have e4:kX log d.st (aA log i)=[]:=by unfold kX;rw [if_neg (by omega)]
 rw [if_neg (by omega),if_pos hk,e4,List.append_nil];obtain ⟨n1,n2,n3⟩:=h.sv.at_ (aA log i).car;unfold kH;rw [show iF d.sv (aA log i).car+(-1)=iF d.sv (aA log i).car - 1 by omega];generalize iF d.sv (aA log i).car=V at *;have n4:IntKind.i64.wrap (V - 1)=V - 1:=gG (by omega) (by omega);unfold iG;simp only;rw [e3];generalize d.st.map Sy.av=E at *;clear h hh hj nG e3 e4 HY c1 c2 c3 c4 c5 ia;refine dn Tryz.func143 rfl (by kernel_rfl) rfl (fun _=>by kernel_rfl) fun M0 w0 vs=>?_;simp only [Tryz.ntmps143,Tryz.results143,aC];repeat' with_reducible first|apply af|apply ae|apply aw|apply aa|refine ah [] ?_|(apply ar;·go_simp)|(apply ab;intro X Y;go_simp;apply Y;clear Y X)
 refine oB 13 [] (by kernel_rfl) (by kernel_rfl) ?_;simp only [au];repeat' with_reducible first|apply af|apply ae|apply aa|apply aQ|(apply aR;intro X Y;go_simp;apply Y;clear Y X)
 repeat' with_reducible first|apply af|apply ae|apply aE|apply aa|refine ah [] ?_|(apply ax;·go_simp)|(apply ar;·go_simp)|(apply ab;intro X Y;go_simp;apply Y;clear Y X)
 refine oB 8 [] (by kernel_rfl) (by kernel_rfl) ?_;simp only [au];repeat' with_reducible first|apply bc|apply aa|apply aQ|((first|apply ab|apply aR);intro X Y;go_simp;apply Y;clear Y X)
 go_simp
theorem Mz (log:List Ev) (d:Dy) (a b:Bool) (i:Nat) (hi:i < log.length) (hl:log.length≤1000000) (hk:(aA log i).kind=1) (ht:0≤(aA log i).time∧(aA log i).time≤604800) (h:DyOK log i d) (hh:eh (aA log i).car d.st=true) :
  VH Tryz.prog 143 (iG d a b) [.ref 0 0,cp log,I (i:Int)] [0] (iG (eQ log d i (aA log i)) a false) (.tup []):=by
 obtain ⟨w1,w2,w3,w4,w5,w6⟩:=ixs (m:=i) (by omega);have ho:=h.op _ hh;obtain ⟨j,hj,bM,ia,nG⟩:=qw d.st 0 hh;rw [Nat.zero_add] at hj;unfold eQ;rw [if_neg (by omega),if_neg (by omega),nG];rw [hj] at ho;have fD:=h.st _ (List.getElem_mem bM);obtain ⟨c1,c2,c3,c4,c5⟩:=fD;obtain ⟨y,hy⟩ : ∃ y,d.st[j]=y:=⟨_,rfl⟩
 rw [hy] at ia c1 c2 c3 c4 c5 ⊢;have e1:∀ hh:j < (d.st.map Sy.av).length,(d.st.map Sy.av)[j]'hh=Sy.av y:=fun hh=>by rw [List.getElem_map,hy]
 have e2:j < (d.st.map Sy.av).length:=by simpa using bM
 have ej:((j:Int)).toNat=j:=by omega
 have HY:=Lib.hid hy;obtain ⟨yc,ya,yw,yd⟩:=y;simp only [Sy.av] at e1;simp only at ia c1 c2 c3 c4 c5;have e3:(d.st.set j (ir (aA log i) i ⟨yc,ya,yw,yd⟩)).map Sy.av=(d.st.map Sy.av).set j [S yc,I ya,I (i:Int),I yd]:=by
  rw [List.map_set];unfold ir;rw [hk];rfl
 have e4:kX log d.st (aA log i)=[⟨(aA log i).car,(aA log i).rank,(aA log i).time - (aA log ya.toNat).time⟩]:=by
  unfold kX pF;rw [if_pos hk,hj,Int.toNat_natCast,List.getD_eq_getElem?_getD,List.getElem?_eq_getElem bM,HY.out];rfl
 rw [if_pos hk,e4];obtain ⟨n1,n2,n3⟩:=h.sv.at_ (aA log i).car;unfold kH;generalize iF d.sv (aA log i).car=V at *;have n4:IntKind.i64.wrap (V+1)=V+1:=gG (by omega) (by omega);obtain ⟨m,hm⟩ : ∃ m:Nat,ya=m:=⟨ya.toNat,by omega⟩
 subst hm;have m1:m < log.length:=by omega
 have m2:((m:Int)).toNat=m:=by omega
 rw [m2] at c3 ⊢;have n5:IntKind.i64.wrap ((aA log i).time - (aA log m).time)=(aA log i).time - (aA log m).time:=gG (by omega) (by omega);have n6:d.wt.length+1≤1000000000:=by have:=h.wl;omega
 unfold iG;simp only;rw [e3,List.map_append];generalize d.st.map Sy.av=E at *;clear h hh hj nG e3 e4 HY c1 c2 c3 c4 c5 ia;refine dn Tryz.func143 rfl (by kernel_rfl) rfl (fun _=>by kernel_rfl) fun M0 w0 vs=>?_;simp only [Tryz.ntmps143,Tryz.results143,aC];repeat' with_reducible first|apply af|apply ae|apply aw|apply aa|refine ah [] ?_|(apply ar;·go_simp)|(apply ab;intro X Y;go_simp;apply Y;clear Y X)
 refine oB 13 [] (by kernel_rfl) (by kernel_rfl) ?_;simp only [au];repeat' with_reducible first|apply af|apply ae|apply aa|apply aQ|(apply aR;intro X Y;go_simp;apply Y;clear Y X)
 repeat' with_reducible first|apply af|apply ae|apply aE|apply aa|refine ah [] ?_|(apply ax;·go_simp)|(apply ab;intro X Y;go_simp;apply Y;clear Y X)
 refine oB 8 [] (by kernel_rfl) (by kernel_rfl) ?_;simp only [au];repeat' with_reducible first|apply ae|apply aa|apply aQ|((first|apply ab|apply aR);intro X Y;go_simp;apply Y;clear Y X)
 refine rH 22 [100] 3 [0,78] (by kernel_rfl) (by kernel_rfl) (by kernel_rfl) (by kernel_rfl) rfl ⟨rfl,rfl⟩ rfl ?_;simp only [au];repeat' with_reducible first|apply aQ|(apply aR;intro X Y;go_simp;apply Y;clear Y X)
 refine ⟨_,by go_simp,by go_simp;exact rfl,?_,?_⟩
 ·intro t ht;simp only [List.mem_cons,List.not_mem_nil,or_false] at ht;rcases ht with rfl|rfl<;>rfl
 go_simp;repeat' with_reducible first|apply bc|apply aa|(apply ab;intro X Y;go_simp;apply Y;clear Y X)
 go_simp
def pM (a:Bool×Bool) (x:Ev) : Bool×Bool:=(if x.kind=0 then false else a.1,if x.kind=1 then false else a.2)
theorem MA (log:List Ev) (d:Dy) (a:Bool×Bool) (i:Nat) (hi:i < log.length) (hl:log.length≤1000000) (hk:0≤(aA log i).kind∧(aA log i).kind≤5) (ht:0≤(aA log i).time∧(aA log i).time≤604800) (h:DyOK log i d) (hh:(aA log i).kind≠0→(aA log i).kind≠4→eh (aA log i).car d.st=true) :
  VH Tryz.prog 143 (iG d a.1 a.2) [.ref 0 0,cp log,I (i:Int)] [0] (iG (eQ log d i (aA log i)) (pM a (aA log i)).1 (pM a (aA log i)).2) (.tup []):=by
 obtain ⟨a,b⟩:=a;unfold pM;simp only;by_cases h4:(aA log i).kind=4
 ·rw [if_neg (by omega),if_neg (by omega),show eQ log d i (aA log i)=d by unfold eQ;rw [if_pos h4]];exact Mt log d a b i hi hl h4
 by_cases h0:(aA log i).kind=0
 ·rw [if_pos h0,if_neg (by omega)];exact Mu log d a b i hi hl h0 h.sl h.sv
 rw [if_neg h0];have hs:=hh h0 h4;by_cases h1:(aA log i).kind=1
 ·rw [if_pos h1];exact Mz log d a b i hi hl h1 ht h hs
 rw [if_neg h1];by_cases h2:(aA log i).kind=2
 ·exact Mw log d a b i hi hl h2 h hs
 by_cases h3:(aA log i).kind=3
 ·exact Mx log d a b i hi hl h3 h hs
 exact My log d a b i hi hl (by omega) h hs
theorem MB (r:Ru) (s:St) (mv:List Sg) (n:Bool) (log:List Ev) (d:Dy) (a:Bool×Bool) (x:Ev) (i:Nat) (hx:x=aA log i) (hi:i < log.length) (hl:log.length≤1000000) (hk:0≤(aA log i).kind∧(aA log i).kind≤5) (ht:0≤(aA log i).time∧(aA log i).time≤604800) (h:DyOK log i d) (hh:(aA log i).kind≠0→(aA log i).kind≠4→eh (aA log i).car d.st=true) :
  VH Tryz.prog 142 (gr r s mv n++[some (.box [.ref 4 0]),some (.box [.osl 5,.mp 6,.osl 7,.mp 8]),some (.arr 167 4 a.1 (d.st.map Sy.av)),some (.mpo (4,.i64) d.op),some (.arr 67 3 a.2 (d.wt.map Wt.av)),some (.mpo (4,.i64) d.sv)]) [.ref 0 0,I (i:Int),evA x,.ref 3 0,.vp [cp log]] [0,3]
   (gr r s mv n++[some (.box [.ref 4 0]),some (.box [.osl 5,.mp 6,.osl 7,.mp 8]),some (.arr 167 4 (pM a x).1 ((eQ log d i x).st.map Sy.av)),some (.mpo (4,.i64) (eQ log d i x).op),some (.arr 67 3 (pM a x).2 ((eQ log d i x).wt.map Wt.av)),some (.mpo (4,.i64) (eQ log d i x).sv)]) (.tup []):=by
 have wn:=MA log d a i hi hl hk ht h hh;rw [←hx] at wn;unfold iG at wn;generalize eQ log d i x=D2 at *;generalize pM a x=A2 at *;clear hx hh h ht hk;obtain ⟨kd,tm,rk,car⟩:=x;simp only [evA];refine dn Tryz.func142 rfl (by kernel_rfl) rfl (fun _=>by kernel_rfl) fun M0 w0 vs=>?_;simp only [Tryz.ntmps142,Tryz.results142,aC];unfold gr;simp only [List.cons_append,List.nil_append];repeat' with_reducible apply af
 refine ah [] ?_;repeat' with_reducible first|apply ae|apply aa|(apply ab;intro X Y;go_simp;apply Y;clear Y X)
 refine dm (bb [] 3 ⟨rfl,rfl⟩ ?_);simp only [au];repeat' with_reducible first|apply aa|(apply ab;intro X Y;go_simp;apply Y;clear Y X)
 refine dI [4,5,6,7,8] [4] [] [some (.box [.osl 1,.mp 2,.osl 3,.mp 4]),some (.arr 167 4 A2.1 (D2.st.map Sy.av)),some (.mpo (4,.i64) D2.op),some (.arr 67 3 A2.2 (D2.wt.map Wt.av)),some (.mpo (4,.i64) D2.sv)] (.tup []) rfl (by go_simp) ?_ ?_
 ·unfold dv;go_simp;refine ⟨_,_,_,wn,?_⟩;go_simp;kernel_rfl
 go_simp;apply cF;skip
 go_simp
theorem MC (r:Ru) : Known (st0 r) []:=fun c hc=>by
 have h:=E6.1 hc;change 0 < cnt c (List.replicate _ []).flatten+cnt c [] at h;rw [vc,jV] at h;omega
noncomputable def runTD (l0:List Ev) (r:Ru) : Nat→List Ev→T3×(Dy×Bool×Bool)→T3×(Dy×Bool×Bool)
 | _,[],z=>z
 | k,x::l,z=>if apE r z.1.1 x≠0 then (stepT r z.1 x,z.2) else runTD l0 r (k+1) l (stepT r z.1 x,(eQ l0 z.2.1 k x,pM z.2.2 x))
def qJ (l:List Ev) : AV:=.fn (.func 142) [] [.ref 0 0,.vp [cp l]]
theorem MD (r:Ru) (l:List Ev) (hn:r.ranks.length≤1000000) (cU:∀ k,k < r.ranks.length→(rat r.ranks k).name.size≤1000) (h0:¬eG r l=0) :
  VH Tryz.prog 85 [some (.box [.ref 1 0]),some (.box [.osl 2,.mp 3,.osl 4,.mp 5]),some (.arr 167 4 true []),some (.mpo (4,.i64) []),some (.arr 67 3 true []),some (.mpo (4,.i64) [])] [bJ r,cp l,qJ l] [2] [some (.box [.ref 1 0]),some (.box [.osl 2,.mp 3,.osl 4,.mp 5]),some (.arr 167 4 true []),some (.mpo (4,.i64) []),some (.arr 67 3 true []),some (.mpo (4,.i64) [])] (.tup [.lit (.pointer none),I 0,I (eG r l)]):=by
 have g1:=tC r hn cU;have g2:=bN (decide (l.length≤200)) 8;have g3:VC Tryz.prog 88 [.sl 1 ([(dR r).2,unl (decide (l.length≤200)) 8].map dt)] (I (eG r l)):=eL _ rfl rfl;have ed:decide ((l.length:Int)≤200)=decide (l.length≤200):=by
  by_cases h:l.length≤200
  ·rw [decide_eq_true h,decide_eq_true (by omega)]
  ·rw [decide_eq_false h,decide_eq_false (by omega)]
 rw [←ed] at g2 g3;generalize eG r l=E at *;generalize (dR r).2=A1 at *;generalize unl (decide ((l.length:Int)≤200)) 8=A2 at *;clear ed;unfold qJ;refine dn Tryz.func85 rfl (by kernel_rfl) rfl (fun _=>by kernel_rfl) fun M0 w0 vs=>?_;simp only [Tryz.ntmps85,Tryz.results85,aC];repeat' first|(with_reducible first|apply af|apply ae|apply aW|apply az|apply aa|refine ah [] ?_|(apply ax;·go_simp))|((with_reducible apply ab);intro X Y;go_simp;(first|(with_reducible refine ⟨_,g1,?_⟩)|(with_reducible refine ⟨_,g2,?_⟩)|(refine ⟨_,g3,?_⟩)|skip);apply Y;clear Y X)
 go_simp
theorem Gf (r:Ru) (l:List Ev) (H:Hp) (V:AV) (cU:∀ k,k < r.ranks.length→(rat r.ranks k).name.size≤1000) (hr:RuOK r) (hl:l.length≤200) (hc:∀ x∈l,x.car.size≤1000) (h0:eG r l=0) (z:T3×(Dy×Bool×Bool)) (hz:runTD l r 0 l (t0 r,(⟨[],[],[],[]⟩,true,true))=z)
  (iE:(goP r 0 l (st0 r)).2.2≠0∧H=[some (.box [.ref 1 0]),some (.box [.osl 2,.mp 3,.osl 4,.mp 5]),some (.arr 167 4 z.2.2.1 (z.2.1.st.map Sy.av)),some (.mpo (4,.i64) z.2.1.op),some (.arr 67 3 z.2.2.2 (z.2.1.wt.map Wt.av)),some (.mpo (4,.i64) z.2.1.sv)]∧V = .tup [.lit (.pointer none),I ((goP r 0 l (st0 r)).2.1:Int),I (goP r 0 l (st0 r)).2.2]∨(goP r 0 l (st0 r)).2.2=0∧H=[some (.box [.ref 1 0]),some (.box [.osl 2,.mp 3,.osl 4,.mp 5]),some (.arr 167 4 z.2.2.1 (z.2.1.st.map Sy.av)),some (.mpo (4,.i64) z.2.1.op),some (.arr 67 3 z.2.2.2 (z.2.1.wt.map Wt.av)),some (.mpo (4,.i64) z.2.1.sv),some (.bag 62 1 false none (bA z.1.1.q)),some (.box [.osl 6,.osl 8,I z.1.1.time,.sl 4 (r.ranks.map Rk.av),I r.back,I r.ret,.sl 3 (z.1.2.1.map Sg.av)]),some (.arr 148 3 z.1.2.2 (z.1.1.tk.map Tk.av))]∧V = .tup [.ref 7 0,I 0,I 0]) :
  VH Tryz.prog 85 [some (.box [.ref 1 0]),some (.box [.osl 2,.mp 3,.osl 4,.mp 5]),some (.arr 167 4 true []),some (.mpo (4,.i64) []),some (.arr 67 3 true []),some (.mpo (4,.i64) [])] [bJ r,cp l,qJ l] [2] H V:=by
 have hn:r.ranks.length≤1000000:=by have:=hr.n6;omega
 have g1:=tC r hn cU;have g2:=bN (decide (l.length≤200)) 8;have g3:VC Tryz.prog 88 [.sl 1 ([(dR r).2,unl (decide (l.length≤200)) 8].map dt)] (I (eG r l)):=eL _ rfl rfl;have ed:decide ((l.length:Int)≤200)=decide (l.length≤200):=by rw [decide_eq_true hl,decide_eq_true (by omega)]
 rw [←ed] at g2 g3;rw [h0] at g3;generalize (dR r).2=A1 at *;generalize unl (decide ((l.length:Int)≤200)) 8=A2 at *;have ge:=AY r hn;have HF:=Lib.hid iE;have HR:=Lib.hid hr;have HC:=Lib.hid hc;have HZ:=Lib.hid hz;clear ed h0 iE hr cU hc hn hz;unfold qJ;refine dn Tryz.func85 rfl (by kernel_rfl) rfl (fun _=>by kernel_rfl) fun M0 w0 vs=>?_;simp only [Tryz.ntmps85,Tryz.results85,aC];repeat' with_reducible apply af
 refine ah [] ?_;repeat' with_reducible first|apply af|apply ae|apply aa|(apply ab;intro X Y;go_simp;apply Y;clear Y X)
 refine ah [] ?_;repeat' first|(with_reducible first|apply af|apply ae|apply aa)|((with_reducible apply ab);intro X Y;go_simp;(first|(with_reducible refine ⟨_,g1,?_⟩)|(with_reducible refine ⟨_,g2,?_⟩)|(refine ⟨_,g3,?_⟩)|skip);apply Y;clear Y X)
 refine ah [] ?_;repeat' with_reducible first|apply af|apply ae|apply aw|apply aa|(apply ar;·go_simp)|(apply ab;intro X Y;go_simp;apply Y;clear Y X)
 refine dm (bb [] 1 ⟨rfl,rfl⟩ ?_);simp only [au];repeat' with_reducible first|apply aa|(apply ab;intro X Y;go_simp;apply Y;clear Y X)
 refine dI [] [] [] (nv r (st0 r) [] true true) (.ref 1 0) rfl (by go_simp) ?_ ?_
 ·unfold dv;go_simp;refine ⟨_,_,⟨_,ge⟩,?_⟩;unfold nv;go_simp;kernel_rfl
 unfold nv;go_simp;refine bb [] 1 ⟨rfl,rfl⟩ ?_;simp only [au];repeat' with_reducible first|apply aa|(apply ab;intro X Y;go_simp;apply Y;clear Y X)
 apply cF;refine gV 7 6 9 rfl rfl rfl ?_;repeat' with_reducible apply af
 refine ah [] ?_;repeat' with_reducible first|apply ae|apply aE|apply aa|(apply ab;intro X Y;go_simp;apply Y;clear Y X)
 apply mz (α:=Nat×T3×(Dy×Bool×Bool)) [2,10,27,28] (fun (x:Nat×T3×(Dy×Bool×Bool))=>[(29,I (x.1:Int))]) (fun (x:Nat×T3×(Dy×Bool×Bool))=>([some (.box [.ref 1 0]),some (.box [.osl 2,.mp 3,.osl 4,.mp 5]),some (.arr 167 4 x.2.2.2.1 (x.2.2.1.st.map Sy.av)),some (.mpo (4,.i64) x.2.2.1.op),some (.arr 67 3 x.2.2.2.2 (x.2.2.1.wt.map Wt.av)),some (.mpo (4,.i64) x.2.2.1.sv),some (.bag 62 1 false none (bA x.2.1.1.q)),some (.box [.osl 6,.osl 8,I x.2.1.1.time,.sl 4 (r.ranks.map Rk.av),I r.back,I r.ret,.sl 3 (x.2.1.2.1.map Sg.av)]),some (.arr 148 3 x.2.1.2.2 (x.2.1.1.tk.map Tk.av))] : Hp)) (fun (x:Nat×T3×(Dy×Bool×Bool))=>Hid (Inv r x.2.1.1∧goP r x.1 (l.drop x.1) x.2.1.1=goP r 0 l (st0 r)∧runTD l r x.1 (l.drop x.1) x.2=z)∧x.1≤l.length∧Hid (DyOK l x.1 x.2.2.1∧Known x.2.1.1 x.2.2.1.st)) (fun (x:Nat×T3×(Dy×Bool×Bool))=>l.length - x.1) ((0,(st0 r,([] : List Sg),true),(⟨[],[],[],[]⟩,true,true))) ⟨Lib.hid ⟨Inv.st0 HR.out,rfl,HZ.out⟩,Nat.zero_le _,Lib.hid (⟨DyOK.zero l,MC r⟩)⟩
 ·(go_simp<;>exact rfl)
 ·go_simp
 rintro ⟨k,⟨s,m,a⟩,y⟩ ⟨HI,hk,HY⟩ K hK;simp only at HI hk hK HY ⊢;by_cases cB:k < l.length
 ·obtain ⟨w1,w2,w3,w4,w5,w6⟩:=ixs (m:=k) (by omega);have el:l.drop k=aA l k::l.drop (k+1):=by rw [jK cB,←List.drop_eq_getElem_cons cB]
  have wa:=AZ r (s,m,a) (aA l k) HR.out HI.out.1 (HC.out _ (by rw [jK cB];exact List.getElem_mem cB));obtain ⟨T2,jY⟩ : ∃ T2,stepT r (s,m,a) (aA l k)=T2:=⟨_,rfl⟩
  rw [jY] at wa;obtain ⟨s2,m2,a2⟩:=T2;have lx:apE r s (aA l k)=0→(apU r s (aA l k)).1=s2∧(apU r s (aA l k)).2=m2:=fun h=>by
   have e1:=congrArg (fun t:T3=>t.1) jY;have e2:=congrArg (fun t:T3=>t.2.1) jY;simp only [stepT,apR,if_pos h] at e1 e2;exact ⟨e1,e2⟩
  have hE:goP r k (l.drop k) s=if apE r s (aA l k)≠0 then (s,k,apE r s (aA l k)) else goP r (k+1) (l.drop (k+1)) s2:=by
   rw [el,goP];by_cases h:apE r s (aA l k)=0
   ·rw [if_neg (by simp [h]),if_neg (by simp [h]),(lx h).1]
   ·rw [if_pos h,if_pos h]
  have hU:runTD l r k (l.drop k) ((s,m,a),y)=if apE r s (aA l k)≠0 then ((s2,m2,a2),y) else runTD l r (k+1) (l.drop (k+1)) ((s2,m2,a2),(eQ l y.1 k (aA l k),pM y.2 (aA l k))):=by rw [el,runTD,jY]
  have qt:apE r s (aA l k)=0→Inv r s2:=fun h=>by
   rw [←(lx h).1];exact (HI.out.1.ap HR.out h).1
  have pD:apE r s (aA l k)=0→DyOK l (k+1) (eQ l y.1 k (aA l k))∧Known s2 (eQ l y.1 k (aA l k)).st:=fun h=>by
   refine ⟨HY.out.1.step rfl (tt (parts h).1),?_⟩;rw [Fb,←(lx h).1];exact Known.step HR.out HI.out.1 HY.out.2 h k
  have vj:=Lib.hid pD;clear pD;have h1:=HI.out.2.1;have h2:=HI.out.2.2;rw [hE] at h1;rw [hU] at h2;have wt:=fun tD:apE r s (aA l k)=0=>MB r s2 m2 a2 l y.1 y.2 (aA l k) k rfl cB (by omega) (tr (parts tD).1) (tt (parts tD).1) HY.out.1 (fun h0 h4=>HY.out.2 _ (vo HI.out.1.len tD h0 h4));clear jY HI hE hU el lx;unfold pB gr at wa;simp only at wa;unfold gr at wt;simp only [List.cons_append,List.nil_append] at wt;have H1:=Lib.hid h1;have H2:=Lib.hid h2;have bj:=Lib.hid qt;clear h1 h2 qt;have WT:=Lib.hid wt;clear wt;generalize apE r s (aA l k)=E at *;repeat' with_reducible apply af
  refine ah [] ?_;repeat' with_reducible first|apply af|apply ae|apply aw|apply aE|apply aa|(apply ax;·go_simp)|(apply ab;intro X Y;go_simp;apply Y;clear Y X)
  refine ah [] ?_;repeat' with_reducible first|apply af|apply ae|apply aa|(apply ab;intro X Y;go_simp;apply Y;clear Y X)
  refine dm (bb [] 2 ⟨rfl,rfl⟩ ?_);simp only [au];repeat' with_reducible first|apply aa|(apply ab;intro X Y;go_simp;apply Y;clear Y X)
  refine dI [7,6,8] [7] [] [some (.box [.osl 1,.osl 2,I s2.time,.sl 4 (r.ranks.map Rk.av),I r.back,I r.ret,.sl 3 (m2.map Sg.av)]),some (.bag 62 1 false none (bA s2.q)),some (.arr 148 3 a2 (s2.tk.map Tk.av))] (I E) rfl (by go_simp) ?_ ?_
  ·unfold dv;go_simp;refine ⟨_,_,_,wa,?_⟩;go_simp;kernel_rfl
  go_simp;refine bb [] 1 ⟨rfl,rfl⟩ ?_;simp only [au];repeat' with_reducible first|apply aa|(apply ab;intro X Y;go_simp;apply Y;clear Y X)
  apply cF;repeat' with_reducible first|apply af|apply ae
  by_cases he:E=0
  ·subst he;have h1:=H1.out;have h2:=H2.out;rw [if_neg (by simp)] at h1 h2;have bD:=bj.out rfl;have wt:=WT.out rfl;have pD:=vj.out rfl;generalize eQ l y.1 k (aA l k)=O2 at *;generalize pM y.2 (aA l k)=A2 at *;clear H1 bj WT H2 HY vj;have H1:=Lib.hid h1;have H2:=Lib.hid h2;have bj:=Lib.hid bD;clear h1 h2 bD;refine ah [] ?_;repeat' with_reducible first|apply ae|apply aw|apply aa|(apply ar;·go_simp)|(apply ab;intro X Y;go_simp;apply Y;clear Y X)
   refine dm (bb [] 4 ⟨rfl,rfl⟩ ?_);simp only [au];repeat' with_reducible first|apply aa|(apply ab;intro X Y;go_simp;apply Y;clear Y X)
   refine dI [7,6,8,0,1,2,3,4,5] [7,0] [] [some (.box [.osl 1,.osl 2,I s2.time,.sl 4 (r.ranks.map Rk.av),I r.back,I r.ret,.sl 3 (m2.map Sg.av)]),some (.bag 62 1 false none (bA s2.q)),some (.arr 148 3 a2 (s2.tk.map Tk.av)),some (.box [.ref 4 0]),some (.box [.osl 5,.mp 6,.osl 7,.mp 8]),some (.arr 167 4 A2.1 (O2.st.map Sy.av)),some (.mpo (4,.i64) O2.op),some (.arr 67 3 A2.2 (O2.wt.map Wt.av)),some (.mpo (4,.i64) O2.sv)] (.tup []) rfl (by go_simp) ?_ ?_
   ·unfold dv;go_simp;refine ⟨_,_,_,wt,?_⟩;go_simp;kernel_rfl
   go_simp;apply cF;repeat' with_reducible first|apply ae|apply bc
   refine ah [] ?_;repeat' with_reducible first|apply ae|apply aa|(apply ab;intro X Y;go_simp;apply Y;clear Y X)
   refine hK _ (k+1,(s2,m2,a2),(O2,A2)) ⟨Lib.hid ⟨bj.out,H1.out,H2.out⟩,cB,Lib.hid (pD)⟩ (by simp only;omega) ?_;go_simp
  ·have h1:=H1.out;have h2:=H2.out;rw [if_pos he] at h1 h2;rcases HF.out with ⟨q1,rfl,q3⟩|⟨q1,_,_⟩
   ·rw [←h1] at q3;simp only at q3;subst q3;subst h2;clear HF H1 bj H2 h1 q1 hK HZ WT;refine ah [] ?_;repeat' with_reducible first|apply af|apply ae|apply aa|(apply ax;·go_simp)|(apply ab;intro X Y;go_simp;apply Y;clear Y X)
    refine ah [] ?_;repeat' with_reducible first|apply ae|apply aW|apply az|apply dh|apply aa|(apply ab;intro X Y;go_simp;apply Y;clear Y X)
    go_simp
   ·rw [←h1] at q1;exact absurd q1 he
 ·have qu:k=l.length:=by omega
  have h1:=HI.out.2.1;have h2:=HI.out.2.2;rw [qu,List.drop_length] at h1 h2;rw [goP] at h1;rw [runTD] at h2;rcases HF.out with ⟨q1,_,_⟩|⟨_,q2,q3⟩
  ·rw [←h1] at q1;exact absurd rfl q1
  ·subst q3;subst h2;subst q2;subst qu;clear HF h1 HI hK HZ;repeat' with_reducible apply af
   refine ah [] ?_;repeat' with_reducible first|apply af|apply ae|apply bU|apply bV|apply bW|apply aa|(apply ar;·go_simp)|(apply ab;intro X Y;go_simp;apply Y;clear Y X)
   refine ah [] ?_;repeat' with_reducible first|apply ae|apply az|apply aa|(apply ab;intro X Y;go_simp;apply Y;clear Y X)
   go_simp
def jI (d:Dy) (a:Bool×Bool) : Hp:=[some (.mpo (4,.i64) d.op),some (.mpo (4,.i64) d.sv),some (.box [.osl 4,.mp 0,.osl 5,.mp 1]),some (.box [.ref 2 0]),some (.arr 167 4 a.1 (d.st.map Sy.av)),some (.arr 67 3 a.2 (d.wt.map Wt.av))]
theorem Gg (r:Ru) (l:List Ev) (d:Dy) (a:Bool×Bool) (n e:Int) (g:VH Tryz.prog 85 [some (.box [.ref 1 0]),some (.box [.osl 2,.mp 3,.osl 4,.mp 5]),some (.arr 167 4 true []),some (.mpo (4,.i64) []),some (.arr 67 3 true []),some (.mpo (4,.i64) [])] [bJ r,cp l,qJ l] [2] [some (.box [.ref 1 0]),some (.box [.osl 2,.mp 3,.osl 4,.mp 5]),some (.arr 167 4 a.1 (d.st.map Sy.av)),some (.mpo (4,.i64) d.op),some (.arr 67 3 a.2 (d.wt.map Wt.av)),some (.mpo (4,.i64) d.sv)] (.tup [.lit (.pointer none),I n,I e])) :
  VH Tryz.prog 95 [] [bJ r,cp l] [] (jI d a) (.tup [.ref 2 0,I e]):=by
 unfold qJ at g;refine dn Tryz.func95 rfl (by kernel_rfl) rfl (fun _=>by kernel_rfl) fun M0 w0 vs=>?_;simp only [Tryz.ntmps95,Tryz.results95,aC];repeat' with_reducible apply af
 refine ah [] ?_;repeat' with_reducible first|apply af|apply ae|apply aa|(apply ab;intro X Y;go_simp;apply Y;clear Y X)
 refine ah [13] ?_;repeat' with_reducible first|apply af|apply ae|apply aa|(apply ab;intro X Y;go_simp;apply Y;clear Y X)
 refine hZ (fun p a w R=>⟨_,R.nilCell (bi:=2) (j:=0) (e:=167) (sz:=4) rfl rfl (by decide)⟩) ?_;go_simp;refine hZ (fun p a w R=>⟨_,R.nilCell (bi:=2) (j:=2) (e:=67) (sz:=3) rfl rfl (by decide)⟩) ?_;go_simp;skip
 refine dm (bb [] 3 ⟨rfl,rfl⟩ ?_);simp only [au];repeat' with_reducible first|apply aa|(apply ab;intro X Y;go_simp;apply Y;clear Y X)
 refine dI [3,2,4,0,5,1] [3] [] [some (.box [.ref 1 0]),some (.box [.osl 2,.mp 3,.osl 4,.mp 5]),some (.arr 167 4 a.1 (d.st.map Sy.av)),some (.mpo (4,.i64) d.op),some (.arr 67 3 a.2 (d.wt.map Wt.av)),some (.mpo (4,.i64) d.sv)] (.tup [.lit (.pointer none),I n,I e]) rfl (by go_simp) ?_ ?_
 ·unfold dv;go_simp;refine ⟨_,_,_,g,?_⟩;go_simp;kernel_rfl
 go_simp;refine bb [] 7 ⟨rfl,rfl⟩ ?_;simp only [au];repeat' with_reducible first|apply aa|(apply ab;intro X Y;go_simp;apply Y;clear Y X)
 apply cF;repeat' with_reducible first|apply af|apply ae
 refine ah [] ?_;repeat' with_reducible first|apply ae|apply az|apply aa|(apply ab;intro X Y;go_simp;apply Y;clear Y X)
 unfold jI;go_simp
theorem ME (r:Ru) (l:List Ev) (d:Dy) (a:Bool×Bool) (s:St) (mv:List Sg) (b:Bool) (g:VH Tryz.prog 85 [some (.box [.ref 1 0]),some (.box [.osl 2,.mp 3,.osl 4,.mp 5]),some (.arr 167 4 true []),some (.mpo (4,.i64) []),some (.arr 67 3 true []),some (.mpo (4,.i64) [])] [bJ r,cp l,qJ l] [2] [some (.box [.ref 1 0]),some (.box [.osl 2,.mp 3,.osl 4,.mp 5]),some (.arr 167 4 a.1 (d.st.map Sy.av)),some (.mpo (4,.i64) d.op),some (.arr 67 3 a.2 (d.wt.map Wt.av)),some (.mpo (4,.i64) d.sv),some (.bag 62 1 false none (bA s.q)),some (.box [.osl 6,.osl 8,I s.time,.sl 4 (r.ranks.map Rk.av),I r.back,I r.ret,.sl 3 (mv.map Sg.av)]),some (.arr 148 3 b (s.tk.map Tk.av))] (.tup [.ref 7 0,I 0,I 0])) :
  VH Tryz.prog 95 [] [bJ r,cp l] [] (jI d a++[some (.bag 62 1 false none (bA s.q)),some (.box [.osl 6,.osl 8,I s.time,.sl 4 (r.ranks.map Rk.av),I r.back,I r.ret,.sl 3 (mv.map Sg.av)]),some (.arr 148 3 b (s.tk.map Tk.av))]) (.tup [.ref 2 0,I 0]):=by
 unfold qJ at g;refine dn Tryz.func95 rfl (by kernel_rfl) rfl (fun _=>by kernel_rfl) fun M0 w0 vs=>?_;simp only [Tryz.ntmps95,Tryz.results95,aC];repeat' with_reducible apply af
 refine ah [] ?_;repeat' with_reducible first|apply af|apply ae|apply aa|(apply ab;intro X Y;go_simp;apply Y;clear Y X)
 refine ah [13] ?_;repeat' with_reducible first|apply af|apply ae|apply aa|(apply ab;intro X Y;go_simp;apply Y;clear Y X)
 refine hZ (fun p a w R=>⟨_,R.nilCell (bi:=2) (j:=0) (e:=167) (sz:=4) rfl rfl (by decide)⟩) ?_;go_simp;refine hZ (fun p a w R=>⟨_,R.nilCell (bi:=2) (j:=2) (e:=67) (sz:=3) rfl rfl (by decide)⟩) ?_;go_simp;skip
 refine dm (bb [] 3 ⟨rfl,rfl⟩ ?_);simp only [au];repeat' with_reducible first|apply aa|(apply ab;intro X Y;go_simp;apply Y;clear Y X)
 refine dI [3,2,4,0,5,1] [3] [] [some (.box [.ref 1 0]),some (.box [.osl 2,.mp 3,.osl 4,.mp 5]),some (.arr 167 4 a.1 (d.st.map Sy.av)),some (.mpo (4,.i64) d.op),some (.arr 67 3 a.2 (d.wt.map Wt.av)),some (.mpo (4,.i64) d.sv),some (.bag 62 1 false none (bA s.q)),some (.box [.osl 6,.osl 8,I s.time,.sl 4 (r.ranks.map Rk.av),I r.back,I r.ret,.sl 3 (mv.map Sg.av)]),some (.arr 148 3 b (s.tk.map Tk.av))] (.tup [.ref 7 0,I 0,I 0]) rfl (by go_simp) ?_ ?_
 ·unfold dv;go_simp;refine ⟨_,_,_,g,?_⟩;go_simp;kernel_rfl
 go_simp;refine bb [] 7 ⟨rfl,rfl⟩ ?_;simp only [au];repeat' with_reducible first|apply aa|(apply ab;intro X Y;go_simp;apply Y;clear Y X)
 apply cF;repeat' with_reducible first|apply af|apply ae
 refine ah [] ?_;repeat' with_reducible first|apply ae|apply az|apply aa|(apply ab;intro X Y;go_simp;apply Y;clear Y X)
 unfold jI;go_simp
theorem MF (r:Ru) (l:List Ev) (d:Dy) (a:Bool×Bool) (e:Int) (he:e≠0) (g:VH Tryz.prog 95 [] [bJ r,cp l] [] (jI d a) (.tup [.ref 2 0,I e])) :
  VC Tryz.prog 35 [bJ r,cp l] (.tup [bG,I e]):=by
 unfold jI at g;refine aL Tryz.func35 rfl (by kernel_rfl) rfl fun M0 w0=>?_;simp only [Tryz.ntmps35,Tryz.results35,aC];repeat' with_reducible apply af
 refine ah [] ?_;repeat' with_reducible first|apply af|apply ae|apply aa|(apply ab;intro X Y;go_simp;apply Y;clear Y X)
 refine dm (bb [] 2 ⟨rfl,rfl⟩ ?_);simp only [au];repeat' with_reducible first|apply aa|(apply ab;intro X Y;go_simp;apply Y;clear Y X)
 refine dI [] [] [] [some (.mpo (4,.i64) d.op),some (.mpo (4,.i64) d.sv),some (.box [.osl 4,.mp 0,.osl 5,.mp 1]),some (.box [.ref 2 0]),some (.arr 167 4 a.1 (d.st.map Sy.av)),some (.arr 67 3 a.2 (d.wt.map Wt.av))] (.tup [.ref 2 0,I e]) rfl (by go_simp) ?_ ?_
 ·unfold dv;go_simp;refine ⟨_,_,⟨_,g⟩,?_⟩;go_simp;kernel_rfl
 go_simp;refine bb [] 5 ⟨rfl,rfl⟩ ?_;simp only [au];repeat' with_reducible first|apply aa|(apply ab;intro X Y;go_simp;apply Y;clear Y X)
 apply cF;repeat' with_reducible first|apply af|apply ae|apply aW|apply az|apply aa|refine ah [] ?_|(apply ax;·go_simp)|(apply ab;intro X Y;go_simp;apply Y;clear Y X)
 go_simp
theorem MG (r:Ru) (l:List Ev) (d:Dy) (a:Bool×Bool) (s:St) (mv:List Sg) (b:Bool) (g:VH Tryz.prog 95 [] [bJ r,cp l] [] (jI d a++[some (.bag 62 1 false none (bA s.q)),some (.box [.osl 6,.osl 8,I s.time,.sl 4 (r.ranks.map Rk.av),I r.back,I r.ret,.sl 3 (mv.map Sg.av)]),some (.arr 148 3 b (s.tk.map Tk.av))]) (.tup [.ref 2 0,I 0])) :
  VC Tryz.prog 35 [bJ r,cp l] (.tup [.sl 3 (d.wt.map Wt.av),I 0]):=by
 unfold jI at g;simp only [List.cons_append,List.nil_append] at g;refine aL Tryz.func35 rfl (by kernel_rfl) rfl fun M0 w0=>?_;simp only [Tryz.ntmps35,Tryz.results35,aC];repeat' with_reducible apply af
 refine ah [] ?_;repeat' with_reducible first|apply af|apply ae|apply aa|(apply ab;intro X Y;go_simp;apply Y;clear Y X)
 refine dm (bb [] 2 ⟨rfl,rfl⟩ ?_);simp only [au];repeat' with_reducible first|apply aa|(apply ab;intro X Y;go_simp;apply Y;clear Y X)
 refine dI [] [] [] [some (.mpo (4,.i64) d.op),some (.mpo (4,.i64) d.sv),some (.box [.osl 4,.mp 0,.osl 5,.mp 1]),some (.box [.ref 2 0]),some (.arr 167 4 a.1 (d.st.map Sy.av)),some (.arr 67 3 a.2 (d.wt.map Wt.av)),some (.bag 62 1 false none (bA s.q)),some (.box [.osl 6,.osl 8,I s.time,.sl 4 (r.ranks.map Rk.av),I r.back,I r.ret,.sl 3 (mv.map Sg.av)]),some (.arr 148 3 b (s.tk.map Tk.av))] (.tup [.ref 2 0,I 0]) rfl (by go_simp) ?_ ?_
 ·unfold dv;go_simp;refine ⟨_,_,⟨_,g⟩,?_⟩;go_simp;kernel_rfl
 go_simp;refine bb [] 5 ⟨rfl,rfl⟩ ?_;simp only [au];repeat' with_reducible first|apply aa|(apply ab;intro X Y;go_simp;apply Y;clear Y X)
 apply cF;repeat' with_reducible first|apply af|apply ae
 refine ah [] ?_;repeat' with_reducible first|apply af|apply ae|apply aw|apply aa|(apply ar;·go_simp)|(apply ab;intro X Y;go_simp;apply Y;clear Y X)
 refine gV 2 2 5 rfl rfl rfl ?_;refine ah [] ?_;repeat' with_reducible first|apply ae|apply az|apply aa|(apply ab;intro X Y;go_simp;apply Y;clear Y X)
 go_simp
end Go.Proofs.YtoibondihdhnoaaGreatDoor
