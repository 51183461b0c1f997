/- Texts in one: Walks: an event is noted in the diary. -/
import Derived.Test.YtoibondihdhnoaaGreatDoorFRY8
import Derived.Test.YtoibondihdhnoaaGreatDoorFRY30
import Derived.Test.YtoibondihdhnoaaGreatDoorFRY34
import Derived.Test.YtoibondihdhnoaaGreatDoorFRY31
namespace Go.Proofs.YtoibondihdhnoaaGreatDoor
open Go.RowKit
set_option maxRecDepth 100000
set_option maxHeartbeats 2000000
theorem wG {w:World} {M:Nat→Nat→Prop} {v:Value} {e:Int} {sz:Nat} (hv:V0 w M (.tup [bz,I e]) v) : V0 w M (.tup [.sl sz [],I e]) v:=by
 cases hv with
 | tup _ us hl hh=>
  refine .tup _ us hl fun i c u hc hu=>?_;rcases i with _|i
  ·simp only [List.getElem?_cons_zero,Option.some.injEq] at hc;subst hc;exact (hh 0 _ u rfl hu).nilSl sz
  ·exact hh (i+1) c u hc hu
theorem Gy (r:Ru) (l:List Ev) (out:List Sg) (a:Bool) (n e:Int) (he:e≠0) (ho:out.length≤1000000000) (g:VH Tryz.prog 85 [some (.box [.osl 1]),some (.arr 45 3 true [])] [bN r,cF l,pL] [2] [some (.box [.osl 1]),some (.arr 45 3 a (out.map Sg.av))] (.tup [.lit (.pointer none),I n,I e])) :
  VC Tryz.prog 30 [bN r,cF l] (.tup [bz,I e]):=by
 have g2:=bY (decide (out.length≤200)) 8;have g3:VC Tryz.prog 88 [.sl 1 ([e,unl (decide (out.length≤200)) 8].map eK)] (I (fst [e,unl (decide (out.length≤200)) 8])):=fF _ rfl rfl;rw [show fst [e,unl (decide (out.length≤200)) 8]=e by simp [fst,he]] at g3;have ed:decide ((out.length:Int)≤200)=decide (out.length≤200):=by
  by_cases h:out.length≤200
  ·rw [decide_eq_true h,decide_eq_true (by omega)]
  ·rw [decide_eq_false h,decide_eq_false (by omega)]
 rw [←ed] at g2 g3;generalize unl (decide ((out.length:Int)≤200)) 8=A2 at *;clear ed;unfold pL at g;refine aJ Tryz.func30 rfl (by kernel_rfl) rfl fun M0 w0=>?_;simp only [Tryz.ntmps30,Tryz.results30,aC];repeat' with_reducible apply af
 refine ah [] ?_;repeat' with_reducible first|apply af|apply ae|apply aa|(apply ab;intro X Y;go_simp;apply Y;clear Y X)
 refine ah [] ?_;repeat' with_reducible first|apply af|apply ae|apply aa|(apply ab;intro X Y;go_simp;apply Y;clear Y X)
 refine ib (fun p a w R=>⟨_,R.nilCell (bi:=0) (j:=0) (e:=45) (sz:=3) rfl rfl (by decide)⟩) ?_;go_simp;skip
 refine eC (bM [] 3 ⟨rfl,rfl⟩ ?_);simp only [aA];repeat' with_reducible first|apply aa|(apply ab;intro X Y;go_simp;apply Y;clear Y X)
 refine eI [0,1] [0] [] [some (.box [.osl 1]),some (.arr 45 3 a (out.map Sg.av))] (.tup [.lit (.pointer none),I n,I e]) rfl (by go_simp) ?_ ?_
 ·unfold dU;go_simp;refine ⟨_,_,_,g,?_⟩;go_simp;kernel_rfl
 go_simp;refine bM [] 7 ⟨rfl,rfl⟩ ?_;simp only [aA];repeat' with_reducible first|apply aa|(apply ab;intro X Y;go_simp;apply Y;clear Y X)
 apply da;repeat' with_reducible first|apply af|apply ae
 refine ah [] ?_;repeat' first|(with_reducible first|apply af|apply ae|apply aa)|((with_reducible apply ab);intro X Y;go_simp;(first|(with_reducible refine ⟨_,g2,?_⟩)|(refine ⟨_,g3,?_⟩)|skip);apply Y;clear Y X)
 refine ah [] ?_;repeat' with_reducible first|apply af|apply ae|apply aa|(apply au;·go_simp)|(apply ab;intro X Y;go_simp;apply Y;clear Y X)
 repeat' with_reducible first|apply ae|apply aR|apply aw|apply aa|refine ah [] ?_|(apply ab;intro X Y;go_simp;apply Y;clear Y X)
 go_simp
theorem MF (r:Ru) (s:St) (mv:List Sg) (b:Bool) (l:List Ev) (out:List Sg) (a:Bool) (ho:out.length≤1000000000) (g:VH Tryz.prog 85 [some (.box [.osl 1]),some (.arr 45 3 true [])] [bN r,cF l,pL] [2] [some (.box [.osl 1]),some (.arr 45 3 a (out.map Sg.av)),some (.bag 62 1 false none (bx s.q)),some (.box [.osl 2,.osl 4,I s.time,.sl 4 (r.ranks.map Rk.av),I r.back,I r.ret,.sl 3 (mv.map Sg.av)]),some (.arr 148 3 b (s.tk.map Tk.av))] (.tup [.ref 3 0,I 0,I 0])) :
  VC Tryz.prog 30 [bN r,cF l] (.tup [.sl 3 (if out.length≤200 then out.map Sg.av else []),I (unl (decide (out.length≤200)) 8)]):=by
 have g2:=bY (decide (out.length≤200)) 8;have g3:VC Tryz.prog 88 [.sl 1 ([0,unl (decide (out.length≤200)) 8].map eK)] (I (fst [0,unl (decide (out.length≤200)) 8])):=fF _ rfl rfl;have ed:decide ((out.length:Int)≤200)=decide (out.length≤200):=by
  by_cases h:out.length≤200
  ·rw [decide_eq_true h,decide_eq_true (by omega)]
  ·rw [decide_eq_false h,decide_eq_false (by omega)]
 by_cases h2:out.length≤200
 ·rw [if_pos h2];have eu:unl (decide (out.length≤200)) 8=0:=by rw [decide_eq_true h2];rfl
  rw [eu] at g2 g3 ⊢;rw [show fst [0,0]=0 from rfl] at g3;rw [←ed] at g2;clear ed eu h2;unfold pL at g;refine aJ Tryz.func30 rfl (by kernel_rfl) rfl fun M0 w0=>?_;simp only [Tryz.ntmps30,Tryz.results30,aC];repeat' with_reducible apply af
  refine ah [] ?_;repeat' with_reducible first|apply af|apply ae|apply aa|(apply ab;intro X Y;go_simp;apply Y;clear Y X)
  refine ah [] ?_;repeat' with_reducible first|apply af|apply ae|apply aa|(apply ab;intro X Y;go_simp;apply Y;clear Y X)
  refine ib (fun p a w R=>⟨_,R.nilCell (bi:=0) (j:=0) (e:=45) (sz:=3) rfl rfl (by decide)⟩) ?_;go_simp;skip
  refine eC (bM [] 3 ⟨rfl,rfl⟩ ?_);simp only [aA];repeat' with_reducible first|apply aa|(apply ab;intro X Y;go_simp;apply Y;clear Y X)
  refine eI [0,1] [0] [] [some (.box [.osl 1]),some (.arr 45 3 a (out.map Sg.av)),some (.bag 62 1 false none (bx s.q)),some (.box [.osl 2,.osl 4,I s.time,.sl 4 (r.ranks.map Rk.av),I r.back,I r.ret,.sl 3 (mv.map Sg.av)]),some (.arr 148 3 b (s.tk.map Tk.av))] (.tup [.ref 3 0,I 0,I 0]) rfl (by go_simp) ?_ ?_
  ·unfold dU;go_simp;refine ⟨_,_,_,g,?_⟩;go_simp;kernel_rfl
  go_simp;refine bM [] 7 ⟨rfl,rfl⟩ ?_;simp only [aA];repeat' with_reducible first|apply aa|(apply ab;intro X Y;go_simp;apply Y;clear Y X)
  apply da;repeat' with_reducible first|apply af|apply ae
  refine ah [] ?_;repeat' first|(with_reducible first|apply af|apply ae|apply aa)|((with_reducible apply ab);intro X Y;go_simp;(first|(with_reducible refine ⟨_,g2,?_⟩)|(refine ⟨_,g3,?_⟩)|skip);apply Y;clear Y X)
  refine ah [] ?_;repeat' with_reducible first|apply af|apply ae|apply ao|apply aa|(apply aj;·go_simp)|(apply ab;intro X Y;go_simp;apply Y;clear Y X)
  refine gN 0 0 1 rfl rfl rfl ?_;repeat' with_reducible first|apply ae|apply aw|apply aa|refine ah [] ?_|(apply ab;intro X Y;go_simp;apply Y;clear Y X)
  go_simp
 ·rw [if_neg h2];have eu:unl (decide (out.length≤200)) 8=8:=by rw [decide_eq_false h2];rfl
  rw [eu] at g2 g3 ⊢;rw [show fst [0,8]=8 from rfl] at g3;rw [←ed] at g2;refine VC.weak (r:=.tup [bz,I 8]) ?_ fun w M v hv=>wG hv;clear ed eu h2;unfold pL at g;refine aJ Tryz.func30 rfl (by kernel_rfl) rfl fun M0 w0=>?_;simp only [Tryz.ntmps30,Tryz.results30,aC];repeat' with_reducible apply af
  refine ah [] ?_;repeat' with_reducible first|apply af|apply ae|apply aa|(apply ab;intro X Y;go_simp;apply Y;clear Y X)
  refine ah [] ?_;repeat' with_reducible first|apply af|apply ae|apply aa|(apply ab;intro X Y;go_simp;apply Y;clear Y X)
  refine ib (fun p a w R=>⟨_,R.nilCell (bi:=0) (j:=0) (e:=45) (sz:=3) rfl rfl (by decide)⟩) ?_;go_simp;skip
  refine eC (bM [] 3 ⟨rfl,rfl⟩ ?_);simp only [aA];repeat' with_reducible first|apply aa|(apply ab;intro X Y;go_simp;apply Y;clear Y X)
  refine eI [0,1] [0] [] [some (.box [.osl 1]),some (.arr 45 3 a (out.map Sg.av)),some (.bag 62 1 false none (bx s.q)),some (.box [.osl 2,.osl 4,I s.time,.sl 4 (r.ranks.map Rk.av),I r.back,I r.ret,.sl 3 (mv.map Sg.av)]),some (.arr 148 3 b (s.tk.map Tk.av))] (.tup [.ref 3 0,I 0,I 0]) rfl (by go_simp) ?_ ?_
  ·unfold dU;go_simp;refine ⟨_,_,_,g,?_⟩;go_simp;kernel_rfl
  go_simp;refine bM [] 7 ⟨rfl,rfl⟩ ?_;simp only [aA];repeat' with_reducible first|apply aa|(apply ab;intro X Y;go_simp;apply Y;clear Y X)
  apply da;repeat' with_reducible first|apply af|apply ae
  refine ah [] ?_;repeat' first|(with_reducible first|apply af|apply ae|apply aa)|((with_reducible apply ab);intro X Y;go_simp;(first|(with_reducible refine ⟨_,g2,?_⟩)|(refine ⟨_,g3,?_⟩)|skip);apply Y;clear Y X)
  refine ah [] ?_;repeat' with_reducible first|apply af|apply ae|apply aa|(apply au;·go_simp)|(apply ab;intro X Y;go_simp;apply Y;clear Y X)
  repeat' with_reducible first|apply ae|apply aR|apply aw|apply aa|refine ah [] ?_|(apply ab;intro X Y;go_simp;apply Y;clear Y X)
  go_simp
theorem Cv {r:Ru} {t:T3} {x:Ev} (h:apE r t.1 x=0) : (stepT r t x).1=(apU r t.1 x).1∧(stepT r t x).2.1=(apU r t.1 x).2:=by
 constructor<;>simp only [stepT,apR,if_pos h]
theorem Gz {r:Ru} : ∀ (l:List Ev) (k:Nat) (t:T3) (y:List Sg×Bool),(goP r k l t.1).2.2=0→(runTS r k l (t,y)).2.1=y.1++fk r l t.1∧(runTS r k l (t,y)).1.1=(goP r k l t.1).1
 | [],_,_,y,_=>⟨(List.append_nil y.1).symm,rfl⟩
 | x::l,k,t,y,h=>by
  obtain ⟨h1,h2⟩:=uh h;obtain ⟨e1,e2⟩:=Cv (t:=t) h1;rw [runTS,goP,fk,if_neg (by simp [h1]),if_neg (by simp [h1]),if_neg (by simp [h1])];rw [←e1] at h2;obtain ⟨g1,g2⟩:=Gz l (k+1) (stepT r t x) (y.1++fw x++(stepT r t x).2.1,false) h2;rw [g1,g2,e1,e2];exact ⟨by simp [List.append_assoc],rfl⟩
theorem GA {r:Ru} (hr:RuOK r) : ∀ (l:List Ev) (k:Nat) (t:T3) (y:List Sg×Bool),Inv r t.1→(runTS r k l (t,y)).2.1.length≤y.1.length+l.length*1100
 | [],_,_,y,_=>by rw [runTS];exact Nat.le_add_right _ _
 | x::l,k,t,y,hi=>by
  rw [runTS];by_cases h1:apE r t.1 x=0
  ·obtain ⟨e1,e2⟩:=Cv (t:=t) h1;rw [if_neg (by simp [h1])];have h2:=(hi.ap hr h1).1;rw [←e1] at h2;have:=GA hr l (k+1) (stepT r t x) (y.1++fw x++(stepT r t x).2.1,false) h2;have h3:=(yO hr hi h1).1;rw [←e2] at h3;have h4:(fw x).length≤1:=by
    unfold fw;split
    ·exact Nat.zero_le _
    ·split<;>exact Nat.le_refl _
   refine Nat.le_trans this ?_;rw [List.length_append,List.length_append,List.length_cons];omega
  ·rw [if_pos h1,List.length_cons];exact Nat.le_add_right _ _
def oR (r:Ru) (l:List Ev) : List Sg×Int:=if dR r l≠0 then ([],dR r l) else if (goP r 0 l (st0 r)).2.2≠0 then ([],(goP r 0 l (st0 r)).2.2) else if (fk r l (st0 r)).length≤200 then (fk r l (st0 r),0) else ([],8)
theorem GB (r:Ru) (l:List Ev) (h:SmallL r l) : VC Tryz.prog 30 [bN r,cF l] (.tup [.sl 3 ((oR r l).1.map Sg.av),I (oR r l).2]):=by
 unfold oR;by_cases h0:dR r l=0
 ·rw [if_neg (by simp [h0])];obtain ⟨hr,_,hl⟩:=yT h0;obtain ⟨z,hz⟩ : ∃ z,runTS r 0 l (t0 r,([],true))=z:=⟨_,rfl⟩
  have hlen:=GA hr l 0 (t0 r) ([],true) (Inv.st0 hr);rw [hz] at hlen;have mT:z.2.1.length≤1000000000:=by
   refine Nat.le_trans hlen ?_;show 0+_≤_;omega
  by_cases h1:(goP r 0 l (st0 r)).2.2=0
  ·rw [if_neg (by simp [h1])];have g:=Fw r l _ _ h.nm hr hl h.c h0 z hz (.inr ⟨h1,rfl,rfl⟩);have e:=Gz l 0 (t0 r) ([],true) h1;rw [hz] at e;have:=MF r z.1.1 z.1.2.1 z.1.2.2 l z.2.1 z.2.2 mT g;rw [e.1,List.nil_append] at this;by_cases h2:(fk r l (st0 r)).length≤200
   ·rw [if_pos h2];rw [if_pos (show (fk r l (t0 r).1).length≤200 from h2),decide_eq_true (show (fk r l (t0 r).1).length≤200 from h2)] at this;exact this
   ·rw [if_neg h2];rw [if_neg (show ¬(fk r l (t0 r).1).length≤200 from h2),decide_eq_false (show ¬(fk r l (t0 r).1).length≤200 from h2)] at this;exact this
  ·rw [if_pos h1];have g:=Fw r l _ _ h.nm hr hl h.c h0 z hz (.inl ⟨h1,rfl,rfl⟩);exact (Gy r l z.2.1 z.2.2 _ _ h1 mT g).weak fun w M v hv=>wG hv
 ·rw [if_pos h0];exact (Gy r l [] true 0 _ h0 (by decide) (K7 r l h.n h.nm h0)).weak fun w M v hv=>wG hv
def iI (d:Dy) (a b:Bool) : Hp:=[some (.box [.osl 1,.mp 2,.osl 3,.mp 4]),some (.arr 167 4 a (d.st.map Sy.av)),some (.mpo (4,.i64) d.op),some (.arr 67 3 b (d.wt.map Wt.av)),some (.mpo (4,.i64) d.sv)]
theorem MG (log:List Ev) (d:Dy) (a b:Bool) (i:Nat) (hi:i < log.length) (hl:log.length≤1000000) (h4:(aB log i).kind=4) :
  VH Tryz.prog 143 (iI d a b) [.ref 0 0,cF log,I (i:Int)] [0] (iI d a b) (.tup []):=by
 obtain ⟨w1,w2,w3,w4,w5,w6⟩:=ixs (m:=i) (by omega);refine dk Tryz.func143 rfl (by kernel_rfl) rfl (fun _=>by kernel_rfl) fun M0 w0 vs=>?_;simp only [Tryz.ntmps143,Tryz.results143,aC];unfold iI;repeat' with_reducible first|apply af|apply ae|apply aR|apply aw|apply aa|refine ah [] ?_|(apply au;·go_simp)|(apply ab;intro X Y;go_simp;apply Y;clear Y X)
 go_simp
theorem MH (log:List Ev) (d:Dy) (a b:Bool) (i:Nat) (hi:i < log.length) (hl:log.length≤1000000) (h0:(aB log i).kind=0) (hs:d.st.length≤i) (hv:NumOK d.sv i) :
  VH Tryz.prog 143 (iI d a b) [.ref 0 0,cF log,I (i:Int)] [0] (iI (fx log d i (aB log i)) false b) (.tup []):=by
 obtain ⟨w1,w2,w3,w4,w5,w6⟩:=ixs (m:=i) (by omega);unfold fx;rw [if_neg (by omega),if_pos h0];obtain ⟨n1,n2,n3⟩:=hv.at_ (aB log i).car;unfold su;generalize oP d.sv (aB log i).car=V at *;have n4:IntKind.i64.wrap V=V:=fM (by omega) (by omega);have n5:d.st.length+1≤1000000000:=by omega
 refine dk Tryz.func143 rfl (by kernel_rfl) rfl (fun _=>by kernel_rfl) fun M0 w0 vs=>?_;simp only [Tryz.ntmps143,Tryz.results143,aC];unfold iI;repeat' with_reducible first|apply af|apply ae|apply ao|apply aa|refine ah [] ?_|(apply au;·go_simp)|(apply aj;·go_simp)|(apply ab;intro X Y;go_simp;apply Y;clear Y X)
 refine na 11 [] (by kernel_rfl) (by kernel_rfl) ?_;simp only [aA];repeat' with_reducible first|apply af|apply ae|apply aa|apply aP|((first|apply ab|apply aO);intro X Y;go_simp;apply Y;clear Y X)
 refine rR 10 [39] 1 [0,29] (by kernel_rfl) (by kernel_rfl) (by kernel_rfl) (by kernel_rfl) rfl ⟨rfl,rfl⟩ rfl ?_;simp only [aA];repeat' with_reducible first|apply aP|(apply aO;intro X Y;go_simp;apply Y;clear Y X)
 refine ⟨_,by go_simp,by go_simp;exact rfl,?_,?_⟩
 ·intro t ht;simp only [List.mem_cons,List.not_mem_nil,or_false] at ht;rcases ht with rfl|rfl<;>rfl
 go_simp;repeat' with_reducible first|apply af|apply ae|apply aa|(apply ab;intro X Y;go_simp;apply Y;clear Y X)
 refine na 8 [] (by kernel_rfl) (by kernel_rfl) ?_;simp only [aA];repeat' with_reducible first|apply ae|apply aR|apply aw|apply aa|apply aP|((first|apply ab|apply aO);intro X Y;go_simp;apply Y;clear Y X)
 go_simp
theorem MI (log:List Ev) (d:Dy) (a b:Bool) (i:Nat) (hi:i < log.length) (hl:log.length≤1000000) (hk:(aB log i).kind=2) (h:DyOK log i d) (hh:cZ (aB log i).car d.st=true) :
  VH Tryz.prog 143 (iI d a b) [.ref 0 0,cF log,I (i:Int)] [0] (iI (fx log d i (aB log i)) a b) (.tup []):=by
 obtain ⟨w1,w2,w3,w4,w5,w6⟩:=ixs (m:=i) (by omega);have ho:=h.op _ hh;obtain ⟨j,hj,bB,ig,nM⟩:=qJ d.st 0 hh;rw [Nat.zero_add] at hj;unfold fx;rw [if_neg (by omega),if_neg (by omega),nM];rw [hj] at ho;have hQ:=h.st _ (List.getElem_mem bB);obtain ⟨c1,c2,c3,c4,c5⟩:=hQ;obtain ⟨y,hy⟩ : ∃ y,d.st[j]=y:=⟨_,rfl⟩
 rw [hy] at ig c1 c2 c3 c4 c5 ⊢;have e1:∀ hh:j < (d.st.map Sy.av).length,(d.st.map Sy.av)[j]'hh=Sy.av y:=fun hh=>by rw [List.getElem_map,hy]
 have e2:j < (d.st.map Sy.av).length:=by simpa using bB
 have ej:((j:Int)).toNat=j:=by omega
 have HY:=Lib.hid hy;obtain ⟨yc,ya,yw,yd⟩:=y;simp only [Sy.av] at e1;simp only at ig c1 c2 c3 c4 c5;have e3:(d.st.set j (gA (aB log i) i ⟨yc,ya,yw,yd⟩)).map Sy.av=(d.st.map Sy.av).set j [S yc,I ya,I yw,I (yd+1)]:=by
  rw [List.map_set];unfold gA;rw [hk];rfl
 have e4:kR log d.st (aB log i)=[]:=by unfold kR;rw [if_neg (by omega)]
 rw [if_neg (by omega),if_neg (by omega),e4,List.append_nil];have e5:IntKind.i64.wrap (yd+1)=yd+1:=fM (by omega) (by omega);unfold iI;simp only;rw [e3];generalize d.st.map Sy.av=E at *;clear h hh hj nM e3 e4 HY c1 c2 c3 c4 c5 ig;refine dk Tryz.func143 rfl (by kernel_rfl) rfl (fun _=>by kernel_rfl) fun M0 w0 vs=>?_;simp only [Tryz.ntmps143,Tryz.results143,aC];repeat' with_reducible first|apply af|apply ae|apply ao|apply aa|refine ah [] ?_|(apply aj;·go_simp)|(apply ab;intro X Y;go_simp;apply Y;clear Y X)
 refine na 13 [] (by kernel_rfl) (by kernel_rfl) ?_;simp only [aA];repeat' with_reducible first|apply af|apply ae|apply aa|apply aP|(apply aO;intro X Y;go_simp;apply Y;clear Y X)
 repeat' with_reducible first|apply af|apply ae|apply az|apply aY|apply aa|refine ah [] ?_|(apply au;·go_simp)|(apply aj;·go_simp)|(apply ab;intro X Y;go_simp;apply Y;clear Y X)
 go_simp
theorem MJ (log:List Ev) (d:Dy) (a b:Bool) (i:Nat) (hi:i < log.length) (hl:log.length≤1000000) (hk:(aB log i).kind=3) (h:DyOK log i d) (hh:cZ (aB log i).car d.st=true) :
  VH Tryz.prog 143 (iI d a b) [.ref 0 0,cF log,I (i:Int)] [0] (iI (fx log d i (aB log i)) a b) (.tup []):=by
 obtain ⟨w1,w2,w3,w4,w5,w6⟩:=ixs (m:=i) (by omega);have ho:=h.op _ hh;obtain ⟨j,hj,bB,ig,nM⟩:=qJ d.st 0 hh;rw [Nat.zero_add] at hj;unfold fx;rw [if_neg (by omega),if_neg (by omega),nM];rw [hj] at ho;have hQ:=h.st _ (List.getElem_mem bB);obtain ⟨c1,c2,c3,c4,c5⟩:=hQ;obtain ⟨y,hy⟩ : ∃ y,d.st[j]=y:=⟨_,rfl⟩
 rw [hy] at ig c1 c2 c3 c4 c5 ⊢;have e1:∀ hh:j < (d.st.map Sy.av).length,(d.st.map Sy.av)[j]'hh=Sy.av y:=fun hh=>by rw [List.getElem_map,hy]
 have e2:j < (d.st.map Sy.av).length:=by simpa using bB
 have ej:((j:Int)).toNat=j:=by omega
 have HY:=Lib.hid hy;obtain ⟨yc,ya,yw,yd⟩:=y;simp only [Sy.av] at e1;simp only at ig c1 c2 c3 c4 c5;have e3:(d.st.set j (gA (aB log i) i ⟨yc,ya,yw,yd⟩)).map Sy.av=(d.st.map Sy.av).set j [S yc,I ya,I (i:Int),I yd]:=by
  rw [List.map_set];unfold gA;rw [hk];rfl
 have e4:kR log d.st (aB log i)=[]:=by unfold kR;rw [if_neg (by omega)]
 rw [if_neg (by omega),if_neg (by omega),e4,List.append_nil];unfold iI;simp only;rw [e3];generalize d.st.map Sy.av=E at *;clear h hh hj nM e3 e4 HY c1 c2 c3 c4 c5 ig;refine dk Tryz.func143 rfl (by kernel_rfl) rfl (fun _=>by kernel_rfl) fun M0 w0 vs=>?_;simp only [Tryz.ntmps143,Tryz.results143,aC];repeat' with_reducible first|apply af|apply ae|apply ao|apply aa|refine ah [] ?_|(apply aj;·go_simp)|(apply ab;intro X Y;go_simp;apply Y;clear Y X)
 refine na 13 [] (by kernel_rfl) (by kernel_rfl) ?_;simp only [aA];repeat' with_reducible first|apply af|apply ae|apply aa|apply aP|(apply aO;intro X Y;go_simp;apply Y;clear Y X)
 repeat' with_reducible first|apply af|apply ae|apply az|apply aY|apply aa|refine ah [] ?_|(apply au;·go_simp)|(apply aj;·go_simp)|(apply ab;intro X Y;go_simp;apply Y;clear Y X)
 go_simp
theorem MK (log:List Ev) (d:Dy) (a b:Bool) (i:Nat) (hi:i < log.length) (hl:log.length≤1000000) (hk:(aB log i).kind=5) (h:DyOK log i d) (hh:cZ (aB log i).car d.st=true) :
  VH Tryz.prog 143 (iI d a b) [.ref 0 0,cF log,I (i:Int)] [0] (iI (fx log d i (aB log i)) a b) (.tup []):=by
 obtain ⟨w1,w2,w3,w4,w5,w6⟩:=ixs (m:=i) (by omega);have ho:=h.op _ hh;obtain ⟨j,hj,bB,ig,nM⟩:=qJ d.st 0 hh;rw [Nat.zero_add] at hj;unfold fx;rw [if_neg (by omega),if_neg (by omega),nM];rw [hj] at ho;have hQ:=h.st _ (List.getElem_mem bB);obtain ⟨c1,c2,c3,c4,c5⟩:=hQ;obtain ⟨y,hy⟩ : ∃ y,d.st[j]=y:=⟨_,rfl⟩
 rw [hy] at ig c1 c2 c3 c4 c5 ⊢;have e1:∀ hh:j < (d.st.map Sy.av).length,(d.st.map Sy.av)[j]'hh=Sy.av y:=fun hh=>by rw [List.getElem_map,hy]
 have e2:j < (d.st.map Sy.av).length:=by simpa using bB
 have ej:((j:Int)).toNat=j:=by omega
 have HY:=Lib.hid hy;obtain ⟨yc,ya,yw,yd⟩:=y;simp only [Sy.av] at e1;simp only at ig c1 c2 c3 c4 c5;have e3:(d.st.set j (gA (aB log i) i ⟨yc,ya,yw,yd⟩)).map Sy.av=(d.st.map Sy.av).set j [S yc,I ya,I (-1),I yd]:=by
  rw [List.map_set];unfold gA;rw [hk];rfl
 have e4:kR log d.st (aB log i)=[]:=by unfold kR;rw [if_neg (by omega)]
 rw [if_neg (by omega),if_pos hk,e4,List.append_nil];obtain ⟨n1,n2,n3⟩:=h.sv.at_ (aB log i).car;unfold su;rw [show oP d.sv (aB log i).car+(-1)=oP d.sv (aB log i).car - 1 by omega];generalize oP d.sv (aB log i).car=V at *;have n4:IntKind.i64.wrap (V - 1)=V - 1:=fM (by omega) (by omega);unfold iI;simp only;rw [e3];generalize d.st.map Sy.av=E at *;clear h hh hj nM e3 e4 HY c1 c2 c3 c4 c5 ig;refine dk Tryz.func143 rfl (by kernel_rfl) rfl (fun _=>by kernel_rfl) fun M0 w0 vs=>?_;simp only [Tryz.ntmps143,Tryz.results143,aC];repeat' with_reducible first|apply af|apply ae|apply ao|apply aa|refine ah [] ?_|(apply aj;·go_simp)|(apply ab;intro X Y;go_simp;apply Y;clear Y X)
 refine na 13 [] (by kernel_rfl) (by kernel_rfl) ?_;simp only [aA];repeat' with_reducible first|apply af|apply ae|apply aa|apply aP|(apply aO;intro X Y;go_simp;apply Y;clear Y X)
 repeat' with_reducible first|apply af|apply ae|apply az|apply aa|refine ah [] ?_|(apply au;·go_simp)|(apply aj;·go_simp)|(apply ab;intro X Y;go_simp;apply Y;clear Y X)
 refine na 8 [] (by kernel_rfl) (by kernel_rfl) ?_;simp only [aA];repeat' with_reducible first|apply aY|apply aa|apply aP|((first|apply ab|apply aO);intro X Y;go_simp;apply Y;clear Y X)
 go_simp
theorem ML (log:List Ev) (d:Dy) (a b:Bool) (i:Nat) (hi:i < log.length) (hl:log.length≤1000000) (hk:(aB log i).kind=1) (ht:0≤(aB log i).time∧(aB log i).time≤604800) (h:DyOK log i d) (hh:cZ (aB log i).car d.st=true) :
  VH Tryz.prog 143 (iI d a b) [.ref 0 0,cF log,I (i:Int)] [0] (iI (fx log d i (aB log i)) a false) (.tup []):=by
 obtain ⟨w1,w2,w3,w4,w5,w6⟩:=ixs (m:=i) (by omega);have ho:=h.op _ hh;obtain ⟨j,hj,bB,ig,nM⟩:=qJ d.st 0 hh;rw [Nat.zero_add] at hj;unfold fx;rw [if_neg (by omega),if_neg (by omega),nM];rw [hj] at ho;have hQ:=h.st _ (List.getElem_mem bB);obtain ⟨c1,c2,c3,c4,c5⟩:=hQ;obtain ⟨y,hy⟩ : ∃ y,d.st[j]=y:=⟨_,rfl⟩
 rw [hy] at ig c1 c2 c3 c4 c5 ⊢;have e1:∀ hh:j < (d.st.map Sy.av).length,(d.st.map Sy.av)[j]'hh=Sy.av y:=fun hh=>by rw [List.getElem_map,hy]
 have e2:j < (d.st.map Sy.av).length:=by simpa using bB
 have ej:((j:Int)).toNat=j:=by omega
 have HY:=Lib.hid hy;obtain ⟨yc,ya,yw,yd⟩:=y;simp only [Sy.av] at e1;simp only at ig c1 c2 c3 c4 c5;have e3:(d.st.set j (gA (aB log i) i ⟨yc,ya,yw,yd⟩)).map Sy.av=(d.st.map Sy.av).set j [S yc,I ya,I (i:Int),I yd]:=by
  rw [List.map_set];unfold gA;rw [hk];rfl
 have e4:kR log d.st (aB log i)=[⟨(aB log i).car,(aB log i).rank,(aB log i).time - (aB log ya.toNat).time⟩]:=by
  unfold kR pP;rw [if_pos hk,hj,Int.toNat_natCast,List.getD_eq_getElem?_getD,List.getElem?_eq_getElem bB,HY.out];rfl
 rw [if_pos hk,e4];obtain ⟨n1,n2,n3⟩:=h.sv.at_ (aB log i).car;unfold su;generalize oP d.sv (aB log i).car=V at *;have n4:IntKind.i64.wrap (V+1)=V+1:=fM (by omega) (by omega);obtain ⟨m,hm⟩ : ∃ m:Nat,ya=m:=⟨ya.toNat,by omega⟩
 subst hm;have m1:m < log.length:=by omega
 have m2:((m:Int)).toNat=m:=by omega
 rw [m2] at c3 ⊢;have n5:IntKind.i64.wrap ((aB log i).time - (aB log m).time)=(aB log i).time - (aB log m).time:=fM (by omega) (by omega);have n6:d.wt.length+1≤1000000000:=by have:=h.wl;omega
 unfold iI;simp only;rw [e3,List.map_append];generalize d.st.map Sy.av=E at *;clear h hh hj nM e3 e4 HY c1 c2 c3 c4 c5 ig;refine dk Tryz.func143 rfl (by kernel_rfl) rfl (fun _=>by kernel_rfl) fun M0 w0 vs=>?_;simp only [Tryz.ntmps143,Tryz.results143,aC];repeat' with_reducible first|apply af|apply ae|apply ao|apply aa|refine ah [] ?_|(apply aj;·go_simp)|(apply ab;intro X Y;go_simp;apply Y;clear Y X)
 refine na 13 [] (by kernel_rfl) (by kernel_rfl) ?_;simp only [aA];repeat' with_reducible first|apply af|apply ae|apply aa|apply aP|(apply aO;intro X Y;go_simp;apply Y;clear Y X)
 repeat' with_reducible first|apply af|apply ae|apply az|apply aa|refine ah [] ?_|(apply au;·go_simp)|(apply ab;intro X Y;go_simp;apply Y;clear Y X)
 refine na 8 [] (by kernel_rfl) (by kernel_rfl) ?_;simp only [aA];repeat' with_reducible first|apply ae|apply aa|apply aP|((first|apply ab|apply aO);intro X Y;go_simp;apply Y;clear Y X)
 refine rR 22 [100] 3 [0,78] (by kernel_rfl) (by kernel_rfl) (by kernel_rfl) (by kernel_rfl) rfl ⟨rfl,rfl⟩ rfl ?_;simp only [aA];repeat' with_reducible first|apply aP|(apply aO;intro X Y;go_simp;apply Y;clear Y X)
 refine ⟨_,by go_simp,by go_simp;exact rfl,?_,?_⟩
 ·intro t ht;simp only [List.mem_cons,List.not_mem_nil,or_false] at ht;rcases ht with rfl|rfl<;>rfl
 go_simp;repeat' with_reducible first|apply aY|apply aa|(apply ab;intro X Y;go_simp;apply Y;clear Y X)
 go_simp
def pU (a:Bool×Bool) (x:Ev) : Bool×Bool:=(if x.kind=0 then false else a.1,if x.kind=1 then false else a.2)
theorem MM (log:List Ev) (d:Dy) (a:Bool×Bool) (i:Nat) (hi:i < log.length) (hl:log.length≤1000000) (hk:0≤(aB log i).kind∧(aB log i).kind≤5) (ht:0≤(aB log i).time∧(aB log i).time≤604800) (h:DyOK log i d) (hh:(aB log i).kind≠0→(aB log i).kind≠4→cZ (aB log i).car d.st=true) :
  VH Tryz.prog 143 (iI d a.1 a.2) [.ref 0 0,cF log,I (i:Int)] [0] (iI (fx log d i (aB log i)) (pU a (aB log i)).1 (pU a (aB log i)).2) (.tup []):=by
 obtain ⟨a,b⟩:=a;unfold pU;simp only;by_cases h4:(aB log i).kind=4
 ·rw [if_neg (by omega),if_neg (by omega),show fx log d i (aB log i)=d by unfold fx;rw [if_pos h4]];exact MG log d a b i hi hl h4
 by_cases h0:(aB log i).kind=0
 ·rw [if_pos h0,if_neg (by omega)];exact MH log d a b i hi hl h0 h.sl h.sv
 rw [if_neg h0];have hs:=hh h0 h4;by_cases h1:(aB log i).kind=1
 ·rw [if_pos h1];exact ML log d a b i hi hl h1 ht h hs
 rw [if_neg h1];by_cases h2:(aB log i).kind=2
 ·exact MI log d a b i hi hl h2 h hs
 by_cases h3:(aB log i).kind=3
 ·exact MJ log d a b i hi hl h3 h hs
 exact MK log d a b i hi hl (by omega) h hs
theorem MN (r:Ru) (s:St) (mv:List Sg) (n:Bool) (log:List Ev) (d:Dy) (a:Bool×Bool) (x:Ev) (i:Nat) (hx:x=aB log i) (hi:i < log.length) (hl:log.length≤1000000) (hk:0≤(aB log i).kind∧(aB log i).kind≤5) (ht:0≤(aB log i).time∧(aB log i).time≤604800) (h:DyOK log i d) (hh:(aB log i).kind≠0→(aB log i).kind≠4→cZ (aB log i).car d.st=true) :
  VH Tryz.prog 142 (gk r s mv n++[some (.box [.ref 4 0]),some (.box [.osl 5,.mp 6,.osl 7,.mp 8]),some (.arr 167 4 a.1 (d.st.map Sy.av)),some (.mpo (4,.i64) d.op),some (.arr 67 3 a.2 (d.wt.map Wt.av)),some (.mpo (4,.i64) d.sv)]) [.ref 0 0,I (i:Int),evA x,.ref 3 0,.vp [cF log]] [0,3]
   (gk r s mv n++[some (.box [.ref 4 0]),some (.box [.osl 5,.mp 6,.osl 7,.mp 8]),some (.arr 167 4 (pU a x).1 ((fx log d i x).st.map Sy.av)),some (.mpo (4,.i64) (fx log d i x).op),some (.arr 67 3 (pU a x).2 ((fx log d i x).wt.map Wt.av)),some (.mpo (4,.i64) (fx log d i x).sv)]) (.tup []):=by
 have wn:=MM log d a i hi hl hk ht h hh;rw [←hx] at wn;unfold iI at wn;generalize fx log d i x=D2 at *;generalize pU a x=A2 at *;clear hx hh h ht hk;obtain ⟨kd,tm,rk,car⟩:=x;simp only [evA];refine dk Tryz.func142 rfl (by kernel_rfl) rfl (fun _=>by kernel_rfl) fun M0 w0 vs=>?_;simp only [Tryz.ntmps142,Tryz.results142,aC];unfold gk;simp only [List.cons_append,List.nil_append];repeat' with_reducible apply af
 refine ah [] ?_;repeat' with_reducible first|apply ae|apply aa|(apply ab;intro X Y;go_simp;apply Y;clear Y X)
 refine eC (bM [] 3 ⟨rfl,rfl⟩ ?_);simp only [aA];repeat' with_reducible first|apply aa|(apply ab;intro X Y;go_simp;apply Y;clear Y X)
 refine eI [4,5,6,7,8] [4] [] [some (.box [.osl 1,.mp 2,.osl 3,.mp 4]),some (.arr 167 4 A2.1 (D2.st.map Sy.av)),some (.mpo (4,.i64) D2.op),some (.arr 67 3 A2.2 (D2.wt.map Wt.av)),some (.mpo (4,.i64) D2.sv)] (.tup []) rfl (by go_simp) ?_ ?_
 ·unfold dU;go_simp;refine ⟨_,_,_,wn,?_⟩;go_simp;kernel_rfl
 go_simp;apply da;skip
 go_simp
theorem MO (r:Ru) : Known (st0 r) []:=fun c hc=>by
 have h:=FB.1 hc;change 0 < cnt c (List.replicate _ []).flatten+cnt c [] at h;rw [tQ,jA] at h;omega
noncomputable def runTD (l0:List Ev) (r:Ru) : Nat→List Ev→T3×(Dy×Bool×Bool)→T3×(Dy×Bool×Bool)
 | _,[],z=>z
 | k,x::l,z=>if apE r z.1.1 x≠0 then (stepT r z.1 x,z.2) else runTD l0 r (k+1) l (stepT r z.1 x,(fx l0 z.2.1 k x,pU z.2.2 x))
def qT (l:List Ev) : AV:=.fn (.func 142) [] [.ref 0 0,.vp [cF l]]
theorem MP (r:Ru) (l:List Ev) (hn:r.ranks.length≤1000000) (cf:∀ k,k < r.ranks.length→(rat r.ranks k).name.size≤1000) (h0:¬dR r l=0) :
  VH Tryz.prog 85 [some (.box [.ref 1 0]),some (.box [.osl 2,.mp 3,.osl 4,.mp 5]),some (.arr 167 4 true []),some (.mpo (4,.i64) []),some (.arr 67 3 true []),some (.mpo (4,.i64) [])] [bN r,cF l,qT l] [2] [some (.box [.ref 1 0]),some (.box [.osl 2,.mp 3,.osl 4,.mp 5]),some (.arr 167 4 true []),some (.mpo (4,.i64) []),some (.arr 67 3 true []),some (.mpo (4,.i64) [])] (.tup [.lit (.pointer none),I 0,I (dR r l)]):=by
 have g1:=ud r hn cf;have g2:=bY (decide (l.length≤200)) 8;have g3:VC Tryz.prog 88 [.sl 1 ([(dm r).2,unl (decide (l.length≤200)) 8].map eK)] (I (dR r l)):=fF _ rfl rfl;have ed:decide ((l.length:Int)≤200)=decide (l.length≤200):=by
  by_cases h:l.length≤200
  ·rw [decide_eq_true h,decide_eq_true (by omega)]
  ·rw [decide_eq_false h,decide_eq_false (by omega)]
 rw [←ed] at g2 g3;generalize dR r l=E at *;generalize (dm r).2=A1 at *;generalize unl (decide ((l.length:Int)≤200)) 8=A2 at *;clear ed;unfold qT;refine dk Tryz.func85 rfl (by kernel_rfl) rfl (fun _=>by kernel_rfl) fun M0 w0 vs=>?_;simp only [Tryz.ntmps85,Tryz.results85,aC];repeat' first|(with_reducible first|apply af|apply ae|apply aR|apply aw|apply aa|refine ah [] ?_|(apply au;·go_simp))|((with_reducible apply ab);intro X Y;go_simp;(first|(with_reducible refine ⟨_,g1,?_⟩)|(with_reducible refine ⟨_,g2,?_⟩)|(refine ⟨_,g3,?_⟩)|skip);apply Y;clear Y X)
 go_simp
theorem GC (r:Ru) (l:List Ev) (H:Hp) (V:AV) (cf:∀ k,k < r.ranks.length→(rat r.ranks k).name.size≤1000) (hr:RuOK r) (hl:l.length≤200) (hc:∀ x∈l,x.car.size≤1000) (h0:dR r l=0) (z:T3×(Dy×Bool×Bool)) (hz:runTD l r 0 l (t0 r,(⟨[],[],[],[]⟩,true,true))=z)
  (iG:(goP r 0 l (st0 r)).2.2≠0∧H=[some (.box [.ref 1 0]),some (.box [.osl 2,.mp 3,.osl 4,.mp 5]),some (.arr 167 4 z.2.2.1 (z.2.1.st.map Sy.av)),some (.mpo (4,.i64) z.2.1.op),some (.arr 67 3 z.2.2.2 (z.2.1.wt.map Wt.av)),some (.mpo (4,.i64) z.2.1.sv)]∧V = .tup [.lit (.pointer none),I ((goP r 0 l (st0 r)).2.1:Int),I (goP r 0 l (st0 r)).2.2]∨(goP r 0 l (st0 r)).2.2=0∧H=[some (.box [.ref 1 0]),some (.box [.osl 2,.mp 3,.osl 4,.mp 5]),some (.arr 167 4 z.2.2.1 (z.2.1.st.map Sy.av)),some (.mpo (4,.i64) z.2.1.op),some (.arr 67 3 z.2.2.2 (z.2.1.wt.map Wt.av)),some (.mpo (4,.i64) z.2.1.sv),some (.bag 62 1 false none (bx z.1.1.q)),some (.box [.osl 6,.osl 8,I z.1.1.time,.sl 4 (r.ranks.map Rk.av),I r.back,I r.ret,.sl 3 (z.1.2.1.map Sg.av)]),some (.arr 148 3 z.1.2.2 (z.1.1.tk.map Tk.av))]∧V = .tup [.ref 7 0,I 0,I 0]) :
  VH Tryz.prog 85 [some (.box [.ref 1 0]),some (.box [.osl 2,.mp 3,.osl 4,.mp 5]),some (.arr 167 4 true []),some (.mpo (4,.i64) []),some (.arr 67 3 true []),some (.mpo (4,.i64) [])] [bN r,cF l,qT l] [2] H V:=by
 have hn:r.ranks.length≤1000000:=by have:=hr.n6;omega
 have g1:=ud r hn cf;have g2:=bY (decide (l.length≤200)) 8;have g3:VC Tryz.prog 88 [.sl 1 ([(dm r).2,unl (decide (l.length≤200)) 8].map eK)] (I (dR r l)):=fF _ rfl rfl;have ed:decide ((l.length:Int)≤200)=decide (l.length≤200):=by rw [decide_eq_true hl,decide_eq_true (by omega)]
 rw [←ed] at g2 g3;rw [h0] at g3;generalize (dm r).2=A1 at *;generalize unl (decide ((l.length:Int)≤200)) 8=A2 at *;have ge:=BS r hn;have HF:=Lib.hid iG;have HR:=Lib.hid hr;have HC:=Lib.hid hc;have HZ:=Lib.hid hz;clear ed h0 iG hr cf hc hn hz;unfold qT;refine dk Tryz.func85 rfl (by kernel_rfl) rfl (fun _=>by kernel_rfl) fun M0 w0 vs=>?_;simp only [Tryz.ntmps85,Tryz.results85,aC];repeat' with_reducible apply af
 refine ah [] ?_;repeat' with_reducible first|apply af|apply ae|apply aa|(apply ab;intro X Y;go_simp;apply Y;clear Y X)
 refine ah [] ?_;repeat' first|(with_reducible first|apply af|apply ae|apply aa)|((with_reducible apply ab);intro X Y;go_simp;(first|(with_reducible refine ⟨_,g1,?_⟩)|(with_reducible refine ⟨_,g2,?_⟩)|(refine ⟨_,g3,?_⟩)|skip);apply Y;clear Y X)
 refine ah [] ?_;repeat' with_reducible first|apply af|apply ae|apply ao|apply aa|(apply aj;·go_simp)|(apply ab;intro X Y;go_simp;apply Y;clear Y X)
 refine eC (bM [] 1 ⟨rfl,rfl⟩ ?_);simp only [aA];repeat' with_reducible first|apply aa|(apply ab;intro X Y;go_simp;apply Y;clear Y X)
 refine eI [] [] [] (nC r (st0 r) [] true true) (.ref 1 0) rfl (by go_simp) ?_ ?_
 ·unfold dU;go_simp;refine ⟨_,_,⟨_,ge⟩,?_⟩;unfold nC;go_simp;kernel_rfl
 unfold nC;go_simp;refine bM [] 1 ⟨rfl,rfl⟩ ?_;simp only [aA];repeat' with_reducible first|apply aa|(apply ab;intro X Y;go_simp;apply Y;clear Y X)
 apply da;refine gN 7 6 9 rfl rfl rfl ?_;repeat' with_reducible apply af
 refine ah [] ?_;repeat' with_reducible first|apply ae|apply az|apply aa|(apply ab;intro X Y;go_simp;apply Y;clear Y X)
 apply lr (α:=Nat×T3×(Dy×Bool×Bool)) [2,10,27,28] (fun (x:Nat×T3×(Dy×Bool×Bool))=>[(29,I (x.1:Int))]) (fun (x:Nat×T3×(Dy×Bool×Bool))=>([some (.box [.ref 1 0]),some (.box [.osl 2,.mp 3,.osl 4,.mp 5]),some (.arr 167 4 x.2.2.2.1 (x.2.2.1.st.map Sy.av)),some (.mpo (4,.i64) x.2.2.1.op),some (.arr 67 3 x.2.2.2.2 (x.2.2.1.wt.map Wt.av)),some (.mpo (4,.i64) x.2.2.1.sv),some (.bag 62 1 false none (bx x.2.1.1.q)),some (.box [.osl 6,.osl 8,I x.2.1.1.time,.sl 4 (r.ranks.map Rk.av),I r.back,I r.ret,.sl 3 (x.2.1.2.1.map Sg.av)]),some (.arr 148 3 x.2.1.2.2 (x.2.1.1.tk.map Tk.av))] : Hp)) (fun (x:Nat×T3×(Dy×Bool×Bool))=>Hid (Inv r x.2.1.1∧goP r x.1 (l.drop x.1) x.2.1.1=goP r 0 l (st0 r)∧runTD l r x.1 (l.drop x.1) x.2=z)∧x.1≤l.length∧Hid (DyOK l x.1 x.2.2.1∧Known x.2.1.1 x.2.2.1.st)) (fun (x:Nat×T3×(Dy×Bool×Bool))=>l.length - x.1) ((0,(st0 r,([] : List Sg),true),(⟨[],[],[],[]⟩,true,true))) ⟨Lib.hid ⟨Inv.st0 HR.out,rfl,HZ.out⟩,Nat.zero_le _,Lib.hid (⟨DyOK.zero l,MO r⟩)⟩
 ·(go_simp<;>exact rfl)
 ·go_simp
 rintro ⟨k,⟨s,m,a⟩,y⟩ ⟨HI,hk,HY⟩ K hK;simp only at HI hk hK HY ⊢;by_cases ca:k < l.length
 ·obtain ⟨w1,w2,w3,w4,w5,w6⟩:=ixs (m:=k) (by omega);have el:l.drop k=aB l k::l.drop (k+1):=by rw [kq ca,←List.drop_eq_getElem_cons ca]
  have wa:=BT r (s,m,a) (aB l k) HR.out HI.out.1 (HC.out _ (by rw [kq ca];exact List.getElem_mem ca));obtain ⟨T2,jX⟩ : ∃ T2,stepT r (s,m,a) (aB l k)=T2:=⟨_,rfl⟩
  rw [jX] at wa;obtain ⟨s2,m2,a2⟩:=T2;have lx:apE r s (aB l k)=0→(apU r s (aB l k)).1=s2∧(apU r s (aB l k)).2=m2:=fun h=>by
   have e1:=congrArg (fun t:T3=>t.1) jX;have e2:=congrArg (fun t:T3=>t.2.1) jX;simp only [stepT,apR,if_pos h] at e1 e2;exact ⟨e1,e2⟩
  have hE:goP r k (l.drop k) s=if apE r s (aB l k)≠0 then (s,k,apE r s (aB l k)) else goP r (k+1) (l.drop (k+1)) s2:=by
   rw [el,goP];by_cases h:apE r s (aB l k)=0
   ·rw [if_neg (by simp [h]),if_neg (by simp [h]),(lx h).1]
   ·rw [if_pos h,if_pos h]
  have hU:runTD l r k (l.drop k) ((s,m,a),y)=if apE r s (aB l k)≠0 then ((s2,m2,a2),y) else runTD l r (k+1) (l.drop (k+1)) ((s2,m2,a2),(fx l y.1 k (aB l k),pU y.2 (aB l k))):=by rw [el,runTD,jX]
  have qF:apE r s (aB l k)=0→Inv r s2:=fun h=>by
   rw [←(lx h).1];exact (HI.out.1.ap HR.out h).1
  have pM:apE r s (aB l k)=0→DyOK l (k+1) (fx l y.1 k (aB l k))∧Known s2 (fx l y.1 k (aB l k)).st:=fun h=>by
   refine ⟨HY.out.1.step rfl (vu (parts h).1),?_⟩;rw [B3,←(lx h).1];exact Known.step HR.out HI.out.1 HY.out.2 h k
  have vX:=Lib.hid pM;clear pM;have h1:=HI.out.2.1;have h2:=HI.out.2.2;rw [hE] at h1;rw [hU] at h2;have wt:=fun ue:apE r s (aB l k)=0=>MN r s2 m2 a2 l y.1 y.2 (aB l k) k rfl ca (by omega) (qo (parts ue).1) (vu (parts ue).1) HY.out.1 (fun h0 h4=>HY.out.2 _ (FC HI.out.1.len ue h0 h4));clear jX HI hE hU el lx;unfold pK gk at wa;simp only at wa;unfold gk at wt;simp only [List.cons_append,List.nil_append] at wt;have H1:=Lib.hid h1;have H2:=Lib.hid h2;have bh:=Lib.hid qF;clear h1 h2 qF;have WT:=Lib.hid wt;clear wt;generalize apE r s (aB l k)=E at *;repeat' with_reducible apply af
  refine ah [] ?_;repeat' with_reducible first|apply af|apply ae|apply ao|apply az|apply aa|(apply au;·go_simp)|(apply ab;intro X Y;go_simp;apply Y;clear Y X)
  refine ah [] ?_;repeat' with_reducible first|apply af|apply ae|apply aa|(apply ab;intro X Y;go_simp;apply Y;clear Y X)
  refine eC (bM [] 2 ⟨rfl,rfl⟩ ?_);simp only [aA];repeat' with_reducible first|apply aa|(apply ab;intro X Y;go_simp;apply Y;clear Y X)
  refine eI [7,6,8] [7] [] [some (.box [.osl 1,.osl 2,I s2.time,.sl 4 (r.ranks.map Rk.av),I r.back,I r.ret,.sl 3 (m2.map Sg.av)]),some (.bag 62 1 false none (bx s2.q)),some (.arr 148 3 a2 (s2.tk.map Tk.av))] (I E) rfl (by go_simp) ?_ ?_
  ·unfold dU;go_simp;refine ⟨_,_,_,wa,?_⟩;go_simp;kernel_rfl
  go_simp;refine bM [] 1 ⟨rfl,rfl⟩ ?_;simp only [aA];repeat' with_reducible first|apply aa|(apply ab;intro X Y;go_simp;apply Y;clear Y X)
  apply da;repeat' with_reducible first|apply af|apply ae
  by_cases he:E=0
  ·subst he;have h1:=H1.out;have h2:=H2.out;rw [if_neg (by simp)] at h1 h2;have bJ:=bh.out rfl;have wt:=WT.out rfl;have pM:=vX.out rfl;generalize fx l y.1 k (aB l k)=O2 at *;generalize pU y.2 (aB l k)=A2 at *;clear H1 bh WT H2 HY vX;have H1:=Lib.hid h1;have H2:=Lib.hid h2;have bh:=Lib.hid bJ;clear h1 h2 bJ;refine ah [] ?_;repeat' with_reducible first|apply ae|apply ao|apply aa|(apply aj;·go_simp)|(apply ab;intro X Y;go_simp;apply Y;clear Y X)
   refine eC (bM [] 4 ⟨rfl,rfl⟩ ?_);simp only [aA];repeat' with_reducible first|apply aa|(apply ab;intro X Y;go_simp;apply Y;clear Y X)
   refine eI [7,6,8,0,1,2,3,4,5] [7,0] [] [some (.box [.osl 1,.osl 2,I s2.time,.sl 4 (r.ranks.map Rk.av),I r.back,I r.ret,.sl 3 (m2.map Sg.av)]),some (.bag 62 1 false none (bx s2.q)),some (.arr 148 3 a2 (s2.tk.map Tk.av)),some (.box [.ref 4 0]),some (.box [.osl 5,.mp 6,.osl 7,.mp 8]),some (.arr 167 4 A2.1 (O2.st.map Sy.av)),some (.mpo (4,.i64) O2.op),some (.arr 67 3 A2.2 (O2.wt.map Wt.av)),some (.mpo (4,.i64) O2.sv)] (.tup []) rfl (by go_simp) ?_ ?_
   ·unfold dU;go_simp;refine ⟨_,_,_,wt,?_⟩;go_simp;kernel_rfl
   go_simp;apply da;repeat' with_reducible first|apply ae|apply aY
   refine ah [] ?_;repeat' with_reducible first|apply ae|apply aa|(apply ab;intro X Y;go_simp;apply Y;clear Y X)
   refine hK _ (k+1,(s2,m2,a2),(O2,A2)) ⟨Lib.hid ⟨bh.out,H1.out,H2.out⟩,ca,Lib.hid (pM)⟩ (by simp only;omega) ?_;go_simp
  ·have h1:=H1.out;have h2:=H2.out;rw [if_pos he] at h1 h2;rcases HF.out with ⟨q1,rfl,q3⟩|⟨q1,_,_⟩
   ·rw [←h1] at q3;simp only at q3;subst q3;subst h2;clear HF H1 bh H2 h1 q1 hK HZ WT;refine ah [] ?_;repeat' with_reducible first|apply af|apply ae|apply aa|(apply au;·go_simp)|(apply ab;intro X Y;go_simp;apply Y;clear Y X)
    refine ah [] ?_;repeat' with_reducible first|apply ae|apply aR|apply aw|apply cB|apply aa|(apply ab;intro X Y;go_simp;apply Y;clear Y X)
    go_simp
   ·rw [←h1] at q1;exact absurd q1 he
 ·have qG:k=l.length:=by omega
  have h1:=HI.out.2.1;have h2:=HI.out.2.2;rw [qG,List.drop_length] at h1 h2;rw [goP] at h1;rw [runTD] at h2;rcases HF.out with ⟨q1,_,_⟩|⟨_,q2,q3⟩
  ·rw [←h1] at q1;exact absurd rfl q1
  ·subst q3;subst h2;subst q2;subst qG;clear HF h1 HI hK HZ;repeat' with_reducible apply af
   refine ah [] ?_;repeat' with_reducible first|apply af|apply ae|apply bE|apply bF|apply bG|apply aa|(apply aj;·go_simp)|(apply ab;intro X Y;go_simp;apply Y;clear Y X)
   refine ah [] ?_;repeat' with_reducible first|apply ae|apply aw|apply aa|(apply ab;intro X Y;go_simp;apply Y;clear Y X)
   go_simp
def lA (d:Dy) (a:Bool×Bool) : Hp:=[some (.mpo (4,.i64) d.op),some (.mpo (4,.i64) d.sv),some (.box [.osl 4,.mp 0,.osl 5,.mp 1]),some (.box [.ref 2 0]),some (.arr 167 4 a.1 (d.st.map Sy.av)),some (.arr 67 3 a.2 (d.wt.map Wt.av))]
theorem GD (r:Ru) (l:List Ev) (d:Dy) (a:Bool×Bool) (n e:Int) (g:VH Tryz.prog 85 [some (.box [.ref 1 0]),some (.box [.osl 2,.mp 3,.osl 4,.mp 5]),some (.arr 167 4 true []),some (.mpo (4,.i64) []),some (.arr 67 3 true []),some (.mpo (4,.i64) [])] [bN r,cF l,qT l] [2] [some (.box [.ref 1 0]),some (.box [.osl 2,.mp 3,.osl 4,.mp 5]),some (.arr 167 4 a.1 (d.st.map Sy.av)),some (.mpo (4,.i64) d.op),some (.arr 67 3 a.2 (d.wt.map Wt.av)),some (.mpo (4,.i64) d.sv)] (.tup [.lit (.pointer none),I n,I e])) :
  VH Tryz.prog 95 [] [bN r,cF l] [] (lA d a) (.tup [.ref 2 0,I e]):=by
 unfold qT at g;refine dk Tryz.func95 rfl (by kernel_rfl) rfl (fun _=>by kernel_rfl) fun M0 w0 vs=>?_;simp only [Tryz.ntmps95,Tryz.results95,aC];repeat' with_reducible apply af
 refine ah [] ?_;repeat' with_reducible first|apply af|apply ae|apply aa|(apply ab;intro X Y;go_simp;apply Y;clear Y X)
 refine ah [13] ?_;repeat' with_reducible first|apply af|apply ae|apply aa|(apply ab;intro X Y;go_simp;apply Y;clear Y X)
 refine ib (fun p a w R=>⟨_,R.nilCell (bi:=2) (j:=0) (e:=167) (sz:=4) rfl rfl (by decide)⟩) ?_;go_simp;refine ib (fun p a w R=>⟨_,R.nilCell (bi:=2) (j:=2) (e:=67) (sz:=3) rfl rfl (by decide)⟩) ?_;go_simp;skip
 refine eC (bM [] 3 ⟨rfl,rfl⟩ ?_);simp only [aA];repeat' with_reducible first|apply aa|(apply ab;intro X Y;go_simp;apply Y;clear Y X)
 refine eI [3,2,4,0,5,1] [3] [] [some (.box [.ref 1 0]),some (.box [.osl 2,.mp 3,.osl 4,.mp 5]),some (.arr 167 4 a.1 (d.st.map Sy.av)),some (.mpo (4,.i64) d.op),some (.arr 67 3 a.2 (d.wt.map Wt.av)),some (.mpo (4,.i64) d.sv)] (.tup [.lit (.pointer none),I n,I e]) rfl (by go_simp) ?_ ?_
 ·unfold dU;go_simp;refine ⟨_,_,_,g,?_⟩;go_simp;kernel_rfl
 go_simp;refine bM [] 7 ⟨rfl,rfl⟩ ?_;simp only [aA];repeat' with_reducible first|apply aa|(apply ab;intro X Y;go_simp;apply Y;clear Y X)
 apply da;repeat' with_reducible first|apply af|apply ae
 refine ah [] ?_;repeat' with_reducible first|apply ae|apply aw|apply aa|(apply ab;intro X Y;go_simp;apply Y;clear Y X)
 unfold lA;go_simp
theorem MQ (r:Ru) (l:List Ev) (d:Dy) (a:Bool×Bool) (s:St) (mv:List Sg) (b:Bool) (g:VH Tryz.prog 85 [some (.box [.ref 1 0]),some (.box [.osl 2,.mp 3,.osl 4,.mp 5]),some (.arr 167 4 true []),some (.mpo (4,.i64) []),some (.arr 67 3 true []),some (.mpo (4,.i64) [])] [bN r,cF l,qT l] [2] [some (.box [.ref 1 0]),some (.box [.osl 2,.mp 3,.osl 4,.mp 5]),some (.arr 167 4 a.1 (d.st.map Sy.av)),some (.mpo (4,.i64) d.op),some (.arr 67 3 a.2 (d.wt.map Wt.av)),some (.mpo (4,.i64) d.sv),some (.bag 62 1 false none (bx s.q)),some (.box [.osl 6,.osl 8,I s.time,.sl 4 (r.ranks.map Rk.av),I r.back,I r.ret,.sl 3 (mv.map Sg.av)]),some (.arr 148 3 b (s.tk.map Tk.av))] (.tup [.ref 7 0,I 0,I 0])) :
  VH Tryz.prog 95 [] [bN r,cF l] [] (lA d a++[some (.bag 62 1 false none (bx s.q)),some (.box [.osl 6,.osl 8,I s.time,.sl 4 (r.ranks.map Rk.av),I r.back,I r.ret,.sl 3 (mv.map Sg.av)]),some (.arr 148 3 b (s.tk.map Tk.av))]) (.tup [.ref 2 0,I 0]):=by
 unfold qT at g;refine dk Tryz.func95 rfl (by kernel_rfl) rfl (fun _=>by kernel_rfl) fun M0 w0 vs=>?_;simp only [Tryz.ntmps95,Tryz.results95,aC];repeat' with_reducible apply af
 refine ah [] ?_;repeat' with_reducible first|apply af|apply ae|apply aa|(apply ab;intro X Y;go_simp;apply Y;clear Y X)
 refine ah [13] ?_;repeat' with_reducible first|apply af|apply ae|apply aa|(apply ab;intro X Y;go_simp;apply Y;clear Y X)
 refine ib (fun p a w R=>⟨_,R.nilCell (bi:=2) (j:=0) (e:=167) (sz:=4) rfl rfl (by decide)⟩) ?_;go_simp;refine ib (fun p a w R=>⟨_,R.nilCell (bi:=2) (j:=2) (e:=67) (sz:=3) rfl rfl (by decide)⟩) ?_;go_simp;skip
 refine eC (bM [] 3 ⟨rfl,rfl⟩ ?_);simp only [aA];repeat' with_reducible first|apply aa|(apply ab;intro X Y;go_simp;apply Y;clear Y X)
 refine eI [3,2,4,0,5,1] [3] [] [some (.box [.ref 1 0]),some (.box [.osl 2,.mp 3,.osl 4,.mp 5]),some (.arr 167 4 a.1 (d.st.map Sy.av)),some (.mpo (4,.i64) d.op),some (.arr 67 3 a.2 (d.wt.map Wt.av)),some (.mpo (4,.i64) d.sv),some (.bag 62 1 false none (bx s.q)),some (.box [.osl 6,.osl 8,I s.time,.sl 4 (r.ranks.map Rk.av),I r.back,I r.ret,.sl 3 (mv.map Sg.av)]),some (.arr 148 3 b (s.tk.map Tk.av))] (.tup [.ref 7 0,I 0,I 0]) rfl (by go_simp) ?_ ?_
 ·unfold dU;go_simp;refine ⟨_,_,_,g,?_⟩;go_simp;kernel_rfl
 go_simp;refine bM [] 7 ⟨rfl,rfl⟩ ?_;simp only [aA];repeat' with_reducible first|apply aa|(apply ab;intro X Y;go_simp;apply Y;clear Y X)
 apply da;repeat' with_reducible first|apply af|apply ae
 refine ah [] ?_;repeat' with_reducible first|apply ae|apply aw|apply aa|(apply ab;intro X Y;go_simp;apply Y;clear Y X)
 unfold lA;go_simp
theorem MR (r:Ru) (l:List Ev) (d:Dy) (a:Bool×Bool) (e:Int) (he:e≠0) (g:VH Tryz.prog 95 [] [bN r,cF l] [] (lA d a) (.tup [.ref 2 0,I e])) :
  VC Tryz.prog 40 [bN r,cF l] (.tup [bz,I e]):=by
 unfold lA at g;refine aJ Tryz.func40 rfl (by kernel_rfl) rfl fun M0 w0=>?_;simp only [Tryz.ntmps40,Tryz.results40,aC];repeat' with_reducible apply af
 refine ah [] ?_;repeat' with_reducible first|apply af|apply ae|apply aa|(apply ab;intro X Y;go_simp;apply Y;clear Y X)
 refine eC (bM [] 2 ⟨rfl,rfl⟩ ?_);simp only [aA];repeat' with_reducible first|apply aa|(apply ab;intro X Y;go_simp;apply Y;clear Y X)
 refine eI [] [] [] [some (.mpo (4,.i64) d.op),some (.mpo (4,.i64) d.sv),some (.box [.osl 4,.mp 0,.osl 5,.mp 1]),some (.box [.ref 2 0]),some (.arr 167 4 a.1 (d.st.map Sy.av)),some (.arr 67 3 a.2 (d.wt.map Wt.av))] (.tup [.ref 2 0,I e]) rfl (by go_simp) ?_ ?_
 ·unfold dU;go_simp;refine ⟨_,_,⟨_,g⟩,?_⟩;go_simp;kernel_rfl
 go_simp;refine bM [] 5 ⟨rfl,rfl⟩ ?_;simp only [aA];repeat' with_reducible first|apply aa|(apply ab;intro X Y;go_simp;apply Y;clear Y X)
 apply da;repeat' with_reducible first|apply af|apply ae|apply aR|apply aw|apply aa|refine ah [] ?_|(apply au;·go_simp)|(apply ab;intro X Y;go_simp;apply Y;clear Y X)
 go_simp
theorem MS (r:Ru) (l:List Ev) (d:Dy) (a:Bool×Bool) (s:St) (mv:List Sg) (b:Bool) (g:VH Tryz.prog 95 [] [bN r,cF l] [] (lA d a++[some (.bag 62 1 false none (bx s.q)),some (.box [.osl 6,.osl 8,I s.time,.sl 4 (r.ranks.map Rk.av),I r.back,I r.ret,.sl 3 (mv.map Sg.av)]),some (.arr 148 3 b (s.tk.map Tk.av))]) (.tup [.ref 2 0,I 0])) :
  VC Tryz.prog 40 [bN r,cF l] (.tup [.sl 4 (d.st.map Sy.av),I 0]):=by
 unfold lA at g;simp only [List.cons_append,List.nil_append] at g;refine aJ Tryz.func40 rfl (by kernel_rfl) rfl fun M0 w0=>?_;simp only [Tryz.ntmps40,Tryz.results40,aC];repeat' with_reducible apply af
 refine ah [] ?_;repeat' with_reducible first|apply af|apply ae|apply aa|(apply ab;intro X Y;go_simp;apply Y;clear Y X)
 refine eC (bM [] 2 ⟨rfl,rfl⟩ ?_);simp only [aA];repeat' with_reducible first|apply aa|(apply ab;intro X Y;go_simp;apply Y;clear Y X)
 refine eI [] [] [] [some (.mpo (4,.i64) d.op),some (.mpo (4,.i64) d.sv),some (.box [.osl 4,.mp 0,.osl 5,.mp 1]),some (.box [.ref 2 0]),some (.arr 167 4 a.1 (d.st.map Sy.av)),some (.arr 67 3 a.2 (d.wt.map Wt.av)),some (.bag 62 1 false none (bx s.q)),some (.box [.osl 6,.osl 8,I s.time,.sl 4 (r.ranks.map Rk.av),I r.back,I r.ret,.sl 3 (mv.map Sg.av)]),some (.arr 148 3 b (s.tk.map Tk.av))] (.tup [.ref 2 0,I 0]) rfl (by go_simp) ?_ ?_
 ·unfold dU;go_simp;refine ⟨_,_,⟨_,g⟩,?_⟩;go_simp;kernel_rfl
 go_simp;refine bM [] 5 ⟨rfl,rfl⟩ ?_;simp only [aA];repeat' with_reducible first|apply aa|(apply ab;intro X Y;go_simp;apply Y;clear Y X)
 apply da;repeat' with_reducible first|apply af|apply ae
 refine ah [] ?_;repeat' with_reducible first|apply af|apply ae|apply ao|apply aa|(apply aj;·go_simp)|(apply ab;intro X Y;go_simp;apply Y;clear Y X)
 refine gN 2 0 4 rfl rfl rfl ?_;refine ah [] ?_;repeat' with_reducible first|apply ae|apply aw|apply aa|(apply ab;intro X Y;go_simp;apply Y;clear Y X)
 go_simp
theorem MT (r:Ru) (l:List Ev) (d:Dy) (a:Bool×Bool) (e:Int) (he:e≠0) (g:VH Tryz.prog 95 [] [bN r,cF l] [] (lA d a) (.tup [.ref 2 0,I e])) :
  VC Tryz.prog 35 [bN r,cF l] (.tup [bz,I e]):=by
 unfold lA at g;refine aJ Tryz.func35 rfl (by kernel_rfl) rfl fun M0 w0=>?_;simp only [Tryz.ntmps35,Tryz.results35,aC];repeat' with_reducible apply af
 refine ah [] ?_;repeat' with_reducible first|apply af|apply ae|apply aa|(apply ab;intro X Y;go_simp;apply Y;clear Y X)
 refine eC (bM [] 2 ⟨rfl,rfl⟩ ?_);simp only [aA];repeat' with_reducible first|apply aa|(apply ab;intro X Y;go_simp;apply Y;clear Y X)
 refine eI [] [] [] [some (.mpo (4,.i64) d.op),some (.mpo (4,.i64) d.sv),some (.box [.osl 4,.mp 0,.osl 5,.mp 1]),some (.box [.ref 2 0]),some (.arr 167 4 a.1 (d.st.map Sy.av)),some (.arr 67 3 a.2 (d.wt.map Wt.av))] (.tup [.ref 2 0,I e]) rfl (by go_simp) ?_ ?_
 ·unfold dU;go_simp;refine ⟨_,_,⟨_,g⟩,?_⟩;go_simp;kernel_rfl
 go_simp;refine bM [] 5 ⟨rfl,rfl⟩ ?_;simp only [aA];repeat' with_reducible first|apply aa|(apply ab;intro X Y;go_simp;apply Y;clear Y X)
 apply da;repeat' with_reducible first|apply af|apply ae|apply aR|apply aw|apply aa|refine ah [] ?_|(apply au;·go_simp)|(apply ab;intro X Y;go_simp;apply Y;clear Y X)
 go_simp
theorem MU (r:Ru) (l:List Ev) (d:Dy) (a:Bool×Bool) (s:St) (mv:List Sg) (b:Bool) (g:VH Tryz.prog 95 [] [bN r,cF l] [] (lA d a++[some (.bag 62 1 false none (bx s.q)),some (.box [.osl 6,.osl 8,I s.time,.sl 4 (r.ranks.map Rk.av),I r.back,I r.ret,.sl 3 (mv.map Sg.av)]),some (.arr 148 3 b (s.tk.map Tk.av))]) (.tup [.ref 2 0,I 0])) :
  VC Tryz.prog 35 [bN r,cF l] (.tup [.sl 3 (d.wt.map Wt.av),I 0]):=by
 unfold lA at g;simp only [List.cons_append,List.nil_append] at g;refine aJ Tryz.func35 rfl (by kernel_rfl) rfl fun M0 w0=>?_;simp only [Tryz.ntmps35,Tryz.results35,aC];repeat' with_reducible apply af
 refine ah [] ?_;repeat' with_reducible first|apply af|apply ae|apply aa|(apply ab;intro X Y;go_simp;apply Y;clear Y X)
 refine eC (bM [] 2 ⟨rfl,rfl⟩ ?_);simp only [aA];repeat' with_reducible first|apply aa|(apply ab;intro X Y;go_simp;apply Y;clear Y X)
 refine eI [] [] [] [some (.mpo (4,.i64) d.op),some (.mpo (4,.i64) d.sv),some (.box [.osl 4,.mp 0,.osl 5,.mp 1]),some (.box [.ref 2 0]),some (.arr 167 4 a.1 (d.st.map Sy.av)),some (.arr 67 3 a.2 (d.wt.map Wt.av)),some (.bag 62 1 false none (bx s.q)),some (.box [.osl 6,.osl 8,I s.time,.sl 4 (r.ranks.map Rk.av),I r.back,I r.ret,.sl 3 (mv.map Sg.av)]),some (.arr 148 3 b (s.tk.map Tk.av))] (.tup [.ref 2 0,I 0]) rfl (by go_simp) ?_ ?_
 ·unfold dU;go_simp;refine ⟨_,_,⟨_,g⟩,?_⟩;go_simp;kernel_rfl
 go_simp;refine bM [] 5 ⟨rfl,rfl⟩ ?_;simp only [aA];repeat' with_reducible first|apply aa|(apply ab;intro X Y;go_simp;apply Y;clear Y X)
 apply da;repeat' with_reducible first|apply af|apply ae
 refine ah [] ?_;repeat' with_reducible first|apply af|apply ae|apply ao|apply aa|(apply aj;·go_simp)|(apply ab;intro X Y;go_simp;apply Y;clear Y X)
 refine gN 2 2 5 rfl rfl rfl ?_;refine ah [] ?_;repeat' with_reducible first|apply ae|apply aw|apply aa|(apply ab;intro X Y;go_simp;apply Y;clear Y X)
 go_simp
end Go.Proofs.YtoibondihdhnoaaGreatDoor
