/- Texts in one: Walks: a state is read, as the reference has it. -/
import Derived.Test.YtoibondihdhnoaaGreatDoorFRZ8
import Derived.Test.YtoibondihdhnoaaGreatDoorFRZ58
import Derived.Test.YtoibondihdhnoaaGreatDoorFRZ56
namespace Go.Proofs.YtoibondihdhnoaaGreatDoor
open Go.RowKit Go.Shelf
set_option maxRecDepth 100000
set_option maxHeartbeats 4000000
theorem Rel.nilSl {N:Nm} {M0:Nat→Nat→Prop} {w0:Bas} {p:Pl} {st:VS} {a:Act} {w:World} (R:Rel M0 w0 N p st a w) {d sz:Nat} (h:lkp st.s d=aZ) : Rel M0 w0 N p ⟨(d,.sl sz [])::st.s,st.h⟩ a w:=by
 refine R.know ?_;have hv:=R.slots d;rw [h] at hv;cases hv with
 | base _ _ h0=>
  rw [h0.lit_inv];exact .base _ _ (.slNil _ _ _)
structure GoodL (w:List ByteArray) : Prop where
 n3:3≤w.length
 nn:w.length≤2000
 sz:∀ p∈w,p.size≤1000
theorem oz {p:ByteArray} (h:p.size≤1000) : (bu p).length≤1001∧∀ c∈bu p,c.size≤1000:=by
 unfold bu;split
 ·simp
 ·have:=mi 32 p;exact ⟨by omega,fun c hc=>Nat.le_trans (lM hc) h⟩
theorem DF {p:ByteArray} (h:iq p=false) : cQ (isT (bu p) ⟨#[]⟩) 0 (bu p).length=false∧∀ j,j < (bu p).length→¬1 < (aP 58 (tat (bu p) j)).length:=by
 unfold iq at h;have hn:∀ j,j < (bu p).length→lR (tat (bu p) j)=false:=fun j hj=>by
  cases hb:lR (tat (bu p) j)
  ·rfl
  ·rw [ig hj hb] at h;cases h
 refine ⟨gI fun j hj=>?_,fun j hj=>?_⟩
 ·have:=hn j hj;unfold lR at this;simp only [Bool.or_eq_false_iff] at this;exact this.1
 ·have:=hn j hj;unfold lR at this;simp only [Bool.or_eq_false_iff,decide_eq_false_iff_not] at this;exact this.2
theorem Qv {l:List ByteArray} (h:∀ k,k < l.length→fU (tat l k)=false) : cQ (isT l ⟨#[]⟩) 0 l.length=false:=by
 refine gI fun j hj=>?_;rw [isT,decide_eq_false_iff_not];intro e;have:=h j hj;rw [e] at this;have e2:fU ⟨#[]⟩=true:=by decide
 rw [e2] at this;cases this
theorem qV (w:List ByteArray) : (dO w).q.length=w.length - 2:=by
 unfold dO;simp only [List.length_map,List.length_take,List.length_drop];omega
theorem zS {w:List ByteArray} {k:Nat} (h:k < w.length - 2) : qat (dO w).q k=bu (tat w (1+k)):=by
 unfold qat tat;show ((((w.drop 1).take (w.length - 2)).map bu).getD k _)=_;rw [List.getD_eq_getElem?_getD,List.getElem?_map,List.getElem?_take_of_lt h,List.getElem?_drop,List.getD_eq_getElem?_getD,List.getElem?_eq_getElem (by omega)];rfl
def tkK (l:List ByteArray) (k:Nat) : List Tk:=(l.take k).map tkW
theorem zT {l:List ByteArray} {k:Nat} (h:k < l.length) : tkK l (k+1)=tkK l k++[tkW (tat l k)]:=by
 unfold tkK;rw [DC h,List.map_append,bc h];rfl
theorem zU {l:List ByteArray} {k:Nat} (h:k≤l.length) : (tkK l k).length=k:=by
 unfold tkK;rw [List.length_map,List.length_take];omega
theorem Qw (t:ByteArray) (ht:t.size≤1000) (hb:k8 (aP 124 t)=false) : VC Tryz.prog 63 [S t] (.tup [ez (dO (aP 124 t)),I 0]):=by
 have g1:=qH t 124 (by omega);have sT:((124:UInt8).toNat:Int)=124:=rfl;rw [sT] at g1;have cP:=mi 124 t;have dE:∀ p∈aP 124 t,p.size≤1000:=fun p hp=>Nat.le_trans (lM hp) ht;generalize aP 124 t=w at *;unfold k8 at hb;simp only [Bool.or_eq_false_iff,Bool.not_eq_false',decide_eq_true_eq] at hb;obtain ⟨⟨⟨h3,hn⟩,hr⟩,hk⟩:=hb;have g2:=tL (tat w 0) (dE _ (tY (by omega)));have gC:∃ a,dv (tat w 0).data.toList=some a:=by
  rw [nf] at hn;cases e:dv (tat w 0).data.toList with
  | none=>rw [e] at hn;cases hn
  | some a=>exact ⟨a,rfl⟩
 obtain ⟨tm,kk⟩:=gC;rw [kk] at g2;simp only [kh] at g2;have ha:w[0]=tat w 0:=(bc (by omega)).symm;have cC:ez (dO w) = .agg [.sl 1 ((cA (dO w).q).map fun l=>[AV.sl 1 l]),.sl 3 ((tkK (eM w) (eM w).length).map Tk.av),I tm]:=by
  have e2:(dO w).tk=tkK (eM w) (eM w).length:=by
   unfold tkK;rw [List.take_length];rfl
  have e3:(dO w).time=tm:=om kk;rw [←e2,←e3]
 rw [cC];rw [←DA,qV];have HQ:Hid (∀ k,k < w.length - 2→cF (dO w) (k+1)=cF (dO w) k++[[.sl 1 ((bu (tat w (1+k))).map cL)]]∧(cF (dO w) k).length=k∧cQ (isT (bu (tat w (1+k))) ⟨#[]⟩) 0 (bu (tat w (1+k))).length=false∧∀ j,j < (bu (tat w (1+k))).length→¬1 < (aP 58 (tat (bu (tat w (1+k))) j)).length):=Lib.hid fun k hk=>by
  have h1:k < (dO w).q.length:=by rw [qV];exact hk
  have hb1:iq (tat w (1+k))=false:=by
   cases hb:iq (tat w (1+k))
   ·rfl
   ·rw [ig hk hb] at hr;cases hr
  refine ⟨?_,uf (by omega),(DF hb1).1,(DF hb1).2⟩;rw [xf h1,zS hk]
 have HK:Hid (∀ k,k < (eM w).length→fU (tat (eM w) k)=false):=Lib.hid fun k cp=>by
  cases hb:fU (tat (eM w) k)
  ·rfl
  ·rw [ig cp hb] at hk;cases hk
 have HZ:=Lib.hid dE;have lC:w.length≤2000:=by omega
 have xh:¬(w.length:Int) < 3:=by omega
 have l0:0 < w.length:=by omega
 clear cC hr hk kk hn dE cP ht;generalize dO w=ST at *;have e0:cF ST 0=[]:=rfl;refine aK Tryz.func63 rfl (by kernel_rfl) rfl fun M0 w0=>?_;simp only [Tryz.ntmps63,Tryz.results63,az];repeat' with_reducible first|apply af|apply ae|apply aj|apply ar|apply aa|refine ah [] ?_|(apply ak;·go_simp)|(apply ab;intro X Y;go_simp;(first|(refine ⟨_,g1,?_⟩)|(refine ⟨_,g2,?_⟩)|skip);apply Y;clear Y X)
 refine fa (fun p a w R=>⟨_,R.nilCell (bi:=2) (j:=0) (e:=62) (sz:=1) rfl rfl (by decide)⟩) ?_;go_simp;refine fa (fun p a w R=>⟨_,R.nilCell (bi:=2) (j:=1) (e:=148) (sz:=3) rfl rfl (by decide)⟩) ?_;go_simp;apply ch [2,4,5,6,7] (fun k=>[(10,I (1+(k:Int)))]) (fun k=>([some (.box [aZ,aZ,I 0]),some (.box [aZ,aZ,I 0]),some (.box [.osl 3,.osl 4,I tm]),some (.arr 62 1 (decide (cF ST k=[])) (cF ST k)),some (.arr 148 3 true [])] : Hp)) (fun k=>decide (k=w.length - 2)) (w.length - 1)
 ·go_simp<;>exact rfl
 ·go_simp
 ·intro k hk HB HP K hK;have bJ:k < w.length - 2:=by
   have:=HP.out;simp only [decide_eq_false_iff_not] at this;omega
  obtain ⟨hs,hl,b9,nB⟩:=HQ.out k bJ;have dC:1+k < w.length:=by omega
  have x1:1+(k:Int) < w.length:=by omega
  have x2:(1+(k:Int)).toNat=1+k:=by omega
  have x3:(0:Int)≤1+(k:Int):=by omega
  have x4:=cj (x:=1+(k:Int)+1) (by omega) (by omega);have x5:¬1+(k:Int)=(w.length:Int) - 1:=by omega
  have x6:=cj (x:=(w.length:Int) - 1) (by omega) (by omega);have x7:1+((k+1:Nat) : Int)=1+(k:Int)+1:=by omega
  have qk:w[1+k]=tat w (1+k):=(bc dC).symm;have hz:=HZ.out w[1+k] (List.getElem_mem dC);rw [qk] at hz;have gc:=tO (tat w (1+k)) (by omega);have eg:=oz hz;have gh:=nx (bu (tat w (1+k))) ⟨#[]⟩ (by omega);rw [b9] at gh;have hb:(cF ST k).length+1≤1000000000:=by omega
  have HS:=Lib.hid hs;have HC:=Lib.hid nB;have HW:=Lib.hid eg;rw [x7,HS.out] at hK;clear hs hl b9 nB hz HB HP eg HS;generalize cF ST k=RV at *;by_cases cM:tat w (1+k)=⟨#[]⟩
  ·have kJ:tat w (1+k)=ByteArray.empty:=cM;have iI:bu (tat w (1+k))=[]:=by unfold bu;rw [if_pos cM]
   rw [iI] at hK gh;clear iI HC HW;repeat' with_reducible apply af
   refine ah [] ?_;repeat' with_reducible first|apply af|apply ae|apply aj|apply ar|apply aa|(apply ao;·go_simp)|(apply ab;intro X Y;go_simp;apply Y;clear Y X)
   refine ah [] ?_;repeat' with_reducible first|apply af|apply ae|apply aa|(apply ab;intro X Y;go_simp;apply Y;clear Y X)
   refine ah [] ?_;repeat' with_reducible first|apply af|apply ae|apply aj|apply aa|(apply ak;·go_simp)|(apply ab;intro X Y;go_simp;apply Y;clear Y X)
   refine fa (fun p a w R=>⟨_,R.nilSl (d:=11) (sz:=1) rfl⟩) ?_;go_simp;repeat' first|(with_reducible first|apply af|apply ae|apply aj|apply ar|apply aa|refine ah [] ?_|(apply ak;·go_simp))|((with_reducible apply ab);intro X Y;go_simp;(first|(refine ⟨_,gh,?_⟩)|skip);apply Y;clear Y X)
   apply iy [2,4,5,6,7,10,11] (fun k=>[(15,I k)]) (fun k=>([some (.box [aZ,aZ,I 0]),some (.box [aZ,aZ,I 0]),some (.box [.osl 3,.osl 4,I tm]),some (.arr 62 1 (decide (RV=[])) RV),some (.arr 148 3 true [])] : Hp))  (0)
   ·go_simp<;>exact rfl
   ·go_simp
   ·intro j hj K2 cB;exact absurd hj (Nat.not_lt_zero _)
   ·intro K2;repeat' with_reducible first|apply af|apply ae|apply aW|apply aX|apply aT|apply aY|apply aa|refine ah [] ?_|(apply ak;·go_simp)|(apply ab;intro X Y;go_simp;apply Y;clear Y X)
    refine hK _ ?_;go_simp
  ·have kJ:¬tat w (1+k)=ByteArray.empty:=cM;have iI:bu (tat w (1+k))=aP 32 (tat w (1+k)):=by unfold bu;rw [if_neg cM]
   rw [iI] at hK gh HC HW;generalize aP 32 (tat w (1+k))=W at *;have eg:=HW.out.1;repeat' first|(with_reducible first|apply af|apply ae|apply aj|apply ar|apply aa|refine ah [] ?_|(apply ao;·go_simp)|(apply ak;·go_simp))|((with_reducible apply ab);intro X Y;go_simp;(first|(with_reducible refine ⟨_,gc,?_⟩)|(refine ⟨_,gh,?_⟩)|skip);apply Y;clear Y X)
   apply iy [2,4,5,6,7,10,11] (fun k=>[(15,I k)]) (fun k=>([some (.box [aZ,aZ,I 0]),some (.box [aZ,aZ,I 0]),some (.box [.osl 3,.osl 4,I tm]),some (.arr 62 1 (decide (RV=[])) RV),some (.arr 148 3 true [])] : Hp))  (W.length)
   ·go_simp<;>exact rfl
   ·go_simp
   ·intro j hj K2 cB;obtain ⟨v1,v2,v3,v4,v5,v6⟩:=ixs (m:=j) (by omega);have j5:=HC.out j hj;have aM:=HW.out.2 _ (List.getElem_mem hj);have gO:=qH (W[j]) 58 (by omega);have lW:((58:UInt8).toNat:Int)=58:=rfl;rw [lW] at gO;rw [bc hj] at j5;generalize aP 58 W[j]=PP at *;have sU:¬(1:Int) < PP.length:=by omega
    clear aM j5 lW;repeat' with_reducible first|apply af|apply ae|apply aj|apply ar|apply aT|apply aa|refine ah [] ?_|(apply ao;·go_simp)|(apply ak;·go_simp)|(apply ab;intro X Y;go_simp;(first|(refine ⟨_,gO,?_⟩)|skip);apply Y;clear Y X)
    refine cB _ ?_;go_simp
   ·intro K2;clear HC HW;repeat' with_reducible first|apply af|apply ae|apply aW|apply aX|apply aT|apply aY|apply aa|refine ah [] ?_|(apply ak;·go_simp)|(apply ab;intro X Y;go_simp;apply Y;clear Y X)
    refine hK _ ?_;go_simp
 ·intro k hk HB HP K;have bJ:k=w.length - 2:=by
   have:=HP.out;simpa using this
  clear HB HP;have dC:1+k < w.length:=by omega
  have x1:1+(k:Int) < w.length:=by omega
  have x2:(1+(k:Int)).toNat=1+k:=by omega
  have x3:(0:Int)≤1+(k:Int):=by omega
  have x5:(w.length:Int) - 1=1+(k:Int):=by omega
  have x6:=cj (x:=1+(k:Int)) (by omega) (by omega);have qk:w[1+k]=tat w (1+k):=(bc dC).symm;have hz:=HZ.out w[1+k] (List.getElem_mem dC);rw [qk] at hz;have gc:=tO (tat w (1+k)) (by omega);have eg:=oz hz;have fH:eM w=bu (tat w (1+k)):=by
   unfold eM;rw [show w.length - 1=1+k by omega]
  rw [fH] at HK ⊢;have b9:=Qv HK.out;have gh:=nx (bu (tat w (1+k))) ⟨#[]⟩ (by omega);rw [b9] at gh;have rW:cF ST (w.length - 2)=cF ST k:=by rw [bJ]
  rw [rW];clear rW fH b9 bJ;have HW:=Lib.hid eg;clear hz HQ HZ eg;generalize cF ST k=RV at *;by_cases cM:tat w (1+k)=⟨#[]⟩
  ·have kJ:tat w (1+k)=ByteArray.empty:=cM;have iI:bu (tat w (1+k))=[]:=by unfold bu;rw [if_pos cM]
   rw [iI] at gh ⊢;clear iI HW HK;repeat' with_reducible apply af
   refine ah [] ?_;repeat' with_reducible first|apply af|apply ae|apply aj|apply ar|apply aa|(apply ao;·go_simp)|(apply ab;intro X Y;go_simp;apply Y;clear Y X)
   refine ah [] ?_;repeat' with_reducible first|apply af|apply ae|apply aa|(apply ab;intro X Y;go_simp;apply Y;clear Y X)
   refine ah [] ?_;repeat' with_reducible first|apply af|apply ae|apply aj|apply aa|(apply ak;·go_simp)|(apply ab;intro X Y;go_simp;apply Y;clear Y X)
   refine fa (fun p a w R=>⟨_,R.nilSl (d:=11) (sz:=1) rfl⟩) ?_;go_simp;repeat' first|(with_reducible first|apply af|apply ae|apply aj|apply ar|apply aa|refine ah [] ?_|(apply ao;·go_simp)|(apply ak;·go_simp))|((with_reducible apply ab);intro X Y;go_simp;(first|(refine ⟨_,gh,?_⟩)|skip);apply Y;clear Y X)
   apply iy [2,4,5,7,11] (fun k=>[(12,I k)]) (fun k=>([some (.box [aZ,aZ,I 0]),some (.box [aZ,aZ,I 0]),some (.box [.osl 3,.osl 4,I tm]),some (.arr 62 1 (decide (RV=[])) RV),some (.arr 148 3 true [])] : Hp))  (0)
   ·go_simp<;>exact rfl
   ·go_simp
   ·intro j hj K2 cB;exact absurd hj (Nat.not_lt_zero _)
   ·intro K2;repeat' with_reducible apply af
    refine hZ 2 0 3 rfl rfl rfl ?_;refine hZ 2 1 4 rfl rfl rfl ?_;repeat' with_reducible first|apply af|apply ae|apply aW|apply aq|apply aX|apply aY|apply aa|refine Ig rfl ?_|refine ah [] ?_|(apply ak;·go_simp)|(apply ab;intro X Y;go_simp;apply Y;clear Y X)
    go_simp;rfl
  ·have kJ:¬tat w (1+k)=ByteArray.empty:=cM;have iI:bu (tat w (1+k))=aP 32 (tat w (1+k)):=by unfold bu;rw [if_neg cM]
   rw [iI] at gh HW HK ⊢;generalize aP 32 (tat w (1+k))=W at *;have eg:=HW.out.1;have e1:tkK W 0=[]:=rfl;repeat' first|(with_reducible first|apply af|apply ae|apply aj|apply ar|apply aa|refine ah [] ?_|(apply ao;·go_simp)|(apply ak;·go_simp))|((with_reducible apply ab);intro X Y;go_simp;(first|(with_reducible refine ⟨_,gc,?_⟩)|(refine ⟨_,gh,?_⟩)|skip);apply Y;clear Y X)
   apply iy [2,4,5,7,11] (fun k=>[(12,I k)]) (fun k=>([some (.box [aZ,aZ,I 0]),some (.box [aZ,aZ,I 0]),some (.box [.osl 3,.osl 4,I tm]),some (.arr 62 1 (decide (RV=[])) RV),some (.arr 148 3 (decide (tkK W k=[])) ((tkK W k).map Tk.av))] : Hp))  (W.length)
   ·go_simp<;>exact rfl
   ·go_simp
   ·intro j hj K2 cB;obtain ⟨v1,v2,v3,v4,v5,v6⟩:=ixs (m:=j) (by omega);have fi:=HK.out j hj;have gt:=DE W[j] (HW.out.2 _ (List.getElem_mem hj));have hs:=zT hj;rw [DD,I6 (by rw [←bc hj];exact fi),←bc hj,fi,Bool.not_false] at gt;have iW:=zU (l:=W) (k:=j) (by omega);have hb:(tkK W j).length+1≤1000000000:=by omega
    have qj:W[j]=tat W j:=(bc hj).symm;have HS:=Lib.hid hs;clear hs iW fi;generalize tkW (tat W j)=T at *;repeat' with_reducible first|apply af|apply ae|apply aj|apply ar|apply aT|apply aa|refine ah [] ?_|(apply ao;·go_simp)|(apply ak;·go_simp)|(apply ab;intro X Y;go_simp;(first|(refine ⟨_,gt,?_⟩)|skip);apply Y;clear Y X)
    refine cB _ ?_;rw [HS.out];go_simp
   ·intro K2;repeat' with_reducible apply af
    refine hZ 2 0 3 rfl rfl rfl ?_;refine hZ 2 1 4 rfl rfl rfl ?_;repeat' with_reducible first|apply af|apply ae|apply aW|apply aq|apply aX|apply aY|apply aa|refine Ig rfl ?_|refine ah [] ?_|(apply ak;·go_simp)|(apply ab;intro X Y;go_simp;apply Y;clear Y X)
    go_simp
 ·intro HB K;exact absurd (HB.out (w.length - 2) (by omega)) (by simp)
theorem Qx {p:ByteArray} (h:iq p=true) : p≠⟨#[]⟩∧(cQ (isT (bu p) ⟨#[]⟩) 0 (bu p).length=false→cQ (fun j=>decide (1 < (aP 58 (tat (bu p) j)).length)) 0 (bu p).length=true):=by
 constructor
 ·intro e;subst e;cases h
 ·intro hn;cases hc:cQ (fun j=>decide (1 < (aP 58 (tat (bu p) j)).length)) 0 (bu p).length
  ·have:iq p=false:=gI fun j hj=>by
    unfold lR;rw [Bool.or_eq_false_iff];constructor
    ·cases h1:isT (bu p) ⟨#[]⟩ j
     ·exact h1
     ·rw [ig hj h1] at hn;cases hn
    ·cases h1:decide (1 < (aP 58 (tat (bu p) j)).length)
     ·rfl
     ·rw [ig (p:=fun j=>decide (1 < (aP 58 (tat (bu p) j)).length)) hj h1] at hc;cases hc
   rw [this] at h;cases h
  ·rfl
theorem Qy (t:ByteArray) (ht:t.size≤1000) (hb:k8 (aP 124 t)=true) : VC Tryz.prog 63 [S t] (.tup [.agg [aZ,aZ,I 0],I 7]):=by
 have g1:=qH t 124 (by omega);have sT:((124:UInt8).toNat:Int)=124:=rfl;rw [sT] at g1;have cP:=mi 124 t;have dE:∀ p∈aP 124 t,p.size≤1000:=fun p hp=>Nat.le_trans (lM hp) ht;generalize aP 124 t=w at *;by_cases h3:3≤w.length
 rotate_left
 ·have xh:(w.length:Int) < 3:=by omega
  clear hb dE cP ht;refine aK Tryz.func63 rfl (by kernel_rfl) rfl fun M0 w0=>?_;simp only [Tryz.ntmps63,Tryz.results63,az];repeat' with_reducible first|apply af|apply ae|apply aF|apply aq|apply aa|refine ah [] ?_|(apply ao;·go_simp)|(apply ab;intro X Y;go_simp;(first|(refine ⟨_,g1,?_⟩)|skip);apply Y;clear Y X)
  go_simp
 have xh:¬(w.length:Int) < 3:=by omega
 have l0:0 < w.length:=by omega
 have ha:w[0]=tat w 0:=(bc (by omega)).symm;have g2:=tL (tat w 0) (dE _ (tY (by omega)));unfold k8 at hb;rw [decide_eq_true h3,Bool.not_true,Bool.false_or,nf] at hb;cases kk:dv (tat w 0).data.toList with
 | none=>
  rw [kk] at g2;simp only [kh] at g2;clear hb dE cP ht;refine aK Tryz.func63 rfl (by kernel_rfl) rfl fun M0 w0=>?_;simp only [Tryz.ntmps63,Tryz.results63,az];repeat' with_reducible first|apply af|apply ae|apply aF|apply aq|apply aj|apply aa|refine ah [] ?_|(apply ao;·go_simp)|(apply ak;·go_simp)|(apply ab;intro X Y;go_simp;(first|(refine ⟨_,g1,?_⟩)|(refine ⟨_,g2,?_⟩)|skip);apply Y;clear Y X)
  go_simp
 | some tm=>
  rw [kk] at g2 hb;simp only [kh] at g2;simp only [Option.isSome_some,Bool.not_true,Bool.false_or] at hb;have py:=Lib.hid hb;have HQ:Hid (∀ k,k < w.length - 2→cF (dO w) (k+1)=cF (dO w) k++[[.sl 1 ((bu (tat w (1+k))).map cL)]]∧(cF (dO w) k).length=k):=Lib.hid fun k hk=>by
   have h1:k < (dO w).q.length:=by rw [qV];exact hk
   refine ⟨?_,uf (by omega)⟩;rw [xf h1,zS hk]
  have HZ:=Lib.hid dE;have lC:w.length≤2000:=by omega
  clear hb kk dE cP ht;have HV:=Lib.hid (fun k (hk:k≤w.length - 2)=>(uf (s:=dO w) (k:=k) (by rw [qV];exact hk)));generalize dO w=ST at *;have e0:cF ST 0=[]:=rfl;refine aK Tryz.func63 rfl (by kernel_rfl) rfl fun M0 w0=>?_;simp only [Tryz.ntmps63,Tryz.results63,az];repeat' with_reducible first|apply af|apply ae|apply aj|apply ar|apply aa|refine ah [] ?_|(apply ak;·go_simp)|(apply ab;intro X Y;go_simp;(first|(refine ⟨_,g1,?_⟩)|(refine ⟨_,g2,?_⟩)|skip);apply Y;clear Y X)
  refine fa (fun p a w R=>⟨_,R.nilCell (bi:=2) (j:=0) (e:=62) (sz:=1) rfl rfl (by decide)⟩) ?_;go_simp;refine fa (fun p a w R=>⟨_,R.nilCell (bi:=2) (j:=1) (e:=148) (sz:=3) rfl rfl (by decide)⟩) ?_;go_simp;apply ch [2,4,5,6,7] (fun k=>[(10,I (1+(k:Int)))]) (fun k=>([some (.box [aZ,aZ,I 0]),some (.box [aZ,aZ,I 0]),some (.box [.osl 3,.osl 4,I tm]),some (.arr 62 1 (decide (cF ST k=[])) (cF ST k)),some (.arr 148 3 true [])] : Hp)) (fun k=>decide (k=w.length - 2) || iq (tat w (1+k))) (w.length - 1)
  ·go_simp<;>exact rfl
  ·go_simp
  ·intro k hk HB HP K hK;have oi:=HP.out;simp only [Bool.or_eq_false_iff,decide_eq_false_iff_not] at oi;have bJ:k < w.length - 2:=by
    have:=oi.1;omega
   obtain ⟨hs,hl⟩:=HQ.out k bJ;obtain ⟨b9,nB⟩:=DF oi.2;have dC:1+k < w.length:=by omega
   have x1:1+(k:Int) < w.length:=by omega
   have x2:(1+(k:Int)).toNat=1+k:=by omega
   have x3:(0:Int)≤1+(k:Int):=by omega
   have x4:=cj (x:=1+(k:Int)+1) (by omega) (by omega);have x5:¬1+(k:Int)=(w.length:Int) - 1:=by omega
   have x6:=cj (x:=(w.length:Int) - 1) (by omega) (by omega);have x7:1+((k+1:Nat) : Int)=1+(k:Int)+1:=by omega
   have qk:w[1+k]=tat w (1+k):=(bc dC).symm;have hz:=HZ.out w[1+k] (List.getElem_mem dC);rw [qk] at hz;have gc:=tO (tat w (1+k)) (by omega);have eg:=oz hz;have gh:=nx (bu (tat w (1+k))) ⟨#[]⟩ (by omega);rw [b9] at gh;have hb:(cF ST k).length+1≤1000000000:=by omega
   have HS:=Lib.hid hs;have HC:=Lib.hid nB;have HW:=Lib.hid eg;rw [x7,HS.out] at hK;clear oi hs hl b9 nB hz HB HP eg HS;generalize cF ST k=RV at *;by_cases cM:tat w (1+k)=⟨#[]⟩
   ·have kJ:tat w (1+k)=ByteArray.empty:=cM;have iI:bu (tat w (1+k))=[]:=by unfold bu;rw [if_pos cM]
    rw [iI] at hK gh;clear iI HC HW;repeat' with_reducible apply af
    refine ah [] ?_;repeat' with_reducible first|apply af|apply ae|apply aj|apply ar|apply aa|(apply ao;·go_simp)|(apply ab;intro X Y;go_simp;apply Y;clear Y X)
    refine ah [] ?_;repeat' with_reducible first|apply af|apply ae|apply aa|(apply ab;intro X Y;go_simp;apply Y;clear Y X)
    refine ah [] ?_;repeat' with_reducible first|apply af|apply ae|apply aj|apply aa|(apply ak;·go_simp)|(apply ab;intro X Y;go_simp;apply Y;clear Y X)
    refine fa (fun p a w R=>⟨_,R.nilSl (d:=11) (sz:=1) rfl⟩) ?_;go_simp;repeat' first|(with_reducible first|apply af|apply ae|apply aj|apply ar|apply aa|refine ah [] ?_|(apply ak;·go_simp))|((with_reducible apply ab);intro X Y;go_simp;(first|(refine ⟨_,gh,?_⟩)|skip);apply Y;clear Y X)
    apply iy [2,4,5,6,7,10,11] (fun k=>[(15,I k)]) (fun k=>([some (.box [aZ,aZ,I 0]),some (.box [aZ,aZ,I 0]),some (.box [.osl 3,.osl 4,I tm]),some (.arr 62 1 (decide (RV=[])) RV),some (.arr 148 3 true [])] : Hp))  (0)
    ·go_simp<;>exact rfl
    ·go_simp
    ·intro j hj K2 cB;exact absurd hj (Nat.not_lt_zero _)
    ·intro K2;repeat' with_reducible first|apply af|apply ae|apply aW|apply aX|apply aT|apply aY|apply aa|refine ah [] ?_|(apply ak;·go_simp)|(apply ab;intro X Y;go_simp;apply Y;clear Y X)
     refine hK _ ?_;go_simp
   ·have kJ:¬tat w (1+k)=ByteArray.empty:=cM;have iI:bu (tat w (1+k))=aP 32 (tat w (1+k)):=by unfold bu;rw [if_neg cM]
    rw [iI] at hK gh HC HW;generalize aP 32 (tat w (1+k))=W at *;have eg:=HW.out.1;repeat' first|(with_reducible first|apply af|apply ae|apply aj|apply ar|apply aa|refine ah [] ?_|(apply ao;·go_simp)|(apply ak;·go_simp))|((with_reducible apply ab);intro X Y;go_simp;(first|(with_reducible refine ⟨_,gc,?_⟩)|(refine ⟨_,gh,?_⟩)|skip);apply Y;clear Y X)
    apply iy [2,4,5,6,7,10,11] (fun k=>[(15,I k)]) (fun k=>([some (.box [aZ,aZ,I 0]),some (.box [aZ,aZ,I 0]),some (.box [.osl 3,.osl 4,I tm]),some (.arr 62 1 (decide (RV=[])) RV),some (.arr 148 3 true [])] : Hp))  (W.length)
    ·go_simp<;>exact rfl
    ·go_simp
    ·intro j hj K2 cB;obtain ⟨v1,v2,v3,v4,v5,v6⟩:=ixs (m:=j) (by omega);have j5:=HC.out j hj;have aM:=HW.out.2 _ (List.getElem_mem hj);have gO:=qH (W[j]) 58 (by omega);have lW:((58:UInt8).toNat:Int)=58:=rfl;rw [lW] at gO;rw [bc hj] at j5;generalize aP 58 W[j]=PP at *;have sU:¬(1:Int) < PP.length:=by omega
     clear aM j5 lW;repeat' with_reducible first|apply af|apply ae|apply aj|apply ar|apply aT|apply aa|refine ah [] ?_|(apply ao;·go_simp)|(apply ak;·go_simp)|(apply ab;intro X Y;go_simp;(first|(refine ⟨_,gO,?_⟩)|skip);apply Y;clear Y X)
     refine cB _ ?_;go_simp
    ·intro K2;clear HC HW;repeat' with_reducible first|apply af|apply ae|apply aW|apply aX|apply aT|apply aY|apply aa|refine ah [] ?_|(apply ak;·go_simp)|(apply ab;intro X Y;go_simp;apply Y;clear Y X)
     refine hK _ ?_;go_simp
  ·intro k hk HB HP K;have dC:1+k < w.length:=by omega
   have x1:1+(k:Int) < w.length:=by omega
   have x2:(1+(k:Int)).toNat=1+k:=by omega
   have x3:(0:Int)≤1+(k:Int):=by omega
   have qk:w[1+k]=tat w (1+k):=(bc dC).symm;have hz:=HZ.out w[1+k] (List.getElem_mem dC);rw [qk] at hz;have gc:=tO (tat w (1+k)) (by omega);have eg:=oz hz;have gh:=nx (bu (tat w (1+k))) ⟨#[]⟩ (by omega);by_cases bJ:k=w.length - 2
   ·have x5:(w.length:Int) - 1=1+(k:Int):=by omega
    have x6:=cj (x:=1+(k:Int)) (by omega) (by omega);have fH:eM w=bu (tat w (1+k)):=by
     unfold eM;rw [show w.length - 1=1+k by omega]
    have ju:cQ (fun j=>fU (tat (bu (tat w (1+k))) j)) 0 (bu (tat w (1+k))).length=true:=by
     have:=py.out;rw [fH,gI (p:=fun k=>iq (tat w (1+k))) (fun j hj=>by
      have:=HB.out j (by omega);simp only [Bool.or_eq_false_iff] at this;exact this.2),Bool.false_or] at this
     exact this
    have cM:¬tat w (1+k)=⟨#[]⟩:=by
     intro e;rw [e] at ju;cases ju
    have kJ:¬tat w (1+k)=ByteArray.empty:=cM;have iI:bu (tat w (1+k))=aP 32 (tat w (1+k)):=by unfold bu;rw [if_neg cM]
    rw [iI] at gh ju eg;have HW:=Lib.hid eg;have HK:=Lib.hid ju;clear hz HQ HZ eg fH HB HP py HV bJ iI ju;generalize cF ST k=RV at *;generalize aP 32 (tat w (1+k))=W at *;have eg:=HW.out.1;cases b9:cQ (isT W ⟨#[]⟩) 0 W.length
    ·rw [b9] at gh;clear b9;have e1:tkK W 0=[]:=rfl;repeat' first|(with_reducible first|apply af|apply ae|apply aj|apply ar|apply aa|refine ah [] ?_|(apply ao;·go_simp)|(apply ak;·go_simp))|((with_reducible apply ab);intro X Y;go_simp;(first|(with_reducible refine ⟨_,gc,?_⟩)|(refine ⟨_,gh,?_⟩)|skip);apply Y;clear Y X)
     apply ch [2,4,5,7,11] (fun k=>[(12,I k)]) (fun k=>([some (.box [aZ,aZ,I 0]),some (.box [aZ,aZ,I 0]),some (.box [.osl 3,.osl 4,I tm]),some (.arr 62 1 (decide (RV=[])) RV),some (.arr 148 3 (decide (tkK W k=[])) ((tkK W k).map Tk.av))] : Hp)) (fun j=>fU (tat W j)) (W.length)
     ·go_simp<;>exact rfl
     ·go_simp
     ·intro j hj cb cx K2 cB;obtain ⟨v1,v2,v3,v4,v5,v6⟩:=ixs (m:=j) (by omega);have fi:fU (tat W j)=false:=cx.out;have gt:=DE W[j] (HW.out.2 _ (List.getElem_mem hj));have hs:=zT hj;rw [DD,I6 (by rw [←bc hj];exact fi),←bc hj,fi,Bool.not_false] at gt;have iW:=zU (l:=W) (k:=j) (by omega);have hb:(tkK W j).length+1≤1000000000:=by omega
      have qj:W[j]=tat W j:=(bc hj).symm;have HS:=Lib.hid hs;clear hs iW fi cb cx;generalize tkW (tat W j)=T at *;repeat' with_reducible first|apply af|apply ae|apply aj|apply ar|apply aT|apply aa|refine ah [] ?_|(apply ao;·go_simp)|(apply ak;·go_simp)|(apply ab;intro X Y;go_simp;(first|(refine ⟨_,gt,?_⟩)|skip);apply Y;clear Y X)
      refine cB _ ?_;rw [HS.out];go_simp
     ·intro j hj cb cx K2;have fi:fU (tat W j)=true:=cx.out;have gt:=DE W[j] (HW.out.2 _ (List.getElem_mem hj));rw [DD,←bc hj,fi,Bool.not_true] at gt;have qj:W[j]=tat W j:=(bc hj).symm;clear fi cb cx HK HW;generalize (tkR (aP 58 (tat W j))).1=T at *;generalize tkK W j=TK at *;repeat' with_reducible first|apply af|apply ae|apply aF|apply aq|apply aj|apply ar|apply b_|apply aa|refine ah [] ?_|(apply ao;·go_simp)|(apply ab;intro X Y;go_simp;(first|(refine ⟨_,gt,?_⟩)|skip);apply Y;clear Y X)
      go_simp
     ·intro cb K2;have:=HK.out;rw [gI cb.out] at this;cases this
    ·rw [b9] at gh;clear b9 HK;repeat' first|(with_reducible first|apply af|apply ae|apply aF|apply aq|apply aj|apply ar|apply b_|apply aa|refine ah [] ?_|(apply ao;·go_simp))|((with_reducible apply ab);intro X Y;go_simp;(first|(with_reducible refine ⟨_,gc,?_⟩)|(refine ⟨_,gh,?_⟩)|skip);apply Y;clear Y X)
     go_simp
   ·have x5:¬1+(k:Int)=(w.length:Int) - 1:=by omega
    have x6:=cj (x:=(w.length:Int) - 1) (by omega) (by omega);have nC:iq (tat w (1+k))=true:=by
     have:=HP.out;simpa [bJ] using this
    obtain ⟨cM,hc⟩:=Qx nC;have kJ:¬tat w (1+k)=ByteArray.empty:=cM;have iI:bu (tat w (1+k))=aP 32 (tat w (1+k)):=by unfold bu;rw [if_neg cM]
    rw [iI] at gh hc eg;have HW:=Lib.hid eg;have HC:=Lib.hid hc;clear hz HQ HZ eg HB HP py HV bJ iI hc nC;generalize cF ST k=RV at *;generalize aP 32 (tat w (1+k))=W at *;have eg:=HW.out.1;cases b9:cQ (isT W ⟨#[]⟩) 0 W.length
    ·rw [b9] at gh;have HK:=Lib.hid (HC.out b9);clear b9 HC;repeat' first|(with_reducible first|apply af|apply ae|apply aj|apply ar|apply aa|refine ah [] ?_|(apply ao;·go_simp)|(apply ak;·go_simp))|((with_reducible apply ab);intro X Y;go_simp;(first|(with_reducible refine ⟨_,gc,?_⟩)|(refine ⟨_,gh,?_⟩)|skip);apply Y;clear Y X)
     apply ch [2,4,5,6,7,10,11] (fun k=>[(15,I k)]) (fun k=>([some (.box [aZ,aZ,I 0]),some (.box [aZ,aZ,I 0]),some (.box [.osl 3,.osl 4,I tm]),some (.arr 62 1 (decide (RV=[])) RV),some (.arr 148 3 true [])] : Hp)) (fun j=>decide (1 < (aP 58 (tat W j)).length)) (W.length)
     ·go_simp<;>exact rfl
     ·go_simp
     ·intro j hj cb cx K2 cB;obtain ⟨v1,v2,v3,v4,v5,v6⟩:=ixs (m:=j) (by omega);have j5:=cx.out;simp only [decide_eq_false_iff_not] at j5;have aM:=HW.out.2 _ (List.getElem_mem hj);have gO:=qH (W[j]) 58 (by omega);have lW:((58:UInt8).toNat:Int)=58:=rfl;rw [lW] at gO;rw [bc hj] at j5;clear cb cx HK;generalize aP 58 W[j]=PP at *;have sU:¬(1:Int) < PP.length:=by omega
      clear aM j5 lW;repeat' with_reducible first|apply af|apply ae|apply aj|apply ar|apply aT|apply aa|refine ah [] ?_|(apply ao;·go_simp)|(apply ak;·go_simp)|(apply ab;intro X Y;go_simp;(first|(refine ⟨_,gO,?_⟩)|skip);apply Y;clear Y X)
      refine cB _ ?_;go_simp
     ·intro j hj cb cx K2;have j5:=cx.out;simp only [decide_eq_true_eq] at j5;have aM:=HW.out.2 _ (List.getElem_mem hj);have gO:=qH (W[j]) 58 (by omega);have lW:((58:UInt8).toNat:Int)=58:=rfl;rw [lW] at gO;rw [bc hj] at j5;clear cb cx HK;generalize aP 58 W[j]=PP at *;have sU:(1:Int) < PP.length:=by omega
      clear aM j5 lW;repeat' with_reducible first|apply af|apply ae|apply aF|apply aq|apply aj|apply ar|apply b_|apply aa|refine ah [] ?_|(apply ao;·go_simp)|(apply ab;intro X Y;go_simp;(first|(refine ⟨_,gO,?_⟩)|skip);apply Y;clear Y X)
      go_simp
     ·intro cb K2;have:=HK.out;rw [gI cb.out] at this;cases this
    ·rw [b9] at gh;clear b9 HC;repeat' first|(with_reducible first|apply af|apply ae|apply aF|apply aq|apply aj|apply ar|apply b_|apply aa|refine ah [] ?_|(apply ao;·go_simp))|((with_reducible apply ab);intro X Y;go_simp;(first|(with_reducible refine ⟨_,gc,?_⟩)|(refine ⟨_,gh,?_⟩)|skip);apply Y;clear Y X)
     go_simp
  ·intro HB K;exact absurd (HB.out (w.length - 2) (by omega)) (by simp)
end Go.Proofs.YtoibondihdhnoaaGreatDoor
