/- Texts in one: Walks: a state is read, as the reference has it. -/
import Derived.Test.YtoibondihdhnoaaGreatDoorFRB53
import Derived.Test.YtoibondihdhnoaaGreatDoorFRB50
namespace Go.Proofs.YtoibondihdhnoaaGreatDoor
open Go.RowKit Go.Shelf
set_option maxRecDepth 100000
set_option maxHeartbeats 4000000
theorem Rel.nilSl {N:Nm} {M0:Nat→Nat→Prop} {w0:Bas} {p:Pl} {st:VS} {a:Act} {w:World} (R:Rel M0 w0 N p st a w) {d sz:Nat} (h:lkp st.s d=g8_) : Rel M0 w0 N p ⟨(d,.sl sz [])::st.s,st.h⟩ a w:=by
 refine R.know ?_
 have hv:=R.slots d
 rw [h] at hv
 cases hv with
 | base _ _ h0=>
  rw [h0.lit_inv]
  exact .base _ _ (.slNil _ _ _)
structure GoodL (w:List ByteArray) : Prop where
 n3:3≤w.length
 nn:w.length≤2000
 sz:∀ p∈w,p.size≤1000
theorem k4_ {p:ByteArray} (h:p.size≤1000) : (c1_ p).length≤1001∧∀ c∈c1_ p,c.size≤1000:=by
 unfold c1_
 split
 ·simp
 ·have:=i5_ 32 p
  exact ⟨by omega,fun c hc=>Nat.le_trans (g2_ hc) h⟩
theorem b4b {p:ByteArray} (h:a6i p=false) : t8_ (isT (c1_ p) ⟨#[]⟩) 0 (c1_ p).length=false∧∀ j,j < (c1_ p).length→¬1 < (b2_ 58 (tat (c1_ p) j)).length:=by
 unfold a6i at h
 have hn:∀ j,j < (c1_ p).length→b7y (tat (c1_ p) j)=false:=fun j hj=>by
  cases hb:b7y (tat (c1_ p) j)
  ·rfl
  ·rw [f9_ hj hb] at h
   cases h
 refine ⟨f1_ fun j hj=>?_,fun j hj=>?_⟩
 ·have:=hn j hj
  unfold b7y at this
  simp only [Bool.or_eq_false_iff] at this
  exact this.1
 ·have:=hn j hj
  unfold b7y at this
  simp only [Bool.or_eq_false_iff,decide_eq_false_iff_not] at this
  exact this.2
theorem d0g {l:List ByteArray} (h:∀ k,k < l.length→a3o (tat l k)=false) : t8_ (isT l ⟨#[]⟩) 0 l.length=false:=by
 refine f1_ fun j hj=>?_
 rw [isT,decide_eq_false_iff_not]
 intro e
 have:=h j hj
 rw [e] at this
 have e2:a3o ⟨#[]⟩=true:=by decide
 rw [e2] at this
 cases this
theorem a3i (w:List ByteArray) : (w8_ w).q.length=w.length - 2:=by
 unfold w8_
 simp only [List.length_map,List.length_take,List.length_drop]
 omega
theorem a9i {w:List ByteArray} {k:Nat} (h:k < w.length - 2) : qat (w8_ w).q k=c1_ (tat w (1+k)):=by
 unfold qat tat
 show ((((w.drop 1).take (w.length - 2)).map c1_).getD k _)=_
 rw [List.getD_eq_getElem?_getD,List.getElem?_map,List.getElem?_take_of_lt h,List.getElem?_drop,List.getD_eq_getElem?_getD,List.getElem?_eq_getElem (by omega)]
 rfl
def tkK (l:List ByteArray) (k:Nat) : List Tk:=(l.take k).map tkW
theorem a4b {l:List ByteArray} {k:Nat} (h:k < l.length) : tkK l (k+1)=tkK l k++[tkW (tat l k)]:=by
 unfold tkK
 rw [v4_ h,List.map_append,b8_ h]
 rfl
theorem a9j {l:List ByteArray} {k:Nat} (h:k≤l.length) : (tkK l k).length=k:=by
 unfold tkK
 rw [List.length_map,List.length_take]
 omega
theorem a9k (t:ByteArray) (ht:t.size≤1000) (hb:b6h (b2_ 124 t)=false) : VC Tryz.prog 63 [S t] (.tup [i0_ (w8_ (b2_ 124 t)),I 0]):=by
 have g1:=a3f t 124 (by omega)
 have e124:((124:UInt8).toNat:Int)=124:=rfl
 rw [e124] at g1
 have hpl:=i5_ 124 t
 have hps:∀ p∈b2_ 124 t,p.size≤1000:=fun p hp=>Nat.le_trans (g2_ hp) ht
 generalize b2_ 124 t=w at *
 unfold b6h at hb
 simp only [Bool.or_eq_false_iff,Bool.not_eq_false',decide_eq_true_eq] at hb
 obtain ⟨⟨⟨h3,hn⟩,hr⟩,hk⟩:=hb
 have g2:=a3x (tat w 0) (hps _ (a2t (by omega)))
 have hn2:∃ a,a1t (tat w 0).data.toList=some a:=by
  rw [q0_] at hn
  cases e:a1t (tat w 0).data.toList with
  | none=>rw [e] at hn;cases hn
  | some a=>exact ⟨a,rfl⟩
 obtain ⟨tm,etm⟩:=hn2
 rw [etm] at g2
 simp only [b8v] at g2
 have ha:w[0]=tat w 0:=(b8_ (by omega)).symm
 have hst:i0_ (w8_ w) = .agg [.sl 1 ((f6_ (w8_ w).q).map fun l=>[AV.sl 1 l]),.sl 3 ((tkK (k8_ w) (k8_ w).length).map Tk.av),I tm]:=by
  have e2:(w8_ w).tk=tkK (k8_ w) (k8_ w).length:=by
   unfold tkK
   rw [List.take_length]
   rfl
  have e3:(w8_ w).time=tm:=t3_ etm
  rw [←e2,←e3]
 rw [hst]
 rw [←a5q,a3i]
 have HQ:Hid (∀ k,k < w.length - 2→f5_ (w8_ w) (k+1)=f5_ (w8_ w) k++[[.sl 1 ((c1_ (tat w (1+k))).map p1_)]]∧(f5_ (w8_ w) k).length=k∧t8_ (isT (c1_ (tat w (1+k))) ⟨#[]⟩) 0 (c1_ (tat w (1+k))).length=false∧∀ j,j < (c1_ (tat w (1+k))).length→¬1 < (b2_ 58 (tat (c1_ (tat w (1+k))) j)).length):=Lib.hid fun k hk=>by
  have h1:k < (w8_ w).q.length:=by rw [a3i];exact hk
  have hb1:a6i (tat w (1+k))=false:=by
   cases hb:a6i (tat w (1+k))
   ·rfl
   ·rw [f9_ hk hb] at hr
    cases hr
  refine ⟨?_,t6_ (by omega),(b4b hb1).1,(b4b hb1).2⟩
  rw [t5_ h1,a9i hk]
 have HK:Hid (∀ k,k < (k8_ w).length→a3o (tat (k8_ w) k)=false):=Lib.hid fun k hk2=>by
  cases hb:a3o (tat (k8_ w) k)
  ·rfl
  ·rw [f9_ hk2 hb] at hk
   cases hk
 have HZ:=Lib.hid hps
 have hw2:w.length≤2000:=by omega
 have h3i:¬(w.length:Int) < 3:=by omega
 have l0:0 < w.length:=by omega
 clear hst hr hk etm hn hps hpl ht
 generalize w8_ w=ST at *
 have e0:f5_ ST 0=[]:=rfl
 refine c0_ Tryz.func63 rfl (by kernel_rfl) (by kernel_rfl) rfl fun M0 w0=>?_
 simp only [Tryz.ntmps63,Tryz.results63,b4_]
 repeat' (first|(with_reducible first|apply a9_|apply a3_|apply b0_|apply a8_|apply a1_|refine a2_ [] ?_)|((with_reducible refine a5_ ?_ ?_);(focus (go_simp;done)))|((with_reducible refine a0_ fun X Y=>?_);go_simp;(first|(with_reducible refine ⟨_,g1,?_⟩)|(with_reducible refine ⟨_,g2,?_⟩)|skip);refine Y _ ?_;clear Y X))
 refine o0_ (fun p a w R=>⟨_,R.nilCell (bi:=2) (j:=0) (e:=62) (sz:=1) rfl rfl (by decide)⟩) ?_
 go_simp
 refine o0_ (fun p a w R=>⟨_,R.nilCell (bi:=2) (j:=1) (e:=148) (sz:=3) rfl rfl (by decide)⟩) ?_
 go_simp
 apply s5_ [2,4,5,6,7] (fun k=>[(10,I (1+(k:Int)))]) (fun k=>([some (.box [g8_,g8_,I 0]),some (.box [g8_,g8_,I 0]),some (.box [.osl 3,.osl 4,I tm]),some (.arr 62 1 (decide (f5_ ST k=[])) (f5_ ST k)),some (.arr 148 3 true [])] : Hp)) (fun k=>decide (k=w.length - 2)) (w.length - 1)
 ·go_simp<;>exact rfl
 ·go_simp
 ·intro k hk HB HP K hK
  have hkl:k < w.length - 2:=by
   have:=HP.out
   simp only [decide_eq_false_iff_not] at this
   omega
  obtain ⟨hs,hl,hany,hcol⟩:=HQ.out k hkl
  have hk1:1+k < w.length:=by omega
  have x1:1+(k:Int) < w.length:=by omega
  have x2:(1+(k:Int)).toNat=1+k:=by omega
  have x3:(0:Int)≤1+(k:Int):=by omega
  have x4:=c5_ (x:=1+(k:Int)+1) (by omega) (by omega)
  have x5:¬1+(k:Int)=(w.length:Int) - 1:=by omega
  have x6:=c5_ (x:=(w.length:Int) - 1) (by omega) (by omega)
  have x7:1+((k+1:Nat) : Int)=1+(k:Int)+1:=by omega
  have qk:w[1+k]=tat w (1+k):=(b8_ hk1).symm
  have hz:=HZ.out w[1+k] (List.getElem_mem hk1)
  rw [qk] at hz
  have gc:=a8p (tat w (1+k)) (by omega)
  have hwl:=k4_ hz
  have gh:=m0_ (c1_ (tat w (1+k))) ⟨#[]⟩ (by omega)
  rw [hany] at gh
  have hb:(f5_ ST k).length+1≤1000000000:=by omega
  have HS:=Lib.hid hs
  have HC:=Lib.hid hcol
  have HW:=Lib.hid hwl
  rw [x7,HS.out] at hK
  clear hs hl hany hcol hz HB HP hwl HS
  generalize f5_ ST k=RV at *
  by_cases hpe:tat w (1+k)=⟨#[]⟩
  ·have hpe2:tat w (1+k)=ByteArray.empty:=hpe
   have hwp:c1_ (tat w (1+k))=[]:=by unfold c1_;rw [if_pos hpe]
   rw [hwp] at hK gh
   clear hwp HC HW
   repeat' (with_reducible apply a9_)
   refine a2_ [] ?_
   repeat' (first|(with_reducible first|apply a9_|apply a3_|apply b0_|apply a8_|apply a1_)|((with_reducible refine a7_ ?_ ?_);(focus (go_simp;done)))|((with_reducible refine a0_ fun X Y=>?_);go_simp;refine Y _ ?_;clear Y X))
   refine a2_ [] ?_
   repeat' (first|(with_reducible first|apply a9_|apply a3_|apply a1_)|((with_reducible refine a0_ fun X Y=>?_);go_simp;refine Y _ ?_;clear Y X))
   refine a2_ [] ?_
   repeat' (first|(with_reducible first|apply a9_|apply a3_|apply b0_|apply a1_)|((with_reducible refine a5_ ?_ ?_);(focus (go_simp;done)))|((with_reducible refine a0_ fun X Y=>?_);go_simp;refine Y _ ?_;clear Y X))
   refine o0_ (fun p a w R=>⟨_,R.nilSl (d:=11) (sz:=1) rfl⟩) ?_
   go_simp
   repeat' (first|(with_reducible first|apply a9_|apply a3_|apply b0_|apply a8_|apply a1_|refine a2_ [] ?_)|((with_reducible refine a5_ ?_ ?_);(focus (go_simp;done)))|((with_reducible refine a0_ fun X Y=>?_);go_simp;(first|(refine ⟨_,gh,?_⟩)|skip);refine Y _ ?_;clear Y X))
   apply a9p [2,4,5,6,7,10,11] (fun k=>[(15,I k)]) (fun k=>([some (.box [g8_,g8_,I 0]),some (.box [g8_,g8_,I 0]),some (.box [.osl 3,.osl 4,I tm]),some (.arr 62 1 (decide (RV=[])) RV),some (.arr 148 3 true [])] : Hp))  (0)
   ·go_simp<;>exact rfl
   ·go_simp
   ·intro j hj K2 hK2
    exact absurd hj (Nat.not_lt_zero _)
   ·intro K2
    repeat' (first|(with_reducible first|apply a9_|apply a3_|apply c2_|apply d0_|apply b3_|apply b7_|apply a1_|refine a2_ [] ?_)|((with_reducible refine a5_ ?_ ?_);(focus (go_simp;done)))|((with_reducible refine a0_ fun X Y=>?_);go_simp;refine Y _ ?_;clear Y X))
    refine hK _ ?_
    go_simp
  ·have hpe2:¬tat w (1+k)=ByteArray.empty:=hpe
   have hwp:c1_ (tat w (1+k))=b2_ 32 (tat w (1+k)):=by unfold c1_;rw [if_neg hpe]
   rw [hwp] at hK gh HC HW
   generalize b2_ 32 (tat w (1+k))=W at *
   have hwl:=HW.out.1
   repeat' (first|(with_reducible first|apply a9_|apply a3_|apply b0_|apply a8_|apply a1_|refine a2_ [] ?_)|((with_reducible refine a7_ ?_ ?_);(focus (go_simp;done)))|((with_reducible refine a5_ ?_ ?_);(focus (go_simp;done)))|((with_reducible refine a0_ fun X Y=>?_);go_simp;(first|(with_reducible refine ⟨_,gc,?_⟩)|(refine ⟨_,gh,?_⟩)|skip);refine Y _ ?_;clear Y X))
   apply a9p [2,4,5,6,7,10,11] (fun k=>[(15,I k)]) (fun k=>([some (.box [g8_,g8_,I 0]),some (.box [g8_,g8_,I 0]),some (.box [.osl 3,.osl 4,I tm]),some (.arr 62 1 (decide (RV=[])) RV),some (.arr 148 3 true [])] : Hp))  (W.length)
   ·go_simp<;>exact rfl
   ·go_simp
   ·intro j hj K2 hK2
    obtain ⟨v1,v2,v3,v4,v5,v6⟩:=ixs (m:=j) (by omega)
    have hcj:=HC.out j hj
    have hsz:=HW.out.2 _ (List.getElem_mem hj)
    have gcut:=a3f (W[j]) 58 (by omega)
    have e58:((58:UInt8).toNat:Int)=58:=rfl
    rw [e58] at gcut
    rw [b8_ hj] at hcj
    generalize b2_ 58 W[j]=PP at *
    have hcj2:¬(1:Int) < PP.length:=by omega
    clear hsz hcj e58
    repeat' (first|(with_reducible first|apply a9_|apply a3_|apply b0_|apply a8_|apply b3_|apply a1_|refine a2_ [] ?_)|((with_reducible refine a7_ ?_ ?_);(focus (go_simp;done)))|((with_reducible refine a5_ ?_ ?_);(focus (go_simp;done)))|((with_reducible refine a0_ fun X Y=>?_);go_simp;(first|(with_reducible refine ⟨_,gcut,?_⟩)|skip);refine Y _ ?_;clear Y X))
    refine hK2 _ ?_
    go_simp
   ·intro K2
    clear HC HW
    repeat' (first|(with_reducible first|apply a9_|apply a3_|apply c2_|apply d0_|apply b3_|apply b7_|apply a1_|refine a2_ [] ?_)|((with_reducible refine a5_ ?_ ?_);(focus (go_simp;done)))|((with_reducible refine a0_ fun X Y=>?_);go_simp;refine Y _ ?_;clear Y X))
    refine hK _ ?_
    go_simp
 ·intro k hk HB HP K
  have hkl:k=w.length - 2:=by
   have:=HP.out
   simpa using this
  clear HB HP
  have hk1:1+k < w.length:=by omega
  have x1:1+(k:Int) < w.length:=by omega
  have x2:(1+(k:Int)).toNat=1+k:=by omega
  have x3:(0:Int)≤1+(k:Int):=by omega
  have x5:(w.length:Int) - 1=1+(k:Int):=by omega
  have x6:=c5_ (x:=1+(k:Int)) (by omega) (by omega)
  have qk:w[1+k]=tat w (1+k):=(b8_ hk1).symm
  have hz:=HZ.out w[1+k] (List.getElem_mem hk1)
  rw [qk] at hz
  have gc:=a8p (tat w (1+k)) (by omega)
  have hwl:=k4_ hz
  have hlast:k8_ w=c1_ (tat w (1+k)):=by
   unfold k8_
   rw [show w.length - 1=1+k by omega]
  rw [hlast] at HK ⊢
  have hany:=d0g HK.out
  have gh:=m0_ (c1_ (tat w (1+k))) ⟨#[]⟩ (by omega)
  rw [hany] at gh
  have hkq:f5_ ST (w.length - 2)=f5_ ST k:=by rw [hkl]
  rw [hkq]
  clear hkq hlast hany hkl
  have HW:=Lib.hid hwl
  clear hz HQ HZ hwl
  generalize f5_ ST k=RV at *
  by_cases hpe:tat w (1+k)=⟨#[]⟩
  ·have hpe2:tat w (1+k)=ByteArray.empty:=hpe
   have hwp:c1_ (tat w (1+k))=[]:=by unfold c1_;rw [if_pos hpe]
   rw [hwp] at gh ⊢
   clear hwp HW HK
   repeat' (with_reducible apply a9_)
   refine a2_ [] ?_
   repeat' (first|(with_reducible first|apply a9_|apply a3_|apply b0_|apply a8_|apply a1_)|((with_reducible refine a7_ ?_ ?_);(focus (go_simp;done)))|((with_reducible refine a0_ fun X Y=>?_);go_simp;refine Y _ ?_;clear Y X))
   refine a2_ [] ?_
   repeat' (first|(with_reducible first|apply a9_|apply a3_|apply a1_)|((with_reducible refine a0_ fun X Y=>?_);go_simp;refine Y _ ?_;clear Y X))
   refine a2_ [] ?_
   repeat' (first|(with_reducible first|apply a9_|apply a3_|apply b0_|apply a1_)|((with_reducible refine a5_ ?_ ?_);(focus (go_simp;done)))|((with_reducible refine a0_ fun X Y=>?_);go_simp;refine Y _ ?_;clear Y X))
   refine o0_ (fun p a w R=>⟨_,R.nilSl (d:=11) (sz:=1) rfl⟩) ?_
   go_simp
   repeat' (first|(with_reducible first|apply a9_|apply a3_|apply b0_|apply a8_|apply a1_|refine a2_ [] ?_)|((with_reducible refine a7_ ?_ ?_);(focus (go_simp;done)))|((with_reducible refine a5_ ?_ ?_);(focus (go_simp;done)))|((with_reducible refine a0_ fun X Y=>?_);go_simp;(first|(refine ⟨_,gh,?_⟩)|skip);refine Y _ ?_;clear Y X))
   apply a9p [2,4,5,7,11] (fun k=>[(12,I k)]) (fun k=>([some (.box [g8_,g8_,I 0]),some (.box [g8_,g8_,I 0]),some (.box [.osl 3,.osl 4,I tm]),some (.arr 62 1 (decide (RV=[])) RV),some (.arr 148 3 true [])] : Hp))  (0)
   ·go_simp<;>exact rfl
   ·go_simp
   ·intro j hj K2 hK2
    exact absurd hj (Nat.not_lt_zero _)
   ·intro K2
    repeat' (with_reducible apply a9_)
    refine f3_ 2 0 3 rfl rfl rfl ?_
    refine f3_ 2 1 4 rfl rfl rfl ?_
    repeat' (first|(with_reducible first|apply a9_|apply a3_|apply c2_|apply c4_|apply d0_|apply b7_|apply a1_|refine c3c rfl ?_|refine a2_ [] ?_)|((with_reducible refine a5_ ?_ ?_);(focus (go_simp;done)))|((with_reducible refine a0_ fun X Y=>?_);go_simp;refine Y _ ?_;clear Y X))
    go_simp
    rfl
  ·have hpe2:¬tat w (1+k)=ByteArray.empty:=hpe
   have hwp:c1_ (tat w (1+k))=b2_ 32 (tat w (1+k)):=by unfold c1_;rw [if_neg hpe]
   rw [hwp] at gh HW HK ⊢
   generalize b2_ 32 (tat w (1+k))=W at *
   have hwl:=HW.out.1
   have e1:tkK W 0=[]:=rfl
   repeat' (first|(with_reducible first|apply a9_|apply a3_|apply b0_|apply a8_|apply a1_|refine a2_ [] ?_)|((with_reducible refine a7_ ?_ ?_);(focus (go_simp;done)))|((with_reducible refine a5_ ?_ ?_);(focus (go_simp;done)))|((with_reducible refine a0_ fun X Y=>?_);go_simp;(first|(with_reducible refine ⟨_,gc,?_⟩)|(refine ⟨_,gh,?_⟩)|skip);refine Y _ ?_;clear Y X))
   apply a9p [2,4,5,7,11] (fun k=>[(12,I k)]) (fun k=>([some (.box [g8_,g8_,I 0]),some (.box [g8_,g8_,I 0]),some (.box [.osl 3,.osl 4,I tm]),some (.arr 62 1 (decide (RV=[])) RV),some (.arr 148 3 (decide (tkK W k=[])) ((tkK W k).map Tk.av))] : Hp))  (W.length)
   ·go_simp<;>exact rfl
   ·go_simp
   ·intro j hj K2 hK2
    obtain ⟨v1,v2,v3,v4,v5,v6⟩:=ixs (m:=j) (by omega)
    have hbj:=HK.out j hj
    have gt:=a5r W[j] (HW.out.2 _ (List.getElem_mem hj))
    have hs:=a4b hj
    rw [b4a,c2s (by rw [←b8_ hj];exact hbj),←b8_ hj,hbj,Bool.not_false] at gt
    have hln:=a9j (l:=W) (k:=j) (by omega)
    have hb:(tkK W j).length+1≤1000000000:=by omega
    have qj:W[j]=tat W j:=(b8_ hj).symm
    have HS:=Lib.hid hs
    clear hs hln hbj
    generalize tkW (tat W j)=T at *
    repeat' (first|(with_reducible first|apply a9_|apply a3_|apply b0_|apply a8_|apply b3_|apply a1_|refine a2_ [] ?_)|((with_reducible refine a7_ ?_ ?_);(focus (go_simp;done)))|((with_reducible refine a5_ ?_ ?_);(focus (go_simp;done)))|((with_reducible refine a0_ fun X Y=>?_);go_simp;(first|(with_reducible refine ⟨_,gt,?_⟩)|skip);refine Y _ ?_;clear Y X))
    refine hK2 _ ?_
    rw [HS.out]
    go_simp
   ·intro K2
    repeat' (with_reducible apply a9_)
    refine f3_ 2 0 3 rfl rfl rfl ?_
    refine f3_ 2 1 4 rfl rfl rfl ?_
    repeat' (first|(with_reducible first|apply a9_|apply a3_|apply c2_|apply c4_|apply d0_|apply b7_|apply a1_|refine c3c rfl ?_|refine a2_ [] ?_)|((with_reducible refine a5_ ?_ ?_);(focus (go_simp;done)))|((with_reducible refine a0_ fun X Y=>?_);go_simp;refine Y _ ?_;clear Y X))
    go_simp
 ·intro HB K
  exact absurd (HB.out (w.length - 2) (by omega)) (by simp)
end Go.Proofs.YtoibondihdhnoaaGreatDoor
namespace Go.Proofs.YtoibondihdhnoaaGreatDoor
open Go.RowKit Go.Shelf
set_option maxRecDepth 100000
set_option maxHeartbeats 4000000
theorem c6b {p:ByteArray} (h:a6i p=true) : p≠⟨#[]⟩∧(t8_ (isT (c1_ p) ⟨#[]⟩) 0 (c1_ p).length=false→t8_ (fun j=>decide (1 < (b2_ 58 (tat (c1_ p) j)).length)) 0 (c1_ p).length=true):=by
 constructor
 ·intro e
  subst e
  cases h
 ·intro hn
  cases hc:t8_ (fun j=>decide (1 < (b2_ 58 (tat (c1_ p) j)).length)) 0 (c1_ p).length
  ·have:a6i p=false:=f1_ fun j hj=>by
    unfold b7y
    rw [Bool.or_eq_false_iff]
    constructor
    ·cases h1:isT (c1_ p) ⟨#[]⟩ j
     ·exact h1
     ·rw [f9_ hj h1] at hn
      cases hn
    ·cases h1:decide (1 < (b2_ 58 (tat (c1_ p) j)).length)
     ·rfl
     ·rw [f9_ (p:=fun j=>decide (1 < (b2_ 58 (tat (c1_ p) j)).length)) hj h1] at hc
      cases hc
   rw [this] at h
   cases h
  ·rfl
theorem a9l (t:ByteArray) (ht:t.size≤1000) (hb:b6h (b2_ 124 t)=true) : VC Tryz.prog 63 [S t] (.tup [.agg [g8_,g8_,I 0],I 7]):=by
 have g1:=a3f t 124 (by omega)
 have e124:((124:UInt8).toNat:Int)=124:=rfl
 rw [e124] at g1
 have hpl:=i5_ 124 t
 have hps:∀ p∈b2_ 124 t,p.size≤1000:=fun p hp=>Nat.le_trans (g2_ hp) ht
 generalize b2_ 124 t=w at *
 by_cases h3:3≤w.length
 rotate_left
 ·have h3i:(w.length:Int) < 3:=by omega
  clear hb hps hpl ht
  refine c0_ Tryz.func63 rfl (by kernel_rfl) (by kernel_rfl) rfl fun M0 w0=>?_
  simp only [Tryz.ntmps63,Tryz.results63,b4_]
  repeat' (first|(with_reducible first|apply a9_|apply a3_|apply b1_|apply c4_|apply a1_|refine a2_ [] ?_)|((with_reducible refine a7_ ?_ ?_);(focus (go_simp;done)))|((with_reducible refine a0_ fun X Y=>?_);go_simp;(first|(with_reducible refine ⟨_,g1,?_⟩)|skip);refine Y _ ?_;clear Y X))
  go_simp
 have h3i:¬(w.length:Int) < 3:=by omega
 have l0:0 < w.length:=by omega
 have ha:w[0]=tat w 0:=(b8_ (by omega)).symm
 have g2:=a3x (tat w 0) (hps _ (a2t (by omega)))
 unfold b6h at hb
 rw [decide_eq_true h3,Bool.not_true,Bool.false_or,q0_] at hb
 cases etm:a1t (tat w 0).data.toList with
 | none=>
  rw [etm] at g2
  simp only [b8v] at g2
  clear hb hps hpl ht
  refine c0_ Tryz.func63 rfl (by kernel_rfl) (by kernel_rfl) rfl fun M0 w0=>?_
  simp only [Tryz.ntmps63,Tryz.results63,b4_]
  repeat' (first|(with_reducible first|apply a9_|apply a3_|apply b1_|apply c4_|apply b0_|apply a1_|refine a2_ [] ?_)|((with_reducible refine a7_ ?_ ?_);(focus (go_simp;done)))|((with_reducible refine a5_ ?_ ?_);(focus (go_simp;done)))|((with_reducible refine a0_ fun X Y=>?_);go_simp;(first|(with_reducible refine ⟨_,g1,?_⟩)|(with_reducible refine ⟨_,g2,?_⟩)|skip);refine Y _ ?_;clear Y X))
  go_simp
 | some tm=>
  rw [etm] at g2 hb
  simp only [b8v] at g2
  simp only [Option.isSome_some,Bool.not_true,Bool.false_or] at hb
  have HBL:=Lib.hid hb
  have HQ:Hid (∀ k,k < w.length - 2→f5_ (w8_ w) (k+1)=f5_ (w8_ w) k++[[.sl 1 ((c1_ (tat w (1+k))).map p1_)]]∧(f5_ (w8_ w) k).length=k):=Lib.hid fun k hk=>by
   have h1:k < (w8_ w).q.length:=by rw [a3i];exact hk
   refine ⟨?_,t6_ (by omega)⟩
   rw [t5_ h1,a9i hk]
  have HZ:=Lib.hid hps
  have hw2:w.length≤2000:=by omega
  clear hb etm hps hpl ht
  have HV:=Lib.hid (fun k (hk:k≤w.length - 2)=>(t6_ (s:=w8_ w) (k:=k) (by rw [a3i];exact hk)))
  generalize w8_ w=ST at *
  have e0:f5_ ST 0=[]:=rfl
  refine c0_ Tryz.func63 rfl (by kernel_rfl) (by kernel_rfl) rfl fun M0 w0=>?_
  simp only [Tryz.ntmps63,Tryz.results63,b4_]
  repeat' (first|(with_reducible first|apply a9_|apply a3_|apply b0_|apply a8_|apply a1_|refine a2_ [] ?_)|((with_reducible refine a5_ ?_ ?_);(focus (go_simp;done)))|((with_reducible refine a0_ fun X Y=>?_);go_simp;(first|(with_reducible refine ⟨_,g1,?_⟩)|(with_reducible refine ⟨_,g2,?_⟩)|skip);refine Y _ ?_;clear Y X))
  refine o0_ (fun p a w R=>⟨_,R.nilCell (bi:=2) (j:=0) (e:=62) (sz:=1) rfl rfl (by decide)⟩) ?_
  go_simp
  refine o0_ (fun p a w R=>⟨_,R.nilCell (bi:=2) (j:=1) (e:=148) (sz:=3) rfl rfl (by decide)⟩) ?_
  go_simp
  apply s5_ [2,4,5,6,7] (fun k=>[(10,I (1+(k:Int)))]) (fun k=>([some (.box [g8_,g8_,I 0]),some (.box [g8_,g8_,I 0]),some (.box [.osl 3,.osl 4,I tm]),some (.arr 62 1 (decide (f5_ ST k=[])) (f5_ ST k)),some (.arr 148 3 true [])] : Hp)) (fun k=>decide (k=w.length - 2) || a6i (tat w (1+k))) (w.length - 1)
  ·go_simp<;>exact rfl
  ·go_simp
  ·intro k hk HB HP K hK
   have hpo:=HP.out
   simp only [Bool.or_eq_false_iff,decide_eq_false_iff_not] at hpo
   have hkl:k < w.length - 2:=by
    have:=hpo.1
    omega
   obtain ⟨hs,hl⟩:=HQ.out k hkl
   obtain ⟨hany,hcol⟩:=b4b hpo.2
   have hk1:1+k < w.length:=by omega
   have x1:1+(k:Int) < w.length:=by omega
   have x2:(1+(k:Int)).toNat=1+k:=by omega
   have x3:(0:Int)≤1+(k:Int):=by omega
   have x4:=c5_ (x:=1+(k:Int)+1) (by omega) (by omega)
   have x5:¬1+(k:Int)=(w.length:Int) - 1:=by omega
   have x6:=c5_ (x:=(w.length:Int) - 1) (by omega) (by omega)
   have x7:1+((k+1:Nat) : Int)=1+(k:Int)+1:=by omega
   have qk:w[1+k]=tat w (1+k):=(b8_ hk1).symm
   have hz:=HZ.out w[1+k] (List.getElem_mem hk1)
   rw [qk] at hz
   have gc:=a8p (tat w (1+k)) (by omega)
   have hwl:=k4_ hz
   have gh:=m0_ (c1_ (tat w (1+k))) ⟨#[]⟩ (by omega)
   rw [hany] at gh
   have hb:(f5_ ST k).length+1≤1000000000:=by omega
   have HS:=Lib.hid hs
   have HC:=Lib.hid hcol
   have HW:=Lib.hid hwl
   rw [x7,HS.out] at hK
   clear hpo hs hl hany hcol hz HB HP hwl HS
   generalize f5_ ST k=RV at *
   by_cases hpe:tat w (1+k)=⟨#[]⟩
   ·have hpe2:tat w (1+k)=ByteArray.empty:=hpe
    have hwp:c1_ (tat w (1+k))=[]:=by unfold c1_;rw [if_pos hpe]
    rw [hwp] at hK gh
    clear hwp HC HW
    repeat' (with_reducible apply a9_)
    refine a2_ [] ?_
    repeat' (first|(with_reducible first|apply a9_|apply a3_|apply b0_|apply a8_|apply a1_)|((with_reducible refine a7_ ?_ ?_);(focus (go_simp;done)))|((with_reducible refine a0_ fun X Y=>?_);go_simp;refine Y _ ?_;clear Y X))
    refine a2_ [] ?_
    repeat' (first|(with_reducible first|apply a9_|apply a3_|apply a1_)|((with_reducible refine a0_ fun X Y=>?_);go_simp;refine Y _ ?_;clear Y X))
    refine a2_ [] ?_
    repeat' (first|(with_reducible first|apply a9_|apply a3_|apply b0_|apply a1_)|((with_reducible refine a5_ ?_ ?_);(focus (go_simp;done)))|((with_reducible refine a0_ fun X Y=>?_);go_simp;refine Y _ ?_;clear Y X))
    refine o0_ (fun p a w R=>⟨_,R.nilSl (d:=11) (sz:=1) rfl⟩) ?_
    go_simp
    repeat' (first|(with_reducible first|apply a9_|apply a3_|apply b0_|apply a8_|apply a1_|refine a2_ [] ?_)|((with_reducible refine a5_ ?_ ?_);(focus (go_simp;done)))|((with_reducible refine a0_ fun X Y=>?_);go_simp;(first|(refine ⟨_,gh,?_⟩)|skip);refine Y _ ?_;clear Y X))
    apply a9p [2,4,5,6,7,10,11] (fun k=>[(15,I k)]) (fun k=>([some (.box [g8_,g8_,I 0]),some (.box [g8_,g8_,I 0]),some (.box [.osl 3,.osl 4,I tm]),some (.arr 62 1 (decide (RV=[])) RV),some (.arr 148 3 true [])] : Hp))  (0)
    ·go_simp<;>exact rfl
    ·go_simp
    ·intro j hj K2 hK2
     exact absurd hj (Nat.not_lt_zero _)
    ·intro K2
     repeat' (first|(with_reducible first|apply a9_|apply a3_|apply c2_|apply d0_|apply b3_|apply b7_|apply a1_|refine a2_ [] ?_)|((with_reducible refine a5_ ?_ ?_);(focus (go_simp;done)))|((with_reducible refine a0_ fun X Y=>?_);go_simp;refine Y _ ?_;clear Y X))
     refine hK _ ?_
     go_simp
   ·have hpe2:¬tat w (1+k)=ByteArray.empty:=hpe
    have hwp:c1_ (tat w (1+k))=b2_ 32 (tat w (1+k)):=by unfold c1_;rw [if_neg hpe]
    rw [hwp] at hK gh HC HW
    generalize b2_ 32 (tat w (1+k))=W at *
    have hwl:=HW.out.1
    repeat' (first|(with_reducible first|apply a9_|apply a3_|apply b0_|apply a8_|apply a1_|refine a2_ [] ?_)|((with_reducible refine a7_ ?_ ?_);(focus (go_simp;done)))|((with_reducible refine a5_ ?_ ?_);(focus (go_simp;done)))|((with_reducible refine a0_ fun X Y=>?_);go_simp;(first|(with_reducible refine ⟨_,gc,?_⟩)|(refine ⟨_,gh,?_⟩)|skip);refine Y _ ?_;clear Y X))
    apply a9p [2,4,5,6,7,10,11] (fun k=>[(15,I k)]) (fun k=>([some (.box [g8_,g8_,I 0]),some (.box [g8_,g8_,I 0]),some (.box [.osl 3,.osl 4,I tm]),some (.arr 62 1 (decide (RV=[])) RV),some (.arr 148 3 true [])] : Hp))  (W.length)
    ·go_simp<;>exact rfl
    ·go_simp
    ·intro j hj K2 hK2
     obtain ⟨v1,v2,v3,v4,v5,v6⟩:=ixs (m:=j) (by omega)
     have hcj:=HC.out j hj
     have hsz:=HW.out.2 _ (List.getElem_mem hj)
     have gcut:=a3f (W[j]) 58 (by omega)
     have e58:((58:UInt8).toNat:Int)=58:=rfl
     rw [e58] at gcut
     rw [b8_ hj] at hcj
     generalize b2_ 58 W[j]=PP at *
     have hcj2:¬(1:Int) < PP.length:=by omega
     clear hsz hcj e58
     repeat' (first|(with_reducible first|apply a9_|apply a3_|apply b0_|apply a8_|apply b3_|apply a1_|refine a2_ [] ?_)|((with_reducible refine a7_ ?_ ?_);(focus (go_simp;done)))|((with_reducible refine a5_ ?_ ?_);(focus (go_simp;done)))|((with_reducible refine a0_ fun X Y=>?_);go_simp;(first|(with_reducible refine ⟨_,gcut,?_⟩)|skip);refine Y _ ?_;clear Y X))
     refine hK2 _ ?_
     go_simp
    ·intro K2
     clear HC HW
     repeat' (first|(with_reducible first|apply a9_|apply a3_|apply c2_|apply d0_|apply b3_|apply b7_|apply a1_|refine a2_ [] ?_)|((with_reducible refine a5_ ?_ ?_);(focus (go_simp;done)))|((with_reducible refine a0_ fun X Y=>?_);go_simp;refine Y _ ?_;clear Y X))
     refine hK _ ?_
     go_simp
  ·intro k hk HB HP K
   have hk1:1+k < w.length:=by omega
   have x1:1+(k:Int) < w.length:=by omega
   have x2:(1+(k:Int)).toNat=1+k:=by omega
   have x3:(0:Int)≤1+(k:Int):=by omega
   have qk:w[1+k]=tat w (1+k):=(b8_ hk1).symm
   have hz:=HZ.out w[1+k] (List.getElem_mem hk1)
   rw [qk] at hz
   have gc:=a8p (tat w (1+k)) (by omega)
   have hwl:=k4_ hz
   have gh:=m0_ (c1_ (tat w (1+k))) ⟨#[]⟩ (by omega)
   by_cases hkl:k=w.length - 2
   ·have x5:(w.length:Int) - 1=1+(k:Int):=by omega
    have x6:=c5_ (x:=1+(k:Int)) (by omega) (by omega)
    have hlast:k8_ w=c1_ (tat w (1+k)):=by
     unfold k8_
     rw [show w.length - 1=1+k by omega]
    have hbk:t8_ (fun j=>a3o (tat (c1_ (tat w (1+k))) j)) 0 (c1_ (tat w (1+k))).length=true:=by
     have:=HBL.out
     rw [hlast,f1_ (p:=fun k=>a6i (tat w (1+k))) (fun j hj=>by
      have:=HB.out j (by omega)
      simp only [Bool.or_eq_false_iff] at this
      exact this.2),Bool.false_or] at this
     exact this
    have hpe:¬tat w (1+k)=⟨#[]⟩:=by
     intro e
     rw [e] at hbk
     cases hbk
    have hpe2:¬tat w (1+k)=ByteArray.empty:=hpe
    have hwp:c1_ (tat w (1+k))=b2_ 32 (tat w (1+k)):=by unfold c1_;rw [if_neg hpe]
    rw [hwp] at gh hbk hwl
    have HW:=Lib.hid hwl
    have HK:=Lib.hid hbk
    clear hz HQ HZ hwl hlast HB HP HBL HV hkl hwp hbk
    generalize f5_ ST k=RV at *
    generalize b2_ 32 (tat w (1+k))=W at *
    have hwl:=HW.out.1
    cases hany:t8_ (isT W ⟨#[]⟩) 0 W.length
    ·rw [hany] at gh
     clear hany
     have e1:tkK W 0=[]:=rfl
     repeat' (first|(with_reducible first|apply a9_|apply a3_|apply b0_|apply a8_|apply a1_|refine a2_ [] ?_)|((with_reducible refine a7_ ?_ ?_);(focus (go_simp;done)))|((with_reducible refine a5_ ?_ ?_);(focus (go_simp;done)))|((with_reducible refine a0_ fun X Y=>?_);go_simp;(first|(with_reducible refine ⟨_,gc,?_⟩)|(refine ⟨_,gh,?_⟩)|skip);refine Y _ ?_;clear Y X))
     apply s5_ [2,4,5,7,11] (fun k=>[(12,I k)]) (fun k=>([some (.box [g8_,g8_,I 0]),some (.box [g8_,g8_,I 0]),some (.box [.osl 3,.osl 4,I tm]),some (.arr 62 1 (decide (RV=[])) RV),some (.arr 148 3 (decide (tkK W k=[])) ((tkK W k).map Tk.av))] : Hp)) (fun j=>a3o (tat W j)) (W.length)
     ·go_simp<;>exact rfl
     ·go_simp
     ·intro j hj HB2 HP2 K2 hK2
      obtain ⟨v1,v2,v3,v4,v5,v6⟩:=ixs (m:=j) (by omega)
      have hbj:a3o (tat W j)=false:=HP2.out
      have gt:=a5r W[j] (HW.out.2 _ (List.getElem_mem hj))
      have hs:=a4b hj
      rw [b4a,c2s (by rw [←b8_ hj];exact hbj),←b8_ hj,hbj,Bool.not_false] at gt
      have hln:=a9j (l:=W) (k:=j) (by omega)
      have hb:(tkK W j).length+1≤1000000000:=by omega
      have qj:W[j]=tat W j:=(b8_ hj).symm
      have HS:=Lib.hid hs
      clear hs hln hbj HB2 HP2
      generalize tkW (tat W j)=T at *
      repeat' (first|(with_reducible first|apply a9_|apply a3_|apply b0_|apply a8_|apply b3_|apply a1_|refine a2_ [] ?_)|((with_reducible refine a7_ ?_ ?_);(focus (go_simp;done)))|((with_reducible refine a5_ ?_ ?_);(focus (go_simp;done)))|((with_reducible refine a0_ fun X Y=>?_);go_simp;(first|(with_reducible refine ⟨_,gt,?_⟩)|skip);refine Y _ ?_;clear Y X))
      refine hK2 _ ?_
      rw [HS.out]
      go_simp
     ·intro j hj HB2 HP2 K2
      have hbj:a3o (tat W j)=true:=HP2.out
      have gt:=a5r W[j] (HW.out.2 _ (List.getElem_mem hj))
      rw [b4a,←b8_ hj,hbj,Bool.not_true] at gt
      have qj:W[j]=tat W j:=(b8_ hj).symm
      clear hbj HB2 HP2 HK HW
      generalize (tkR (b2_ 58 (tat W j))).1=T at *
      generalize tkK W j=TK at *
      repeat' (first|(with_reducible first|apply a9_|apply a3_|apply b1_|apply c4_|apply b0_|apply a8_|apply c7_|apply a1_|refine a2_ [] ?_)|((with_reducible refine a7_ ?_ ?_);(focus (go_simp;done)))|((with_reducible refine a0_ fun X Y=>?_);go_simp;(first|(with_reducible refine ⟨_,gt,?_⟩)|skip);refine Y _ ?_;clear Y X))
      go_simp
     ·intro HB2 K2
      have:=HK.out
      rw [f1_ HB2.out] at this
      cases this
    ·rw [hany] at gh
     clear hany HK
     repeat' (first|(with_reducible first|apply a9_|apply a3_|apply b1_|apply c4_|apply b0_|apply a8_|apply c7_|apply a1_|refine a2_ [] ?_)|((with_reducible refine a7_ ?_ ?_);(focus (go_simp;done)))|((with_reducible refine a0_ fun X Y=>?_);go_simp;(first|(with_reducible refine ⟨_,gc,?_⟩)|(refine ⟨_,gh,?_⟩)|skip);refine Y _ ?_;clear Y X))
     go_simp
   ·have x5:¬1+(k:Int)=(w.length:Int) - 1:=by omega
    have x6:=c5_ (x:=(w.length:Int) - 1) (by omega) (by omega)
    have hbr:a6i (tat w (1+k))=true:=by
     have:=HP.out
     simpa [hkl] using this
    obtain ⟨hpe,hc⟩:=c6b hbr
    have hpe2:¬tat w (1+k)=ByteArray.empty:=hpe
    have hwp:c1_ (tat w (1+k))=b2_ 32 (tat w (1+k)):=by unfold c1_;rw [if_neg hpe]
    rw [hwp] at gh hc hwl
    have HW:=Lib.hid hwl
    have HC:=Lib.hid hc
    clear hz HQ HZ hwl HB HP HBL HV hkl hwp hc hbr
    generalize f5_ ST k=RV at *
    generalize b2_ 32 (tat w (1+k))=W at *
    have hwl:=HW.out.1
    cases hany:t8_ (isT W ⟨#[]⟩) 0 W.length
    ·rw [hany] at gh
     have HK:=Lib.hid (HC.out hany)
     clear hany HC
     repeat' (first|(with_reducible first|apply a9_|apply a3_|apply b0_|apply a8_|apply a1_|refine a2_ [] ?_)|((with_reducible refine a7_ ?_ ?_);(focus (go_simp;done)))|((with_reducible refine a5_ ?_ ?_);(focus (go_simp;done)))|((with_reducible refine a0_ fun X Y=>?_);go_simp;(first|(with_reducible refine ⟨_,gc,?_⟩)|(refine ⟨_,gh,?_⟩)|skip);refine Y _ ?_;clear Y X))
     apply s5_ [2,4,5,6,7,10,11] (fun k=>[(15,I k)]) (fun k=>([some (.box [g8_,g8_,I 0]),some (.box [g8_,g8_,I 0]),some (.box [.osl 3,.osl 4,I tm]),some (.arr 62 1 (decide (RV=[])) RV),some (.arr 148 3 true [])] : Hp)) (fun j=>decide (1 < (b2_ 58 (tat W j)).length)) (W.length)
     ·go_simp<;>exact rfl
     ·go_simp
     ·intro j hj HB2 HP2 K2 hK2
      obtain ⟨v1,v2,v3,v4,v5,v6⟩:=ixs (m:=j) (by omega)
      have hcj:=HP2.out
      simp only [decide_eq_false_iff_not] at hcj
      have hsz:=HW.out.2 _ (List.getElem_mem hj)
      have gcut:=a3f (W[j]) 58 (by omega)
      have e58:((58:UInt8).toNat:Int)=58:=rfl
      rw [e58] at gcut
      rw [b8_ hj] at hcj
      clear HB2 HP2 HK
      generalize b2_ 58 W[j]=PP at *
      have hcj2:¬(1:Int) < PP.length:=by omega
      clear hsz hcj e58
      repeat' (first|(with_reducible first|apply a9_|apply a3_|apply b0_|apply a8_|apply b3_|apply a1_|refine a2_ [] ?_)|((with_reducible refine a7_ ?_ ?_);(focus (go_simp;done)))|((with_reducible refine a5_ ?_ ?_);(focus (go_simp;done)))|((with_reducible refine a0_ fun X Y=>?_);go_simp;(first|(with_reducible refine ⟨_,gcut,?_⟩)|skip);refine Y _ ?_;clear Y X))
      refine hK2 _ ?_
      go_simp
     ·intro j hj HB2 HP2 K2
      have hcj:=HP2.out
      simp only [decide_eq_true_eq] at hcj
      have hsz:=HW.out.2 _ (List.getElem_mem hj)
      have gcut:=a3f (W[j]) 58 (by omega)
      have e58:((58:UInt8).toNat:Int)=58:=rfl
      rw [e58] at gcut
      rw [b8_ hj] at hcj
      clear HB2 HP2 HK
      generalize b2_ 58 W[j]=PP at *
      have hcj2:(1:Int) < PP.length:=by omega
      clear hsz hcj e58
      repeat' (first|(with_reducible first|apply a9_|apply a3_|apply b1_|apply c4_|apply b0_|apply a8_|apply c7_|apply a1_|refine a2_ [] ?_)|((with_reducible refine a7_ ?_ ?_);(focus (go_simp;done)))|((with_reducible refine a0_ fun X Y=>?_);go_simp;(first|(with_reducible refine ⟨_,gcut,?_⟩)|skip);refine Y _ ?_;clear Y X))
      go_simp
     ·intro HB2 K2
      have:=HK.out
      rw [f1_ HB2.out] at this
      cases this
    ·rw [hany] at gh
     clear hany HC
     repeat' (first|(with_reducible first|apply a9_|apply a3_|apply b1_|apply c4_|apply b0_|apply a8_|apply c7_|apply a1_|refine a2_ [] ?_)|((with_reducible refine a7_ ?_ ?_);(focus (go_simp;done)))|((with_reducible refine a0_ fun X Y=>?_);go_simp;(first|(with_reducible refine ⟨_,gc,?_⟩)|(refine ⟨_,gh,?_⟩)|skip);refine Y _ ?_;clear Y X))
     go_simp
  ·intro HB K
   exact absurd (HB.out (w.length - 2) (by omega)) (by simp)
end Go.Proofs.YtoibondihdhnoaaGreatDoor
