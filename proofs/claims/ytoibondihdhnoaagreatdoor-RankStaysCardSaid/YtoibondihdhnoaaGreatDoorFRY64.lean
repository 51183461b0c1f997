/- Texts in one: Walks: stays and waits, as the reference has them. -/
import Derived.Test.YtoibondihdhnoaaGreatDoorFRY56
namespace Go.Proofs.YtoibondihdhnoaaGreatDoor
open Go.RowKit
set_option maxRecDepth 100000
set_option maxHeartbeats 4000000
theorem Dj {l:List Ev} {k:Nat} (h:k < l.length) : l.drop k=aB l k::l.drop (k+1):=by
 rw [kq h];exact List.drop_eq_getElem_cons h
def stN (l:List Ev) : Nat→List Sy
 | 0=>[]
 | k+1=>if (aB l k).kind=0 then stN l k++[kr (aB l k).car (k+1) (l.drop (k+1)) ⟨(aB l k).car,k,-1,0⟩] else stN l k
theorem H8 (l:List Ev) : ∀ k,k≤l.length→stN l k++kt k (l.drop k)=kt 0 l
 | 0,_=>by simp [stN]
 | k+1,h=>by
  have ih:=H8 l k (by omega);rw [Dj (by omega:k < l.length),kt] at ih;rw [stN];by_cases h0:(aB l k).kind=0
  ·rw [if_neg (by simpa using h0)] at ih;rw [if_pos h0,←ih,List.append_assoc];rfl
  ·rw [if_pos h0] at ih;rw [if_neg h0];exact ih
theorem H9 (l:List Ev) : stN l l.length=kt 0 l:=by
 have:=H8 l l.length (Nat.le_refl _);rw [List.drop_length] at this;simpa [kt] using this
theorem Dk (l:List Ev) : ∀ k,(stN l k).length≤k
 | 0=>by simp [stN]
 | k+1=>by
  have:=Dk l k;rw [stN];split
  ·rw [List.length_append,List.length_singleton];omega
  ·omega
theorem PI (l:List Ev) (hl:l.length≤1000000) : VC Tryz.prog 42 [cF l] (.sl 4 ((kt 0 l).map Sy.av)):=by
 rw [←H9];have e0:stN l 0=[]:=rfl;refine CJ Tryz.func42 rfl (by kernel_rfl) (by kernel_rfl) rfl fun M0 w0=>?_;simp only [Tryz.ntmps42,Tryz.results42,aC];repeat' first|(with_reducible first|apply af|apply ae|apply az|apply aa|refine ah [3] ?_)|((with_reducible refine ab fun X Z=>?_);go_simp;refine Z _ ?_;clear Z X)
 apply k8 [0] (fun k=>[(4,I k),(3,.osl 0)]) (fun k=>([some (.arr 167 4 (decide (stN l k=[])) ((stN l k).map Sy.av))] : Hp))  (l.length)
 ·go_simp<;>exact rfl
 ·go_simp
 ·intro k hk K hK;obtain ⟨w1,w2,w3,w4,w5,w6⟩:=ixs (m:=k) (by omega);have hs:stN l (k+1)=if (aB l k).kind=0 then stN l k++[kr (aB l k).car (k+1) (l.drop (k+1)) ⟨(aB l k).car,k,-1,0⟩] else stN l k:=rfl
  have hb:(stN l k).length+1≤1000000000:=by have:=Dk l k;omega
  clear e0;by_cases h0:(aB l k).kind=0
  ·rw [if_pos h0] at hs;obtain ⟨Y,hY⟩ : ∃ Y,kr (aB l k).car (k+1) (l.drop (k+1)) ⟨(aB l k).car,k,-1,0⟩=Y:=⟨_,rfl⟩
   rw [hY] at hs;have HS:=Lib.hid hs;have HY:=Lib.hid hY;clear hs hY;generalize stN l k=ST at *;obtain ⟨c,hc⟩ : ∃ c,(aB l k).car=c:=⟨_,rfl⟩
   rw [hc] at HY;repeat' first|(with_reducible first|apply af|apply ae|apply ao|apply az|apply aa|refine ah [] ?_)|((with_reducible refine au ?_ ?_);(focus (go_simp;done)))|((with_reducible refine aj ?_ ?_);(focus (go_simp;done)))|((with_reducible refine ab fun X Z=>?_);go_simp;refine Z _ ?_;clear Z X)
   apply lr (α:=Nat×Sy) [0,3,4,5] (fun (x:Nat×Sy)=>[(6,I (x.1:Int))]) (fun (x:Nat×Sy)=>([some (.arr 167 4 (decide (ST=[])) (ST.map Sy.av)),some (.box [S x.2.car,I x.2.came,I x.2.went,I x.2.decl])] : Hp)) (fun (x:Nat×Sy)=>x.1≤l.length∧0≤x.2.decl∧x.2.decl≤x.1∧x.2.car=c∧Hid (kr c x.1 (l.drop x.1) x.2=Y)) (fun (x:Nat×Sy)=>l.length - x.1) ((k+1,(⟨c,(k:Int),-1,0⟩ : Sy))) ⟨hk,Int.le_refl _,by simp only;omega,rfl,HY⟩
   ·(go_simp<;>exact rfl)
   ·go_simp
   rintro ⟨j,⟨yc,ya,yw,yd⟩⟩ ⟨hj,uH,rp,H_,HG⟩ K2 gP;simp only at hj uH rp H_ HG gP ⊢;subst H_;obtain ⟨v1,v2,v3,v4,v5,v6⟩:=ixs (m:=j) (by omega);have Sj:=fM (x:=yd+1) (by omega) (by omega);by_cases bB:j < l.length
   ·have hg:=HG.out;rw [Dj bB,kr] at hg;by_cases gG:(aB l j).car=yc
    ·rw [if_neg (by simpa using gG)] at hg;by_cases l7:(aB l j).kind=0
     ·rw [if_pos l7] at hg;subst hg;clear HG HY;repeat' first|(with_reducible first|apply af|apply ae|apply bE|apply ao|apply bF|apply az|apply aY|apply bG|apply aa|refine Nw rfl ?_|refine ah [] ?_|apply aP)|((with_reducible refine au ?_ ?_);(focus (go_simp;done)))|((with_reducible refine aj ?_ ?_);(focus (go_simp;done)))|((with_reducible first|refine ab fun X Z=>?_|refine aO fun X Z=>?_);go_simp;refine Z _ ?_;clear Z X)|((refine mg 8 8 [] rfl (by kernel_rfl) (by kernel_rfl) ?_);simp only [List.take,List.drop])
      refine hK _ ?_;rw [HS.out];go_simp
     ·rw [if_neg l7] at hg;unfold gA at hg;simp only at hg;by_cases cw:(aB l j).kind=2
      ·rw [if_neg (by omega),if_pos cw] at hg;have j9:=Lib.hid hg;clear HG hg;repeat' first|(with_reducible first|apply af|apply ae|apply ao|apply az|apply aY|apply aa|refine ah [] ?_|apply aP)|((with_reducible refine au ?_ ?_);(focus (go_simp;done)))|((with_reducible refine aj ?_ ?_);(focus (go_simp;done)))|((with_reducible first|refine ab fun X Z=>?_|refine aO fun X Z=>?_);go_simp;refine Z _ ?_;clear Z X)|((refine mg 8 8 [] rfl (by kernel_rfl) (by kernel_rfl) ?_);simp only [List.take,List.drop])
       refine gP _ (j+1,⟨yc,ya,yw,yd+1⟩) ⟨bB,by simp only;omega,by simp only;omega,rfl,j9⟩ (by simp only;omega) ?_;go_simp
      by_cases iA:(aB l j).kind=1
      ·rw [if_pos iA] at hg;have j9:=Lib.hid hg;clear HG hg;repeat' first|(with_reducible first|apply af|apply ae|apply ao|apply az|apply aY|apply aa|refine ah [] ?_|apply aP)|((with_reducible refine au ?_ ?_);(focus (go_simp;done)))|((with_reducible refine aj ?_ ?_);(focus (go_simp;done)))|((with_reducible first|refine ab fun X Z=>?_|refine aO fun X Z=>?_);go_simp;refine Z _ ?_;clear Z X)|((refine mg 8 8 [] rfl (by kernel_rfl) (by kernel_rfl) ?_);simp only [List.take,List.drop])
       refine gP _ (j+1,⟨yc,ya,j,yd⟩) ⟨bB,uH,by simp only;omega,rfl,j9⟩ (by simp only;omega) ?_;go_simp
      by_cases lg:(aB l j).kind=3
      ·rw [if_neg iA,if_neg cw,if_pos lg] at hg;have j9:=Lib.hid hg;clear HG hg;repeat' first|(with_reducible first|apply af|apply ae|apply ao|apply az|apply aY|apply aa|refine ah [] ?_|apply aP)|((with_reducible refine au ?_ ?_);(focus (go_simp;done)))|((with_reducible refine aj ?_ ?_);(focus (go_simp;done)))|((with_reducible first|refine ab fun X Z=>?_|refine aO fun X Z=>?_);go_simp;refine Z _ ?_;clear Z X)|((refine mg 8 8 [] rfl (by kernel_rfl) (by kernel_rfl) ?_);simp only [List.take,List.drop])
       refine gP _ (j+1,⟨yc,ya,j,yd⟩) ⟨bB,uH,by simp only;omega,rfl,j9⟩ (by simp only;omega) ?_;go_simp
      by_cases vr:(aB l j).kind=5
      ·rw [if_neg iA,if_neg cw,if_neg lg,if_pos vr] at hg;have j9:=Lib.hid hg;clear HG hg;repeat' first|(with_reducible first|apply af|apply ae|apply ao|apply az|apply aY|apply aa|refine ah [] ?_|apply aP)|((with_reducible refine au ?_ ?_);(focus (go_simp;done)))|((with_reducible refine aj ?_ ?_);(focus (go_simp;done)))|((with_reducible first|refine ab fun X Z=>?_|refine aO fun X Z=>?_);go_simp;refine Z _ ?_;clear Z X)|((refine mg 8 8 [] rfl (by kernel_rfl) (by kernel_rfl) ?_);simp only [List.take,List.drop])
       refine gP _ (j+1,⟨yc,ya,-1,yd⟩) ⟨bB,uH,by simp only;omega,rfl,j9⟩ (by simp only;omega) ?_;go_simp
      ·rw [if_neg iA,if_neg cw,if_neg lg,if_neg vr] at hg;have j9:=Lib.hid hg;clear HG hg;repeat' first|(with_reducible first|apply af|apply ae|apply ao|apply az|apply aY|apply aa|refine ah [] ?_|apply aP)|((with_reducible refine au ?_ ?_);(focus (go_simp;done)))|((with_reducible refine aj ?_ ?_);(focus (go_simp;done)))|((with_reducible first|refine ab fun X Z=>?_|refine aO fun X Z=>?_);go_simp;refine Z _ ?_;clear Z X)|((refine mg 8 8 [] rfl (by kernel_rfl) (by kernel_rfl) ?_);simp only [List.take,List.drop])
       refine gP _ (j+1,⟨yc,ya,yw,yd⟩) ⟨bB,uH,by simp only;omega,rfl,j9⟩ (by simp only;omega) ?_;go_simp
    ·rw [if_pos gG] at hg;have j9:=Lib.hid hg;clear HG hg;repeat' first|(with_reducible first|apply af|apply ae|apply bE|apply ao|apply bF|apply az|apply bG|apply aa|refine ah [] ?_|apply aP)|((with_reducible refine au ?_ ?_);(focus (go_simp;done)))|((with_reducible first|refine ab fun X Z=>?_|refine aO fun X Z=>?_);go_simp;refine Z _ ?_;clear Z X)|((refine mg 8 8 [] rfl (by kernel_rfl) (by kernel_rfl) ?_);simp only [List.take,List.drop])
     refine gP _ (j+1,⟨yc,ya,yw,yd⟩) ⟨bB,uH,by simp only;omega,rfl,j9⟩ (by simp only;omega) ?_;go_simp
   ·obtain rfl:j=l.length:=by omega
    have hg:=HG.out;rw [List.drop_length,kr] at hg;subst hg;clear HG HY;repeat' first|(with_reducible first|apply af|apply ae|apply bE|apply bF|apply aY|apply bG|apply aa|refine ah [] ?_)|((with_reducible refine aj ?_ ?_);(focus (go_simp;done)))|((with_reducible refine ab fun X Z=>?_);go_simp;refine Z _ ?_;clear Z X)
    refine hK _ ?_;rw [HS.out];go_simp
  ·rw [if_neg h0] at hs;have HS:=Lib.hid hs;clear hs;repeat' first|(with_reducible first|apply af|apply ae|apply bE|apply ao|apply bF|apply az|apply bG|apply aa|refine ah [] ?_)|((with_reducible refine au ?_ ?_);(focus (go_simp;done)))|((with_reducible refine ab fun X Z=>?_);go_simp;refine Z _ ?_;clear Z X)
   refine hK _ ?_;rw [HS.out];go_simp
 ·intro K;clear e0;refine nU 3 0 rfl rfl ?_;repeat' first|(with_reducible first|apply af|apply ae|apply bE|apply aw|apply bF|apply bG|apply aa|refine ah [] ?_)|((with_reducible refine aj ?_ ?_);(focus (go_simp;done)))|((with_reducible refine ab fun X Z=>?_);go_simp;refine Z _ ?_;clear Z X)
  go_simp
def wtN (l:List Ev) : Nat→List Wt
 | 0=>[]
 | k+1=>wtN l k++(if (aB l k).kind=1 then [⟨(aB l k).car,(aB l k).rank,(aB l k).time - (aB l (oO l (aB l k).car (k+1))).time⟩] else [])
theorem Ia (l:List Ev) : ∀ k,k≤l.length→wtN l k++fI l k (l.drop k)=fI l 0 l
 | 0,_=>by simp [wtN]
 | k+1,h=>by
  have ih:=Ia l k (by omega);rw [Dj (by omega:k < l.length),fI] at ih;rw [wtN,←ih,List.append_assoc]
theorem Ib (l:List Ev) : wtN l l.length=fI l 0 l:=by
 have:=Ia l l.length (Nat.le_refl _);rw [List.drop_length] at this;simpa [fI] using this
theorem Dl (l:List Ev) : ∀ k,(wtN l k).length≤k
 | 0=>by simp [wtN]
 | k+1=>by
  have:=Dl l k;rw [wtN,List.length_append];split
  ·rw [List.length_singleton];omega
  ·simp only [List.length_nil];omega
theorem PJ (l:List Ev) (hl:l.length≤1000000) (ht:∀ k,k < l.length→0≤(aB l k).time∧(aB l k).time≤604800) : VC Tryz.prog 44 [cF l] (.sl 3 ((fI l 0 l).map Wt.av)):=by
 rw [←Ib];have e0:wtN l 0=[]:=rfl;have HT:=Lib.hid ht;clear ht;refine CJ Tryz.func44 rfl (by kernel_rfl) (by kernel_rfl) rfl fun M0 w0=>?_;simp only [Tryz.ntmps44,Tryz.results44,aC];repeat' first|(with_reducible first|apply af|apply ae|apply az|apply aa|refine ah [3] ?_)|((with_reducible refine ab fun X Z=>?_);go_simp;refine Z _ ?_;clear Z X)
 apply k8 [0] (fun k=>[(4,I k),(3,.osl 0)]) (fun k=>([some (.arr 67 3 (decide (wtN l k=[])) ((wtN l k).map Wt.av))] : Hp))  (l.length)
 ·go_simp<;>exact rfl
 ·go_simp
 ·intro k hk K hK;obtain ⟨w1,w2,w3,w4,w5,w6⟩:=ixs (m:=k) (by omega);have hs:wtN l (k+1)=wtN l k++(if (aB l k).kind=1 then [⟨(aB l k).car,(aB l k).rank,(aB l k).time - (aB l (oO l (aB l k).car (k+1))).time⟩] else []):=rfl;have hb:(wtN l k).length+1≤1000000000:=by have:=Dl l k;omega
  clear e0;by_cases h1:(aB l k).kind=1
  ·rw [if_pos h1] at hs;obtain ⟨C,hC⟩ : ∃ C,oO l (aB l k).car (k+1)=C:=⟨_,rfl⟩
   rw [hC] at hs;have HS:=Lib.hid hs;have PK:=Lib.hid hC;clear hs hC;generalize wtN l k=WT at *;repeat' first|(with_reducible first|apply af|apply ae|apply ao|apply az|apply aa|refine ah [] ?_)|((with_reducible refine au ?_ ?_);(focus (go_simp;done)))|((with_reducible refine aj ?_ ?_);(focus (go_simp;done)))|((with_reducible refine ab fun X Z=>?_);go_simp;refine Z _ ?_;clear Z X)
   apply lr (α:=Nat) [0,3,4] (fun (x:Nat)=>[(5,I (x:Int))]) (fun (x:Nat)=>([some (.arr 67 3 (decide (WT=[])) (WT.map Wt.av))] : Hp)) (fun (x:Nat)=>x≤k∧Hid (oO l (aB l k).car (x+1)=C)) (fun (x:Nat)=>x) (k) ⟨Nat.le_refl _,PK⟩
   ·(go_simp<;>exact rfl)
   ·go_simp
   rintro j ⟨hj,HG⟩ K2 gP;obtain ⟨v1,v2,v3,v4,v5,v6⟩:=ixs (m:=j) (by omega);have hg:=HG.out;rw [oO] at hg;have bB:j < l.length:=by omega
   obtain ⟨t1,t2⟩:=HT.out k hk;obtain ⟨t3,t4⟩:=HT.out j bB;have Ic:=fM (x:=(aB l k).time - (aB l j).time) (by omega) (by omega);by_cases kL:j=0
   ·subst kL;have PL:C=0:=by
     rw [←hg];split<;>rfl
    subst PL;clear HG hg t1 t2 t3 t4;repeat' first|(with_reducible first|apply af|apply ae|apply bE|apply bF|apply aY|apply bG|apply aa|refine ah [] ?_|apply aP)|((with_reducible refine aj ?_ ?_);(focus (go_simp;done)))|((with_reducible first|refine ab fun X Z=>?_|refine aO fun X Z=>?_);go_simp;refine Z _ ?_;clear Z X)|((refine mg 23 23 [] rfl (by kernel_rfl) (by kernel_rfl) ?_);simp only [List.take,List.drop])|((refine mg 26 24 [] rfl (by kernel_rfl) (by kernel_rfl) ?_);simp only [List.take,List.drop])
    refine hK _ ?_;rw [HS.out];go_simp
   have Sk:(0:Int) < j:=by omega
   by_cases Ie:(aB l j).kind=0
   ·by_cases zL:(aB l j).car=(aB l k).car
    ·rw [if_pos (by simp [pQ,Ie,zL])] at hg;subst hg;clear HG t1 t2 t3 t4;repeat' first|(with_reducible first|apply af|apply ae|apply bE|apply bF|apply aY|apply bG|apply aa|refine ah [] ?_|apply aP)|((with_reducible refine aj ?_ ?_);(focus (go_simp;done)))|((with_reducible first|refine ab fun X Z=>?_|refine aO fun X Z=>?_);go_simp;refine Z _ ?_;clear Z X)|((refine mg 23 23 [] rfl (by kernel_rfl) (by kernel_rfl) ?_);simp only [List.take,List.drop])|((refine mg 26 24 [] rfl (by kernel_rfl) (by kernel_rfl) ?_);simp only [List.take,List.drop])|((apply CS rfl);(focus (go_simp<;>exact rfl));(focus (intro hb0;replace hb0:=hb0.out;go_simp<;>(exact rfl)));intro X Z;go_simp;refine Z _ ?_;clear Z X)|((apply ND rfl);(focus (go_simp<;>exact rfl));(focus (intro hb0 hb1;replace hb0:=hb0.out;replace hb1:=hb1.out;go_simp<;>(exact rfl)));intro X Z;go_simp;refine Z _ ?_;clear Z X)
     refine hK _ ?_;rw [HS.out];go_simp
    ·rw [if_neg (by simp [pQ,zL])] at hg;obtain ⟨i,rfl⟩ : ∃ i,j=i+1:=⟨j - 1,by omega⟩
     have j9:=Lib.hid hg;have PM:=fM (x:=((i+1:Nat) : Int) - 1) (by omega) (by omega);have vC:((i+1:Nat) : Int) - 1=(i:Int):=by omega
     have PN:=fM (x:=(i:Int)) (by omega) (by omega);clear HG hg t1 t2 t3 t4 Ic;repeat' first|(with_reducible first|apply af|apply ae|apply ao|apply az|apply aY|apply aa|refine ah [] ?_|apply aP)|((with_reducible refine au ?_ ?_);(focus (go_simp;done)))|((with_reducible first|refine ab fun X Z=>?_|refine aO fun X Z=>?_);go_simp;refine Z _ ?_;clear Z X)|((refine mg 23 23 [] rfl (by kernel_rfl) (by kernel_rfl) ?_);simp only [List.take,List.drop])|((apply CS rfl);(focus (go_simp<;>exact rfl));(focus (intro hb0;replace hb0:=hb0.out;go_simp<;>(exact rfl)));intro X Z;go_simp;refine Z _ ?_;clear Z X)
     refine gP _ i ⟨by omega,j9⟩ (by omega) ?_;go_simp
   ·rw [if_neg (by simp [pQ,Ie])] at hg;obtain ⟨i,rfl⟩ : ∃ i,j=i+1:=⟨j - 1,by omega⟩
    have j9:=Lib.hid hg;have PM:=fM (x:=((i+1:Nat) : Int) - 1) (by omega) (by omega);have vC:((i+1:Nat) : Int) - 1=(i:Int):=by omega
    have PN:=fM (x:=(i:Int)) (by omega) (by omega);clear HG hg t1 t2 t3 t4 Ic;repeat' first|(with_reducible first|apply af|apply ae|apply ao|apply az|apply aY|apply aa|refine ah [] ?_|apply aP)|((with_reducible refine au ?_ ?_);(focus (go_simp;done)))|((with_reducible first|refine ab fun X Z=>?_|refine aO fun X Z=>?_);go_simp;refine Z _ ?_;clear Z X)|((refine mg 23 23 [] rfl (by kernel_rfl) (by kernel_rfl) ?_);simp only [List.take,List.drop])|((apply CS rfl);(focus (go_simp<;>exact rfl));(focus (intro hb0;replace hb0:=hb0.out;go_simp<;>(exact rfl)));intro X Z;go_simp;refine Z _ ?_;clear Z X)
    refine gP _ i ⟨by omega,j9⟩ (by omega) ?_;go_simp
  ·rw [if_neg h1,List.append_nil] at hs;have HS:=Lib.hid hs;clear hs;repeat' first|(with_reducible first|apply af|apply ae|apply bE|apply ao|apply bF|apply az|apply bG|apply aa|refine ah [] ?_)|((with_reducible refine au ?_ ?_);(focus (go_simp;done)))|((with_reducible refine ab fun X Z=>?_);go_simp;refine Z _ ?_;clear Z X)
   refine hK _ ?_;rw [HS.out];go_simp
 ·intro K;clear e0;refine nU 3 0 rfl rfl ?_;repeat' first|(with_reducible first|apply af|apply ae|apply bE|apply aw|apply bF|apply bG|apply aa|refine ah [] ?_)|((with_reducible refine aj ?_ ?_);(focus (go_simp;done)))|((with_reducible refine ab fun X Z=>?_);go_simp;refine Z _ ?_;clear Z X)
  go_simp
end Go.Proofs.YtoibondihdhnoaaGreatDoor
