/- Texts in one: Walks: whether a text holds a byte. -/
import Derived.Test.YtoibondihdhnoaaGreatDoorFRB54
import Derived.Lib.Bytealg
import Derived.Lib.Strings
import Derived.Lib.Slices
import Derived.Lib.Walk
namespace Go.Proofs.YtoibondihdhnoaaGreatDoor
open Go.RowKit Go.Shelf
set_option maxRecDepth 100000
set_option maxHeartbeats 2000000
theorem b4c (s:ByteArray) (c:Int) (w:World) : Calls Tryz.prog 185 #[.string s,.int .u8 c] w fun e w'=>e = .returned (.int .i64 (Lib.indexByte s.data.toList c.toNat.toUInt8))∧w'=w:=by
 go_enter Tryz.func185,Tryz.ntmps185
 go_wp2
 rw [run_callFunc_extern Tryz.func198 (by kernel_rfl) (by kernel_rfl) (by kernel_rfl) (e:=Extern.BytealgIndexByte.indexByte) (by kernel_rfl),Lib.run_indexByteString]
 simp only [Result.andThen]
 rw [Oper.upon_value]
 go_wp2
 go_ret
 exact ⟨rfl,rfl⟩
theorem b4d (s:ByteArray) (c:UInt8) : VC Tryz.prog 185 [S s,.lit (.int .u8 c.toNat)] (I (Lib.indexByte s.data.toList c)):=
 b3f (by kernel_rfl) fun w M v1 v2 hM h1 h2=>by
  obtain rfl:=V0.lit_inv h1
  obtain rfl:=V0.lit_inv h2
  refine (b4c s c.toNat w).mono fun e w' ⟨he,hw⟩=>⟨_,he,?_,?_⟩
  ·rw [hw]
   exact Below.refl _ w
  ·have:((c.toNat:Int).toNat.toUInt8)=c:=by simp
   rw [this]
   exact .lit _
theorem c6c (s:ByteArray) (c:UInt8) : VC Tryz.prog 169 [S s,S ⟨#[c]⟩] (I (Lib.indexByte s.data.toList c)):=by
 have g:=b4d s c
 have e1:(⟨#[c]⟩ : ByteArray).size=1:=rfl
 have e2:d4_ ⟨#[c]⟩ 0=c:=rfl
 have hR:⟨#[c]⟩=s→Lib.indexByte s.data.toList c=0:=fun e=>by
  rw [←e]
  simp [Lib.indexByte]
 generalize Lib.indexByte s.data.toList c=R at *
 generalize hC:(⟨#[c]⟩ : ByteArray)=C at *
 by_cases h:C=s
 ·subst h
  obtain rfl:=hR rfl
  clear hR
  refine c0_ Tryz.func169 rfl (by kernel_rfl) (by kernel_rfl) rfl fun M0 w0=>?_
  simp only [Tryz.ntmps169,Tryz.results169,b4_]
  repeat' (first|(with_reducible first|apply a9_|apply a3_|apply b1_|apply c4_|apply a8_|apply c7_|apply a1_|refine a2_ [] ?_)|((with_reducible refine a7_ ?_ ?_);(focus (go_simp;done)))|((with_reducible refine a0_ fun X Y=>?_);go_simp;refine Y _ ?_;clear Y X))
  go_simp
 ·clear hR
  refine c0_ Tryz.func169 rfl (by kernel_rfl) (by kernel_rfl) rfl fun M0 w0=>?_
  simp only [Tryz.ntmps169,Tryz.results169,b4_]
  repeat' (first|(with_reducible first|apply a9_|apply a3_|apply b1_|apply c4_|apply a8_|apply c7_|apply a1_|refine a2_ [] ?_)|((with_reducible refine a7_ ?_ ?_);(focus (go_simp;done)))|((with_reducible refine a5_ ?_ ?_);(focus (go_simp;done)))|((with_reducible refine a0_ fun X Y=>?_);go_simp;(first|(with_reducible refine ⟨_,g,?_⟩)|skip);refine Y _ ?_;clear Y X))
  go_simp
theorem d0h (s:ByteArray) (c:UInt8) : VC Tryz.prog 155 [S s,S ⟨#[c]⟩] (I (Lib.indexByte s.data.toList c)):=by
 have g:=c6c s c
 generalize Lib.indexByte s.data.toList c=R at *
 refine c0_ Tryz.func155 rfl (by kernel_rfl) (by kernel_rfl) rfl fun M0 w0=>?_
 simp only [Tryz.ntmps155,Tryz.results155,b4_]
 repeat' (first|(with_reducible first|apply a9_|apply a3_|apply c4_|apply a1_|refine a2_ [] ?_)|((with_reducible refine a0_ fun X Y=>?_);go_simp;(first|(with_reducible refine ⟨_,g,?_⟩)|skip);refine Y _ ?_;clear Y X))
 go_simp
theorem b8k (s:ByteArray) (c:UInt8) : VC Tryz.prog 124 [S s,S ⟨#[c]⟩] (B (decide (0≤Lib.indexByte s.data.toList c))):=by
 have g:=d0h s c
 generalize Lib.indexByte s.data.toList c=R at *
 refine c0_ Tryz.func124 rfl (by kernel_rfl) (by kernel_rfl) rfl fun M0 w0=>?_
 simp only [Tryz.ntmps124,Tryz.results124,b4_]
 repeat' (first|(with_reducible first|apply a9_|apply a3_|apply c4_|apply a1_|refine a2_ [] ?_)|((with_reducible refine a0_ fun X Y=>?_);go_simp;(first|(with_reducible refine ⟨_,g,?_⟩)|skip);refine Y _ ?_;clear Y X))
 go_simp
end Go.Proofs.YtoibondihdhnoaaGreatDoor
namespace Go.Proofs.YtoibondihdhnoaaGreatDoor
open Go.RowKit Go.Shelf
set_option maxRecDepth 100000
set_option maxHeartbeats 2000000
theorem b1y (c:UInt8) : ∀ l:List UInt8,0≤Lib.indexByte l c↔c∈l
 | []=>by simp [Lib.indexByte]
 | x::r=>by
  have h:=b1y c r
  have hg:=Lib.indexByte_ge r c
  unfold Lib.indexByte
  by_cases hx:x=c
  ·subst hx
   simp
  ·have hx2:¬c=x:=fun e=>hx e.symm
   simp only [List.mem_cons,hx2,false_or,←h]
   simp only [beq_iff_eq,hx,if_false]
   split<;>omega
theorem d0i (x:List UInt8) {l:List (List UInt8)} (h:l≠[]) : (att x l).length=l.length:=by
 cases l with
 | nil=>exact absurd rfl h
 | cons a r=>rfl
theorem c2t (c:UInt8) : ∀ l:List UInt8,1 < (w6_ c l).length↔c∈l
 | []=>by simp [w6_]
 | x::r=>by
  have ih:=c2t c r
  have hn:=a4v c r
  rw [w6_]
  by_cases hx:x=c
  ·rw [if_pos hx]
   have:=List.length_pos_iff.2 hn
   simp only [List.length_cons,hx,List.mem_cons,true_or,iff_true]
   omega
  ·rw [if_neg hx,d0i _ hn,ih]
   have hx2:¬c=x:=fun e=>hx e.symm
   simp [hx2]
theorem b8l (c:UInt8) (s:ByteArray) : decide (0≤Lib.indexByte s.data.toList c)=decide (1 < (b2_ c s).length):=by
 unfold b2_
 rw [List.length_map]
 exact decide_eq_decide.2 ((b1y c _).trans (c2t c _).symm)
theorem y7_ (s:ByteArray) (hs:s.size≤1000000) : VC Tryz.prog 121 [S s] (p2_ (c1_ s)):=by
 have g:=y0_ s 32 hs
 by_cases h:s=⟨#[]⟩
 ·subst h
  refine (?_:VC Tryz.prog 121 [S ⟨#[]⟩] g8_).weak fun w M v hv=>by
   rw [hv.lit_inv]
   exact .slNil _ _ _
  refine c0_ Tryz.func121 rfl (by kernel_rfl) (by kernel_rfl) rfl fun M0 w0=>?_
  simp only [Tryz.ntmps121,Tryz.results121,b4_]
  repeat' (first|(with_reducible first|apply a9_|apply a3_|apply b1_|apply c4_|apply a1_|refine a2_ [] ?_)|((with_reducible refine a7_ ?_ ?_);(focus (go_simp;done)))|((with_reducible refine a0_ fun X Y=>?_);go_simp;refine Y _ ?_;clear Y X))
  go_simp
 ·have h2:¬s=ByteArray.empty:=h
  have e:c1_ s=b2_ 32 s:=by unfold c1_;rw [if_neg h]
  rw [e]
  generalize b2_ 32 s=W at *
  refine c0_ Tryz.func121 rfl (by kernel_rfl) (by kernel_rfl) rfl fun M0 w0=>?_
  simp only [Tryz.ntmps121,Tryz.results121,b4_]
  repeat' (first|(with_reducible first|apply a9_|apply a3_|apply c4_|apply b0_|apply a1_|refine a2_ [] ?_)|((with_reducible refine a5_ ?_ ?_);(focus (go_simp;done)))|((with_reducible refine a0_ fun X Y=>?_);go_simp;(first|(refine ⟨_,g,?_⟩)|skip);refine Y _ ?_;clear Y X))
  go_simp
theorem c7l (w:ByteArray) : VC Tryz.prog 123 [S w] (B (b7y w)):=by
 have g:=b8k w 58
 rw [b8l] at g
 unfold b7y
 generalize decide (1 < (b2_ 58 w).length)=R at *
 by_cases h:w=⟨#[]⟩
 ·subst h
  refine c0_ Tryz.func123 rfl (by kernel_rfl) (by kernel_rfl) rfl fun M0 w0=>?_
  simp only [Tryz.ntmps123,Tryz.results123,b4_]
  repeat' (first|(with_reducible first|apply a9_|apply a3_|apply c4_|apply a1_|refine a2_ [] ?_)|((with_reducible refine a0_ fun X Y=>?_);go_simp;refine Y _ ?_;clear Y X))
  go_simp
 ·have h2:¬w=ByteArray.empty:=h
  refine c0_ Tryz.func123 rfl (by kernel_rfl) (by kernel_rfl) rfl fun M0 w0=>?_
  simp only [Tryz.ntmps123,Tryz.results123,b4_]
  repeat' (first|(with_reducible first|apply a9_|apply a3_|apply c4_|apply a1_|refine a2_ [] ?_)|((with_reducible refine a0_ fun X Y=>?_);go_simp;(first|(with_reducible refine ⟨_,g,?_⟩)|skip);refine Y _ ?_;clear Y X))
  go_simp
theorem d4x (l:List ByteArray) (hl:l.length≤1000000) : VC Tryz.prog 154 [p2_ l,.lit (.func (.func 123) #[] #[])] (I (ixP (fun j=>b7y (tat l j)) 0 l.length)):=by
 obtain ⟨R,hR⟩ : ∃ R,ixP (fun j=>b7y (tat l j)) 0 l.length=R:=⟨_,rfl⟩
 rw [hR]
 have HR:=Lib.hid hR
 clear hR
 refine c0_ Tryz.func154 rfl (by kernel_rfl) (by kernel_rfl) rfl fun M0 w0=>?_
 simp only [Tryz.ntmps154,Tryz.results154,b4_]
 repeat' (first|(with_reducible first|apply a9_|apply a3_|apply a8_|apply a1_|refine a2_ [] ?_)|((with_reducible refine a0_ fun X Y=>?_);go_simp;refine Y _ ?_;clear Y X))
 apply s5_ [0,1,7] (fun k=>[(8,I k)]) (fun k=>([] : Hp)) (fun j=>b7y (tat l j)) (l.length)
 ·go_simp<;>exact rfl
 ·go_simp
 ·intro k hk HB HP K hK
  obtain ⟨w1,w2,w3,w4,w5,w6⟩:=ixs (m:=k) (by omega)
  have g:=c7l (tat l k)
  have hp:=HP.out
  rw [hp] at g
  have qk:l[k]=tat l k:=(b8_ hk).symm
  clear hp
  repeat' (first|(with_reducible first|apply a9_|apply a3_|apply b0_|apply a8_|apply b3_|apply a1_|refine a2_ [] ?_)|((with_reducible refine a7_ ?_ ?_);(focus (go_simp;done)))|((with_reducible refine a5_ ?_ ?_);(focus (go_simp;done)))|((with_reducible refine a0_ fun X Y=>?_);go_simp;(first|(with_reducible refine ⟨_,g,?_⟩)|skip);refine Y _ ?_;clear Y X))
  refine hK _ ?_
  go_simp
 ·intro k hk HB HP K
  have g:=c7l (tat l k)
  have hp:=HP.out
  rw [hp] at g
  have qk:l[k]=tat l k:=(b8_ hk).symm
  clear hp
  have e:=HR.out
  rw [n0_ hk HB.out HP.out] at e
  subst e
  repeat' (first|(with_reducible first|apply a9_|apply a3_|apply b1_|apply c4_|apply b0_|apply a8_|apply c7_|apply a1_|refine a2_ [] ?_)|((with_reducible refine a7_ ?_ ?_);(focus (go_simp;done)))|((with_reducible refine a0_ fun X Y=>?_);go_simp;(first|(with_reducible refine ⟨_,g,?_⟩)|skip);refine Y _ ?_;clear Y X))
  go_simp
 ·intro HB K
  have e:=HR.out
  rw [o4_ HB.out] at e
  subst e
  repeat' (first|(with_reducible first|apply a9_|apply a3_|apply c2_|apply c4_|apply d0_|apply b7_|apply a1_|refine a2_ [] ?_)|((with_reducible refine a5_ ?_ ?_);(focus (go_simp;done)))|((with_reducible refine a0_ fun X Y=>?_);go_simp;refine Y _ ?_;clear Y X))
  go_simp
theorem c2u (p:ByteArray) (hl:(c1_ p).length≤1000000) : VC Tryz.prog 122 [p2_ (c1_ p),.lit (.func (.func 123) #[] #[])] (B (a6i p)):=by
 have g:=d4x (c1_ p) hl
 unfold a6i
 rw [←a8a]
 generalize ixP (fun j=>b7y (tat (c1_ p) j)) 0 (c1_ p).length=R at *
 generalize c1_ p=W at *
 refine c0_ Tryz.func122 rfl (by kernel_rfl) (by kernel_rfl) rfl fun M0 w0=>?_
 simp only [Tryz.ntmps122,Tryz.results122,b4_]
 repeat' (first|(with_reducible first|apply a9_|apply a3_|apply c4_|apply a1_|refine a2_ [] ?_)|((with_reducible refine a0_ fun X Y=>?_);go_simp;(first|(refine ⟨_,g,?_⟩)|skip);refine Y _ ?_;clear Y X))
 go_simp
end Go.Proofs.YtoibondihdhnoaaGreatDoor
namespace Go.Proofs.YtoibondihdhnoaaGreatDoor
open Go.RowKit Go.Shelf
set_option maxRecDepth 100000
set_option maxHeartbeats 4000000
theorem a7k {p:ByteArray} (h:p.size≤100000) : (c1_ p).length≤100001∧∀ c∈c1_ p,c.size≤100000:=by
 unfold c1_
 split
 ·simp
 ·have:=i5_ 32 p
  exact ⟨by omega,fun c hc=>Nat.le_trans (g2_ hc) h⟩
theorem a2d (t:ByteArray) (ht:t.size≤100000) (hb:b6h (b2_ 124 t)=false) : VC Tryz.prog 62 [S t] (.tup [i0_ (w8_ (b2_ 124 t)),I 0]):=by
 have g1:=y0_ t 124 (by omega)
 have hpl:=i5_ 124 t
 have hps:∀ p∈b2_ 124 t,p.size≤100000:=fun p hp=>Nat.le_trans (g2_ hp) ht
 generalize b2_ 124 t=w at *
 unfold b6h at hb
 simp only [Bool.or_eq_false_iff,Bool.not_eq_false',decide_eq_true_eq] at hb
 obtain ⟨⟨⟨h3,hn⟩,hr⟩,hk⟩:=hb
 have hz0:(tat w 0).size≤100000:=hps _ (a2t (by omega))
 have g2:=n1_ (tat w 0) (by omega)
 rw [hn] at g2
 obtain ⟨tm,etm⟩ : ∃ tm,u9_ (tat w 0).data.toList=tm:=⟨_,rfl⟩
 rw [etm] at g2
 have ha:w[0]=tat w 0:=(b8_ (by omega)).symm
 have hst:i0_ (w8_ w) = .agg [.sl 1 ((f6_ (w8_ w).q).map fun l=>[AV.sl 1 l]),.sl 3 ((tkK (k8_ w) (k8_ w).length).map Tk.av),I tm]:=by
  have e2:(w8_ w).tk=tkK (k8_ w) (k8_ w).length:=by
   unfold tkK
   rw [List.take_length]
   rfl
  have e3:(w8_ w).time=tm:=etm
  rw [←e2,←e3]
 rw [hst]
 rw [←a5q,a3i]
 have HQ:Hid (∀ k,k < w.length - 2→f5_ (w8_ w) (k+1)=f5_ (w8_ w) k++[[.sl 1 ((c1_ (tat w (1+k))).map p1_)]]∧(f5_ (w8_ w) k).length=k∧a6i (tat w (1+k))=false):=Lib.hid fun k hk=>by
  have h1:k < (w8_ w).q.length:=by rw [a3i];exact hk
  have hb1:a6i (tat w (1+k))=false:=by
   cases hb:a6i (tat w (1+k))
   ·rfl
   ·rw [f9_ hk hb] at hr
    cases hr
  refine ⟨?_,t6_ (by omega),hb1⟩
  rw [t5_ h1,a9i hk]
 have HK:Hid (∀ k,k < (k8_ w).length→a3o (tat (k8_ w) k)=false):=Lib.hid fun k hk2=>by
  cases hb:a3o (tat (k8_ w) k)
  ·rfl
  ·rw [f9_ hk2 hb] at hk
   cases hk
 have HZ:=Lib.hid hps
 have hw2:w.length≤200000:=by omega
 have h3i:¬(w.length:Int) < 3:=by omega
 have l0:0 < w.length:=by omega
 have x6:=c5_ (x:=(w.length:Int) - 1) (by omega) (by omega)
 have x7:((w.length:Int) - 1).toNat=w.length - 1:=by omega
 have x8:(1:Int)≤(w.length:Int) - 1:=by omega
 have x9:1≤w.length - 1:=by omega
 clear hst hr hk etm hn hps hpl ht hz0
 generalize w8_ w=ST at *
 have e0:f5_ ST 0=[]:=rfl
 refine c0_ Tryz.func62 rfl (by kernel_rfl) (by kernel_rfl) rfl fun M0 w0=>?_
 simp only [Tryz.ntmps62,Tryz.results62,b4_]
 repeat' (first|(with_reducible first|apply a9_|apply a3_|apply b0_|apply a8_|apply a1_|refine a2_ [] ?_)|((with_reducible refine a5_ ?_ ?_);(focus (go_simp;done)))|((with_reducible refine a0_ fun X Y=>?_);go_simp;(first|(with_reducible refine ⟨_,g1,?_⟩)|(with_reducible refine ⟨_,g2,?_⟩)|skip);refine Y _ ?_;clear Y X))
 have hrow:(List.take (w.length - 1) (List.map p1_ w)).tail=((w.drop 1).take (w.length - 2)).map p1_:=by
  rw [←List.drop_one,List.drop_take,List.map_take,List.map_drop]
  rfl
 have hql:((w.drop 1).take (w.length - 2)).length=w.length - 2:=by
  simp only [List.length_take,List.length_drop]
  omega
 have hqa:∀ k (hk:k < ((w.drop 1).take (w.length - 2)).length),((w.drop 1).take (w.length - 2))[k]=tat w (1+k):=fun k hk=>by
  rw [List.getElem_take,List.getElem_drop,b8_]
 rw [hrow,show w.length - 1 - 1=w.length - 2 from rfl]
 have HA:=Lib.hid hqa
 clear hrow hqa
 generalize (w.drop 1).take (w.length - 2)=Q at *
 rw [←hql] at HQ ⊢
 have HQL:=Lib.hid hql
 clear hql
 refine o0_ (fun p a w R=>⟨_,R.nilCell (bi:=1) (j:=0) (e:=62) (sz:=1) rfl rfl (by decide)⟩) ?_
 go_simp
 refine o0_ (fun p a w R=>⟨_,R.nilCell (bi:=1) (j:=1) (e:=148) (sz:=3) rfl rfl (by decide)⟩) ?_
 go_simp
 apply a9p [2,4,7,43,44] (fun k=>[(45,I k)]) (fun k=>([some (.box [g8_,g8_,I 0]),some (.box [.osl 2,.osl 3,I tm]),some (.arr 62 1 (decide (f5_ ST k=[])) (f5_ ST k)),some (.arr 148 3 true [])] : Hp))  (Q.length)
 ·go_simp<;>exact rfl
 ·go_simp
 ·intro k hk K hK
  obtain ⟨w1,w2,w3,w4,w5,w6⟩:=ixs (m:=k) (by have:=HQL.out;omega)
  obtain ⟨hs,hl,hbr⟩:=HQ.out k hk
  have hk1:1+k < w.length:=by
   have:=HQL.out
   omega
  have hQ2:Q.length≤200000:=by
   have:=HQL.out
   omega
  have hz:=HZ.out w[1+k] (List.getElem_mem hk1)
  rw [←b8_ hk1] at hz
  have gw:=y7_ (tat w (1+k)) (by omega)
  have hwl:=a7k hz
  have gh:=c2u (tat w (1+k)) (by omega)
  rw [hbr] at gh
  have hb:(f5_ ST k).length+1≤1000000000:=by omega
  have qk:=HA.out k hk
  have HS:=Lib.hid hs
  rw [HS.out] at hK
  clear hs hl hz hwl HS hbr HQ HK HA
  generalize f5_ ST k=RV at *
  generalize c1_ (tat w (1+k))=W at *
  repeat' (first|(with_reducible first|apply a9_|apply a3_|apply b0_|apply a8_|apply b3_|apply a1_|refine a2_ [] ?_)|((with_reducible refine a7_ ?_ ?_);(focus (go_simp;done)))|((with_reducible refine a5_ ?_ ?_);(focus (go_simp;done)))|((with_reducible refine a0_ fun X Y=>?_);go_simp;(first|(refine ⟨_,gw,?_⟩)|(refine ⟨_,gh,?_⟩)|skip);refine Y _ ?_;clear Y X))
  refine hK _ ?_
  go_simp
 ·intro K
  obtain ⟨m,hm⟩ : ∃ m,m=w.length - 1:=⟨_,rfl⟩
  have hkk:m < w.length:=by omega
  have y1:(w.length:Int) - 1=(m:Int):=by omega
  have y2:=c5_ (x:=(m:Int)) (by omega) (by omega)
  have qk:w[m]=tat w m:=(b8_ hkk).symm
  have hz:=HZ.out w[m] (List.getElem_mem hkk)
  rw [qk] at hz
  have gw:=y7_ (tat w m) (by omega)
  have hwl:=a7k hz
  unfold k8_ at HK ⊢
  rw [←hm] at HK ⊢
  clear hm x6 x7 x8 x9 HQL
  have HW:=Lib.hid hwl
  clear hz HQ HA hwl HZ
  generalize c1_ (tat w m)=W at *
  have hwl:=HW.out.1
  generalize f5_ ST Q.length=RV at *
  have e1:tkK W 0=[]:=rfl
  repeat' (first|(with_reducible first|apply a9_|apply a3_|apply c2_|apply d0_|apply a8_|apply b7_|apply a1_|refine a2_ [] ?_)|((with_reducible refine a5_ ?_ ?_);(focus (go_simp;done)))|((with_reducible refine a0_ fun X Y=>?_);go_simp;(first|(refine ⟨_,gw,?_⟩)|skip);refine Y _ ?_;clear Y X))
  apply a9p [2,7,67,68] (fun k=>[(69,I k)]) (fun k=>([some (.box [g8_,g8_,I 0]),some (.box [.osl 2,.osl 3,I tm]),some (.arr 62 1 (decide (RV=[])) RV),some (.arr 148 3 (decide (tkK W k=[])) ((tkK W k).map Tk.av))] : Hp))  (W.length)
  ·go_simp<;>exact rfl
  ·go_simp
  ·intro j hj K2 hK2
   obtain ⟨v1,v2,v3,v4,v5,v6⟩:=ixs (m:=j) (by omega)
   have hbj:=HK.out j hj
   have hzj:=HW.out.2 _ (List.getElem_mem hj)
   have qj:W[j]=tat W j:=(b8_ hj).symm
   rw [qj] at hzj
   have gs:=y0_ (tat W j) 58 (by omega)
   have hs:=a4b hj
   have hln:=a9j (l:=W) (k:=j) (by omega)
   have hb:(tkK W j).length+1≤1000000000:=by omega
   have hps2:∀ p∈b2_ 58 (tat W j),p.size≤100000:=fun p hp=>Nat.le_trans (g2_ hp) hzj
   unfold a3o at hbj
   unfold tkW at hs
   simp only [Bool.or_eq_false_iff,Bool.not_eq_false',decide_eq_false_iff_not,decide_eq_true_eq] at hbj
   obtain ⟨⟨⟨b1,b2⟩,b3⟩,b4⟩:=hbj
   generalize b2_ 58 (tat W j)=PP at *
   have q0:PP[0]=tat PP 0:=(b8_ (by omega)).symm
   have q1:PP[1]=tat PP 1:=(b8_ (by omega)).symm
   have q2:PP[2]=tat PP 2:=(b8_ (by omega)).symm
   have z1:(tat PP 1).size≤100000:=by rw [←q1];exact hps2 _ (List.getElem_mem _)
   have z2:(tat PP 2).size≤100000:=by rw [←q2];exact hps2 _ (List.getElem_mem _)
   have g3:=n1_ (tat PP 1) (by omega)
   have g4:=n1_ (tat PP 2) (by omega)
   rw [b3] at g3
   rw [b4] at g4
   have b5:(PP.length:Int)=3:=by omega
   have b6:¬tat PP 0=ByteArray.empty:=b2
   have HS:=Lib.hid hs
   clear hs hln b3 b4 z1 z2 hps2 hzj
   generalize u9_ (tat PP 1).data.toList=N1 at *
   generalize u9_ (tat PP 2).data.toList=N2 at *
   repeat' (first|(with_reducible first|apply a9_|apply a3_|apply b0_|apply a8_|apply b3_|apply a1_|refine a2_ [] ?_|apply a6_)|((with_reducible refine a7_ ?_ ?_);(focus (go_simp;done)))|((with_reducible refine a5_ ?_ ?_);(focus (go_simp;done)))|((with_reducible first|refine a0_ fun X Y=>?_|refine a4_ fun X Y=>?_);go_simp;(first|(with_reducible refine ⟨_,gs,?_⟩)|(with_reducible refine ⟨_,g3,?_⟩)|(with_reducible refine ⟨_,g4,?_⟩)|skip);refine Y _ ?_;clear Y X)|((refine b9_ 12 9 [] rfl (by kernel_rfl) (by kernel_rfl) ?_);simp only [List.take,List.drop]))
   refine hK2 _ ?_
   rw [HS.out]
   go_simp
  ·intro K2
   repeat' (with_reducible apply a9_)
   refine f3_ 1 0 2 rfl rfl rfl ?_
   refine f3_ 1 1 3 rfl rfl rfl ?_
   repeat' (first|(with_reducible first|apply a9_|apply a3_|apply c2_|apply c4_|apply d0_|apply b7_|apply a1_|refine a2_ [] ?_)|((with_reducible refine a5_ ?_ ?_);(focus (go_simp;done)))|((with_reducible refine a0_ fun X Y=>?_);go_simp;refine Y _ ?_;clear Y X))
   go_simp
end Go.Proofs.YtoibondihdhnoaaGreatDoor
namespace Go.Proofs.YtoibondihdhnoaaGreatDoor
open Go.RowKit Go.Shelf
set_option maxRecDepth 100000
set_option maxHeartbeats 4000000
theorem a9m (t:ByteArray) (ht:t.size≤1000) (hb:b6h (b2_ 124 t)=true) : VC Tryz.prog 62 [S t] (.tup [.agg [g8_,g8_,I 0],I 7]):=by
 have g1:=y0_ t 124 (by omega)
 have hpl:=i5_ 124 t
 have hps:∀ p∈b2_ 124 t,p.size≤1000:=fun p hp=>Nat.le_trans (g2_ hp) ht
 have l0:0 < (b2_ 124 t).length:=by
  unfold b2_
  rw [List.length_map]
  exact List.length_pos_iff.2 (a4v _ _)
 generalize b2_ 124 t=w at *
 have ha:w[0]=tat w 0:=(b8_ (by omega)).symm
 have hz0:(tat w 0).size≤1000:=hps _ (a2t (by omega))
 have g2:=n1_ (tat w 0) (by omega)
 obtain ⟨tm,etm⟩ : ∃ tm,u9_ (tat w 0).data.toList=tm:=⟨_,rfl⟩
 rw [etm] at g2
 unfold b6h at hb
 cases hok:l6_ (tat w 0).data.toList
 ·rw [hok] at g2
  clear hb hps hpl ht etm hz0 hok
  refine c0_ Tryz.func62 rfl (by kernel_rfl) (by kernel_rfl) rfl fun M0 w0=>?_
  simp only [Tryz.ntmps62,Tryz.results62,b4_]
  repeat' (first|(with_reducible first|apply a9_|apply a3_|apply b1_|apply c4_|apply a1_|refine a2_ [] ?_)|((with_reducible refine a7_ ?_ ?_);(focus (go_simp;done)))|((with_reducible refine a0_ fun X Y=>?_);go_simp;(first|(with_reducible refine ⟨_,g1,?_⟩)|(with_reducible refine ⟨_,g2,?_⟩)|skip);refine Y _ ?_;clear Y X))
  go_simp
 rw [hok] at g2 hb
 by_cases h3:3≤w.length
 rotate_left
 ·have h3i:(w.length:Int) < 3:=by omega
  clear hb hps hpl ht etm hz0 hok
  refine c0_ Tryz.func62 rfl (by kernel_rfl) (by kernel_rfl) rfl fun M0 w0=>?_
  simp only [Tryz.ntmps62,Tryz.results62,b4_]
  repeat' (first|(with_reducible first|apply a9_|apply a3_|apply b1_|apply c4_|apply a1_|refine a2_ [] ?_)|((with_reducible refine a7_ ?_ ?_);(focus (go_simp;done)))|((with_reducible refine a0_ fun X Y=>?_);go_simp;(first|(with_reducible refine ⟨_,g1,?_⟩)|(with_reducible refine ⟨_,g2,?_⟩)|skip);refine Y _ ?_;clear Y X))
  go_simp
 rw [decide_eq_true h3] at hb
 simp only [Bool.not_true,Bool.false_or] at hb
 have h3i:¬(w.length:Int) < 3:=by omega
 have HBL:=Lib.hid hb
 have HQ:Hid (∀ k,k < w.length - 2→f5_ (w8_ w) (k+1)=f5_ (w8_ w) k++[[.sl 1 ((c1_ (tat w (1+k))).map p1_)]]∧(f5_ (w8_ w) k).length=k):=Lib.hid fun k hk=>by
  have h1:k < (w8_ w).q.length:=by rw [a3i];exact hk
  refine ⟨?_,t6_ (by omega)⟩
  rw [t5_ h1,a9i hk]
 have HZ:=Lib.hid hps
 have hw2:w.length≤2000:=by omega
 have x6:=c5_ (x:=(w.length:Int) - 1) (by omega) (by omega)
 have x7:((w.length:Int) - 1).toNat=w.length - 1:=by omega
 have x8:(1:Int)≤(w.length:Int) - 1:=by omega
 have x9:1≤w.length - 1:=by omega
 clear hb etm hok hps hpl ht hz0
 generalize w8_ w=ST at *
 have e0:f5_ ST 0=[]:=rfl
 refine c0_ Tryz.func62 rfl (by kernel_rfl) (by kernel_rfl) rfl fun M0 w0=>?_
 simp only [Tryz.ntmps62,Tryz.results62,b4_]
 repeat' (first|(with_reducible first|apply a9_|apply a3_|apply b0_|apply a8_|apply a1_|refine a2_ [] ?_)|((with_reducible refine a5_ ?_ ?_);(focus (go_simp;done)))|((with_reducible refine a0_ fun X Y=>?_);go_simp;(first|(with_reducible refine ⟨_,g1,?_⟩)|(with_reducible refine ⟨_,g2,?_⟩)|skip);refine Y _ ?_;clear Y X))
 have hrow:(List.take (w.length - 1) (List.map p1_ w)).tail=((w.drop 1).take (w.length - 2)).map p1_:=by
  rw [←List.drop_one,List.drop_take,List.map_take,List.map_drop]
  rfl
 have hql:((w.drop 1).take (w.length - 2)).length=w.length - 2:=by
  simp only [List.length_take,List.length_drop]
  omega
 have hqa:∀ k (hk:k < ((w.drop 1).take (w.length - 2)).length),((w.drop 1).take (w.length - 2))[k]=tat w (1+k):=fun k hk=>by
  rw [List.getElem_take,List.getElem_drop,b8_]
 rw [hrow,show w.length - 1 - 1=w.length - 2 from rfl]
 have HA:=Lib.hid hqa
 clear hrow hqa
 generalize (w.drop 1).take (w.length - 2)=Q at *
 rw [←hql] at HQ HBL ⊢
 have HQL:=Lib.hid hql
 clear hql
 refine o0_ (fun p a w R=>⟨_,R.nilCell (bi:=1) (j:=0) (e:=62) (sz:=1) rfl rfl (by decide)⟩) ?_
 go_simp
 refine o0_ (fun p a w R=>⟨_,R.nilCell (bi:=1) (j:=1) (e:=148) (sz:=3) rfl rfl (by decide)⟩) ?_
 go_simp
 apply s5_ [2,4,7,43,44] (fun k=>[(45,I k)]) (fun k=>([some (.box [g8_,g8_,I 0]),some (.box [.osl 2,.osl 3,I tm]),some (.arr 62 1 (decide (f5_ ST k=[])) (f5_ ST k)),some (.arr 148 3 true [])] : Hp)) (fun k=>a6i (tat w (1+k))) (Q.length)
 ·go_simp<;>exact rfl
 ·go_simp
 ·intro k hk HB HP K hK
  obtain ⟨w1,w2,w3,w4,w5,w6⟩:=ixs (m:=k) (by have:=HQL.out;omega)
  obtain ⟨hs,hl⟩:=HQ.out k hk
  have hbr:a6i (tat w (1+k))=false:=HP.out
  have hk1:1+k < w.length:=by
   have:=HQL.out
   omega
  have hQ2:Q.length≤2000:=by
   have:=HQL.out
   omega
  have hz:=HZ.out w[1+k] (List.getElem_mem hk1)
  rw [←b8_ hk1] at hz
  have gw:=y7_ (tat w (1+k)) (by omega)
  have hwl:=k4_ hz
  have gh:=c2u (tat w (1+k)) (by omega)
  rw [hbr] at gh
  have hb:(f5_ ST k).length+1≤1000000000:=by omega
  have qk:=HA.out k hk
  have HS:=Lib.hid hs
  rw [HS.out] at hK
  clear hs hl hz hwl HS hbr HQ HBL HA HB HP
  generalize f5_ ST k=RV at *
  generalize c1_ (tat w (1+k))=W at *
  repeat' (first|(with_reducible first|apply a9_|apply a3_|apply b0_|apply a8_|apply b3_|apply a1_|refine a2_ [] ?_)|((with_reducible refine a7_ ?_ ?_);(focus (go_simp;done)))|((with_reducible refine a5_ ?_ ?_);(focus (go_simp;done)))|((with_reducible refine a0_ fun X Y=>?_);go_simp;(first|(refine ⟨_,gw,?_⟩)|(refine ⟨_,gh,?_⟩)|skip);refine Y _ ?_;clear Y X))
  refine hK _ ?_
  go_simp
 ·intro k hk HB HP K
  obtain ⟨w1,w2,w3,w4,w5,w6⟩:=ixs (m:=k) (by have:=HQL.out;omega)
  obtain ⟨hs,hl⟩:=HQ.out k hk
  have hbr:a6i (tat w (1+k))=true:=HP.out
  have hk1:1+k < w.length:=by
   have:=HQL.out
   omega
  have hQ2:Q.length≤2000:=by
   have:=HQL.out
   omega
  have hz:=HZ.out w[1+k] (List.getElem_mem hk1)
  rw [←b8_ hk1] at hz
  have gw:=y7_ (tat w (1+k)) (by omega)
  have hwl:=k4_ hz
  have gh:=c2u (tat w (1+k)) (by omega)
  rw [hbr] at gh
  have hb:(f5_ ST k).length+1≤1000000000:=by omega
  have qk:=HA.out k hk
  have HS:=Lib.hid hs
  clear hs hl hz hwl HS hbr HQ HBL HA HB HP
  generalize f5_ ST k=RV at *
  generalize c1_ (tat w (1+k))=W at *
  repeat' (first|(with_reducible first|apply a9_|apply a3_|apply b1_|apply c4_|apply b0_|apply a8_|apply c7_|apply a1_|refine a2_ [] ?_)|((with_reducible refine a7_ ?_ ?_);(focus (go_simp;done)))|((with_reducible refine a0_ fun X Y=>?_);go_simp;(first|(refine ⟨_,gw,?_⟩)|(refine ⟨_,gh,?_⟩)|skip);refine Y _ ?_;clear Y X))
  go_simp
 ·intro HB K
  have HK:Hid (t8_ (fun j=>a3o (tat (k8_ w) j)) 0 (k8_ w).length=true):=Lib.hid (by
   have:=HBL.out
   rw [f1_ (p:=fun k=>a6i (tat w (1+k))) HB.out,Bool.false_or] at this
   exact this)
  clear HBL HB
  obtain ⟨m,hm⟩ : ∃ m,m=w.length - 1:=⟨_,rfl⟩
  have hkk:m < w.length:=by omega
  have y1:(w.length:Int) - 1=(m:Int):=by omega
  have y2:=c5_ (x:=(m:Int)) (by omega) (by omega)
  have qk:w[m]=tat w m:=(b8_ hkk).symm
  have hz:=HZ.out w[m] (List.getElem_mem hkk)
  rw [qk] at hz
  have gw:=y7_ (tat w m) (by omega)
  have hwl:=k4_ hz
  unfold k8_ at HK
  rw [←hm] at HK
  clear hm x6 x7 x8 x9 HQL
  have HW:=Lib.hid hwl
  clear hz HQ HA hwl HZ
  generalize c1_ (tat w m)=W at *
  have hwl:=HW.out.1
  generalize f5_ ST Q.length=RV at *
  have e1:tkK W 0=[]:=rfl
  repeat' (first|(with_reducible first|apply a9_|apply a3_|apply c2_|apply d0_|apply a8_|apply b7_|apply a1_|refine a2_ [] ?_)|((with_reducible refine a5_ ?_ ?_);(focus (go_simp;done)))|((with_reducible refine a0_ fun X Y=>?_);go_simp;(first|(refine ⟨_,gw,?_⟩)|skip);refine Y _ ?_;clear Y X))
  apply s5_ [2,7,67,68] (fun k=>[(69,I k)]) (fun k=>([some (.box [g8_,g8_,I 0]),some (.box [.osl 2,.osl 3,I tm]),some (.arr 62 1 (decide (RV=[])) RV),some (.arr 148 3 (decide (tkK W k=[])) ((tkK W k).map Tk.av))] : Hp)) (fun j=>a3o (tat W j)) (W.length)
  ·go_simp<;>exact rfl
  ·go_simp
  ·intro j hj HB2 HP2 K2 hK2
   obtain ⟨v1,v2,v3,v4,v5,v6⟩:=ixs (m:=j) (by omega)
   have hbj:a3o (tat W j)=false:=HP2.out
   have hzj:=HW.out.2 _ (List.getElem_mem hj)
   have qj:W[j]=tat W j:=(b8_ hj).symm
   rw [qj] at hzj
   have gs:=y0_ (tat W j) 58 (by omega)
   have hs:=a4b hj
   have hln:=a9j (l:=W) (k:=j) (by omega)
   have hb:(tkK W j).length+1≤1000000000:=by omega
   have hps2:∀ p∈b2_ 58 (tat W j),p.size≤1000:=fun p hp=>Nat.le_trans (g2_ hp) hzj
   unfold a3o at hbj
   unfold tkW at hs
   simp only [Bool.or_eq_false_iff,Bool.not_eq_false',decide_eq_false_iff_not,decide_eq_true_eq] at hbj
   obtain ⟨⟨⟨b1,b2⟩,b3⟩,b4⟩:=hbj
   generalize b2_ 58 (tat W j)=PP at *
   have q0:PP[0]=tat PP 0:=(b8_ (by omega)).symm
   have q1:PP[1]=tat PP 1:=(b8_ (by omega)).symm
   have q2:PP[2]=tat PP 2:=(b8_ (by omega)).symm
   have z1:(tat PP 1).size≤1000:=by rw [←q1];exact hps2 _ (List.getElem_mem _)
   have z2:(tat PP 2).size≤1000:=by rw [←q2];exact hps2 _ (List.getElem_mem _)
   have g3:=n1_ (tat PP 1) (by omega)
   have g4:=n1_ (tat PP 2) (by omega)
   rw [b3] at g3
   rw [b4] at g4
   have b5:(PP.length:Int)=3:=by omega
   have b6:¬tat PP 0=ByteArray.empty:=b2
   have HS:=Lib.hid hs
   clear HB2 HP2 HK HW hs hln b3 b4 z1 z2 hps2 hzj
   generalize u9_ (tat PP 1).data.toList=N1 at *
   generalize u9_ (tat PP 2).data.toList=N2 at *
   repeat' (first|(with_reducible first|apply a9_|apply a3_|apply b0_|apply a8_|apply b3_|apply a1_|refine a2_ [] ?_|apply a6_)|((with_reducible refine a7_ ?_ ?_);(focus (go_simp;done)))|((with_reducible refine a5_ ?_ ?_);(focus (go_simp;done)))|((with_reducible first|refine a0_ fun X Y=>?_|refine a4_ fun X Y=>?_);go_simp;(first|(with_reducible refine ⟨_,gs,?_⟩)|(with_reducible refine ⟨_,g3,?_⟩)|(with_reducible refine ⟨_,g4,?_⟩)|skip);refine Y _ ?_;clear Y X)|((refine b9_ 12 9 [] rfl (by kernel_rfl) (by kernel_rfl) ?_);simp only [List.take,List.drop]))
   refine hK2 _ ?_
   rw [HS.out]
   go_simp
  ·intro j hj HB2 HP2 K2
   have hbj:a3o (tat W j)=true:=HP2.out
   have hzj:=HW.out.2 _ (List.getElem_mem hj)
   have qj:W[j]=tat W j:=(b8_ hj).symm
   rw [qj] at hzj
   have gs:=y0_ (tat W j) 58 (by omega)
   have hps2:∀ p∈b2_ 58 (tat W j),p.size≤1000:=fun p hp=>Nat.le_trans (g2_ hp) hzj
   unfold a3o at hbj
   clear HB2 HP2 HK HW
   generalize tkK W j=TK at *
   generalize b2_ 58 (tat W j)=PP at *
   by_cases b1:PP.length=3
   ·rw [decide_eq_true b1,Bool.not_true,Bool.false_or] at hbj
    have b5:(PP.length:Int)=3:=by omega
    have q0:PP[0]=tat PP 0:=(b8_ (by omega)).symm
    have q1:PP[1]=tat PP 1:=(b8_ (by omega)).symm
    have q2:PP[2]=tat PP 2:=(b8_ (by omega)).symm
    have z1:(tat PP 1).size≤1000:=by rw [←q1];exact hps2 _ (List.getElem_mem _)
    have z2:(tat PP 2).size≤1000:=by rw [←q2];exact hps2 _ (List.getElem_mem _)
    have g3:=n1_ (tat PP 1) (by omega)
    have g4:=n1_ (tat PP 2) (by omega)
    by_cases b2:tat PP 0=⟨#[]⟩
    ·have b6:tat PP 0=ByteArray.empty:=b2
     clear z1 z2 hps2 hzj hbj
     repeat' (first|(with_reducible first|apply a9_|apply a3_|apply b1_|apply c4_|apply b0_|apply a8_|apply c7_|apply a1_|refine a2_ [] ?_)|((with_reducible refine a7_ ?_ ?_);(focus (go_simp;done)))|((with_reducible refine a0_ fun X Y=>?_);go_simp;(first|(with_reducible refine ⟨_,gs,?_⟩)|skip);refine Y _ ?_;clear Y X))
     go_simp
    ·have b6:¬tat PP 0=ByteArray.empty:=b2
     rw [decide_eq_false b2,Bool.false_or] at hbj
     clear z1 z2 hps2 hzj
     generalize u9_ (tat PP 1).data.toList=N1 at *
     generalize u9_ (tat PP 2).data.toList=N2 at *
     cases o1:l6_ (tat PP 1).data.toList
     ·rw [o1] at g3
      clear o1 hbj
      repeat' (first|(with_reducible first|apply a9_|apply a3_|apply b1_|apply c4_|apply b0_|apply a8_|apply c7_|apply a1_|refine a2_ [] ?_)|((with_reducible refine a7_ ?_ ?_);(focus (go_simp;done)))|((with_reducible refine a5_ ?_ ?_);(focus (go_simp;done)))|((with_reducible refine a0_ fun X Y=>?_);go_simp;(first|(with_reducible refine ⟨_,gs,?_⟩)|(with_reducible refine ⟨_,g3,?_⟩)|(with_reducible refine ⟨_,g4,?_⟩)|skip);refine Y _ ?_;clear Y X))
      go_simp
     ·rw [o1,Bool.not_true,Bool.false_or,Bool.not_eq_true'] at hbj
      rw [o1] at g3
      rw [hbj] at g4
      clear o1 hbj
      repeat' (first|(with_reducible first|apply a9_|apply a3_|apply b1_|apply c4_|apply b0_|apply a8_|apply c7_|apply a1_|refine a2_ [] ?_)|((with_reducible refine a7_ ?_ ?_);(focus (go_simp;done)))|((with_reducible refine a5_ ?_ ?_);(focus (go_simp;done)))|((with_reducible refine a0_ fun X Y=>?_);go_simp;(first|(with_reducible refine ⟨_,gs,?_⟩)|(with_reducible refine ⟨_,g3,?_⟩)|(with_reducible refine ⟨_,g4,?_⟩)|skip);refine Y _ ?_;clear Y X))
      go_simp
   ·have b5:¬(PP.length:Int)=3:=by omega
    clear hps2 hzj hbj
    repeat' (first|(with_reducible first|apply a9_|apply a3_|apply b1_|apply c4_|apply b0_|apply a8_|apply c7_|apply a1_|refine a2_ [] ?_)|((with_reducible refine a7_ ?_ ?_);(focus (go_simp;done)))|((with_reducible refine a0_ fun X Y=>?_);go_simp;(first|(with_reducible refine ⟨_,gs,?_⟩)|skip);refine Y _ ?_;clear Y X))
    go_simp
  ·intro HB2 K2
   have:=HK.out
   rw [f1_ HB2.out] at this
   cases this
end Go.Proofs.YtoibondihdhnoaaGreatDoor
