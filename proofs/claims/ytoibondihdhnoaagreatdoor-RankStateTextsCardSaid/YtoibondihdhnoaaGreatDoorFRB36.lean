/- Texts in one: Walks on plain values: texts that are cut, decimal numerals, numbers that are read; texts of at most 1000 bytes. -/
import Derived.Test.YtoibondihdhnoaaGreatDoorFRB34
import Derived.Test.YtoibondihdhnoaaGreatDoorFRB35
namespace Go.Proofs.YtoibondihdhnoaaGreatDoor
open Go.RowKit
set_option maxRecDepth 100000
set_option maxHeartbeats 1000000
def txL (l:List UInt8) : List AV:=[S (mkB l)]
attribute [go_sem] txL
theorem t0_ (s:ByteArray) : s.data.toList.length=s.size:=(Lib.size_eq s).symm
theorem d5o {s:ByteArray} {k:Nat} (h:k < s.size) : s.data.toList[k]? = some (d4_ s k):=by
 have h':k < s.data.toList.length:=by rw [t0_];exact h
 rw [List.getElem?_eq_getElem h']
 simp only [d4_,List.getD,List.getElem?_eq_getElem h',Option.getD_some]
@[go_sem] theorem d6c:x9_ 0 []=0:=o9_ 0
@[go_sem] theorem d3r (c:UInt8) (l:List UInt8) : h5_ c l 0=0:=rfl
@[go_sem] theorem d4e (c:UInt8) (l:List UInt8) : u6_ c l 0=[]:=rfl
theorem c5a {a b:UInt8} : ((a.toNat:Int)=(b.toNat:Int))↔a=b:=by
 rw [Int.ofNat_inj,UInt8.toNat_inj]
theorem d5p {s:ByteArray} {i j:Nat} : s.extract i j=mkB ((s.data.toList.drop i).take (j - i)):=a4x s i j
theorem d4f (s:ByteArray) (c:UInt8) (hs:s.size≤1000000) : VC Tryz.prog 110 [S s,.lit (.int .u8 c.toNat)] (.sl 1 ((w6_ c s.data.toList).map txL)):=by
 have hall:=c8w c s.data.toList
 rw [t0_] at hall
 have HALL:=Lib.hid hall
 clear hall
 refine c0_ Tryz.func110 rfl (by kernel_rfl) (by kernel_rfl) rfl fun M0 w0=>?_
 simp only [Tryz.ntmps110,Tryz.results110,b4_]
 repeat' (first|(with_reducible first|apply a9_|apply a3_|apply a8_|apply a1_|refine a2_ [5] ?_)|((with_reducible refine a0_ fun X Y=>?_);go_simp;refine Y _ ?_;clear Y X))
 apply a9p [0,1] (fun k=>[(7,I (k:Int)),(6,I (h5_ c s.data.toList k:Nat)),(5,.osl 0)]) (fun k=>([some (.arr 9 1 (decide (u6_ c s.data.toList k=[])) ((u6_ c s.data.toList k).map txL))] : Hp))  (s.size)
 ·go_simp<;>exact rfl
 ·go_simp
 ·intro k hk K hK
  obtain ⟨w1,w2,w3,w4,w5,w6⟩:=ixs (m:=k) (by omega)
  have hf:=x8_ c s.data.toList k
  have ho:=a4w c s.data.toList k
  have n1:h5_ c s.data.toList (k+1)=if d4_ s k=c then k+1 else h5_ c s.data.toList k:=by rw [h5_,d5o hk];simp
  have n2:u6_ c s.data.toList (k+1)=if d4_ s k=c then u6_ c s.data.toList k++[(s.data.toList.drop (h5_ c s.data.toList k)).take (k - h5_ c s.data.toList k)] else u6_ c s.data.toList k:=by rw [u6_,d5o hk];simp
  have hb:(u6_ c s.data.toList k).length+1≤1000000000:=by omega
  have he:s.extract (h5_ c s.data.toList k) k=mkB ((s.data.toList.drop (h5_ c s.data.toList k)).take (k - h5_ c s.data.toList k)):=d5p
  have hki:(k:Int) < s.size:=by omega
  have hkn:k≤s.size:=by omega
  generalize u6_ c s.data.toList k=O at *
  generalize h5_ c s.data.toList k=F at *
  generalize (s.data.toList.drop F).take (k - F)=X at *
  have hfi:(F:Int)≤k:=by omega
  by_cases hc:d4_ s k=c
  ·rw [if_pos hc] at n1 n2
   have hci:((d4_ s k).toNat:Int)=c.toNat:=by rw [hc]
   have N1:=Lib.hid n1
   have N2:=Lib.hid n2
   clear n1 n2 ho hc
   repeat' (first|(with_reducible first|apply a9_|apply a3_|apply b0_|apply a8_|apply b3_|apply a1_|refine a2_ [] ?_)|((with_reducible refine a7_ ?_ ?_);(focus (go_simp;done)))|((with_reducible refine a0_ fun X Y=>?_);go_simp;refine Y _ ?_;clear Y X))
   refine hK _ ?_
   rw [N1.out,N2.out]
   go_simp
  ·rw [if_neg hc] at n1 n2
   have hci:¬((d4_ s k).toNat:Int)=c.toNat:=fun e=>hc (c5a.1 e)
   have N1:=Lib.hid n1
   have N2:=Lib.hid n2
   clear n1 n2 ho hc
   repeat' (first|(with_reducible first|apply a9_|apply a3_|apply b0_|apply a8_|apply b3_|apply a1_|refine a2_ [] ?_)|((with_reducible refine a7_ ?_ ?_);(focus (go_simp;done)))|((with_reducible refine a5_ ?_ ?_);(focus (go_simp;done)))|((with_reducible refine a0_ fun X Y=>?_);go_simp;refine Y _ ?_;clear Y X))
   refine hK _ ?_
   rw [N1.out,N2.out]
   go_simp
 ·intro K
  have hf:=x8_ c s.data.toList s.size
  have ho:=a4w c s.data.toList s.size
  have hb:(u6_ c s.data.toList s.size).length+1≤1000000000:=by omega
  have he:s.extract (h5_ c s.data.toList s.size) s.size=mkB (s.data.toList.drop (h5_ c s.data.toList s.size)):=by
   rw [d5p,List.take_of_length_le (by rw [List.length_drop,t0_];exact Nat.le_refl _)]
  rw [HALL.out]
  generalize u6_ c s.data.toList s.size=O at *
  generalize h5_ c s.data.toList s.size=F at *
  have hfi:(F:Int)≤s.size:=by omega
  clear HALL ho
  repeat' (first|(with_reducible first|apply a9_|apply a3_|apply c2_|apply c4_|apply d0_|apply b7_|apply a1_|refine a2_ [] ?_)|((with_reducible refine a5_ ?_ ?_);(focus (go_simp;done)))|((with_reducible refine a0_ fun X Y=>?_);go_simp;refine Y _ ?_;clear Y X))
  go_simp
theorem c0n (n:Int) (h : -1000000000≤n∧n≤1000000000) : VC Tryz.prog 152 [I n] (I (n.natAbs:Int)):=by
 have w1:=c5_ (x:=-n) (by omega) (by omega)
 refine c0_ Tryz.func152 rfl (by kernel_rfl) (by kernel_rfl) rfl fun M0 w0=>?_
 simp only [Tryz.ntmps152,Tryz.results152,b4_]
 by_cases hn:n < 0
 ·have e:(n.natAbs:Int) = -n:=by omega
  have e2:max n (-n) = -n:=by omega
  repeat' (first|(with_reducible first|apply a9_|apply a3_|apply c4_|apply a1_|refine a2_ [] ?_)|((with_reducible refine a0_ fun X Y=>?_);go_simp;refine Y _ ?_;clear Y X))
  all_goals (go_simp;first|done|(simp_all [];done)|(simp only [];(try intros);(repeat' split)<;>(first|rfl|omega|(simp_all;done)|(simp_all;omega)))|((try intros);(repeat' split)<;>(first|rfl|omega|(simp_all;done)|(simp_all;omega))))
 ·have e:(n.natAbs:Int)=n:=by omega
  have e2:max n (-n)=n:=by omega
  repeat' (first|(with_reducible first|apply a9_|apply a3_|apply c4_|apply a1_|refine a2_ [] ?_)|((with_reducible refine a0_ fun X Y=>?_);go_simp;refine Y _ ?_;clear Y X))
  all_goals (go_simp;first|done|(simp_all [];done)|(simp only [];(try intros);(repeat' split)<;>(first|rfl|omega|(simp_all;done)|(simp_all;omega)))|((try intros);(repeat' split)<;>(first|rfl|omega|(simp_all;done)|(simp_all;omega))))
@[go_sem] theorem d4g:mkB []=⟨#[]⟩:=rfl
theorem a1v (x:UInt8) (l:List UInt8) : (⟨#[x]⟩ : ByteArray)++mkB l=mkB (x::l):=by
 apply ByteArray.ext
 simp [mkB,ByteArray.data_append]
def q5_ (n:Int) : ByteArray:=mkB (Lib.itoa n)
theorem a5d (n:Int) (h : -9223372036854775808≤n∧n≤9223372036854775807) : VC Tryz.prog 113 [I n] (S (q5_ n)):=by
 by_cases h0:n=0
 ·subst h0
  have e:q5_ 0=⟨#[48]⟩:=by unfold q5_ Lib.itoa;rw [if_neg (by decide)];show mkB (Lib.decDigits 0)=_;rw [u7_];rfl
  rw [e]
  refine c0_ Tryz.func113 rfl (by kernel_rfl) (by kernel_rfl) rfl fun M0 w0=>?_
  simp only [Tryz.ntmps113,Tryz.results113,b4_]
  repeat' (first|(with_reducible first|apply a9_|apply a3_|apply b1_|apply c4_|apply a1_|refine a2_ [] ?_)|((with_reducible refine a7_ ?_ ?_);(focus (go_simp;done)))|((with_reducible refine a0_ fun X Y=>?_);go_simp;refine Y _ ?_;clear Y X))
  go_simp
 ·obtain ⟨T,hT⟩ : ∃ T,c4z n.natAbs=T:=⟨_,rfl⟩
  have HT:=Lib.hid hT
  have hd:q5_ n=(if n < 0 then (⟨#[45]⟩ : ByteArray) else ⟨#[]⟩)++mkB T:=by
   rw [←hT,a3w (by omega)]
   unfold q5_ Lib.itoa
   split
   ·rw [a1v]
   ·have:n.toNat=n.natAbs:=by omega
    rw [this]
    apply ByteArray.ext
    simp [mkB,ByteArray.data_append]
  rw [hd]
  have hTl:T.length≤20:=by
   rw [←hT,a3w (by omega)]
   exact z8_ 19 _ (by omega)
  have HTL:=Lib.hid hTl
  clear hd hT hTl
  refine c0_ Tryz.func113 rfl (by kernel_rfl) (by kernel_rfl) rfl fun M0 w0=>?_
  simp only [Tryz.ntmps113,Tryz.results113,b4_]
  by_cases hn:n < 0
  ·rw [if_pos hn]
   repeat' (first|(with_reducible first|apply a9_|apply a3_|apply b0_|apply a8_|apply a1_|refine a2_ [] ?_)|((with_reducible refine a7_ ?_ ?_);(focus (go_simp;done)))|((with_reducible refine a5_ ?_ ?_);(focus (go_simp;done)))|((with_reducible refine a0_ fun X Y=>?_);go_simp;refine Y _ ?_;clear Y X))
   apply a5x (α:=Int×List UInt8) [4] (fun (q:Int×List UInt8)=>[(0,I q.1),(3,S (mkB q.2))]) (fun (q:Int×List UInt8)=>([] : Hp)) (fun (q:Int×List UInt8)=>Hid (c4z q.1.natAbs++q.2=T)∧-9223372036854775808≤q.1∧q.1≤9223372036854775807) (fun (q:Int×List UInt8)=>q.1.natAbs) ((n,[])) ⟨Lib.hid (by rw [List.append_nil];exact HT.out),h.1,h.2⟩
   ·(go_simp<;>exact rfl)
   ·go_simp
   rintro ⟨m,acc⟩ ⟨hf,b1,b2⟩ K hK
   simp only at hf b1 b2
   by_cases hm:m=0
   ·subst hm
    have e:T=acc:=by rw [←hf.out];rfl
    have hsz:=HTL.out
    rw [e] at hsz ⊢
    rw [←z9_] at hsz
    have z1:1+(mkB acc).size≤9223372036854775807:=by omega
    have z2:(mkB acc).size≤9223372036854775806:=by omega
    have z3:(mkB acc).size≤9223372036854775807:=by omega
    clear hf HT HTL e hsz
    repeat' (first|(with_reducible first|apply a9_|apply a3_|apply c2_|apply c4_|apply d0_|apply b7_|apply a1_|refine a2_ [] ?_)|((with_reducible refine a5_ ?_ ?_);(focus (go_simp;done)))|((with_reducible refine a0_ fun X Y=>?_);go_simp;refine Y _ ?_;clear Y X))
    go_simp
   ·have hst:=b0t (m:=m.natAbs) (by omega)
    have hr:(m.tmod 10).natAbs=m.natAbs % 10:=by rw [Int.natAbs_tmod];rfl
    have hq:(m.tdiv 10).natAbs=m.natAbs / 10:=by rw [Int.natAbs_tdiv];rfl
    have hr1 : -9≤m.tmod 10∧m.tmod 10≤9:=by omega
    have hq1 : -9223372036854775808≤m.tdiv 10∧m.tdiv 10≤9223372036854775807:=by omega
    have g:=c0n (m.tmod 10) (by omega)
    rw [hr] at g
    have hd9:m.natAbs % 10 < 10:=Nat.mod_lt _ (by decide)
    have hnat:=n6_ hd9
    rw [←hq] at hst
    have HF:=Lib.hid (show c4z (m.tdiv 10).natAbs++(UInt8.ofNat (48+m.natAbs % 10)::acc)=T by rw [←hf.out,hst,List.append_assoc];rfl)
    have hlt:(m.tdiv 10).natAbs < m.natAbs:=by omega
    have u1:=c5_ (x:=m.tmod 10) (by omega) (by omega)
    have u2:=c5_ (x:=m.tdiv 10) (by omega) (by omega)
    have HLT:=Lib.hid hlt
    have hsz:acc.length≤20:=by
     have h1:=HTL.out
     rw [←hf.out,List.length_append] at h1
     omega
    rw [←z9_] at hsz
    have z1:1+(mkB acc).size≤9223372036854775807:=by omega
    have z2:(mkB acc).size≤9223372036854775806:=by omega
    clear hst hr hq hf HT hlt hsz HTL
    obtain ⟨r,er⟩ : ∃ r,m.tmod 10=r:=⟨_,rfl⟩
    obtain ⟨q,eq⟩ : ∃ q,m.tdiv 10=q:=⟨_,rfl⟩
    rw [er] at g u1 hr1
    rw [eq] at HF HLT hq1 u2
    generalize m.natAbs % 10=d at *
    have u3:=c5_ (x:=48+(d:Int)) (by omega) (by omega)
    have u4:IntKind.u8.wrap (48+(d:Int))=48+d:=by simp [IntKind.wrap,IntKind.bits,IntKind.signed];omega
    have u5:(48+(d:Int)).toNat=48+d:=by omega
    have u6:(0:Int)≤48+(d:Int):=by omega
    have u7:48+(d:Int) < 256:=by omega
    have hcat:=a1v (UInt8.ofNat (48+d)) acc
    clear hnat
    repeat' (first|(with_reducible first|apply a9_|apply a3_|apply b0_|apply a8_|apply b3_|apply a1_|refine a2_ [] ?_)|((with_reducible refine a7_ ?_ ?_);(focus (go_simp;done)))|((with_reducible refine a0_ fun X Y=>?_);go_simp;(first|(with_reducible refine ⟨_,g,?_⟩)|skip);refine Y _ ?_;clear Y X))
    refine hK _ (q,UInt8.ofNat (48+d)::acc) ⟨HF,hq1.1,hq1.2⟩ HLT.out ?_
    go_simp
    exact a1v _ _
  ·rw [if_neg hn]
   repeat' (first|(with_reducible first|apply a9_|apply a3_|apply b0_|apply a8_|apply a1_|refine a2_ [] ?_)|((with_reducible refine a5_ ?_ ?_);(focus (go_simp;done)))|((with_reducible refine a0_ fun X Y=>?_);go_simp;refine Y _ ?_;clear Y X))
   apply a5x (α:=Int×List UInt8) [4] (fun (q:Int×List UInt8)=>[(0,I q.1),(3,S (mkB q.2))]) (fun (q:Int×List UInt8)=>([] : Hp)) (fun (q:Int×List UInt8)=>Hid (c4z q.1.natAbs++q.2=T)∧-9223372036854775808≤q.1∧q.1≤9223372036854775807) (fun (q:Int×List UInt8)=>q.1.natAbs) ((n,[])) ⟨Lib.hid (by rw [List.append_nil];exact HT.out),h.1,h.2⟩
   ·(go_simp<;>exact rfl)
   ·go_simp
   rintro ⟨m,acc⟩ ⟨hf,b1,b2⟩ K hK
   simp only at hf b1 b2
   by_cases hm:m=0
   ·subst hm
    have e:T=acc:=by rw [←hf.out];rfl
    have hsz:=HTL.out
    rw [e] at hsz ⊢
    rw [←z9_] at hsz
    have z1:1+(mkB acc).size≤9223372036854775807:=by omega
    have z2:(mkB acc).size≤9223372036854775806:=by omega
    have z3:(mkB acc).size≤9223372036854775807:=by omega
    clear hf HT HTL e hsz
    repeat' (first|(with_reducible first|apply a9_|apply a3_|apply c2_|apply c4_|apply d0_|apply b7_|apply a1_|refine a2_ [] ?_)|((with_reducible refine a5_ ?_ ?_);(focus (go_simp;done)))|((with_reducible refine a0_ fun X Y=>?_);go_simp;refine Y _ ?_;clear Y X))
    go_simp
   ·have hst:=b0t (m:=m.natAbs) (by omega)
    have hr:(m.tmod 10).natAbs=m.natAbs % 10:=by rw [Int.natAbs_tmod];rfl
    have hq:(m.tdiv 10).natAbs=m.natAbs / 10:=by rw [Int.natAbs_tdiv];rfl
    have hr1 : -9≤m.tmod 10∧m.tmod 10≤9:=by omega
    have hq1 : -9223372036854775808≤m.tdiv 10∧m.tdiv 10≤9223372036854775807:=by omega
    have g:=c0n (m.tmod 10) (by omega)
    rw [hr] at g
    have hd9:m.natAbs % 10 < 10:=Nat.mod_lt _ (by decide)
    have hnat:=n6_ hd9
    rw [←hq] at hst
    have HF:=Lib.hid (show c4z (m.tdiv 10).natAbs++(UInt8.ofNat (48+m.natAbs % 10)::acc)=T by rw [←hf.out,hst,List.append_assoc];rfl)
    have hlt:(m.tdiv 10).natAbs < m.natAbs:=by omega
    have u1:=c5_ (x:=m.tmod 10) (by omega) (by omega)
    have u2:=c5_ (x:=m.tdiv 10) (by omega) (by omega)
    have HLT:=Lib.hid hlt
    have hsz:acc.length≤20:=by
     have h1:=HTL.out
     rw [←hf.out,List.length_append] at h1
     omega
    rw [←z9_] at hsz
    have z1:1+(mkB acc).size≤9223372036854775807:=by omega
    have z2:(mkB acc).size≤9223372036854775806:=by omega
    clear hst hr hq hf HT hlt hsz HTL
    obtain ⟨r,er⟩ : ∃ r,m.tmod 10=r:=⟨_,rfl⟩
    obtain ⟨q,eq⟩ : ∃ q,m.tdiv 10=q:=⟨_,rfl⟩
    rw [er] at g u1 hr1
    rw [eq] at HF HLT hq1 u2
    generalize m.natAbs % 10=d at *
    have u3:=c5_ (x:=48+(d:Int)) (by omega) (by omega)
    have u4:IntKind.u8.wrap (48+(d:Int))=48+d:=by simp [IntKind.wrap,IntKind.bits,IntKind.signed];omega
    have u5:(48+(d:Int)).toNat=48+d:=by omega
    have u6:(0:Int)≤48+(d:Int):=by omega
    have u7:48+(d:Int) < 256:=by omega
    have hcat:=a1v (UInt8.ofNat (48+d)) acc
    clear hnat
    repeat' (first|(with_reducible first|apply a9_|apply a3_|apply b0_|apply a8_|apply b3_|apply a1_|refine a2_ [] ?_)|((with_reducible refine a7_ ?_ ?_);(focus (go_simp;done)))|((with_reducible refine a0_ fun X Y=>?_);go_simp;(first|(with_reducible refine ⟨_,g,?_⟩)|skip);refine Y _ ?_;clear Y X))
    refine hK _ (q,UInt8.ofNat (48+d)::acc) ⟨HF,hq1.1,hq1.2⟩ HLT.out ?_
    go_simp
    exact a1v _ _
@[go_sem] def b8v:Option Int→Int×Bool
 | some v=>(v,true)
 | none=>(0,false)
theorem a3x (s:ByteArray) (hs:s.size≤1000) : VC Tryz.prog 112 [S s,I 9] (.tup [I (b8v (a1t s.data.toList)).1,B (b8v (a1t s.data.toList)).2]):=by
 obtain ⟨R,hR⟩ : ∃ R,a1t s.data.toList=R:=⟨_,rfl⟩
 rw [hR]
 cases hL:s.data.toList with
 | nil=>
  have h0:s.size=0:=by rw [←t0_,hL];rfl
  rw [hL] at hR
  have e:R=none:=hR.symm
  subst e
  have hb:¬(0:Int) < s.size:=by omega
  refine c0_ Tryz.func112 rfl (by kernel_rfl) (by kernel_rfl) rfl fun M0 w0=>?_
  simp only [Tryz.ntmps112,Tryz.results112,b4_]
  repeat' (first|(with_reducible first|apply a9_|apply a3_|apply b1_|apply c4_|apply b0_|apply a1_|refine a2_ [] ?_)|((with_reducible refine a7_ ?_ ?_);(focus (go_simp;done)))|((with_reducible refine a5_ ?_ ?_);(focus (go_simp;done)))|((with_reducible refine a0_ fun X Y=>?_);go_simp;refine Y _ ?_;clear Y X))
  go_simp
 | cons c r=>
  have hsz:s.size=r.length+1:=by rw [←t0_,hL];rfl
  have hc0:d4_ s 0=c:=by simp [d4_,hL]
  have hpos:(0:Int) < s.size:=by omega
  have hposn:0 < s.size:=by omega
  have HGE:Hid (∀ k,d4_ s (k+1)=r.getD k 0):=Lib.hid fun k=>by simp [d4_,hL]
  rw [hL,a1t] at hR
  by_cases hc:c=45
  ·rw [if_pos hc] at hR
   have HR:=Lib.hid hR
   clear hR
   have hc1:((d4_ s 0).toNat:Int)=45:=by rw [hc0,hc];rfl
   have HGET:Hid (∀ k,(hk:k < r.length)→r[k]=d4_ s (k+1)):=Lib.hid fun k hk=>by rw [HGE.out k];simp [List.getD,hk]
   clear hc0 hL
   by_cases hr0:r=[]
   ·have h1:s.size=1:=by rw [hsz,hr0];rfl
    have e:=HR.out
    rw [hr0] at e
    have hR1:R=none:=e.symm
    subst hR1
    clear e HR HGET HGE
    refine c0_ Tryz.func112 rfl (by kernel_rfl) (by kernel_rfl) rfl fun M0 w0=>?_
    simp only [Tryz.ntmps112,Tryz.results112,b4_]
    repeat' (first|(with_reducible first|apply a9_|apply a3_|apply b1_|apply c4_|apply a1_|refine a2_ [] ?_)|((with_reducible refine a7_ ?_ ?_);(focus (go_simp;done)))|((with_reducible refine a0_ fun X Y=>?_);go_simp;refine Y _ ?_;clear Y X))
    go_simp
   have hrl:0 < r.length:=List.length_pos_iff.2 hr0
   have h1i:¬(s.size:Int)=1:=by omega
   have v1:=c5_ (x:=(s.size:Int) - 1) (by omega) (by omega)
   have hgt1:(1:Int) < s.size:=by omega
   have hgt1n:1 < s.size:=by omega
   have hsz':=Lib.hid hsz
   clear hsz
   by_cases hlen:r.length≤9
   ·have h9:¬(9:Int) < (s.size:Int) - 1:=by have:=hsz'.out;omega
    by_cases hh:r.head? = some 48
    ·have hb48:((d4_ s 1).toNat:Int)=48:=by
      rw [HGE.out 0]
      cases r with
      | nil=>exact absurd rfl hr0
      | cons b t=>simp at hh;subst hh;rfl
     have e:=HR.out
     rw [u8_ (.inr (.inr (.inl ⟨hh,rfl⟩)))] at e
     have hR1:R=none:=e.symm
     subst hR1
     clear e HR HGET HGE
     refine c0_ Tryz.func112 rfl (by kernel_rfl) (by kernel_rfl) rfl fun M0 w0=>?_
     simp only [Tryz.ntmps112,Tryz.results112,b4_]
     repeat' (first|(with_reducible first|apply a9_|apply a3_|apply b1_|apply c4_|apply a1_|refine a2_ [] ?_)|((with_reducible refine a7_ ?_ ?_);(focus (go_simp;done)))|((with_reducible refine a0_ fun X Y=>?_);go_simp;refine Y _ ?_;clear Y X))
     go_simp
    ·have hb48:¬((d4_ s 1).toNat:Int)=48:=by
      rw [HGE.out 0]
      cases r with
      | nil=>exact absurd rfl hr0
      | cons b t=>
       intro h
       have h2:(b.toNat:Int)=48:=by simpa using h
       have:b=48:=UInt8.toNat_inj.1 (show b.toNat=48 by omega)
       exact hh (by rw [this];rfl)
     refine c0_ Tryz.func112 rfl (by kernel_rfl) (by kernel_rfl) rfl fun M0 w0=>?_
     simp only [Tryz.ntmps112,Tryz.results112,b4_]
     repeat' (first|(with_reducible first|apply a9_|apply a3_|apply b0_|apply a8_|apply a1_|refine a2_ [] ?_)|((with_reducible refine a7_ ?_ ?_);(focus (go_simp;done)))|((with_reducible refine a5_ ?_ ?_);(focus (go_simp;done)))|((with_reducible refine a0_ fun X Y=>?_);go_simp;refine Y _ ?_;clear Y X))
     apply s5_ [0,6] (fun k=>[(8,I ((k:Int)+1)),(7,I (x9_ 0 ((r).take k) : Nat))]) (fun k=>([] : Hp)) ((fun k=>!isD (d4_ s (k+1)))) ((r).length)
     ·go_simp<;>exact rfl
     ·go_simp
     ·intro k hk HB HP K hK
      obtain ⟨w1,w2,w3,w4,w5,w6⟩:=ixs (m:=k) (by omega)
      have hks:k+1 < s.size:=by have:=hsz'.out;omega
      have hp:=HP.out
      simp only [Bool.not_eq_false'] at hp
      have hd:=a5b hp
      have hbk:=HGET.out k hk
      have hst:=a5c hk
      rw [hbk] at hst
      have hall:((r).take k).all isD=true:=List.all_eq_true.2 fun x hx=>by
       obtain ⟨j,hj,rfl⟩:=List.getElem_of_mem hx
       rw [List.length_take] at hj
       rw [List.getElem_take,HGET.out j (by omega)]
       have:=HB.out j (by omega)
       simpa using this
      have hv:=r2_ hall (by rw [List.length_take];omega)
      have HST:=Lib.hid hst
      have hki:((k:Int)+1) < s.size:=by have:=hsz'.out;omega
      clear hall hp hst
      generalize x9_ 0 ((r).take k)=V at *
      generalize hbb:d4_ s (k+1)=b at *
      obtain ⟨n,hn⟩ : ∃ n,b.toNat=n:=⟨_,rfl⟩
      rw [hn] at hd HST
      have c1:¬(n:Int) < 48:=by omega
      have c2:¬(57:Int) < n:=by omega
      have u1:=c5_ (x:=10*(V:Int)) (by omega) (by omega)
      have u2:IntKind.u8.wrap ((n:Int) - 48)=(n:Int) - 48:=by simp [IntKind.wrap,IntKind.bits,IntKind.signed];omega
      have u3:=c5_ (x:=(n:Int) - 48) (by omega) (by omega)
      have u4:=c5_ (x:=10*(V:Int)+((n:Int) - 48)) (by omega) (by omega)
      clear hd
      repeat' (first|(with_reducible first|apply a9_|apply a3_|apply b0_|apply a8_|apply b3_|apply a1_|refine a2_ [] ?_)|((with_reducible refine a7_ ?_ ?_);(focus (go_simp;done)))|((with_reducible refine a5_ ?_ ?_);(focus (go_simp;done)))|((with_reducible refine a0_ fun X Y=>?_);go_simp;refine Y _ ?_;clear Y X))
      refine hK _ ?_
      rw [HST.out]
      go_simp
      omega
     ·intro k hk HB HP K
      have hks:k+1 < s.size:=by have:=hsz'.out;omega
      have hp:=HP.out
      simp only [Bool.not_eq_true'] at hp
      have hki:((k:Int)+1) < s.size:=by have:=hsz'.out;omega
      have hno:c3w (r) false=none:=u8_ (.inr (.inr (.inr (by
       rw [List.all_eq_false]
       exact ⟨(r)[k],List.getElem_mem hk,by rw [HGET.out k hk,hp];decide⟩))))
      have e:=HR.out
      rw [hno] at e
      have hR1:R=none:=by rw [←e];rfl
      subst hR1
      clear hno e HR
      generalize hbb:d4_ s (k+1)=b at *
      obtain ⟨n,hn⟩ : ∃ n,b.toNat=n:=⟨_,rfl⟩
      simp only [isD,hn,Bool.and_eq_false_iff,decide_eq_false_iff_not] at hp
      obtain ⟨w1,w2,w3,w4,w5,w6⟩:=ixs (m:=k) (by omega)
      by_cases c1:(n:Int) < 48
      ·clear hp
       repeat' (first|(with_reducible first|apply a9_|apply a3_|apply b1_|apply c4_|apply b0_|apply a8_|apply c7_|apply a1_|refine a2_ [] ?_)|((with_reducible refine a7_ ?_ ?_);(focus (go_simp;done)))|((with_reducible refine a0_ fun X Y=>?_);go_simp;refine Y _ ?_;clear Y X))
       go_simp
      ·have c2:(57:Int) < n:=by omega
       clear hp
       repeat' (first|(with_reducible first|apply a9_|apply a3_|apply b1_|apply c4_|apply b0_|apply a8_|apply c7_|apply a1_|refine a2_ [] ?_)|((with_reducible refine a7_ ?_ ?_);(focus (go_simp;done)))|((with_reducible refine a0_ fun X Y=>?_);go_simp;refine Y _ ?_;clear Y X))
       go_simp
     ·intro HB K
      have hall:(r).all isD=true:=List.all_eq_true.2 fun x hx=>by
       obtain ⟨j,hj,rfl⟩:=List.getElem_of_mem hx
       rw [HGET.out j hj]
       have:=HB.out j hj
       simpa using this
      have hv:=r2_ hall (by omega)
      have e:=HR.out
      rw [a1u hr0 hlen (fun h=>absurd h hh) hall] at e
      rw [List.take_length]
      have hR1:R=some (-(x9_ 0 (r) : Int)):=e.symm
      subst hR1
      clear e hall HR
      generalize x9_ 0 (r)=V at *
      have u1:=c5_ (x:=-(V:Int)) (by omega) (by omega)
      have u2:=c5_ (x:=0 - (V:Int)) (by omega) (by omega)
      have u3:(0:Int) - V = -V:=by omega
      have hki:¬((((r).length:Nat) : Int)+1) < s.size:=by have:=hsz'.out;omega
      repeat' (first|(with_reducible first|apply a9_|apply a3_|apply c2_|apply c4_|apply d0_|apply b7_|apply a1_|refine a2_ [] ?_)|((with_reducible refine a7_ ?_ ?_);(focus (go_simp;done)))|((with_reducible refine a5_ ?_ ?_);(focus (go_simp;done)))|((with_reducible refine a0_ fun X Y=>?_);go_simp;refine Y _ ?_;clear Y X))
      go_simp
   ·have h9:(9:Int) < (s.size:Int) - 1:=by have:=hsz'.out;omega
    have e:=HR.out
    rw [u8_ (.inr (.inl (by omega)))] at e
    have hR1:R=none:=e.symm
    subst hR1
    clear e HR HGET HGE
    refine c0_ Tryz.func112 rfl (by kernel_rfl) (by kernel_rfl) rfl fun M0 w0=>?_
    simp only [Tryz.ntmps112,Tryz.results112,b4_]
    repeat' (first|(with_reducible first|apply a9_|apply a3_|apply b1_|apply c4_|apply a1_|refine a2_ [] ?_)|((with_reducible refine a7_ ?_ ?_);(focus (go_simp;done)))|((with_reducible refine a0_ fun X Y=>?_);go_simp;refine Y _ ?_;clear Y X))
    go_simp
  ·rw [if_neg hc] at hR
   have hc1:¬((d4_ s 0).toNat:Int)=45:=by
    rw [hc0]
    intro h
    exact hc (UInt8.toNat_inj.1 (show c.toNat=45 by omega))
   have hone0:r.isEmpty=decide (s.size=1):=by
    rw [hsz]
    cases r<;>simp
   have HGET:Hid (∀ k,(hk:k < (c::r).length)→(c::r)[k]=d4_ s k):=Lib.hid fun k hk=>by
    have:d4_ s k=(c::r).getD k 0:=by simp [d4_,hL]
    rw [this]
    simp only [List.getD,List.getElem?_eq_getElem hk,Option.getD_some]
   have hlen0:s.size=(c::r).length:=hsz
   have hhd:(c::r).head? = some 48↔((d4_ s 0).toNat:Int)=48:=by
    rw [hc0]
    simp only [List.head?_cons,Option.some.injEq]
    exact ⟨fun h=>by rw [h];rfl,fun h=>UInt8.toNat_inj.1 (show c.toNat=48 by omega)⟩
   have hD0:c::r≠[]:=by simp
   rw [hone0] at hR
   clear hone0 hsz hc0 HGE hL
   generalize c::r=D at *
   have HR:=Lib.hid hR
   have hsz':=Lib.hid hlen0
   have hlen':=Lib.hid hlen0
   have HHD:=Lib.hid hhd
   clear hR hlen0 hhd
   have h0i:¬(s.size:Int)=0:=by omega
   have h0e:¬s=ByteArray.empty:=fun h=>by rw [h] at hposn;exact absurd hposn (by decide)
   have h0f:¬s = { data:=#[] }:=h0e
   have v1:=c5_ (x:=(s.size:Int) - 0) (by omega) (by omega)
   have v2:=c5_ (x:=(s.size:Int)) (by omega) (by omega)
   by_cases hlen:D.length≤9
   ·have h9:¬(9:Int) < (s.size:Int):=by have:=hsz'.out;omega
    by_cases hh:D.head? = some 48∧¬s.size=1
    ·have hb48:((d4_ s 0).toNat:Int)=48:=HHD.out.1 hh.1
     have hgt1:(1:Int) < s.size:=by omega
     have e:=HR.out
     rw [u8_ (.inr (.inr (.inl ⟨hh.1,by simp [hh.2]⟩)))] at e
     have hR1:R=none:=e.symm
     subst hR1
     clear e HR HGET hh
     refine c0_ Tryz.func112 rfl (by kernel_rfl) (by kernel_rfl) rfl fun M0 w0=>?_
     simp only [Tryz.ntmps112,Tryz.results112,b4_]
     repeat' (first|(with_reducible first|apply a9_|apply a3_|apply b1_|apply c4_|apply b0_|apply a1_|refine a2_ [] ?_)|((with_reducible refine a7_ ?_ ?_);(focus (go_simp;done)))|((with_reducible refine a5_ ?_ ?_);(focus (go_simp;done)))|((with_reducible refine a0_ fun X Y=>?_);go_simp;refine Y _ ?_;clear Y X))
     go_simp
    ·have hone:D.head? = some 48→decide (s.size=1)=true:=fun h=>by
      rw [decide_eq_true_eq]
      exact Classical.byContradiction fun hn=>hh ⟨h,hn⟩
     by_cases hb48:((d4_ s 0).toNat:Int)=48
     ·have hgt1:¬(1:Int) < s.size:=by
       have:=hone (HHD.out.2 hb48)
       rw [decide_eq_true_eq] at this
       omega
      have HONE:=Lib.hid hone
      clear hone hh
      refine c0_ Tryz.func112 rfl (by kernel_rfl) (by kernel_rfl) rfl fun M0 w0=>?_
      simp only [Tryz.ntmps112,Tryz.results112,b4_]
      repeat' (first|(with_reducible first|apply a9_|apply a3_|apply b0_|apply a8_|apply a1_|refine a2_ [] ?_)|((with_reducible refine a5_ ?_ ?_);(focus (go_simp;done)))|((with_reducible refine a0_ fun X Y=>?_);go_simp;refine Y _ ?_;clear Y X))
      apply s5_ [0,6] (fun k=>[(8,I (k:Int)),(7,I (x9_ 0 (D.take k) : Nat))]) (fun k=>([] : Hp)) ((fun k=>!isD (d4_ s (k)))) (D.length)
      ·go_simp<;>exact rfl
      ·go_simp
      ·intro k hk HB HP K hK
       obtain ⟨w1,w2,w3,w4,w5,w6⟩:=ixs (m:=k) (by omega)
       have hks:k < s.size:=by have:=hsz'.out;have:=hlen'.out;omega
       have hp:=HP.out
       simp only [Bool.not_eq_false'] at hp
       have hd:=a5b hp
       have hbk:=HGET.out k hk
       have hst:=a5c hk
       rw [hbk] at hst
       have hall:(D.take k).all isD=true:=List.all_eq_true.2 fun x hx=>by
        obtain ⟨j,hj,rfl⟩:=List.getElem_of_mem hx
        rw [List.length_take] at hj
        rw [List.getElem_take,HGET.out j (by omega)]
        have:=HB.out j (by omega)
        simpa using this
       have hv:=r2_ hall (by rw [List.length_take];omega)
       have HST:=Lib.hid hst
       have hki:((k:Int)) < s.size:=by have:=hsz'.out;have:=hlen'.out;omega
       clear hall hp hst
       generalize x9_ 0 (D.take k)=V at *
       generalize hbb:d4_ s (k)=b at *
       obtain ⟨n,hn⟩ : ∃ n,b.toNat=n:=⟨_,rfl⟩
       rw [hn] at hd HST
       have c1:¬(n:Int) < 48:=by omega
       have c2:¬(57:Int) < n:=by omega
       have u1:=c5_ (x:=10*(V:Int)) (by omega) (by omega)
       have u2:IntKind.u8.wrap ((n:Int) - 48)=(n:Int) - 48:=by simp [IntKind.wrap,IntKind.bits,IntKind.signed];omega
       have u3:=c5_ (x:=(n:Int) - 48) (by omega) (by omega)
       have u4:=c5_ (x:=10*(V:Int)+((n:Int) - 48)) (by omega) (by omega)
       clear hd
       repeat' (first|(with_reducible first|apply a9_|apply a3_|apply b0_|apply a8_|apply b3_|apply a1_|refine a2_ [] ?_)|((with_reducible refine a7_ ?_ ?_);(focus (go_simp;done)))|((with_reducible refine a5_ ?_ ?_);(focus (go_simp;done)))|((with_reducible refine a0_ fun X Y=>?_);go_simp;refine Y _ ?_;clear Y X))
       refine hK _ ?_
       rw [HST.out]
       go_simp
       omega
      ·intro k hk HB HP K
       have hks:k < s.size:=by have:=hsz'.out;have:=hlen'.out;omega
       have hp:=HP.out
       simp only [Bool.not_eq_true'] at hp
       have hki:((k:Int)) < s.size:=by have:=hsz'.out;have:=hlen'.out;omega
       have hno:c3w D (decide (s.size=1))=none:=u8_ (.inr (.inr (.inr (by
        rw [List.all_eq_false]
        exact ⟨D[k],List.getElem_mem hk,by rw [HGET.out k hk,hp];decide⟩))))
       have e:=HR.out
       rw [hno] at e
       have hR1:R=none:=by rw [←e];rfl
       subst hR1
       clear hno e HR
       generalize hbb:d4_ s (k)=b at *
       obtain ⟨n,hn⟩ : ∃ n,b.toNat=n:=⟨_,rfl⟩
       simp only [isD,hn,Bool.and_eq_false_iff,decide_eq_false_iff_not] at hp
       obtain ⟨w1,w2,w3,w4,w5,w6⟩:=ixs (m:=k) (by omega)
       by_cases c1:(n:Int) < 48
       ·clear hp
        repeat' (first|(with_reducible first|apply a9_|apply a3_|apply b1_|apply c4_|apply b0_|apply a8_|apply c7_|apply a1_|refine a2_ [] ?_)|((with_reducible refine a7_ ?_ ?_);(focus (go_simp;done)))|((with_reducible refine a0_ fun X Y=>?_);go_simp;refine Y _ ?_;clear Y X))
        go_simp
       ·have c2:(57:Int) < n:=by omega
        clear hp
        repeat' (first|(with_reducible first|apply a9_|apply a3_|apply b1_|apply c4_|apply b0_|apply a8_|apply c7_|apply a1_|refine a2_ [] ?_)|((with_reducible refine a7_ ?_ ?_);(focus (go_simp;done)))|((with_reducible refine a0_ fun X Y=>?_);go_simp;refine Y _ ?_;clear Y X))
        go_simp
      ·intro HB K
       have hall:D.all isD=true:=List.all_eq_true.2 fun x hx=>by
        obtain ⟨j,hj,rfl⟩:=List.getElem_of_mem hx
        rw [HGET.out j hj]
        have:=HB.out j hj
        simpa using this
       have hv:=r2_ hall (by omega)
       have e:=HR.out
       rw [a1u hD0 hlen HONE.out hall] at e
       rw [List.take_length]
       have hR1:R=some ((x9_ 0 D:Int)):=e.symm
       subst hR1
       clear e hall HR
       generalize x9_ 0 D=V at *
       have u1:=c5_ (x:=-(V:Int)) (by omega) (by omega)
       have u2:=c5_ (x:=0 - (V:Int)) (by omega) (by omega)
       have u3:(0:Int) - V = -V:=by omega
       have hki:¬(((D.length:Nat) : Int)) < s.size:=by have:=hsz'.out;have:=hlen'.out;omega
       repeat' (first|(with_reducible first|apply a9_|apply a3_|apply c2_|apply c4_|apply b0_|apply d0_|apply b7_|apply a1_|refine a2_ [] ?_)|((with_reducible refine a5_ ?_ ?_);(focus (go_simp;done)))|((with_reducible refine a0_ fun X Y=>?_);go_simp;refine Y _ ?_;clear Y X))
       go_simp
     ·have HONE:=Lib.hid hone
      clear hone hh
      refine c0_ Tryz.func112 rfl (by kernel_rfl) (by kernel_rfl) rfl fun M0 w0=>?_
      simp only [Tryz.ntmps112,Tryz.results112,b4_]
      repeat' (first|(with_reducible first|apply a9_|apply a3_|apply b0_|apply a8_|apply a1_|refine a2_ [] ?_)|((with_reducible refine a5_ ?_ ?_);(focus (go_simp;done)))|((with_reducible refine a0_ fun X Y=>?_);go_simp;refine Y _ ?_;clear Y X))
      apply s5_ [0,6] (fun k=>[(8,I (k:Int)),(7,I (x9_ 0 (D.take k) : Nat))]) (fun k=>([] : Hp)) ((fun k=>!isD (d4_ s (k)))) (D.length)
      ·go_simp<;>exact rfl
      ·go_simp
      ·intro k hk HB HP K hK
       obtain ⟨w1,w2,w3,w4,w5,w6⟩:=ixs (m:=k) (by omega)
       have hks:k < s.size:=by have:=hsz'.out;have:=hlen'.out;omega
       have hp:=HP.out
       simp only [Bool.not_eq_false'] at hp
       have hd:=a5b hp
       have hbk:=HGET.out k hk
       have hst:=a5c hk
       rw [hbk] at hst
       have hall:(D.take k).all isD=true:=List.all_eq_true.2 fun x hx=>by
        obtain ⟨j,hj,rfl⟩:=List.getElem_of_mem hx
        rw [List.length_take] at hj
        rw [List.getElem_take,HGET.out j (by omega)]
        have:=HB.out j (by omega)
        simpa using this
       have hv:=r2_ hall (by rw [List.length_take];omega)
       have HST:=Lib.hid hst
       have hki:((k:Int)) < s.size:=by have:=hsz'.out;have:=hlen'.out;omega
       clear hall hp hst
       generalize x9_ 0 (D.take k)=V at *
       generalize hbb:d4_ s (k)=b at *
       obtain ⟨n,hn⟩ : ∃ n,b.toNat=n:=⟨_,rfl⟩
       rw [hn] at hd HST
       have c1:¬(n:Int) < 48:=by omega
       have c2:¬(57:Int) < n:=by omega
       have u1:=c5_ (x:=10*(V:Int)) (by omega) (by omega)
       have u2:IntKind.u8.wrap ((n:Int) - 48)=(n:Int) - 48:=by simp [IntKind.wrap,IntKind.bits,IntKind.signed];omega
       have u3:=c5_ (x:=(n:Int) - 48) (by omega) (by omega)
       have u4:=c5_ (x:=10*(V:Int)+((n:Int) - 48)) (by omega) (by omega)
       clear hd
       repeat' (first|(with_reducible first|apply a9_|apply a3_|apply b0_|apply a8_|apply b3_|apply a1_|refine a2_ [] ?_)|((with_reducible refine a7_ ?_ ?_);(focus (go_simp;done)))|((with_reducible refine a5_ ?_ ?_);(focus (go_simp;done)))|((with_reducible refine a0_ fun X Y=>?_);go_simp;refine Y _ ?_;clear Y X))
       refine hK _ ?_
       rw [HST.out]
       go_simp
       omega
      ·intro k hk HB HP K
       have hks:k < s.size:=by have:=hsz'.out;have:=hlen'.out;omega
       have hp:=HP.out
       simp only [Bool.not_eq_true'] at hp
       have hki:((k:Int)) < s.size:=by have:=hsz'.out;have:=hlen'.out;omega
       have hno:c3w D (decide (s.size=1))=none:=u8_ (.inr (.inr (.inr (by
        rw [List.all_eq_false]
        exact ⟨D[k],List.getElem_mem hk,by rw [HGET.out k hk,hp];decide⟩))))
       have e:=HR.out
       rw [hno] at e
       have hR1:R=none:=by rw [←e];rfl
       subst hR1
       clear hno e HR
       generalize hbb:d4_ s (k)=b at *
       obtain ⟨n,hn⟩ : ∃ n,b.toNat=n:=⟨_,rfl⟩
       simp only [isD,hn,Bool.and_eq_false_iff,decide_eq_false_iff_not] at hp
       obtain ⟨w1,w2,w3,w4,w5,w6⟩:=ixs (m:=k) (by omega)
       by_cases c1:(n:Int) < 48
       ·clear hp
        repeat' (first|(with_reducible first|apply a9_|apply a3_|apply b1_|apply c4_|apply b0_|apply a8_|apply c7_|apply a1_|refine a2_ [] ?_)|((with_reducible refine a7_ ?_ ?_);(focus (go_simp;done)))|((with_reducible refine a0_ fun X Y=>?_);go_simp;refine Y _ ?_;clear Y X))
        go_simp
       ·have c2:(57:Int) < n:=by omega
        clear hp
        repeat' (first|(with_reducible first|apply a9_|apply a3_|apply b1_|apply c4_|apply b0_|apply a8_|apply c7_|apply a1_|refine a2_ [] ?_)|((with_reducible refine a7_ ?_ ?_);(focus (go_simp;done)))|((with_reducible refine a0_ fun X Y=>?_);go_simp;refine Y _ ?_;clear Y X))
        go_simp
      ·intro HB K
       have hall:D.all isD=true:=List.all_eq_true.2 fun x hx=>by
        obtain ⟨j,hj,rfl⟩:=List.getElem_of_mem hx
        rw [HGET.out j hj]
        have:=HB.out j hj
        simpa using this
       have hv:=r2_ hall (by omega)
       have e:=HR.out
       rw [a1u hD0 hlen HONE.out hall] at e
       rw [List.take_length]
       have hR1:R=some ((x9_ 0 D:Int)):=e.symm
       subst hR1
       clear e hall HR
       generalize x9_ 0 D=V at *
       have u1:=c5_ (x:=-(V:Int)) (by omega) (by omega)
       have u2:=c5_ (x:=0 - (V:Int)) (by omega) (by omega)
       have u3:(0:Int) - V = -V:=by omega
       have hki:¬(((D.length:Nat) : Int)) < s.size:=by have:=hsz'.out;have:=hlen'.out;omega
       repeat' (first|(with_reducible first|apply a9_|apply a3_|apply c2_|apply c4_|apply b0_|apply d0_|apply b7_|apply a1_|refine a2_ [] ?_)|((with_reducible refine a5_ ?_ ?_);(focus (go_simp;done)))|((with_reducible refine a0_ fun X Y=>?_);go_simp;refine Y _ ?_;clear Y X))
       go_simp
   ·have h9:(9:Int) < (s.size:Int):=by have:=hsz'.out;omega
    have e:=HR.out
    rw [u8_ (.inr (.inl (by omega)))] at e
    have hR1:R=none:=e.symm
    subst hR1
    clear e HR HGET
    refine c0_ Tryz.func112 rfl (by kernel_rfl) (by kernel_rfl) rfl fun M0 w0=>?_
    simp only [Tryz.ntmps112,Tryz.results112,b4_]
    repeat' (first|(with_reducible first|apply a9_|apply a3_|apply b1_|apply c4_|apply b0_|apply a1_|refine a2_ [] ?_)|((with_reducible refine a7_ ?_ ?_);(focus (go_simp;done)))|((with_reducible refine a5_ ?_ ?_);(focus (go_simp;done)))|((with_reducible refine a0_ fun X Y=>?_);go_simp;refine Y _ ?_;clear Y X))
    go_simp
end Go.Proofs.YtoibondihdhnoaaGreatDoor
