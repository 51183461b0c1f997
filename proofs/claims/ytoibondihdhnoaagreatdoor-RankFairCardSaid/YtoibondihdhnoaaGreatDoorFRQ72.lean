/- Texts in one: Walks: how evenly all cars were served: the program says what the reference says. -/
import Derived.Test.YtoibondihdhnoaaGreatDoorFRQ68
import Derived.Test.YtoibondihdhnoaaGreatDoorFRQ32
import Derived.Test.YtoibondihdhnoaaGreatDoorFRQ71
import Derived.Test.YtoibondihdhnoaaGreatDoorFRQ9
namespace Go.Proofs.YtoibondihdhnoaaGreatDoor
open Go.RowKit
def dyN (l:List Ev) : Nat→Dy
 | 0=>⟨[],[],[],[]⟩
 | k+1=>eQ l (dyN l k) k (aA l k)
theorem C4 (l:List Ev) : ∀ (n k:Nat),k+n=l.length→lB l k (l.drop k) (dyN l k)=dyN l l.length
 | 0,k,h=>by
  obtain rfl:k=l.length:=by omega
  rw [List.drop_length];rfl
 | n+1,k,h=>by
  rw [yV (show k < l.length by omega),lB];exact C4 l n (k+1) (by omega)
def ug (c:ByteArray) (m:KV) : Prop:=(Value.string c)∈m.map (·.1)
theorem PN {b c:ByteArray} {v:Value} {m:KV} (h:UK m) : ug c (fm (.string b) v m)↔c=b∨ug c m:=by
 unfold ug;have hs:∀ {a b:ByteArray},Value.string a = .string b↔a=b:=⟨fun h=>by injection h,fun h=>by rw [h]⟩
 rcases Be (b:=b) (v:=v) h with ⟨h1,h2⟩|⟨h1,h2⟩
 ·rw [h1];exact ⟨.inr,fun h=>h.elim (fun h=>h▸h2) id⟩
 ·rw [h1,List.mem_append,List.mem_singleton,hs];exact ⟨fun h=>h.elim .inr .inl,fun h=>h.elim .inr .inl⟩
def came (l:List Ev) (k:Nat) (c:ByteArray) : Prop:=∃ j,j < k∧ji l j=true∧(aA l j).car=c
theorem zz {l:List Ev} {k:Nat} {c:ByteArray} : came l (k+1) c↔came l k c∨((aA l k).kind=0∧(aA l k).car=c):=by
 unfold came;constructor
 ·rintro ⟨j,h1,h2,h3⟩;by_cases hj:j=k
  ·subst hj;exact .inr ⟨of_decide_eq_true h2,h3⟩
  ·exact .inl ⟨j,by omega,h2,h3⟩
 ·rintro (⟨j,h1,h2,h3⟩|⟨h2,h3⟩)
  ·exact ⟨j,by omega,h2,h3⟩
  ·exact ⟨k,by omega,decide_eq_true h2,h3⟩
theorem C5 {r:Ru} {l:List Ev} (hr:RuOK r) (h:(goP r 0 l (st0 r)).2.2=0) : ∀ k,k≤l.length→UK (dyN l k).sv∧(∀ c,ug c (dyN l k).sv↔came l k c)∧∀ c∈eV (sN r l k),came l k c
 | 0,_=>by
  refine ⟨UK.nil,fun c=>⟨fun h=>(by cases h),fun ⟨j,hj,_⟩=>(by omega)⟩,fun c hc=>?_⟩;have:eV (sN r l 0)=[]:=by simp [sN,goP,st0,eV]
  rw [this] at hc;cases hc
 | k+1,hk=>by
  obtain ⟨h1,h2,h3⟩:=C5 hr h k (by omega);obtain ⟨q1,q2⟩:=Hk h (show k < l.length by omega);have hi:=(G8 hr (zv h k)).1;have bo:Inv r (sN r l k):=hi;have aD:∀ c∈eV (sN r l (k+1)),came l (k+1) c:=fun c hc=>by
   rw [←q2] at hc;rw [zz];rcases E8 hr bo q1 hc with hc|⟨kI,rfl⟩
   ·exact .inl (h3 c hc)
   ·exact .inr ⟨kI,rfl⟩
  have iI:∀ v,UK (kH (dyN l k).sv (aA l k).car v)∧∀ c,ug c (kH (dyN l k).sv (aA l k).car v)↔c=(aA l k).car∨came l k c:=fun v=>⟨h1.upd,fun c=>by
   unfold kH;rw [PN h1,h2 c]⟩
  rw [dyN];unfold eQ;by_cases h4:(aA l k).kind=4
  ·rw [if_pos h4];refine ⟨h1,fun c=>?_,aD⟩;rw [h2 c,zz];exact ⟨.inl,fun h=>h.elim id fun h=>by omega⟩
  rw [if_neg h4];by_cases h0:(aA l k).kind=0
  ·rw [if_pos h0];refine ⟨(iI 0).1,fun c=>?_,aD⟩;rw [(iI 0).2 c,zz];exact ⟨fun h=>h.elim (fun h=>.inr ⟨h0,h.symm⟩) .inl,fun h=>h.elim .inr fun h=>.inl h.2.symm⟩
  rw [if_neg h0];have a_:=h3 _ (vo bo.len q1 h0 h4);have bI:∀ c,c=(aA l k).car∨came l k c↔came l (k+1) c:=fun c=>by
   rw [zz];exact ⟨fun h=>h.elim (fun h=>.inl (h▸a_)) .inl,fun h=>h.elim .inr fun h=>absurd h.1 h0⟩
  by_cases k1:(aA l k).kind=1
  ·simp only [if_pos k1];exact ⟨(iI 1).1,fun c=>((iI 1).2 c).trans (bI c),aD⟩
  ·by_cases k5:(aA l k).kind=5
   ·simp only [if_neg k1,if_pos k5];exact ⟨(iI (-1)).1,fun c=>((iI (-1)).2 c).trans (bI c),aD⟩
   ·simp only [if_neg k1,if_neg k5];refine ⟨h1,fun c=>?_,aD⟩;rw [h2 c,←bI c];exact ⟨.inr,fun h=>h.elim (fun h=>h▸a_) id⟩
theorem PO {r:Ru} {l:List Ev} (hr:RuOK r) (h:(goP r 0 l (st0 r)).2.2=0) : (∀ q∈(dyN l l.length).sv,∃ j,j < l.length∧ji l j=true∧q=(.string (aA l j).car,.int .i64 (eR l j)))∧∀ j,j < l.length→ji l j=true→(.string (aA l j).car,.int .i64 (eR l j))∈(dyN l l.length).sv:=by
 obtain ⟨h1,h2,_⟩:=C5 hr h l.length (Nat.le_refl _);have ky:=x8 l 0 (st0 r) h;have od:=CP l (fun k hk=>by
  rw [jK hk];exact tt (ky _ (List.getElem_mem hk))) l 0 ⟨[],[],[],[]⟩ rfl (Nat.zero_le _) (DyOK.zero l)
 have zA:lB l 0 l ⟨[],[],[],[]⟩=dyN l l.length:=C4 l l.length 0 (by omega);have hz:∀ c,iF (⟨[],[],[],[]⟩ : Dy).sv c=0:=fun _=>rfl;have h4:∀ x∈l,x.kind=4→x.car=ByteArray.empty:=fun x hx hk=>by
  have hh:=ky x hx;unfold evE at hh;rw [ch,ch,ch,ch] at hh;have e4:=eW (by decide) hh.2.2.2.1;rw [Bool.or_eq_true,Bool.not_eq_true',decide_eq_false_iff_not,decide_eq_true_eq] at e4;exact e4.resolve_left fun hh=>hh hk
 have qU:∀ j,j < l.length→ji l j=true→(aA l j).car≠ByteArray.empty:=fun j hj ha=>by
  have hh:=ky _ (List.getElem_mem hj);rw [←jK hj] at hh;unfold evE at hh;rw [ch,ch,ch,ch,ch] at hh;have e5:=eW (by decide) hh.2.2.2.2.1;rw [Bool.or_eq_true,decide_eq_true_eq] at e5;have h0:(aA l j).kind=0:=of_decide_eq_true ha;exact fun he=>BU (e5.resolve_left (by omega)) he
 have C6:∀ j,j < l.length→ji l j=true→iF (dyN l l.length).sv (aA l j).car=eR l j:=fun j hj ha=>by
  have hn:=BY l (aA l j).car (qU j hj ha) l 0 ⟨[],[],[],[]⟩ h4;rw [hz,Int.zero_add,Gj hr (qU j hj ha) h,←Gl,zA] at hn;exact hn
 rw [zA] at od;have hA:∀ q∈(dyN l l.length).sv,∃ j,j < l.length∧ji l j=true∧q=(.string (aA l j).car,.int .i64 (eR l j)):=fun q hq=>by
  obtain ⟨c,hc⟩:=h1.str q hq;obtain ⟨k,v⟩:=q;simp only at hc;subst hc;obtain ⟨j,j1,j2,j3⟩:=(h2 c).1 (List.mem_map_of_mem (f:=(·.1)) hq);refine ⟨j,j1,j2,?_⟩;have hf:=(Fg h1).2 hq;have bf:=(od.sv.at_ c).1;rw [hf,Option.getD_some] at bf;rw [bf,←j3,C6 j j1 j2]
 refine ⟨hA,fun j hj ha=>?_⟩;have hk:ug (aA l j).car (dyN l l.length).sv:=(h2 _).2 ⟨j,hj,ha,rfl⟩;obtain ⟨q,hq,he⟩:=List.mem_map.1 hk;obtain ⟨i,i1,i2,i3⟩:=hA q hq;have de:(aA l i).car=(aA l j).car:=by
  rw [i3] at he;injection he
 have hv:eR l i=eR l j:=by
  unfold eR;rw [de]
 rw [←de,←hv,←i3];exact hq
theorem C7 {l:List Ev} {L:List Int} (hL:∀ v,v∈L↔∃ j,j < l.length∧ji l j=true∧eR l j=v) :
  (L=[]→fr l l.length=none)∧(0 < L.length→(fr l l.length).isSome=true∧eZ l l.length=(mnN L (L.length - 1),mxN L (L.length - 1))):=by
 refine ⟨fun h0=>vV.2 fun j hj=>?_,fun h0=>?_⟩
 ·cases hb:ji l j
  ·rfl
  ·have:=(hL (eR l j)).2 ⟨j,hj,hb,rfl⟩;rw [h0] at this;cases this
 ·cases hp:fr l l.length with
  | none=>
   have hn:=vV.1 hp;obtain ⟨j,j1,j2,_⟩:=(hL L[0]).1 (List.getElem_mem h0);rw [hn j j1] at j2;cases j2
  | some p=>
   obtain ⟨⟨a,a1,a2,a3⟩,⟨b,b1,b2,b3⟩,aD⟩:=yW hp;refine ⟨rfl,?_⟩;have hv:eZ l l.length=p:=by rw [eZ,hp];rfl
   rw [hv];obtain ⟨⟨i,i1,i2⟩,i3⟩:=Hl L (L.length - 1);obtain ⟨⟨k,k1,k2⟩,k3⟩:=Hm L (L.length - 1);have get:∀ v,v∈L→∃ n,n≤L.length - 1∧iat L n=v:=fun v hv=>by
    obtain ⟨n,hn,he⟩:=List.getElem_of_mem hv;exact ⟨n,by omega,by rw [qI hn];exact he⟩
   have mem:∀ n,n≤L.length - 1→iat L n∈L:=fun n hn=>by
    have h_:n < L.length:=by omega
    rw [qI h_];exact List.getElem_mem h_
   have q1:p.1=mnN L (L.length - 1):=by
    obtain ⟨n,n1,n2⟩:=get p.1 ((hL _).2 ⟨a,a1,a2,a3⟩);have e1:=i3 n n1;obtain ⟨j,j1,j2,j3⟩:=(hL _).1 (mem i i1);have e2:=(aD j j1 j2).1;omega
   have q2:p.2=mxN L (L.length - 1):=by
    obtain ⟨n,n1,n2⟩:=get p.2 ((hL _).2 ⟨b,b1,b2,b3⟩);have e1:=k3 n n1;obtain ⟨j,j1,j2,j3⟩:=(hL _).1 (mem k k1);have e2:=(aD j j1 j2).2;omega
   exact Prod.ext q1 q2
set_option maxRecDepth 100000
set_option maxHeartbeats 4000000
def spE (r:Ru) (l:List Ev) : Int:=fst [fP r l,unl (fr l l.length).isSome 12]
def spV (r:Ru) (l:List Ev) : Int×Int:=if spE r l=0 then eZ l l.length else (0,0)
def vOf (q:Value×Value) : Int:=match q.2 with | .int _ v=>v|_=>0
theorem PQ {done:List (Value×Value)} (h:∀ q∈done,∃ v:Int,q.2 = .int .i64 v) : done.map vlA=(done.map vOf).map dt:=by
 rw [List.map_map];refine List.map_congr_left fun q hq=>?_;obtain ⟨v,hv⟩:=h q hq;simp [vlA,vOf,hv,dt]
theorem Hu (k v:Value) : ∀ m:KV,(fm k v m).length≤m.length+1
 | []=>Nat.le_refl _
 | (q,u)::r=>by
  rw [fm];split
  ·exact Nat.le_succ _
  ·have:=Hu k v r;simp only [List.length_cons];omega
theorem Hv (l:List Ev) : ∀ k,(dyN l k).sv.length≤k
 | 0=>Nat.le_refl _
 | k+1=>by
  have h:=Hv l k;have ha:∀ v,(kH (dyN l k).sv (aA l k).car v).length≤k+1:=fun v=>by
   have:=Hu (.string (aA l k).car) (.int .i64 (iF (dyN l k).sv (aA l k).car+v)) (dyN l k).sv;unfold kH;omega
  rw [dyN];unfold eQ;split
  ·omega
  ·split
   ·exact ha 0
   ·show (if (aA l k).kind=1 then kH (dyN l k).sv (aA l k).car 1 else if (aA l k).kind=5 then kH (dyN l k).sv (aA l k).car (-1) else (dyN l k).sv).length≤k+1;split
    ·exact ha 1
    ·split
     ·exact ha (-1)
     ·omega
theorem PR (r:Ru) (l:List Ev) (h:SmallL r l) : VC Tryz.prog 58 [bJ r,cp l] (.tup [.agg [I (spV r l).1,I (spV r l).2],I (spE r l)]):=by
 rcases BZ r l h with ⟨he,d,a,g⟩|⟨he,hr,h1,a,s,mv,b,g⟩
 ·have hE:spE r l=fP r l:=by
   unfold spE;simp [fst,he]
  have hV:spV r l=(0,0):=by
   unfold spV;rw [hE,if_neg he]
  rw [hE,hV];unfold jI at g;have g4:VC Tryz.prog 88 [.sl 1 ([fP r l,unl (decide ((0:Int) < d.sv.length)) 12].map dt)] (I (fst [fP r l,unl (decide ((0:Int) < d.sv.length)) 12])):=eL _ rfl rfl;have hf:fst [fP r l,unl (decide ((0:Int) < d.sv.length)) 12]=fP r l:=by simp [fst,he]
  rw [hf] at g4;exact PL r l d.op d.sv _ _ _ _ (fP r l) _ (fP r l) he g (bN _ 12) g4
 ·have zA:lB l 0 l ⟨[],[],[],[]⟩=dyN l l.length:=C4 l l.length 0 (by omega);rw [zA] at g;obtain ⟨hA,hB⟩:=PO hr h1;have hint:∀ q∈(dyN l l.length).sv,∃ v:Int,q.2 = .int .i64 v:=fun q hq=>by
   obtain ⟨j,_,_,hj⟩:=hA q hq;exact ⟨_,by rw [hj]⟩
  have hL:∀ done:List (Value×Value),done.Perm (dyN l l.length).sv→∀ v,v∈done.map vOf↔∃ j,j < l.length∧ji l j=true∧eR l j=v:=fun done hp v=>by
   rw [List.mem_map];constructor
   ·rintro ⟨q,hq,rfl⟩;obtain ⟨j,j1,j2,j3⟩:=hA q (hp.mem_iff.1 hq);exact ⟨j,j1,j2,by rw [j3];rfl⟩
   ·rintro ⟨j,j1,j2,rfl⟩;exact ⟨_,hp.mem_iff.2 (hB j j1 j2),rfl⟩
  unfold jI at g;simp only [List.cons_append,List.nil_append] at g;by_cases hs:(dyN l l.length).sv=[]
  ·have hn:fr l l.length=none:=(C7 (hL _ (List.Perm.refl _))).1 (by rw [hs];rfl);have hE:spE r l=12:=by
    unfold spE;rw [he,hn];rfl
   have hV:spV r l=(0,0):=by
    unfold spV;rw [hE];rfl
   rw [hE,hV];have g4:VC Tryz.prog 88 [.sl 1 ([0,unl (decide ((0:Int) < (dyN l l.length).sv.length)) 12].map dt)] (I 12):=by
    rw [hs];exact eL _ rfl rfl
   exact PM r l _ _ _ _ _ _ _ _ _ _ _ 0 _ 12 (by decide) g (bN _ 12) g4
  ·have h0:0 < (dyN l l.length).sv.length:=List.length_pos_iff.2 hs;have fH:=(C7 (hL _ (List.Perm.refl _))).2 (by rw [List.length_map];exact h0);have hE:spE r l=0:=by
    unfold spE;rw [he,fH.1];rfl
   have hV:spV r l=eZ l l.length:=by
    unfold spV;rw [if_pos hE]
   rw [hE,hV];have hn:=Hv l l.length;have l8:=(Hj he).2.2.1;refine PK r l _ _ _ _ _ _ _ _ _ _ _ g (bN true 12) (eL [[I 0],[I 0]] rfl rfl) h0 (by omega) hint fun done hp=>?_;have fL:(done.map vOf).length≤1000000:=by
    rw [List.length_map,hp.length_eq];omega
   have fu:0 < (done.map vOf).length:=by
    rw [List.length_map,hp.length_eq];exact h0
   have h2:=((C7 (hL done hp)).2 fu).2;rw [PQ fun q hq=>hint q (hp.mem_iff.1 hq),h2];exact ⟨O_ _ fu fL,Pb _ fu fL⟩
theorem PS {r:Ru} {l:List Ev} {c:ByteArray} (hr:RuOK r) (h:(goP r 0 l (st0 r)).2.2=0) (hn:cu c=true) {k:Nat} (hk:k < l.length) (hc:(aA l k).car=c) :
  ∃ p,fr l l.length=some p∧p.1≤gA c l l.length∧gA c l l.length≤p.2:=by
 have fD:∃ j,j < l.length∧ji l j=true∧(aA l j).car=c:=by
  by_cases h0:(aA l k).kind=0
  ·exact ⟨k,hk,decide_eq_true h0,hc⟩
  ·have ky:evE r (aA l k)=0:=by
    rw [jK hk];exact x8 l 0 (st0 r) h _ (List.getElem_mem hk)
   have h4:(aA l k).kind≠4:=fun h4=>by
    have:=(E9 ky).1 h4;rw [hc] at this;exact BU hn this
   obtain ⟨q1,_⟩:=Hk h hk;have hi:Inv r (sN r l k):=(G8 hr (zv h k)).1;have a_:=(C5 hr h k (by omega)).2.2 _ (vo hi.len q1 h0 h4);rw [hc] at a_;obtain ⟨j,j1,j2,j3⟩:=a_;exact ⟨j,by omega,j2,j3⟩
 obtain ⟨j,j1,j2,j3⟩:=fD;have hv:eR l j=gA c l l.length:=by
  unfold eR;rw [j3]
 cases hp:fr l l.length with
 | none=>
  have:=vV.1 hp j j1;rw [j2] at this;cases this
 | some p=>
  refine ⟨p,rfl,?_⟩;rw [←hv];exact (yW hp).2.2 j j1 j2
def cmN (l:List Ev) (c:ByteArray) : Nat→Bool
 | 0=>false
 | k+1=>cmN l c k || decide ((aA l k).car=c)
theorem Hw {l:List Ev} {c:ByteArray} : ∀ {k:Nat},cmN l c k=true→∃ j,j < k∧(aA l j).car=c
 | 0,h=>by cases h
 | k+1,h=>by
  rw [cmN,Bool.or_eq_true,decide_eq_true_eq] at h;rcases h with h|h
  ·obtain ⟨j,h1,h2⟩:=Hw h;exact ⟨j,by omega,h2⟩
  ·exact ⟨k,by omega,h⟩
theorem PT (r:Ru) (l:List Ev) (c:ByteArray) (hl:r.ranks.length≤9223372036854775807) (hL:l.length≤9223372036854775807) (hc:c.size≤9223372036854775807) : VC Tryz.prog 11 [bJ r,cp l,S c] (B true):=by
 have ha:=M5;have gF:=M9 r hl;have gS:=Nb l hL;clear hl hL;cases hF:vW r
 ·rw [hF] at gF;clear hF hc gS;refine aL Tryz.func11 rfl (by kernel_rfl) rfl fun M0 w0=>?_;simp only [Tryz.ntmps11,Tryz.results11,aC];repeat' first|(with_reducible first|apply af|apply ae|apply aW|apply az|apply aw|apply aa|refine ah [] ?_|(apply ax;·go_simp)|(apply ar;·go_simp))|((with_reducible apply ab);intro X Y;go_simp;(first|(with_reducible refine ⟨_,ha,?_⟩)|(refine ⟨_,gF,?_⟩)|skip);apply Y;clear Y X)
  go_simp
 rw [hF] at gF;cases hS:vX l
 ·rw [hS] at gS;clear hF hS hc;refine aL Tryz.func11 rfl (by kernel_rfl) rfl fun M0 w0=>?_;simp only [Tryz.ntmps11,Tryz.results11,aC];repeat' first|(with_reducible first|apply af|apply ae|apply aW|apply az|apply aw|apply aa|refine ah [] ?_|(apply ax;·go_simp)|(apply ar;·go_simp))|((with_reducible apply ab);intro X Y;go_simp;(first|(with_reducible refine ⟨_,ha,?_⟩)|(refine ⟨_,gF,?_⟩)|(refine ⟨_,gS,?_⟩)|skip);apply Y;clear Y X)
  go_simp
 rw [hS] at gS;obtain ⟨h8,cU⟩:=Na hF;obtain ⟨n7,de⟩:=Nc hS;by_cases pP:c.size≤20
 rotate_left
 ·have k1:(20:Int) < (c.size:Int):=by omega
  clear hF hS h8 cU n7 de hc pP;refine aL Tryz.func11 rfl (by kernel_rfl) rfl fun M0 w0=>?_;simp only [Tryz.ntmps11,Tryz.results11,aC];repeat' first|(with_reducible first|apply af|apply ae|apply aW|apply az|apply aw|apply aa|refine ah [] ?_|(apply ax;·go_simp)|(apply ar;·go_simp))|((with_reducible apply ab);intro X Y;go_simp;(first|(with_reducible refine ⟨_,ha,?_⟩)|(refine ⟨_,gF,?_⟩)|(refine ⟨_,gS,?_⟩)|skip);apply Y;clear Y X)
  go_simp
 have k1:¬(20:Int) < (c.size:Int):=by omega
 have dy:SmallL r l:=⟨by omega,cU,de⟩
 have g1:=MN r (by omega);have g2:=MM l (by omega);have g3:=Pj r l c dy (by omega);have g4:=PR r l dy;have g5:=OS r l (by omega) cU (by omega) de;by_cases h:fP r l=0
 rotate_left
 ·have s1:svE (fP r l) c=fP r l:=by
   unfold svE;simp [fst,h]
  have s2:spE r l=fP r l:=by
   unfold spE;simp [fst,h]
  have s3:spV r l=(0,0):=by
   unfold spV;rw [s2,if_neg h]
  rw [s1,if_neg h] at g3;rw [s2,s3] at g4;clear hF hS h8 cU n7 de hc pP dy s1 s2 s3;generalize fP r l=E at *;have Jd:IntKind.i64.wrap 0=0:=by decide
  refine aL Tryz.func11 rfl (by kernel_rfl) rfl fun M0 w0=>?_;simp only [Tryz.ntmps11,Tryz.results11,aC];repeat' first|(with_reducible first|apply af|apply ae|apply aW|apply az|apply aw|apply aa|refine ah [] ?_|(apply ax;·go_simp)|(apply ar;·go_simp))|((with_reducible apply ab);intro X Y;go_simp;(first|(with_reducible refine ⟨_,ha,?_⟩)|(refine ⟨_,gF,?_⟩)|(refine ⟨_,gS,?_⟩)|(refine ⟨_,g1,?_⟩)|(refine ⟨_,g2,?_⟩)|(refine ⟨_,g3,?_⟩)|(refine ⟨_,g4,?_⟩)|(refine ⟨_,g5,?_⟩)|skip);apply Y;clear Y X)
  go_simp
 obtain ⟨e1,e2,e3,e4⟩:=Hj h;have hr:=(AU e1).1;have g6:=Pe l (by omega);have g7:=zG c hc;have g8:=Hn l c (by omega);rw [h] at g3 g5;have s2:spE r l=unl (fr l l.length).isSome 12:=by
  unfold spE;rw [h];simp only [fst];split<;>simp_all
 have s3:spV r l=eZ l l.length:=by
  unfold spV;rw [s2];cases hp:fr l l.length with
  | none=>
   unfold eZ;rw [hp];rfl
  | some p=>rfl
 rw [s2,s3] at g4;have HL:=Lib.hid fun (hn:cu c=true) (k:Nat) (hk:k < l.length) (cz:(aA l k).car=c)=>PS hr e4 hn hk cz;cases hn:cu c
 ·have s1:svE 0 c=4:=by
   unfold svE;rw [hn];rfl
  rw [s1,if_neg (by decide)] at g3;rw [hn] at g7;clear hF hS h8 cU n7 de h hc pP dy s1 s2 s3 e1 e2 e3 e4 hr HL hn;cases hp:fr l l.length with
  | none=>
   have hv:eZ l l.length=(0,0):=by
    unfold eZ;rw [hp];rfl
   rw [hp,hv] at g4 g6;have u:unl (Option.isSome (none:Option (Int×Int))) 12=12:=rfl;rw [u] at g4;have u2:Option.isSome (none:Option (Int×Int))=false:=rfl;rw [u2] at g6;clear hp hv u u2;refine aL Tryz.func11 rfl (by kernel_rfl) rfl fun M0 w0=>?_;simp only [Tryz.ntmps11,Tryz.results11,aC];repeat' first|(with_reducible first|apply af|apply ae|apply aW|apply az|apply aw|apply aa|refine ah [] ?_|(apply ax;·go_simp)|(apply ar;·go_simp))|((with_reducible apply ab);intro X Y;go_simp;(first|(with_reducible refine ⟨_,ha,?_⟩)|(refine ⟨_,gF,?_⟩)|(refine ⟨_,gS,?_⟩)|(refine ⟨_,g1,?_⟩)|(refine ⟨_,g2,?_⟩)|(refine ⟨_,g3,?_⟩)|(refine ⟨_,g4,?_⟩)|(refine ⟨_,g5,?_⟩)|(refine ⟨_,g6,?_⟩)|(refine ⟨_,g7,?_⟩)|skip);apply Y;clear Y X)
   go_simp
  | some p=>
   rw [hp] at g4 g6;have u:unl (Option.isSome (some p)) 12=0:=rfl;rw [u] at g4;have u2:Option.isSome (some p)=true:=rfl;rw [u2] at g6;clear hp u u2;generalize (eZ l l.length).1=V1 at *;generalize (eZ l l.length).2=V2 at *;refine aL Tryz.func11 rfl (by kernel_rfl) rfl fun M0 w0=>?_;simp only [Tryz.ntmps11,Tryz.results11,aC];repeat' first|(with_reducible first|apply af|apply ae|apply aW|apply az|apply aw|apply aa|refine ah [] ?_|(apply ax;·go_simp)|(apply ar;·go_simp))|((with_reducible apply ab);intro X Y;go_simp;(first|(with_reducible refine ⟨_,ha,?_⟩)|(refine ⟨_,gF,?_⟩)|(refine ⟨_,gS,?_⟩)|(refine ⟨_,g1,?_⟩)|(refine ⟨_,g2,?_⟩)|(refine ⟨_,g3,?_⟩)|(refine ⟨_,g4,?_⟩)|(refine ⟨_,g5,?_⟩)|(refine ⟨_,g6,?_⟩)|(refine ⟨_,g7,?_⟩)|skip);apply Y;clear Y X)
   go_simp
 have s1:svE 0 c=0:=by
  unfold svE;rw [hn];rfl
 rw [s1,if_pos rfl] at g3;have HF:=Lib.hid (HL.out hn);rw [hn] at g7;have vK:l.length≤1000000:=by omega
 cases hp:fr l l.length with
 | none=>
  have hv:eZ l l.length=(0,0):=by
   unfold eZ;rw [hp];rfl
  rw [hp,hv] at g4 g6;have u:unl (Option.isSome (none:Option (Int×Int))) 12=12:=rfl;rw [u] at g4;have u2:Option.isSome (none:Option (Int×Int))=false:=rfl;rw [u2] at g6;have HN:Hid (∀ k,k < l.length→¬(aA l k).car=c):=Lib.hid fun k hk he=>by
   obtain ⟨p,h1,_⟩:=HF.out k hk he;rw [hp] at h1;cases h1
  clear hF hS h8 cU n7 de h hc pP dy s1 s2 s3 e1 e2 e3 e4 hr HL hn HF hp hv u u2;generalize gA c l l.length=N at *;refine aL Tryz.func11 rfl (by kernel_rfl) rfl fun M0 w0=>?_;simp only [Tryz.ntmps11,Tryz.results11,aC];repeat' first|(with_reducible first|apply af|apply ae|apply aw|apply aE|apply aa|refine ah [] ?_|(apply ar;·go_simp))|((with_reducible apply ab);intro X Y;go_simp;(first|(with_reducible refine ⟨_,ha,?_⟩)|(refine ⟨_,gF,?_⟩)|(refine ⟨_,gS,?_⟩)|(refine ⟨_,g1,?_⟩)|(refine ⟨_,g2,?_⟩)|(refine ⟨_,g3,?_⟩)|(refine ⟨_,g4,?_⟩)|(refine ⟨_,g5,?_⟩)|(refine ⟨_,g6,?_⟩)|(refine ⟨_,g7,?_⟩)|skip);apply Y;clear Y X)
  apply jQ [1,2,7,8,12] (fun k=>[(15,I k),(14,B false)]) (fun k=>([some (.box [I 0,I 0]),some (.box [I 0,I 0])] : Hp))  (l.length)
  ·go_simp<;>exact rfl
  ·go_simp
  ·intro k hk K hK;obtain ⟨w1,w2,w3,w4,w5,w6⟩:=ixs (m:=k) (by omega);have aq:=HN.out k hk;clear ha gF gS g1 g2 g3 g4 g5 g6 g7 g8;repeat' with_reducible first|apply af|apply ae|apply aw|apply aE|apply bc|apply aa|refine ah [] ?_|(apply ax;·go_simp)|(apply ab;intro X Y;go_simp;apply Y;clear Y X)
   refine hK _ ?_;go_simp
  ·intro K;repeat' first|(with_reducible first|apply af|apply ae|apply bU|apply az|apply bV|apply bW|apply aa|refine ah [] ?_|(apply ar;·go_simp))|((with_reducible apply ab);intro X Y;go_simp;(first|(refine ⟨_,g8,?_⟩)|skip);apply Y;clear Y X)
   go_simp
 | some p=>
  have hv:eZ l l.length=p:=by
   unfold eZ;rw [hp];rfl
  rw [hp,hv] at g4 g6;have u:unl (Option.isSome (some p)) 12=0:=rfl;rw [u] at g4;have u2:Option.isSome (some p)=true:=rfl;rw [u2] at g6;have HI:Hid (cmN l c l.length=true→inR (gA c l l.length) p.1 p.2=true):=Lib.hid fun eT=>by
   obtain ⟨k,hk,he⟩:=Hw eT;obtain ⟨q,h1,h2⟩:=HF.out k hk he;rw [hp] at h1;injection h1 with h1
   subst h1;exact oG.2 h2
  obtain ⟨V1,V2⟩:=p;have g9:=qW (gA c l l.length) V1 V2;clear hF hS h8 cU n7 de h hc pP dy s1 s2 s3 e1 e2 e3 e4 hr HL hn HF hp hv u u2;simp only at HI g4 g6;generalize gA c l l.length=N at *;generalize inR N V1 V2=J at *;have e0:cmN l c 0=false:=rfl;refine aL Tryz.func11 rfl (by kernel_rfl) rfl fun M0 w0=>?_;simp only [Tryz.ntmps11,Tryz.results11,aC];repeat' first|(with_reducible first|apply af|apply ae|apply aw|apply aE|apply aa|refine ah [] ?_|(apply ar;·go_simp))|((with_reducible apply ab);intro X Y;go_simp;(first|(with_reducible refine ⟨_,ha,?_⟩)|(refine ⟨_,gF,?_⟩)|(refine ⟨_,gS,?_⟩)|(refine ⟨_,g1,?_⟩)|(refine ⟨_,g2,?_⟩)|(refine ⟨_,g3,?_⟩)|(refine ⟨_,g4,?_⟩)|(refine ⟨_,g5,?_⟩)|(refine ⟨_,g6,?_⟩)|(refine ⟨_,g7,?_⟩)|skip);apply Y;clear Y X)
  apply jQ [1,2,7,8,12] (fun k=>[(15,I k),(14,B (cmN l c k))]) (fun k=>([some (.box [I V1,I V2]),some (.box [I V1,I V2])] : Hp))  (l.length)
  ·go_simp<;>exact rfl
  ·go_simp
  ·intro k hk K hK;obtain ⟨w1,w2,w3,w4,w5,w6⟩:=ixs (m:=k) (by omega);have hs:cmN l c (k+1)=(cmN l c k || decide ((aA l k).car=c)):=rfl;clear ha gF gS g1 g2 g3 g4 g5 g6 g7 g8 g9 e0;rw [hs] at hK;clear hs;generalize cmN l c k=CM at *;cases CM
   ·by_cases cz:(aA l k).car=c
    ·have hd:(false || decide ((aA l k).car=c))=true:=by simp [cz]
     rw [hd] at hK;clear hd;repeat' with_reducible first|apply af|apply ae|apply aw|apply aE|apply bc|apply aa|refine ah [] ?_|(apply ax;·go_simp)|(apply ab;intro X Y;go_simp;apply Y;clear Y X)
     refine hK _ ?_;go_simp
    ·have hd:(false || decide ((aA l k).car=c))=false:=by simp [cz]
     rw [hd] at hK;clear hd;repeat' with_reducible first|apply af|apply ae|apply aw|apply aE|apply bc|apply aa|refine ah [] ?_|(apply ax;·go_simp)|(apply ab;intro X Y;go_simp;apply Y;clear Y X)
     refine hK _ ?_;go_simp
   ·rw [Bool.true_or] at hK;repeat' with_reducible first|apply af|apply ae|apply aw|apply aE|apply bc|apply aa|refine ah [] ?_|(apply ax;·go_simp)|(apply ab;intro X Y;go_simp;apply Y;clear Y X)
    refine hK _ ?_;go_simp
  ·intro K;clear e0;cases eT:cmN l c l.length
   ·clear eT;repeat' first|(with_reducible first|apply af|apply ae|apply bU|apply az|apply bV|apply bW|apply aa|refine ah [] ?_|(apply ar;·go_simp))|((with_reducible apply ab);intro X Y;go_simp;(first|(refine ⟨_,g8,?_⟩)|skip);apply Y;clear Y X)
    go_simp
   ·have hj:=HI.out eT;subst hj;clear eT;repeat' first|(with_reducible first|apply af|apply ae|apply bU|apply az|apply bV|apply bW|apply aa|refine ah [] ?_|(apply ar;·go_simp))|((with_reducible apply ab);intro X Y;go_simp;(first|(refine ⟨_,g8,?_⟩)|(refine ⟨_,g9,?_⟩)|skip);apply Y;clear Y X)
    go_simp
end Go.Proofs.YtoibondihdhnoaaGreatDoor
