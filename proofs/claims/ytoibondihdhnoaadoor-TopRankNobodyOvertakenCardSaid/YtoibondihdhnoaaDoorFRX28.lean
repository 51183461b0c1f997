/- Texts in one: Walks on a town that changes: a car returns. -/
import Derived.Test.YtoibondihdhnoaaDoorFRX20
import Derived.Test.YtoibondihdhnoaaDoorFRX15
import Derived.Test.YtoibondihdhnoaaDoorFRX5
import Derived.Deep.RegionLaw
import Derived.Lib.SliceRun
import Derived.Test.YtoibondihdhnoaaDoorFRX24
import Derived.Test.YtoibondihdhnoaaDoorFRX23
import Derived.Test.YtoibondihdhnoaaDoorFRX17
namespace Go.Proofs.YtoibondihdhnoaaDoor
open Go.RowKit Go.Lib
set_option maxRecDepth 100000
set_option maxHeartbeats 2000000
def b1n (cur:Array Value) : Nat→List Value→Array Value
 | _,[]=>cur
 | o,v::r=>b1n (cur.setIfInBounds o v) (o+1) r
theorem a1y:∀ (l:List Value) (o:Nat) (cur:Array Value),(b1n cur o l).size=cur.size
 | [],_,_=>rfl
 | v::r,o,cur=>by rw [b1n,a1y r,Array.size_setIfInBounds]
theorem a4d:∀ (l:List Value) (o j:Nat) (cur:Array Value),(j < o∨o+l.length≤j)→(b1n cur o l)[j]? = cur[j]?
 | [],_,_,_,_=>rfl
 | v::r,o,j,cur,h=>by
  rw [b1n,a4d r (o+1) j _ (by simp at h;omega),Array.getElem?_setIfInBounds_ne (by simp at h;omega)]
theorem b8q:∀ (l:List Value) (o j:Nat) (cur:Array Value),o≤j→j < o+l.length→o+l.length≤cur.size→(b1n cur o l)[j]? = l[j - o]?
 | [],_,_,_,h1,h2,_=>by simp at h2;omega
 | v::r,o,j,cur,h1,h2,h3=>by
  simp at h2 h3;rw [b1n];by_cases he:j=o
  ·subst he;rw [a4d r (j+1) j _ (by omega),Array.getElem?_setIfInBounds_self_of_lt (by omega)];simp
  ·rw [b8q r (o+1) j _ (by omega) (by omega) (by simp;omega),show j - o=(j - (o+1))+1 by omega,List.getElem?_cons_succ]
theorem l8_ (w:World) (b o:Nat) (v:Value) (r:List Value) : w.setCells b o (v::r)=(w.setCells b o [v]).setCells b (o+1) r:=rfl
theorem w5_:∀ (l:List Value) (w:World) (b o:Nat) (cur:Array Value) (t:TypeId),Bk w b t cur→Bk (w.setCells b o l) b t (b1n cur o l)
 | [],_,_,_,_,_,h=>h
 | v::r,w,b,o,cur,t,h=>by
  rw [l8_,b1n];exact w5_ r _ b (o+1) _ t (x1_ v h)
theorem y6_:∀ (l:List Value) (w:World) (b o b':Nat),b'≠b→(w.setCells b o l).heap[b']? = w.heap[b']?
 | [],_,_,_,_,_=>rfl
 | v::r,w,b,o,b',h=>by rw [l8_,y6_ r _ b (o+1) b' h,x2_ v h]
theorem a1g:∀ (l:List Value) (w:World) (b o:Nat),(w.setCells b o l).heap.size=w.heap.size
 | [],_,_,_=>rfl
 | v::r,w,b,o=>by rw [l8_,a1g r,w0_]
theorem w6_:∀ (l:List Value) (w:World) (b o:Nat),(w.setCells b o l).tape=w.tape
 | [],_,_,_=>rfl
 | v::r,w,b,o=>by rw [l8_,w6_ r];rfl
theorem d2r (cs:Array Value) : (Builtin.zeroCells cs 1).toList=cs.toList:=by
 apply List.ext_getElem
 ·simp [Builtin.zeroCells]
 ·intro i h1 h2;simp at h2;simp [Builtin.zeroCells,Nat.mod_eq_of_lt h2,h2]
theorem b8r {P:Program} (w:World) (t e ty:TypeId) (z:Value) (ht:P.underlying t=some (.slice e)) (hv:∀ w,(zeroValue e).run P w = .ok z w) (h1:∀ v∈z.cells.toList,v.oneCell'=true) (b o c:Nat)
  (hc:∀ j,j < z.cells.size→(w.cell? ⟨b,o+j,none⟩).isSome=true) (hf:∀ j,w.frozen? ⟨b,j,none⟩=false) :
  (Builtin.clear_ #[t] ty #[.slice (some ⟨b,o,none⟩) 1 c]).run P w = .ok (.tuple #[]) (w.setCells b o z.cells.toList):=by
 have hst:=run_storeCells_cells (P:=P) b o z.cells.toList 0 w (by simpa using hc) (fun j _=>hf _) h1;simp only [Nat.add_zero] at hst;simp [Builtin.clear_,run_underlying ht,hv,d2r,hst]
def a4y:List Value:=[.string ⟨#[]⟩,.int .i64 0,.int .i64 0]
theorem b8s (w:World) (g n cap i:Nat) (cur:Array Value) (hg:Bk w g 85 cur) (hsz:cur.size=cap*3) (hn:n≤cap) (_hcap:cap≤maxLen) (hi:i < n) (h1:∀ j u,j < n*3→cur[j]? = some u→u.oneCell'=true) :
  Calls Tryd.prog 117 #[.slice (some ⟨g,0,none⟩) n cap,.int .i64 i,.int .i64 ((i:Int)+1)] w fun e w'=>e = .returned (.slice (some ⟨g,0,none⟩) (n - 1) cap) ∧
   w'=(w.drew.setCells g (i*3) ((cur.toList.drop ((i+1)*3)).take ((n - (i+1))*3))).setCells g ((n - 1)*3) a4y:=by
 have mixed:Tryd.prog.follows .mixedOrders=true:=by kernel_rfl
 have t0:=Tryd.underlying0;have a0:=Tryd.isAgg0;have z0:=Tryd.sizeOf0;have v0:=Tryd.zeroValue0;have t3:=Tryd.underlying3;have a3:=Tryd.isAgg3;have z3:=Tryd.sizeOf3;have v3:=Tryd.zeroValue3;have t4:=Tryd.underlying4;have a4:=Tryd.isAgg4;have z4:=Tryd.sizeOf4;have v4:=Tryd.zeroValue4;have t22:Tryd.prog.underlying 43=some (.slice 85):=Tryd.underlying43;have a22:=Tryd.isAgg43;have z22:=Tryd.sizeOf43;have v22:=Tryd.zeroValue43;have t23:=Tryd.underlying85;have a23:=Tryd.isAgg85;have z23:=Tryd.sizeOf85;have v23:=Tryd.zeroValue85;obtain ⟨d,i0,z,hd,hi0,hz,h1z,hti⟩:=c1_ d2m;injection hti with q1 q2 q3 q4 q5 q6 q7 q8 q9
 have hz3:i0.size=3:=q2.symm;have hzl:z.cells.toList=a4y:=q9.symm;have hzs:z.cells.size=3:=by
  rw [←Array.length_toList,hzl];rfl
 have hv:∀ w,(zeroValue 85).run Tryd.prog w = .ok z w:=fun w=>by simp [zeroValue,typeInfo,hi0,hz]
 unfold maxLen at _hcap;obtain ⟨news,hnews⟩ : ∃ news,news=(cur.toList.drop ((i+1)*3)).take ((n - (i+1))*3):=⟨_,rfl⟩
 rw [←hnews];have hlen:news.length=(n - (i+1))*3:=by
  rw [hnews,List.length_take,List.length_drop,Array.length_toList,hsz];omega
 have hget:∀ t,t < news.length→news[t]? = cur[(i+1)*3+t]?:=fun t ht=>by
  rw [hnews,List.getElem?_take_of_lt (by omega),List.getElem?_drop,Array.getElem?_toList]
 obtain ⟨A,hA,hsrc⟩ : ∃ A:Addr,(if cap=i+1 then some (⟨g,0,none⟩ : Addr) else some ⟨g,(i+1)*3,none⟩)=some A∧Hid (∀ t u,news[t]? = some u→w.drew.cell? (A.add t)=some u):=by
  by_cases h:cap=i+1
  ·refine ⟨⟨g,0,none⟩,by simp [h],fun t u hu=>?_⟩;have h0:news.length=0:=by rw [hlen];omega
   rw [List.length_eq_zero_iff.1 h0] at hu;simp at hu
  ·refine ⟨⟨g,(i+1)*3,none⟩,by simp [h],fun t u hu=>?_⟩;have ht:t < news.length:=(List.getElem?_eq_some_iff.1 hu).1;rw [hget t ht] at hu;rw [Addr.add_lit];exact (hg.cell _).trans hu
 have s1:Hid (news.length=(n - (i+1))*3):=hlen;have s2:Hid (∀ u∈news,u.oneCell'=true):=fun u hu=>by
  obtain ⟨t,ht,rfl⟩:=List.getElem_of_mem hu;refine h1 ((i+1)*3+t) _ (by omega) ?_;rw [←hget t ht,List.getElem?_eq_getElem ht]
 have s3:Hid (∀ t,t < news.length→(w.drew.cell? ⟨g,0+i*3+t,none⟩).isSome=true∧w.drew.frozen? ⟨g,0+i*3+t,none⟩=false):=fun t ht=>by
  refine ⟨?_,hg.drew.frozen _⟩;rw [hg.drew.cell,Array.getElem?_eq_getElem (by omega)];rfl
 obtain ⟨W1,hW1⟩ : ∃ W1,W1=w.drew.setCells g (0+i*3) news:=⟨_,rfl⟩
 have hB:Bk W1 g 85 (b1n cur (0+i*3) news):=by
  rw [hW1];exact w5_ news _ g _ cur _ hg.drew
 have hcl:∀ ty,(Builtin.clear_ #[43] ty #[.slice (some ⟨g,(n - 1)*3,none⟩) 1 (cap - (n - 1))]).run Tryd.prog W1 = .ok (.tuple #[]) (W1.setCells g ((n - 1)*3) a4y):=fun ty=>by
  rw [←hzl];refine b8r W1 _ _ ty z t22 hv (fun v hv=>?_) g _ _ (fun j hj=>?_) hB.frozen
  ·exact List.all_eq_true.1 h1z v hv
  ·rw [hB.cell,Array.getElem?_eq_getElem (by rw [a1y];omega)];rfl
 have hW:Hid (W1=w.drew.setCells g (0+i*3) news):=hW1;have hic:i≤cap:=by omega
 have hjc:i+1≤cap:=by omega
 have e1:i+(n - (i+1))=n - 1:=by omega
 have e2:n - (n - 1)=1:=by omega
 have e3:((i:Int)+1)=((i+1:Nat) : Int):=rfl;rw [e3];have hf:w.drew.setCells g (i*3) news=W1:=by rw [hW1,Nat.zero_add]
 have HF:=Lib.hid hf;generalize hj:i+1=j at *;have hij:i≤j:=by omega
 have hlt:i < j:=by omega
 have hne:¬i=j:=by omega
 have hjn:j≤n:=by omega
 clear hj;clear hW1 hB hget hlen hnews h1 hg hsz hd q1 q2 q3 q4 q5 q6 q7 q8 q9 hf hz hzl hzs h1z hv;go_enter Tryd.func117,Tryd.ntmps117
 go_wp2_with fail
 go_region_law_o (refine step_append_room rfl (.tmp 22) (.tmp 25) 43 rfl 85 i0 3 t22 hi0 hz3 g 0 i cap (by simp [Act.eval,Act.put]) A (n - j) (cap - j) news (by simp [Act.eval,Act.put]) s1.out hsrc.out s2.out (by omega) s3.out ?_;rw [←hW.out])
 go_wp2
 go_ret
 exact ⟨rfl,by rw [HF.out]⟩
theorem b8t {cur:Array Value} {n cap i:Nat} (hsz:cur.size=cap*3) (hn:n≤cap) (hi:i < n) (k r:Nat) (hk:k < n - 1) (hr:r < 3) :
  (b1n (b1n cur (i*3) ((cur.toList.drop ((i+1)*3)).take ((n - (i+1))*3))) ((n - 1)*3) a4y)[k*3+r]? = if k < i then cur[k*3+r]? else cur[(k+1)*3+r]?:=by
 have hlen:((cur.toList.drop ((i+1)*3)).take ((n - (i+1))*3)).length=(n - (i+1))*3:=by
  rw [List.length_take,List.length_drop,Array.length_toList,hsz];omega
 rw [a4d _ _ _ _ (.inl (by omega))];by_cases h:k < i
 ·rw [if_pos h,a4d _ _ _ _ (.inl (by omega))]
 ·rw [if_neg h,b8q _ _ _ _ (by omega) (by omega) (by omega),List.getElem?_take_of_lt (by omega),List.getElem?_drop,Array.getElem?_toList];congr 1;omega
theorem a1h:∀ (l:List Value) (w:World) (b o:Nat),(w.setCells b o l).os=w.os
 | [],_,_,_=>rfl
 | v::r,w,b,o=>by rw [l8_,a1h r];rfl
theorem y7_:∀ (l:List Value) (w:World) (b o:Nat),(w.setCells b o l).output=w.output
 | [],_,_,_=>rfl
 | v::r,w,b,o=>by rw [l8_,y7_ r];rfl
theorem a7z (es:List (List AV)) (nl:Bool) (i:Nat) (hi:i < es.length) : VH Tryd.prog 117 [some (.arr 85 3 nl es)] [.osl 0,I (i:Int),I ((i:Int)+1)] [] [some (.arr 85 3 false (es.eraseIdx i))] (.osl 0):=by
 refine ⟨by kernel_rfl,fun w M X p vs hM hX hMX hvl hv hO hAp=>?_⟩;obtain ⟨v1,v2,v3,rfl⟩ : ∃ v1 v2 v3,vs=[v1,v2,v3]:=by
  rcases vs with _|⟨a,_|⟨b,_|⟨c,_|⟨_,_⟩⟩⟩⟩
  all_goals first|exact ⟨a,b,c,rfl⟩|(simp at hvl)
 have g0:=hv 0 _ _ rfl rfl;have g1:=hv 1 _ _ rfl rfl;have g2:=hv 2 _ _ rfl rfl;obtain ⟨hsz0,hsh,hrest⟩:=hO 0 _ rfl;have hnl:nl=false:=by
  cases nl
  ·rfl
  ·rw [if_pos rfl] at hrest;subst hrest;simp at hi
 subst hnl;rw [if_neg (by simp)] at hrest;obtain ⟨hown,cur,hg,hlen,hcell⟩:=hrest;have e2:v2 = .int .i64 (i:Int):=by
  cases g1 with
  | base _ _ h0=>cases h0;rfl
 have e3:v3 = .int .i64 ((i:Int)+1):=by
  cases g2 with
  | base _ _ h0=>cases h0;rfl
 subst e2;subst e3;obtain ⟨cap,rfl,hcs,hnc,hcm⟩ : ∃ cap,v1 = .slice (some ⟨p 0,0,none⟩) es.length cap∧cur.size=cap*3∧es.length≤cap∧cap≤maxLen:=by
  cases g0 with
  | base _ _ h0=>cases h0
  | osl id A n c hid hvv hb=>
   have:=hvv _ _ _ _ rfl;unfold Osl at this;rw [if_neg (by simp)] at this;obtain ⟨cap,cur',e1,hg',hcs,hnc,hcm⟩:=this;have hcur:cur'=cur:=by
    rw [hg] at hg';injection hg' with hg'
    injection hg' with hg'
    exact hg'.symm
   subst hcur;exact ⟨cap,e1,hcs,hnc,hcm⟩
 have h1:∀ j u,j < es.length*3→cur[j]? = some u→u.oneCell'=true:=fun j u hj hu=>by
  have hk:j / 3 < es.length:=by omega
  obtain ⟨hx3,hx1⟩:=hsh (j / 3) es[j / 3] (List.getElem?_eq_getElem hk);have hr:j % 3 < es[j / 3].length:=by rw [hx3];omega
  obtain ⟨u',hu',hv'⟩:=hcell (j / 3) es[j / 3] (j % 3) _ (List.getElem?_eq_getElem hk) (List.getElem?_eq_getElem hr);rw [show j / 3*3+j % 3=j by omega,hu] at hu';injection hu' with hu'
  subst hu';exact hv'.one (hx1 _ (List.getElem_mem hr))
 refine (b8s w (p 0) es.length cap i cur hg hcs hnc hcm hi h1).mono ?_;rintro e w' ⟨rfl,rfl⟩;obtain ⟨news,hnews⟩ : ∃ news,news=(cur.toList.drop ((i+1)*3)).take ((es.length - (i+1))*3):=⟨_,rfl⟩
 obtain ⟨w2,hw2⟩ : ∃ w2,(w.drew.setCells (p 0) (i*3) news).setCells (p 0) ((es.length - 1)*3) a4y=w2:=⟨_,rfl⟩
 rw [←hnews,hw2];have hB:Bk w2 (p 0) 85 (b1n (b1n cur (i*3) news) ((es.length - 1)*3) a4y):=by
  rw [←hw2];exact w5_ _ _ _ _ _ _ (w5_ news _ _ _ cur _ hg)
 have hblk:∀ b,b≠p 0→w2.heap[b]? = w.heap[b]?:=fun b hb=>by
  rw [←hw2,y6_ _ _ _ _ _ hb,y6_ _ _ _ _ _ hb];rfl
 have hsz:w2.heap.size=w.heap.size:=by
  rw [←hw2,a1g,a1g];rfl
 have hkeep:∀ (F:Nat→Nat→Prop),(∀ j,F (p 0) j)→Keeps F w w2:=fun F hF=>by
  have hne:∀ b j,¬F b j→b≠p 0:=fun b j hn he=>hn (by rw [he];exact hF j);refine ⟨by rw [hsz];exact Nat.le_refl _,fun b _ hn=>hblk b (hne b 0 (hn 0)),fun {b o v} _ hn hc=>l9_ (hblk b (hne b o hn)) hc⟩
 have hMof:∀ b j,b < w.heap.size→¬Mof M [some (.arr 85 3 false es)] p b j→¬Mof M [some (.arr 85 3 false (es.eraseIdx i))] p b j:=fun b j _ hn hm=>by
  rcases hm with hm|⟨id,ob,hid,hl,hO'⟩
  ·exact hn (.inl hm)
  ·rcases id with _|id
   ·exact hn (.inr ⟨0,_,rfl,rfl,hO'⟩)
   ·simp at hid
 have hK:=hkeep (Mof M [some (.arr 85 3 false es)] p) fun j=>.inr ⟨0,_,rfl,rfl,.inl rfl⟩;have hel:(es.eraseIdx i).length=es.length - 1:=List.length_eraseIdx_of_lt hi;have hsz2:(b1n (b1n cur (i*3) news) ((es.length - 1)*3) a4y).size=cap*3:=by rw [a1y,a1y,hcs]
 refine ⟨_,p,rfl,?_,?_,?_,?_,fun i a v h=>by cases h⟩
 ·refine (Bel.start ⟨w,X⟩).keepF ?_ ?_ ?_ (hkeep _ fun j=>hown.1 j)
  ·rw [←hw2,a1h,a1h];rfl
  ·rw [←hw2,w6_,w6_];rfl
  ·rw [←hw2,y7_,y7_];rfl
 ·refine .osl 0 _ _ _ (by simp) (fun e sz nl es' he=>?_) fun e sz nl pend qs he=>by simp at he
  simp only [List.getElem?_cons_zero,Option.some.injEq,Ob.arr.injEq] at he;obtain ⟨rfl,rfl,rfl,rfl⟩:=he;unfold Osl;rw [if_neg (by simp),hel];exact ⟨cap,_,rfl,hB,hsz2,by omega,hcm⟩
 ·intro k ob hk;rcases k with _|k
  ·simp only [List.getElem?_cons_zero,Option.some.injEq] at hk;subst hk;refine ⟨by decide,fun k x hx=>?_,?_⟩
   ·obtain ⟨k',hk'⟩:=List.getElem?_of_mem (List.mem_of_mem_eraseIdx (List.mem_of_getElem? hx));exact hsh k' x hk'
   ·rw [if_neg (by simp)];refine ⟨hown,_,hB,?_,fun k x j c hx hj=>?_⟩
    ·rw [hsz2,hel];omega
    ·have hk:k < es.length - 1:=by rw [←hel];exact (List.getElem?_eq_some_iff.1 hx).1
     rw [List.getElem?_eraseIdx] at hx;have hj3:j < 3:=by
      have hjl:=(List.getElem?_eq_some_iff.1 hj).1;split at hx
      ·rw [(hsh _ _ hx).1] at hjl;exact hjl
      ·rw [(hsh _ _ hx).1] at hjl;exact hjl
     rw [hnews,b8t hcs hnc hi k j hk hj3];split at hx
     ·rename_i h;rw [if_pos h];obtain ⟨u,hu,hv'⟩:=hcell k x j c hx hj;exact ⟨u,hu,hv'.keep hK hMof⟩
     ·rename_i h;rw [if_neg h];obtain ⟨u,hu,hv'⟩:=hcell (k+1) x j c hx hj;exact ⟨u,hu,hv'.keep hK hMof⟩
  ·simp at hk
 ·intro k k' ob ob' hk hk' _ _ b j j' _ _;rcases k with _|k
  ·rcases k' with _|k'
   ·rfl
   ·simp at hk'
  ·simp at hk
end Go.Proofs.YtoibondihdhnoaaDoor
namespace Go.Proofs.YtoibondihdhnoaaDoor
open Go.RowKit
set_option maxRecDepth 100000
set_option maxHeartbeats 2000000
theorem c7b (r:Ru) (s:St) (mv:List Sg) (n1 n2:Bool) (x:Ev) (k:Nat) (hx:x.rank=k) (hk:k < s.q.length) (hr:r.ranks.length=s.q.length) (hf:q7_ r s.q.length) (h0:¬w4_ r s k=0) :
  VH Tryd.prog 113 (f6_ r s mv n1 n2) [.ref 0 0,evA x] [0] (f6_ r s mv n1 n2) (I (w4_ r s k)):=by
 have hk2:k < r.ranks.length:=by omega
 have hfk:=hf k hk;obtain ⟨kd,tm,rk,car⟩:=x;simp only at hx;subst hx;unfold w4_ at h0 ⊢;by_cases h1:(rat r.ranks k).feeder = -1
 ·rw [if_pos h1];clear hfk hf h0;simp only [evA];refine i8_ Tryd.func113 rfl (by kernel_rfl) rfl (fun _=>by kernel_rfl) fun M0 w0 vs=>?_;simp only [Tryd.ntmps113,Tryd.results113,b5_];unfold f6_;repeat' first|(with_reducible first|apply a9_|apply a3_|apply a1_|refine a2_ [] ?_)|((with_reducible refine a0_ fun Y Z=>?_);go_simp;refine Z _ ?_;clear Z Y)
  refine i1_ 10 [] [⟨9,5,[.string ⟨#[]⟩,.int .i64 0,.int .i64 0,.bool false],none,[]⟩] (by kernel_rfl) (by kernel_rfl) (by kernel_rfl) (by go_simp) (by go_simp) ?_;simp only [List.take,List.drop];repeat (first|(refine d0_ rfl ?_)|((with_reducible refine d1_ rfl fun Y Z=>?_);go_simp;refine Z _ (by go_simp) ?_;clear Z Y)|(with_reducible apply e8_))
  refine ⟨by go_simp,?_⟩;simp only [j6_,k5_,Slot.end_,List.cons_append,List.nil_append];repeat' first|(with_reducible first|apply a9_|apply a3_|apply b4_|apply c5_|apply a1_|refine a2_ [] ?_)|((with_reducible refine a7_ ?_ ?_);(focus (go_simp;done)))|((with_reducible refine a0_ fun Y Z=>?_);go_simp;refine Z _ ?_;clear Z Y)
  go_simp
 ·rw [if_neg h1] at h0 ⊢;obtain ⟨f0,fl⟩:=hfk h1;unfold feedN at h0 ⊢;obtain ⟨f,hfe⟩ : ∃ f:Nat,(rat r.ranks k).feeder=f:=⟨(rat r.ranks k).feeder.toNat,by omega⟩
  have g3:=a1c r s mv k hk hr;rw [hfe] at fl h1 h0 ⊢;simp only [Int.toNat_natCast] at fl h0 ⊢;clear hfk hf f0;have g1:=b3_ (rat r.ranks k).called 22;have g2:=b3_ (decide (0 < (qat s.q f).length)) 12;have g4:=b3_ (f4_ r s k) 16;have g5:VC Tryd.prog 30 [.sl 1 ([unl (rat r.ranks k).called 22,unl (decide (0 < (qat s.q f).length)) 12,unl (f4_ r s k) 16].map y3_)] (I (fst [unl (rat r.ranks k).called 22,unl (decide (0 < (qat s.q f).length)) 12,unl (f4_ r s k) 16])):=d9_ _ rfl rfl;generalize fst [unl (rat r.ranks k).called 22,unl (decide (0 < (qat s.q f).length)) 12,unl (f4_ r s k) 16]=E at *;generalize unl (rat r.ranks k).called 22=A1 at *;generalize unl (decide (0 < (qat s.q f).length)) 12=A2 at *;generalize unl (f4_ r s k) 16=A3 at *;generalize f4_ r s k=F at *;simp only [evA];refine i8_ Tryd.func113 rfl (by kernel_rfl) rfl (fun _=>by kernel_rfl) fun M0 w0 vs=>?_;simp only [Tryd.ntmps113,Tryd.results113,b5_];unfold f6_;repeat' first|(with_reducible first|apply a9_|apply a3_|apply a1_|refine a2_ [] ?_)|((with_reducible refine a0_ fun Y Z=>?_);go_simp;refine Z _ ?_;clear Z Y)
  refine i1_ 10 [] [⟨9,5,[.string ⟨#[]⟩,.int .i64 0,.int .i64 0,.bool false],none,[]⟩] (by kernel_rfl) (by kernel_rfl) (by kernel_rfl) (by go_simp) (by go_simp) ?_;simp only [List.take,List.drop];repeat (first|(refine d0_ rfl ?_)|((with_reducible refine d1_ rfl fun Y Z=>?_);go_simp;refine Z _ (by go_simp) ?_;clear Z Y)|(with_reducible apply e8_))
  refine ⟨by go_simp,?_⟩;simp only [j6_,k5_,Slot.end_,List.cons_append,List.nil_append];repeat' first|(with_reducible first|apply a9_|apply a3_|apply c5_|apply b0_|apply a1_|refine a2_ [] ?_|apply a5_)|((with_reducible refine a6_ ?_ ?_);(focus (go_simp;done)))|((with_reducible first|refine a0_ fun Y Z=>?_|refine a4_ fun Y Z=>?_);go_simp;(first|(with_reducible refine ⟨_,g1,?_⟩)|(with_reducible refine ⟨_,g2,?_⟩)|(refine ⟨_,⟨g3,rfl⟩,?_⟩)|(with_reducible refine ⟨_,g4,?_⟩)|(refine ⟨_,g5,?_⟩)|skip);refine Z _ ?_;clear Z Y)|((refine b6_ 23 23 [] rfl (by kernel_rfl) (by kernel_rfl) ?_);simp only [List.take,List.drop])
  go_simp
theorem d0j (r:Ru) (s:St) (mv:List Sg) (n1 n2:Bool) (x:Ev) (k f:Nat) (hx:x.rank=k) (hk:k < s.q.length) (hr:r.ranks.length=s.q.length) (hf:(rat r.ranks k).feeder=f) (hfl:f < s.q.length) (hne:f≠k) (hq:(qat s.q k).length+1≤1000000000) (hm:mv.length+2≤1000000000) (h0:w4_ r s k=0) :
  VH Tryd.prog 113 (f6_ r s mv n1 n2) [.ref 0 0,evA x] [0] (f6_ r ⟨upQ s.q k f,s.tk,s.time⟩ (mv++upM s.q k f) n1 false) (I 0):=by
 have hk2:k < r.ranks.length:=by omega
 obtain ⟨kd,tm,rk,car⟩:=x;simp only at hx;subst hx;have h1:¬(f:Int) = -1:=by omega
 unfold w4_ feedN at h0;rw [hf,if_neg h1,Int.toNat_natCast] at h0;have hp:0 < (qat s.q f).length:=by
  rw [b2_,b2_] at h0;exact of_decide_eq_true (c7_ (by decide) h0.2.1)
 have gu:=d4f r s mv n1 n2 k f hk hr hf hfl hne hp hq hm;have g3:=a1c r s mv k hk hr;have g1:=b3_ (rat r.ranks k).called 22;have g2:=b3_ (decide (0 < (qat s.q f).length)) 12;have g4:=b3_ (f4_ r s k) 16;have g5:VC Tryd.prog 30 [.sl 1 ([unl (rat r.ranks k).called 22,unl (decide (0 < (qat s.q f).length)) 12,unl (f4_ r s k) 16].map y3_)] (I (fst [unl (rat r.ranks k).called 22,unl (decide (0 < (qat s.q f).length)) 12,unl (f4_ r s k) 16])):=d9_ _ rfl rfl;rw [h0] at g5;have hd:decide (0 < (qat s.q f).length)=true:=decide_eq_true hp;clear h0;generalize unl (rat r.ranks k).called 22=A1 at *;rw [hd] at g2 g5;generalize unl true 12=A2 at *;generalize unl (f4_ r s k) 16=A3 at *;generalize f4_ r s k=F at *;generalize upQ s.q k f=Q2 at *;generalize mv++upM s.q k f=M2 at *;clear hd hq hm;simp only [evA];refine i8_ Tryd.func113 rfl (by kernel_rfl) rfl (fun _=>by kernel_rfl) fun M0 w0 vs=>?_;simp only [Tryd.ntmps113,Tryd.results113,b5_];unfold f6_ at gu ⊢;repeat' first|(with_reducible first|apply a9_|apply a3_|apply a1_|refine a2_ [] ?_)|((with_reducible refine a0_ fun Y Z=>?_);go_simp;refine Z _ ?_;clear Z Y)
 refine i1_ 10 [] [⟨9,5,[.string ⟨#[]⟩,.int .i64 0,.int .i64 0,.bool false],none,[]⟩] (by kernel_rfl) (by kernel_rfl) (by kernel_rfl) (by go_simp) (by go_simp) ?_;simp only [List.take,List.drop];repeat (first|(refine d0_ rfl ?_)|((with_reducible refine d1_ rfl fun Y Z=>?_);go_simp;refine Z _ (by go_simp) ?_;clear Z Y)|(with_reducible apply e8_))
 refine ⟨by go_simp,?_⟩;simp only [j6_,k5_,Slot.end_,List.cons_append,List.nil_append];repeat' first|(with_reducible first|apply a9_|apply a3_|apply a1_)|((with_reducible refine a0_ fun Y Z=>?_);go_simp;refine Z _ ?_;clear Z Y)
 refine a2_ [] ?_;repeat' first|(with_reducible first|apply a9_|apply a3_|apply b0_|apply a1_)|((with_reducible refine a6_ ?_ ?_);(focus (go_simp;done)))|((with_reducible refine a0_ fun Y Z=>?_);go_simp;refine Z _ ?_;clear Z Y)
 refine b6_ 23 23 [] rfl (by kernel_rfl) (by kernel_rfl) ?_;simp only [List.take,List.drop];repeat' first|(with_reducible first|apply a9_|apply a3_|apply a1_|apply a5_)|((with_reducible refine a4_ fun Y Z=>?_);go_simp;(first|(with_reducible refine ⟨_,g1,?_⟩)|(with_reducible refine ⟨_,g2,?_⟩)|(refine ⟨_,⟨g3,rfl⟩,?_⟩)|(with_reducible refine ⟨_,g4,?_⟩)|(refine ⟨_,g5,?_⟩)|skip);refine Z _ ?_;clear Z Y)
 refine a2_ [] ?_;repeat' first|(with_reducible first|apply a3_|apply a1_)|((with_reducible refine a7_ ?_ ?_);(focus (go_simp;done)))|((with_reducible refine a0_ fun Y Z=>?_);go_simp;refine Z _ ?_;clear Z Y)
 refine c6_ (b9_ [] 3 ⟨rfl,rfl⟩ ?_);simp only [List.take,List.drop];repeat' first|with_reducible apply a1_|((with_reducible refine a0_ fun Y Z=>?_);go_simp;refine Z _ ?_;clear Z Y)
 refine e5_ [0,1,2,3] [0] [] [some (.box [.osl 1,.osl 2,I s.time,.sl 4 (r.ranks.map Rk.av),I r.back,I r.ret,.osl 3]),some (.bag 81 1 false none (d3_ Q2)),some (.arr 85 3 n1 (s.tk.map Tk.av)),some (.arr 60 3 false (M2.map Sg.av))] (.tup []) rfl (by go_simp) ?_ ?_
 ·unfold j7_;go_simp;refine ⟨_,_,_,gu,?_⟩;go_simp;kernel_rfl
 go_simp;apply e3_;repeat' with_reducible first|apply a9_|apply a3_
 refine a2_ [] ?_;repeat' first|(with_reducible first|apply a3_|apply c5_|apply a1_)|((with_reducible refine a0_ fun Y Z=>?_);go_simp;refine Z _ ?_;clear Z Y)
 go_simp
theorem c3g (r:Ru) (s:St) (mv:List Sg) (n1 n2:Bool) (x:Ev) (k:Nat) (hx:x.rank=k) (hl:s.tk.length≤1000000) (h0:a0v s.tk x.car < 0) :
  VH Tryd.prog 114 (f6_ r s mv n1 n2) [.ref 0 0,evA x] [0] (f6_ r s mv n1 n2) (I 6):=by
 have g1:=a0e r s mv x.car hl;generalize a0v s.tk x.car=A at *;obtain ⟨kd,tm,rk,car⟩:=x;simp only at hx;subst hx;simp only [evA];refine i8_ Tryd.func114 rfl (by kernel_rfl) rfl (fun _=>by kernel_rfl) fun M0 w0 vs=>?_;simp only [Tryd.ntmps114,Tryd.results114,b5_];unfold f6_;repeat' first|(with_reducible first|apply a9_|apply a3_|apply b4_|apply c5_|apply a1_|refine a2_ [] ?_|apply a5_)|((with_reducible refine a7_ ?_ ?_);(focus (go_simp;done)))|((with_reducible first|refine a0_ fun Y Z=>?_|refine a4_ fun Y Z=>?_);go_simp;(first|(refine ⟨_,⟨g1,rfl⟩,?_⟩)|skip);refine Z _ ?_;clear Z Y)|((refine b6_ 16 16 [] rfl (by kernel_rfl) (by kernel_rfl) ?_);simp only [List.take,List.drop])
 go_simp
theorem c3h (r:Ru) (s:St) (mv:List Sg) (n1 n2:Bool) (x:Ev) (k i:Nat) (hx:x.rank=k) (hl:s.tk.length≤1000000) (hi:a0v s.tk x.car=i) (hil:i < s.tk.length) (h0:(d8_ s.tk i).rank≠k) :
  VH Tryd.prog 114 (f6_ r s mv n1 n2) [.ref 0 0,evA x] [0] (f6_ r s mv n1 n2) (I 6):=by
 have g1:=a0e r s mv x.car hl;rw [hi] at g1;clear hi;obtain ⟨kd,tm,rk,car⟩:=x;simp only at hx;subst hx;simp only [evA];refine i8_ Tryd.func114 rfl (by kernel_rfl) rfl (fun _=>by kernel_rfl) fun M0 w0 vs=>?_;simp only [Tryd.ntmps114,Tryd.results114,b5_];unfold f6_;repeat' first|(with_reducible first|apply a9_|apply a3_|apply b4_|apply c5_|apply a1_|refine a2_ [] ?_|apply a5_)|((with_reducible refine a7_ ?_ ?_);(focus (go_simp;done)))|((with_reducible first|refine a0_ fun Y Z=>?_|refine a4_ fun Y Z=>?_);go_simp;(first|(refine ⟨_,⟨g1,rfl⟩,?_⟩)|skip);refine Z _ ?_;clear Z Y)|((refine b6_ 16 16 [] rfl (by kernel_rfl) (by kernel_rfl) ?_);simp only [List.take,List.drop])
 go_simp
theorem c3i (r:Ru) (s:St) (mv:List Sg) (n1 n2:Bool) (x:Ev) (k i:Nat) (hx:x.rank=k) (hk:k < s.q.length) (hr:r.ranks.length=s.q.length) (hl:s.tk.length≤1000000) (hi:a0v s.tk x.car=i) (hil:i < s.tk.length) (h0:(d8_ s.tk i).rank=k)
  (ht:0≤x.time∧x.time≤604800) (ht2:0≤(d8_ s.tk i).time∧(d8_ s.tk i).time≤604800) (h1:¬fst [unl (decide (x.time - (d8_ s.tk i).time≤r.ret)) 25,unl (f4_ r s k) 16]=0) :
  VH Tryd.prog 114 (f6_ r s mv n1 n2) [.ref 0 0,evA x] [0] (f6_ r s mv n1 n2) (I (fst [unl (decide (x.time - (d8_ s.tk i).time≤r.ret)) 25,unl (f4_ r s k) 16])):=by
 have g1:=a0e r s mv x.car hl;rw [hi] at g1;clear hi;have g2:=a1c r s mv k hk hr;have g3:=b3_ (decide (x.time - (d8_ s.tk i).time≤r.ret)) 25;have g4:=b3_ (f4_ r s k) 16;have g5:VC Tryd.prog 30 [.sl 1 ([unl (decide (x.time - (d8_ s.tk i).time≤r.ret)) 25,unl (f4_ r s k) 16].map y3_)] (I (fst [unl (decide (x.time - (d8_ s.tk i).time≤r.ret)) 25,unl (f4_ r s k) 16])):=d9_ _ rfl rfl;have hw:IntKind.i64.wrap (x.time - (d8_ s.tk i).time)=x.time - (d8_ s.tk i).time:=h3_ (by omega) (by omega);generalize fst [unl (decide (x.time - (d8_ s.tk i).time≤r.ret)) 25,unl (f4_ r s k) 16]=E at *;generalize unl (decide (x.time - (d8_ s.tk i).time≤r.ret)) 25=A1 at *;generalize unl (f4_ r s k) 16=A2 at *;generalize f4_ r s k=F at *;clear ht ht2;obtain ⟨kd,tm,rk,car⟩:=x;simp only at hx hw g3;subst hx;simp only [evA];refine i8_ Tryd.func114 rfl (by kernel_rfl) rfl (fun _=>by kernel_rfl) fun M0 w0 vs=>?_;simp only [Tryd.ntmps114,Tryd.results114,b5_];unfold f6_;repeat' first|(with_reducible first|apply a9_|apply a3_|apply b4_|apply c5_|apply b0_|apply a1_|refine a2_ [] ?_|apply a5_)|((with_reducible refine a7_ ?_ ?_);(focus (go_simp;done)))|((with_reducible refine a6_ ?_ ?_);(focus (go_simp;done)))|((with_reducible first|refine a0_ fun Y Z=>?_|refine a4_ fun Y Z=>?_);go_simp;(first|(refine ⟨_,⟨g1,rfl⟩,?_⟩)|(refine ⟨_,⟨g2,rfl⟩,?_⟩)|(with_reducible refine ⟨_,g3,?_⟩)|(with_reducible refine ⟨_,g4,?_⟩)|(refine ⟨_,g5,?_⟩)|skip);refine Z _ ?_;clear Z Y)|((refine b6_ 16 16 [] rfl (by kernel_rfl) (by kernel_rfl) ?_);simp only [List.take,List.drop])|((refine b6_ 27 27 [] rfl (by kernel_rfl) (by kernel_rfl) ?_);simp only [List.take,List.drop])
 go_simp
theorem a1z {α β:Type} (f:α→β) : ∀ (l:List α) (i:Nat),(l.map f).eraseIdx i=(l.eraseIdx i).map f
 | [],_=>rfl
 | _::_,0=>rfl
 | x::l,i+1=>by
  rw [List.map_cons,List.eraseIdx_cons_succ,List.eraseIdx_cons_succ,List.map_cons,a1z f l i]
theorem d0k (r:Ru) (s:St) (mv:List Sg) (n1 n2:Bool) (x:Ev) (k i:Nat) (hx:x.rank=k) (hk:k < s.q.length) (hr:r.ranks.length=s.q.length) (hl:s.tk.length≤1000000) (hi:a0v s.tk x.car=i) (hil:i < s.tk.length) (h0:(d8_ s.tk i).rank=k)
  (ht:0≤x.time∧x.time≤604800) (ht2:0≤(d8_ s.tk i).time∧(d8_ s.tk i).time≤604800) (hq:(qat s.q k).length+1≤10000) (h1:fst [unl (decide (x.time - (d8_ s.tk i).time≤r.ret)) 25,unl (f4_ r s k) 16]=0) :
  VH Tryd.prog 114 (f6_ r s mv n1 n2) [.ref 0 0,evA x] [0] (f6_ r ⟨s.q.set k ([x.car]++qat s.q k),s.tk.eraseIdx i,s.time⟩ mv false n2) (I 0):=by
 have g1:=a0e r s mv x.car hl;rw [hi] at g1;clear hi;have g2:=a1c r s mv k hk hr;have g3:=b3_ (decide (x.time - (d8_ s.tk i).time≤r.ret)) 25;have g4:=b3_ (f4_ r s k) 16;have g5:VC Tryd.prog 30 [.sl 1 ([unl (decide (x.time - (d8_ s.tk i).time≤r.ret)) 25,unl (f4_ r s k) 16].map y3_)] (I (fst [unl (decide (x.time - (d8_ s.tk i).time≤r.ret)) 25,unl (f4_ r s k) 16])):=d9_ _ rfl rfl;have hw:IntKind.i64.wrap (x.time - (d8_ s.tk i).time)=x.time - (d8_ s.tk i).time:=h3_ (by omega) (by omega);have gd:=a7z (s.tk.map Tk.av) n1 i (by simpa using hil);rw [a1z] at gd;rw [h1] at g5;clear h1;generalize unl (decide (x.time - (d8_ s.tk i).time≤r.ret)) 25=A1 at *;generalize unl (f4_ r s k) 16=A2 at *;generalize f4_ r s k=F at *;generalize s.tk.eraseIdx i=TK at *;clear ht ht2;obtain ⟨kd,tm,rk,car⟩:=x;simp only at hx hw g3;subst hx;simp only [evA];obtain ⟨w1,w2,w3,w4,w5,w6⟩:=ixs (m:=i) (by omega);refine i8_ Tryd.func114 rfl (by kernel_rfl) rfl (fun _=>by kernel_rfl) fun M0 w0 vs=>?_;simp only [Tryd.ntmps114,Tryd.results114,b5_];unfold f6_;repeat' first|(with_reducible first|apply a9_|apply a3_|apply a1_|refine a2_ [] ?_)|((with_reducible refine a0_ fun Y Z=>?_);go_simp;(first|(refine ⟨_,⟨g1,rfl⟩,?_⟩)|skip);refine Z _ ?_;clear Z Y)
 refine b6_ 16 16 [] rfl (by kernel_rfl) (by kernel_rfl) ?_;simp only [List.take,List.drop];repeat' first|(with_reducible first|apply a9_|apply a3_|apply b0_|apply a1_|apply a5_)|((with_reducible refine a6_ ?_ ?_);(focus (go_simp;done)))|((with_reducible refine a4_ fun Y Z=>?_);go_simp;refine Z _ ?_;clear Z Y)
 refine b6_ 27 27 [] rfl (by kernel_rfl) (by kernel_rfl) ?_;simp only [List.take,List.drop];repeat' first|(with_reducible first|apply a9_|apply a3_|apply a1_|apply a5_)|((with_reducible refine a4_ fun Y Z=>?_);go_simp;(first|(refine ⟨_,⟨g2,rfl⟩,?_⟩)|(with_reducible refine ⟨_,g3,?_⟩)|(with_reducible refine ⟨_,g4,?_⟩)|(refine ⟨_,g5,?_⟩)|skip);refine Z _ ?_;clear Z Y)
 refine a2_ [] ?_;repeat' first|(with_reducible first|apply a9_|apply a3_|apply b0_|apply a1_)|((with_reducible refine a6_ ?_ ?_);(focus (go_simp;done)))|((with_reducible refine a0_ fun Y Z=>?_);go_simp;refine Z _ ?_;clear Z Y)
 refine c6_ (b9_ [] 9 ⟨rfl,rfl⟩ ?_);simp only [List.take,List.drop];repeat' first|with_reducible apply a1_|((with_reducible refine a0_ fun Y Z=>?_);go_simp;refine Z _ ?_;clear Z Y)
 refine b1t (fun p a w R=>⟨_,Rel.deadCell R (bi:=0) (j:=1) (r:=2) rfl rfl⟩) ?_;simp only [List.set];refine e5_ [2] [] [] [some (.arr 85 3 false (TK.map Tk.av))] (.osl 0) rfl (by go_simp) ?_ ?_
 ·unfold j7_;go_simp;refine ⟨_,_,⟨_,gd⟩,?_⟩;go_simp;kernel_rfl
 go_simp;refine b9_ [] 4 ⟨rfl,rfl⟩ ?_;simp only [List.take,List.drop];repeat' first|with_reducible apply a1_|((with_reducible refine a0_ fun Y Z=>?_);go_simp;refine Z _ ?_;clear Z Y)
 apply e3_;repeat' with_reducible first|apply a9_|apply a3_
 refine x7_ 20 [0,69,69,70,70,71,71,72,72,73,3,74,74,75] (by kernel_rfl) (by kernel_rfl) (by kernel_rfl) (fun v=>v) a1t rfl ⟨rfl,rfl⟩ ?_;simp only [List.take];repeat' first|with_reducible apply a5_|((with_reducible refine a4_ fun Y Z=>?_);go_simp;refine Z _ ?_;clear Z Y)
 refine ⟨_,_,a6o (by exact rfl) (by exact rfl) (by go_simp;exact b8k _ _ (by repeat' (first|exact TxO.one _|exact TxO.map _|apply TxO.take|apply TxO.drop|apply TxO.tail)) (by simp;omega)) (by go_simp),?_,?_,?_⟩
 ·simp only [List.forall_mem_cons];go_simp
 ·repeat' first|with_reducible apply a5_|((with_reducible refine a4_ fun Y Z=>?_);go_simp;refine Z _ ?_;clear Z Y)
  simp only [List.forall_mem_cons];go_simp
 go_simp;refine b9_ [] 2 ⟨rfl,rfl⟩ ?_;simp only [List.take,List.drop];repeat' first|with_reducible apply a1_|((with_reducible refine a0_ fun Y Z=>?_);go_simp;refine Z _ ?_;clear Z Y)
 apply e3_;repeat' first|(with_reducible first|apply a9_|apply a3_|apply c5_|apply a1_|refine a2_ [] ?_)|((with_reducible refine a0_ fun Y Z=>?_);go_simp;refine Z _ ?_;clear Z Y)
 go_simp;rw [←i4_];rfl
theorem a2a (q:List (List ByteArray)) (c:ByteArray) : ∃ a b:Int,b7j q c = .tup [.agg [I a,I b],B (decide (0≤k7_ q c))]:=by
 unfold b7j;by_cases h:0≤k7_ q c
 ·rw [if_pos h,decide_eq_true h];exact ⟨_,_,rfl⟩
 ·rw [if_neg h,decide_eq_false h];exact ⟨_,_,rfl⟩
theorem b8u (r:Ru) (s:St) (mv:List Sg) (n1 n2:Bool) (x:Ev) (k:Nat) (hx:x.rank=k) (hk:k < s.q.length) (hr:r.ranks.length=s.q.length) (hf:q7_ r s.q.length) (hql:s.q.length≤1000000) (hqs:∀ k,k < s.q.length→(qat s.q k).length≤1000000) (h0:¬i5_ r s x k=0) :
  VH Tryd.prog 109 (f6_ r s mv n1 n2) [.ref 0 0,evA x] [0] (f6_ r s mv n1 n2) (I (i5_ r s x k)):=by
 have hk2:k < r.ranks.length:=by omega
 have hfk:=hf k hk;clear hf;have g1:=b1k r s mv x.car hql hqs;clear hqs;obtain ⟨sa,sb,es⟩:=a2a s.q x.car;rw [es] at g1;clear es;have g2:=a1c r s mv k hk hr;have q1:=b3_ (!decide (0≤k7_ s.q x.car)) 5;have q2:=b3_ (!m2_ r s k) 13;have q3:=b3_ (f4_ r s k) 16;have g5:VC Tryd.prog 30 [.sl 1 ([unl (!decide (0≤k7_ s.q x.car)) 5,unl (!m2_ r s k) 13,unl (f4_ r s k) 16].map y3_)] (I (i5_ r s x k)):=d9_ _ rfl rfl;unfold m2_ feedN at *;generalize i5_ r s x k=E at *;generalize decide (0≤k7_ s.q x.car)=D at *;generalize unl (!D) 5=A1 at *;generalize unl (f4_ r s k) 16=A3 at *;generalize f4_ r s k=F at *;obtain ⟨kd,tm,rk,car⟩:=x;simp only at hx g1;subst hx;simp only [evA];by_cases h1:(rat r.ranks k).feeder = -1
 ·have e:(decide ((rat r.ranks k).feeder≠-1)&&decide (0 < (qat s.q (rat r.ranks k).feeder.toNat).length))=false:=by simp [h1]
  rw [e,Bool.not_false] at q2 g5;generalize unl true 13=A2 at *;clear hfk e;refine i8_ Tryd.func109 rfl (by kernel_rfl) rfl (fun _=>by kernel_rfl) fun M0 w0 vs=>?_;simp only [Tryd.ntmps109,Tryd.results109,b5_];unfold f6_;repeat' first|(with_reducible first|apply a9_|apply a3_|apply b4_|apply c5_|apply a1_|refine a2_ [] ?_|apply a5_)|((with_reducible refine a7_ ?_ ?_);(focus (go_simp;done)))|((with_reducible first|refine a0_ fun Y Z=>?_|refine a4_ fun Y Z=>?_);go_simp;(first|(refine ⟨_,⟨g1,rfl⟩,?_⟩)|(refine ⟨_,⟨g2,rfl⟩,?_⟩)|(with_reducible refine ⟨_,q1,?_⟩)|(with_reducible refine ⟨_,q2,?_⟩)|(with_reducible refine ⟨_,q3,?_⟩)|(refine ⟨_,g5,?_⟩)|skip);refine Z _ ?_;clear Z Y)|((refine b6_ 11 11 [] rfl (by kernel_rfl) (by kernel_rfl) ?_);simp only [List.take,List.drop])|((refine b6_ 14 14 [] rfl (by kernel_rfl) (by kernel_rfl) ?_);simp only [List.take,List.drop])
  go_simp
 ·obtain ⟨f0,fl⟩:=hfk h1;clear hfk;obtain ⟨f,hfe⟩ : ∃ f:Nat,(rat r.ranks k).feeder=f:=⟨(rat r.ranks k).feeder.toNat,by omega⟩
  rw [hfe] at fl h1 q2 g5;have e:(decide ((f:Int)≠-1)&&decide (0 < (qat s.q (f:Int).toNat).length))=decide (0 < (qat s.q f).length):=by
   rw [decide_eq_true h1,Bool.true_and,Int.toNat_natCast]
  rw [e] at q2 g5;simp only [Int.toNat_natCast] at fl;generalize unl (!decide (0 < (qat s.q f).length)) 13=A2 at *;clear f0 e;have hmx:(if (f:Int) < 0 then 0 else (f:Int))=f:=if_neg (by omega);refine i8_ Tryd.func109 rfl (by kernel_rfl) rfl (fun _=>by kernel_rfl) fun M0 w0 vs=>?_;simp only [Tryd.ntmps109,Tryd.results109,b5_];unfold f6_;repeat' first|(with_reducible first|apply a9_|apply a3_|apply b4_|apply c5_|apply a1_|refine a2_ [] ?_|apply a5_)|((with_reducible refine a7_ ?_ ?_);(focus (go_simp;done)))|((with_reducible first|refine a0_ fun Y Z=>?_|refine a4_ fun Y Z=>?_);go_simp;(first|(refine ⟨_,⟨g1,rfl⟩,?_⟩)|(refine ⟨_,⟨g2,rfl⟩,?_⟩)|(with_reducible refine ⟨_,q1,?_⟩)|(with_reducible refine ⟨_,q2,?_⟩)|(with_reducible refine ⟨_,q3,?_⟩)|(refine ⟨_,g5,?_⟩)|skip);refine Z _ ?_;clear Z Y)|((refine b6_ 11 11 [] rfl (by kernel_rfl) (by kernel_rfl) ?_);simp only [List.take,List.drop])|((refine b6_ 14 14 [] rfl (by kernel_rfl) (by kernel_rfl) ?_);simp only [List.take,List.drop])
  go_simp
theorem c7c (r:Ru) (s:St) (mv:List Sg) (n1 n2:Bool) (x:Ev) (k:Nat) (hx:x.rank=k) (hk:k < s.q.length) (hr:r.ranks.length=s.q.length) (hql:s.q.length≤1000000) (hqs:∀ k,k < s.q.length→(qat s.q k).length≤1000000) (hl:s.tk.length≤1000000) (hfe:(rat r.ranks k).feeder = -1) (ht:a0v s.tk x.car < 0) (h0:i5_ r s x k=0) :
  VH Tryd.prog 109 (f6_ r s mv n1 n2) [.ref 0 0,evA x] [0] (f6_ r ⟨s.q.set k (qat s.q k++[x.car]),s.tk,s.time⟩ mv n1 n2) (I 0):=by
 have hk2:k < r.ranks.length:=by omega
 have hqk:=hqs k hk;have hqk2:(qat s.q k).length≤999999999:=by omega
 have g1:=b1k r s mv x.car hql hqs;clear hqs;obtain ⟨sa,sb,es⟩:=a2a s.q x.car;rw [es] at g1;clear es;have g2:=a1c r s mv k hk hr;have q1:=b3_ (!decide (0≤k7_ s.q x.car)) 5;have q2:=b3_ (!m2_ r s k) 13;have q3:=b3_ (f4_ r s k) 16;have g5:VC Tryd.prog 30 [.sl 1 ([unl (!decide (0≤k7_ s.q x.car)) 5,unl (!m2_ r s k) 13,unl (f4_ r s k) 16].map y3_)] (I (i5_ r s x k)):=d9_ _ rfl rfl;rw [h0] at g5;clear h0;unfold m2_ feedN at *;generalize decide (0≤k7_ s.q x.car)=D at *;generalize unl (!D) 5=A1 at *;generalize unl (f4_ r s k) 16=A3 at *;generalize f4_ r s k=F at *;have g6:=a0e r ⟨s.q.set k (qat s.q k++[x.car]),s.tk,s.time⟩ mv x.car hl;simp only at g6;have e:(decide ((rat r.ranks k).feeder≠-1)&&decide (0 < (qat s.q (rat r.ranks k).feeder.toNat).length))=false:=by simp [hfe]
 rw [e,Bool.not_false] at q2 g5;generalize unl true 13=A2 at *;clear e;generalize a0v s.tk x.car=A at *;obtain ⟨kd,tm,rk,car⟩:=x;simp only at hx g1 g6;subst hx;simp only [evA];refine i8_ Tryd.func109 rfl (by kernel_rfl) rfl (fun _=>by kernel_rfl) fun M0 w0 vs=>?_;simp only [Tryd.ntmps109,Tryd.results109,b5_];unfold f6_;repeat' first|(with_reducible first|apply a9_|apply a3_|apply a1_|refine a2_ [] ?_)|((with_reducible refine a0_ fun Y Z=>?_);go_simp;(first|(refine ⟨_,⟨g1,rfl⟩,?_⟩)|skip);refine Z _ ?_;clear Z Y)
 refine b6_ 11 11 [] rfl (by kernel_rfl) (by kernel_rfl) ?_;simp only [List.take,List.drop];repeat' first|(with_reducible first|apply a9_|apply a3_|apply a1_|apply a5_)|((with_reducible refine a4_ fun Y Z=>?_);go_simp;refine Z _ ?_;clear Z Y)
 refine a2_ [] ?_;repeat' first|(with_reducible first|apply a9_|apply a3_|apply a1_)|((with_reducible refine a0_ fun Y Z=>?_);go_simp;refine Z _ ?_;clear Z Y)
 refine b6_ 14 14 [] rfl (by kernel_rfl) (by kernel_rfl) ?_;simp only [List.take,List.drop];repeat' first|(with_reducible first|apply a9_|apply a3_|apply a1_|apply a5_)|((with_reducible refine a4_ fun Y Z=>?_);go_simp;(first|(refine ⟨_,⟨g2,rfl⟩,?_⟩)|(with_reducible refine ⟨_,q1,?_⟩)|(with_reducible refine ⟨_,q2,?_⟩)|(with_reducible refine ⟨_,q3,?_⟩)|(refine ⟨_,g5,?_⟩)|skip);refine Z _ ?_;clear Z Y)
 refine a2_ [] ?_;repeat' first|(with_reducible first|apply a9_|apply a3_|apply b0_|apply a1_)|((with_reducible refine a6_ ?_ ?_);(focus (go_simp;done)))|((with_reducible refine a0_ fun Y Z=>?_);go_simp;refine Z _ ?_;clear Z Y)
 refine x7_ 19 [0,59,59,60,60,61,61,62,62,63,3,64,64,65] (by kernel_rfl) (by kernel_rfl) (by kernel_rfl) (unW 1) (s5_ 1) rfl ⟨rfl,rfl⟩ ?_;simp only [List.take];repeat' first|with_reducible apply a5_|((with_reducible refine a4_ fun Y Z=>?_);go_simp;refine Z _ ?_;clear Z Y)
 refine ⟨_,_,a6n (id:=1) (k:=k) (es:=(qat s.q k).map l1_) (c:=S car) (by exact rfl) (by exact rfl) (by go_simp) (by go_simp) c8r ti9 (by exact rfl) (by go_simp),?_,?_,?_⟩
 ·simp only [List.forall_mem_cons];go_simp
 ·repeat' first|with_reducible apply a5_|((with_reducible refine a4_ fun Y Z=>?_);go_simp;refine Z _ ?_;clear Z Y)
  simp only [List.forall_mem_cons];go_simp
 go_simp;refine b9_ [] 2 ⟨rfl,rfl⟩ ?_;simp only [List.take,List.drop];repeat' first|with_reducible apply a1_|((with_reducible refine a0_ fun Y Z=>?_);go_simp;refine Z _ ?_;clear Z Y)
 apply e3_;repeat' with_reducible first|apply a9_|apply a3_
 rw [a1e,i4_];refine a2_ [] ?_;repeat' first|(with_reducible first|apply a9_|apply a3_|apply a1_)|((with_reducible refine a0_ fun Y Z=>?_);go_simp;(first|(refine ⟨_,⟨g6,rfl⟩,?_⟩)|skip);refine Z _ ?_;clear Z Y)
 refine a2_ [] ?_;repeat' first|(with_reducible first|apply a9_|apply a3_|apply b0_|apply a1_)|((with_reducible refine a6_ ?_ ?_);(focus (go_simp;done)))|((with_reducible refine a0_ fun Y Z=>?_);go_simp;refine Z _ ?_;clear Z Y)
 refine a2_ [] ?_;repeat' first|(with_reducible first|apply a3_|apply c5_|apply a1_)|((with_reducible refine a0_ fun Y Z=>?_);go_simp;refine Z _ ?_;clear Z Y)
 go_simp
theorem c7d (r:Ru) (s:St) (mv:List Sg) (n1 n2:Bool) (x:Ev) (k:Nat) (hx:x.rank=k) (hk:k < s.q.length) (hr:r.ranks.length=s.q.length) (hql:s.q.length≤1000000) (hqs:∀ k,k < s.q.length→(qat s.q k).length≤1000000) (hl:s.tk.length≤1000000) (hfe:(rat r.ranks k).feeder = -1) (i:Nat) (ht:a0v s.tk x.car=i) (hil:i < s.tk.length) (h0:i5_ r s x k=0) :
  VH Tryd.prog 109 (f6_ r s mv n1 n2) [.ref 0 0,evA x] [0] (f6_ r ⟨s.q.set k (qat s.q k++[x.car]),s.tk.eraseIdx i,s.time⟩ mv false n2) (I 0):=by
 have hk2:k < r.ranks.length:=by omega
 have hqk:=hqs k hk;have hqk2:(qat s.q k).length≤999999999:=by omega
 have g1:=b1k r s mv x.car hql hqs;clear hqs;obtain ⟨sa,sb,es⟩:=a2a s.q x.car;rw [es] at g1;clear es;have g2:=a1c r s mv k hk hr;have q1:=b3_ (!decide (0≤k7_ s.q x.car)) 5;have q2:=b3_ (!m2_ r s k) 13;have q3:=b3_ (f4_ r s k) 16;have g5:VC Tryd.prog 30 [.sl 1 ([unl (!decide (0≤k7_ s.q x.car)) 5,unl (!m2_ r s k) 13,unl (f4_ r s k) 16].map y3_)] (I (i5_ r s x k)):=d9_ _ rfl rfl;rw [h0] at g5;clear h0;unfold m2_ feedN at *;generalize decide (0≤k7_ s.q x.car)=D at *;generalize unl (!D) 5=A1 at *;generalize unl (f4_ r s k) 16=A3 at *;generalize f4_ r s k=F at *;have g6:=a0e r ⟨s.q.set k (qat s.q k++[x.car]),s.tk,s.time⟩ mv x.car hl;simp only at g6;have e:(decide ((rat r.ranks k).feeder≠-1)&&decide (0 < (qat s.q (rat r.ranks k).feeder.toNat).length))=false:=by simp [hfe]
 rw [e,Bool.not_false] at q2 g5;generalize unl true 13=A2 at *;clear e;rw [ht] at g6;clear ht;have gd:=a7z (s.tk.map Tk.av) n1 i (by simpa using hil);rw [a1z] at gd;generalize s.tk.eraseIdx i=TK at *;obtain ⟨w1,w2,w3,w4,w5,w6⟩:=ixs (m:=i) (by omega);obtain ⟨kd,tm,rk,car⟩:=x;simp only at hx g1 g6;subst hx;simp only [evA];refine i8_ Tryd.func109 rfl (by kernel_rfl) rfl (fun _=>by kernel_rfl) fun M0 w0 vs=>?_;simp only [Tryd.ntmps109,Tryd.results109,b5_];unfold f6_;repeat' first|(with_reducible first|apply a9_|apply a3_|apply a1_|refine a2_ [] ?_)|((with_reducible refine a0_ fun Y Z=>?_);go_simp;(first|(refine ⟨_,⟨g1,rfl⟩,?_⟩)|skip);refine Z _ ?_;clear Z Y)
 refine b6_ 11 11 [] rfl (by kernel_rfl) (by kernel_rfl) ?_;simp only [List.take,List.drop];repeat' first|(with_reducible first|apply a9_|apply a3_|apply a1_|apply a5_)|((with_reducible refine a4_ fun Y Z=>?_);go_simp;refine Z _ ?_;clear Z Y)
 refine a2_ [] ?_;repeat' first|(with_reducible first|apply a9_|apply a3_|apply a1_)|((with_reducible refine a0_ fun Y Z=>?_);go_simp;refine Z _ ?_;clear Z Y)
 refine b6_ 14 14 [] rfl (by kernel_rfl) (by kernel_rfl) ?_;simp only [List.take,List.drop];repeat' first|(with_reducible first|apply a9_|apply a3_|apply a1_|apply a5_)|((with_reducible refine a4_ fun Y Z=>?_);go_simp;(first|(refine ⟨_,⟨g2,rfl⟩,?_⟩)|(with_reducible refine ⟨_,q1,?_⟩)|(with_reducible refine ⟨_,q2,?_⟩)|(with_reducible refine ⟨_,q3,?_⟩)|(refine ⟨_,g5,?_⟩)|skip);refine Z _ ?_;clear Z Y)
 refine a2_ [] ?_;repeat' first|(with_reducible first|apply a9_|apply a3_|apply b0_|apply a1_)|((with_reducible refine a6_ ?_ ?_);(focus (go_simp;done)))|((with_reducible refine a0_ fun Y Z=>?_);go_simp;refine Z _ ?_;clear Z Y)
 refine x7_ 19 [0,59,59,60,60,61,61,62,62,63,3,64,64,65] (by kernel_rfl) (by kernel_rfl) (by kernel_rfl) (unW 1) (s5_ 1) rfl ⟨rfl,rfl⟩ ?_;simp only [List.take];repeat' first|with_reducible apply a5_|((with_reducible refine a4_ fun Y Z=>?_);go_simp;refine Z _ ?_;clear Z Y)
 refine ⟨_,_,a6n (id:=1) (k:=k) (es:=(qat s.q k).map l1_) (c:=S car) (by exact rfl) (by exact rfl) (by go_simp) (by go_simp) c8r ti9 (by exact rfl) (by go_simp),?_,?_,?_⟩
 ·simp only [List.forall_mem_cons];go_simp
 ·repeat' first|with_reducible apply a5_|((with_reducible refine a4_ fun Y Z=>?_);go_simp;refine Z _ ?_;clear Z Y)
  simp only [List.forall_mem_cons];go_simp
 go_simp;refine b9_ [] 2 ⟨rfl,rfl⟩ ?_;simp only [List.take,List.drop];repeat' first|with_reducible apply a1_|((with_reducible refine a0_ fun Y Z=>?_);go_simp;refine Z _ ?_;clear Z Y)
 apply e3_;repeat' with_reducible first|apply a9_|apply a3_
 rw [a1e,i4_];refine a2_ [] ?_;repeat' first|(with_reducible first|apply a9_|apply a3_|apply a1_)|((with_reducible refine a0_ fun Y Z=>?_);go_simp;(first|(refine ⟨_,⟨g6,rfl⟩,?_⟩)|skip);refine Z _ ?_;clear Z Y)
 refine a2_ [] ?_;repeat' first|(with_reducible first|apply a3_|apply a1_)|((with_reducible refine a7_ ?_ ?_);(focus (go_simp;done)))|((with_reducible refine a0_ fun Y Z=>?_);go_simp;refine Z _ ?_;clear Z Y)
 refine c6_ (b9_ [] 9 ⟨rfl,rfl⟩ ?_);simp only [List.take,List.drop];repeat' first|with_reducible apply a1_|((with_reducible refine a0_ fun Y Z=>?_);go_simp;refine Z _ ?_;clear Z Y)
 refine b1t (fun p a w R=>⟨_,Rel.deadCell R (bi:=0) (j:=1) (r:=2) rfl rfl⟩) ?_;simp only [List.set];refine e5_ [2] [] [] [some (.arr 85 3 false (TK.map Tk.av))] (.osl 0) rfl (by go_simp) ?_ ?_
 ·unfold j7_;go_simp;refine ⟨_,_,⟨_,gd⟩,?_⟩;go_simp;kernel_rfl
 go_simp;refine b9_ [] 4 ⟨rfl,rfl⟩ ?_;simp only [List.take,List.drop];repeat' first|with_reducible apply a1_|((with_reducible refine a0_ fun Y Z=>?_);go_simp;refine Z _ ?_;clear Z Y)
 apply e3_;repeat' with_reducible first|apply a9_|apply a3_
 refine a2_ [] ?_;repeat' first|(with_reducible first|apply a3_|apply c5_|apply a1_)|((with_reducible refine a0_ fun Y Z=>?_);go_simp;refine Z _ ?_;clear Z Y)
 go_simp
theorem c7e (r:Ru) (s:St) (mv:List Sg) (n1 n2:Bool) (x:Ev) (k:Nat) (hx:x.rank=k) (hk:k < s.q.length) (hr:r.ranks.length=s.q.length) (hql:s.q.length≤1000000) (hqs:∀ k,k < s.q.length→(qat s.q k).length≤1000000) (hl:s.tk.length≤1000000) (f:Nat) (hfe:(rat r.ranks k).feeder=f) (fl:f < s.q.length) (ht:a0v s.tk x.car < 0) (h0:i5_ r s x k=0) :
  VH Tryd.prog 109 (f6_ r s mv n1 n2) [.ref 0 0,evA x] [0] (f6_ r ⟨s.q.set k (qat s.q k++[x.car]),s.tk,s.time⟩ mv n1 n2) (I 0):=by
 have hk2:k < r.ranks.length:=by omega
 have hqk:=hqs k hk;have hqk2:(qat s.q k).length≤999999999:=by omega
 have g1:=b1k r s mv x.car hql hqs;clear hqs;obtain ⟨sa,sb,es⟩:=a2a s.q x.car;rw [es] at g1;clear es;have g2:=a1c r s mv k hk hr;have q1:=b3_ (!decide (0≤k7_ s.q x.car)) 5;have q2:=b3_ (!m2_ r s k) 13;have q3:=b3_ (f4_ r s k) 16;have g5:VC Tryd.prog 30 [.sl 1 ([unl (!decide (0≤k7_ s.q x.car)) 5,unl (!m2_ r s k) 13,unl (f4_ r s k) 16].map y3_)] (I (i5_ r s x k)):=d9_ _ rfl rfl;rw [h0] at g5;clear h0;unfold m2_ feedN at *;generalize decide (0≤k7_ s.q x.car)=D at *;generalize unl (!D) 5=A1 at *;generalize unl (f4_ r s k) 16=A3 at *;generalize f4_ r s k=F at *;have g6:=a0e r ⟨s.q.set k (qat s.q k++[x.car]),s.tk,s.time⟩ mv x.car hl;simp only at g6;have h1:(f:Int)≠-1:=by omega
 have e:(decide ((rat r.ranks k).feeder≠-1)&&decide (0 < (qat s.q (rat r.ranks k).feeder.toNat).length))=decide (0 < (qat s.q f).length):=by
  rw [hfe,decide_eq_true h1,Bool.true_and,Int.toNat_natCast]
 rw [e] at q2 g5;generalize unl (!decide (0 < (qat s.q f).length)) 13=A2 at *;clear e;have hmx:(if (f:Int) < 0 then 0 else (f:Int))=f:=if_neg (by omega);generalize a0v s.tk x.car=A at *;obtain ⟨kd,tm,rk,car⟩:=x;simp only at hx g1 g6;subst hx;simp only [evA];refine i8_ Tryd.func109 rfl (by kernel_rfl) rfl (fun _=>by kernel_rfl) fun M0 w0 vs=>?_;simp only [Tryd.ntmps109,Tryd.results109,b5_];unfold f6_;repeat' first|(with_reducible first|apply a9_|apply a3_|apply a1_|refine a2_ [] ?_)|((with_reducible refine a0_ fun Y Z=>?_);go_simp;(first|(refine ⟨_,⟨g1,rfl⟩,?_⟩)|skip);refine Z _ ?_;clear Z Y)
 refine b6_ 11 11 [] rfl (by kernel_rfl) (by kernel_rfl) ?_;simp only [List.take,List.drop];repeat' first|(with_reducible first|apply a9_|apply a3_|apply a1_|apply a5_)|((with_reducible refine a4_ fun Y Z=>?_);go_simp;refine Z _ ?_;clear Z Y)
 refine a2_ [] ?_;repeat' first|(with_reducible first|apply a9_|apply a3_|apply a1_)|((with_reducible refine a0_ fun Y Z=>?_);go_simp;refine Z _ ?_;clear Z Y)
 refine b6_ 14 14 [] rfl (by kernel_rfl) (by kernel_rfl) ?_;simp only [List.take,List.drop];repeat' first|(with_reducible first|apply a9_|apply a3_|apply a1_|apply a5_)|((with_reducible refine a4_ fun Y Z=>?_);go_simp;(first|(refine ⟨_,⟨g2,rfl⟩,?_⟩)|(with_reducible refine ⟨_,q1,?_⟩)|(with_reducible refine ⟨_,q2,?_⟩)|(with_reducible refine ⟨_,q3,?_⟩)|(refine ⟨_,g5,?_⟩)|skip);refine Z _ ?_;clear Z Y)
 refine a2_ [] ?_;repeat' first|(with_reducible first|apply a9_|apply a3_|apply b0_|apply a1_)|((with_reducible refine a6_ ?_ ?_);(focus (go_simp;done)))|((with_reducible refine a0_ fun Y Z=>?_);go_simp;refine Z _ ?_;clear Z Y)
 refine x7_ 19 [0,59,59,60,60,61,61,62,62,63,3,64,64,65] (by kernel_rfl) (by kernel_rfl) (by kernel_rfl) (unW 1) (s5_ 1) rfl ⟨rfl,rfl⟩ ?_;simp only [List.take];repeat' first|with_reducible apply a5_|((with_reducible refine a4_ fun Y Z=>?_);go_simp;refine Z _ ?_;clear Z Y)
 refine ⟨_,_,a6n (id:=1) (k:=k) (es:=(qat s.q k).map l1_) (c:=S car) (by exact rfl) (by exact rfl) (by go_simp) (by go_simp) c8r ti9 (by exact rfl) (by go_simp),?_,?_,?_⟩
 ·simp only [List.forall_mem_cons];go_simp
 ·repeat' first|with_reducible apply a5_|((with_reducible refine a4_ fun Y Z=>?_);go_simp;refine Z _ ?_;clear Z Y)
  simp only [List.forall_mem_cons];go_simp
 go_simp;refine b9_ [] 2 ⟨rfl,rfl⟩ ?_;simp only [List.take,List.drop];repeat' first|with_reducible apply a1_|((with_reducible refine a0_ fun Y Z=>?_);go_simp;refine Z _ ?_;clear Z Y)
 apply e3_;repeat' with_reducible first|apply a9_|apply a3_
 rw [a1e,i4_];refine a2_ [] ?_;repeat' first|(with_reducible first|apply a9_|apply a3_|apply a1_)|((with_reducible refine a0_ fun Y Z=>?_);go_simp;(first|(refine ⟨_,⟨g6,rfl⟩,?_⟩)|skip);refine Z _ ?_;clear Z Y)
 refine a2_ [] ?_;repeat' first|(with_reducible first|apply a9_|apply a3_|apply b0_|apply a1_)|((with_reducible refine a6_ ?_ ?_);(focus (go_simp;done)))|((with_reducible refine a0_ fun Y Z=>?_);go_simp;refine Z _ ?_;clear Z Y)
 refine a2_ [] ?_;repeat' first|(with_reducible first|apply a3_|apply c5_|apply a1_)|((with_reducible refine a0_ fun Y Z=>?_);go_simp;refine Z _ ?_;clear Z Y)
 go_simp
theorem c7f (r:Ru) (s:St) (mv:List Sg) (n1 n2:Bool) (x:Ev) (k:Nat) (hx:x.rank=k) (hk:k < s.q.length) (hr:r.ranks.length=s.q.length) (hql:s.q.length≤1000000) (hqs:∀ k,k < s.q.length→(qat s.q k).length≤1000000) (hl:s.tk.length≤1000000) (f:Nat) (hfe:(rat r.ranks k).feeder=f) (fl:f < s.q.length) (i:Nat) (ht:a0v s.tk x.car=i) (hil:i < s.tk.length) (h0:i5_ r s x k=0) :
  VH Tryd.prog 109 (f6_ r s mv n1 n2) [.ref 0 0,evA x] [0] (f6_ r ⟨s.q.set k (qat s.q k++[x.car]),s.tk.eraseIdx i,s.time⟩ mv false n2) (I 0):=by
 have hk2:k < r.ranks.length:=by omega
 have hqk:=hqs k hk;have hqk2:(qat s.q k).length≤999999999:=by omega
 have g1:=b1k r s mv x.car hql hqs;clear hqs;obtain ⟨sa,sb,es⟩:=a2a s.q x.car;rw [es] at g1;clear es;have g2:=a1c r s mv k hk hr;have q1:=b3_ (!decide (0≤k7_ s.q x.car)) 5;have q2:=b3_ (!m2_ r s k) 13;have q3:=b3_ (f4_ r s k) 16;have g5:VC Tryd.prog 30 [.sl 1 ([unl (!decide (0≤k7_ s.q x.car)) 5,unl (!m2_ r s k) 13,unl (f4_ r s k) 16].map y3_)] (I (i5_ r s x k)):=d9_ _ rfl rfl;rw [h0] at g5;clear h0;unfold m2_ feedN at *;generalize decide (0≤k7_ s.q x.car)=D at *;generalize unl (!D) 5=A1 at *;generalize unl (f4_ r s k) 16=A3 at *;generalize f4_ r s k=F at *;have g6:=a0e r ⟨s.q.set k (qat s.q k++[x.car]),s.tk,s.time⟩ mv x.car hl;simp only at g6;have h1:(f:Int)≠-1:=by omega
 have e:(decide ((rat r.ranks k).feeder≠-1)&&decide (0 < (qat s.q (rat r.ranks k).feeder.toNat).length))=decide (0 < (qat s.q f).length):=by
  rw [hfe,decide_eq_true h1,Bool.true_and,Int.toNat_natCast]
 rw [e] at q2 g5;generalize unl (!decide (0 < (qat s.q f).length)) 13=A2 at *;clear e;have hmx:(if (f:Int) < 0 then 0 else (f:Int))=f:=if_neg (by omega);rw [ht] at g6;clear ht;have gd:=a7z (s.tk.map Tk.av) n1 i (by simpa using hil);rw [a1z] at gd;generalize s.tk.eraseIdx i=TK at *;obtain ⟨w1,w2,w3,w4,w5,w6⟩:=ixs (m:=i) (by omega);obtain ⟨kd,tm,rk,car⟩:=x;simp only at hx g1 g6;subst hx;simp only [evA];refine i8_ Tryd.func109 rfl (by kernel_rfl) rfl (fun _=>by kernel_rfl) fun M0 w0 vs=>?_;simp only [Tryd.ntmps109,Tryd.results109,b5_];unfold f6_;repeat' first|(with_reducible first|apply a9_|apply a3_|apply a1_|refine a2_ [] ?_)|((with_reducible refine a0_ fun Y Z=>?_);go_simp;(first|(refine ⟨_,⟨g1,rfl⟩,?_⟩)|skip);refine Z _ ?_;clear Z Y)
 refine b6_ 11 11 [] rfl (by kernel_rfl) (by kernel_rfl) ?_;simp only [List.take,List.drop];repeat' first|(with_reducible first|apply a9_|apply a3_|apply a1_|apply a5_)|((with_reducible refine a4_ fun Y Z=>?_);go_simp;refine Z _ ?_;clear Z Y)
 refine a2_ [] ?_;repeat' first|(with_reducible first|apply a9_|apply a3_|apply a1_)|((with_reducible refine a0_ fun Y Z=>?_);go_simp;refine Z _ ?_;clear Z Y)
 refine b6_ 14 14 [] rfl (by kernel_rfl) (by kernel_rfl) ?_;simp only [List.take,List.drop];repeat' first|(with_reducible first|apply a9_|apply a3_|apply a1_|apply a5_)|((with_reducible refine a4_ fun Y Z=>?_);go_simp;(first|(refine ⟨_,⟨g2,rfl⟩,?_⟩)|(with_reducible refine ⟨_,q1,?_⟩)|(with_reducible refine ⟨_,q2,?_⟩)|(with_reducible refine ⟨_,q3,?_⟩)|(refine ⟨_,g5,?_⟩)|skip);refine Z _ ?_;clear Z Y)
 refine a2_ [] ?_;repeat' first|(with_reducible first|apply a9_|apply a3_|apply b0_|apply a1_)|((with_reducible refine a6_ ?_ ?_);(focus (go_simp;done)))|((with_reducible refine a0_ fun Y Z=>?_);go_simp;refine Z _ ?_;clear Z Y)
 refine x7_ 19 [0,59,59,60,60,61,61,62,62,63,3,64,64,65] (by kernel_rfl) (by kernel_rfl) (by kernel_rfl) (unW 1) (s5_ 1) rfl ⟨rfl,rfl⟩ ?_;simp only [List.take];repeat' first|with_reducible apply a5_|((with_reducible refine a4_ fun Y Z=>?_);go_simp;refine Z _ ?_;clear Z Y)
 refine ⟨_,_,a6n (id:=1) (k:=k) (es:=(qat s.q k).map l1_) (c:=S car) (by exact rfl) (by exact rfl) (by go_simp) (by go_simp) c8r ti9 (by exact rfl) (by go_simp),?_,?_,?_⟩
 ·simp only [List.forall_mem_cons];go_simp
 ·repeat' first|with_reducible apply a5_|((with_reducible refine a4_ fun Y Z=>?_);go_simp;refine Z _ ?_;clear Z Y)
  simp only [List.forall_mem_cons];go_simp
 go_simp;refine b9_ [] 2 ⟨rfl,rfl⟩ ?_;simp only [List.take,List.drop];repeat' first|with_reducible apply a1_|((with_reducible refine a0_ fun Y Z=>?_);go_simp;refine Z _ ?_;clear Z Y)
 apply e3_;repeat' with_reducible first|apply a9_|apply a3_
 rw [a1e,i4_];refine a2_ [] ?_;repeat' first|(with_reducible first|apply a9_|apply a3_|apply a1_)|((with_reducible refine a0_ fun Y Z=>?_);go_simp;(first|(refine ⟨_,⟨g6,rfl⟩,?_⟩)|skip);refine Z _ ?_;clear Z Y)
 refine a2_ [] ?_;repeat' first|(with_reducible first|apply a3_|apply a1_)|((with_reducible refine a7_ ?_ ?_);(focus (go_simp;done)))|((with_reducible refine a0_ fun Y Z=>?_);go_simp;refine Z _ ?_;clear Z Y)
 refine c6_ (b9_ [] 9 ⟨rfl,rfl⟩ ?_);simp only [List.take,List.drop];repeat' first|with_reducible apply a1_|((with_reducible refine a0_ fun Y Z=>?_);go_simp;refine Z _ ?_;clear Z Y)
 refine b1t (fun p a w R=>⟨_,Rel.deadCell R (bi:=0) (j:=1) (r:=2) rfl rfl⟩) ?_;simp only [List.set];refine e5_ [2] [] [] [some (.arr 85 3 false (TK.map Tk.av))] (.osl 0) rfl (by go_simp) ?_ ?_
 ·unfold j7_;go_simp;refine ⟨_,_,⟨_,gd⟩,?_⟩;go_simp;kernel_rfl
 go_simp;refine b9_ [] 4 ⟨rfl,rfl⟩ ?_;simp only [List.take,List.drop];repeat' first|with_reducible apply a1_|((with_reducible refine a0_ fun Y Z=>?_);go_simp;refine Z _ ?_;clear Z Y)
 apply e3_;repeat' with_reducible first|apply a9_|apply a3_
 refine a2_ [] ?_;repeat' first|(with_reducible first|apply a3_|apply c5_|apply a1_)|((with_reducible refine a0_ fun Y Z=>?_);go_simp;refine Z _ ?_;clear Z Y)
 go_simp
theorem a6q (r:Ru) (x:Ev) (hn:r.ranks.length≤1000000) (hc:x.car.size≤1000) : VC Tryd.prog 55 [c4_ r,evA x] (I (evE r x)):=by
 have i1:=i3_ x.kind 0 5;have i2:=i3_ x.time 0 604800;have i3:=i3_ x.rank 0 ((r.ranks.length:Int) - 1);have i4:=a0u x.car hc;have u1:=b3_ (inR x.kind 0 5) 15;have u2:=b3_ (inR x.time 0 604800) 2;have u3:=b3_ (inR x.rank 0 ((r.ranks.length:Int) - 1)) 6;have u4:=b3_ (!decide (x.kind=4) || decide (x.car=ByteArray.empty)) 3;have u5:=b3_ (decide (x.kind=4) || c8_ x.car) 4;have g5:VC Tryd.prog 30 [.sl 1 ([unl (inR x.kind 0 5) 15,unl (inR x.time 0 604800) 2,unl (inR x.rank 0 ((r.ranks.length:Int) - 1)) 6,unl (!decide (x.kind=4) || decide (x.car=ByteArray.empty)) 3,unl (decide (x.kind=4) || c8_ x.car) 4].map y3_)] (I (evE r x)):=d9_ _ rfl rfl;have hw:IntKind.i64.wrap ((r.ranks.length:Int) - 1)=(r.ranks.length:Int) - 1:=h3_ (by omega) (by omega);generalize evE r x=E at *;generalize inR x.kind 0 5=D1 at *;generalize inR x.time 0 604800=D2 at *;generalize inR x.rank 0 ((r.ranks.length:Int) - 1)=D3 at *;generalize c8_ x.car=D5 at *;generalize unl D1 15=A1 at *;generalize unl D2 2=A2 at *;generalize unl D3 6=A3 at *;by_cases h4:x.kind=4
 ·rw [h4] at i1;rw [decide_eq_true h4,Bool.not_true,Bool.false_or] at u4;rw [decide_eq_true h4,Bool.true_or] at u5;rw [decide_eq_true h4,Bool.not_true,Bool.false_or,Bool.true_or] at g5;generalize unl true 4=A5 at *;have he:(ByteArray.empty:ByteArray)=⟨#[]⟩:=rfl;rw [he] at u4 g5;generalize unl (decide (x.car=⟨#[]⟩)) 3=A4 at *;clear he;refine c0_ Tryd.func55 rfl (by kernel_rfl) (by kernel_rfl) rfl fun M0 w0=>?_;simp only [Tryd.ntmps55,Tryd.results55,b5_];repeat' first|(with_reducible first|apply a9_|apply a3_|apply c5_|apply a1_|refine a2_ [] ?_|apply a5_)|((with_reducible first|refine a0_ fun Y Z=>?_|refine a4_ fun Y Z=>?_);go_simp;(first|(with_reducible refine ⟨_,i1,?_⟩)|(with_reducible refine ⟨_,i2,?_⟩)|(with_reducible refine ⟨_,i3,?_⟩)|(with_reducible refine ⟨_,u1,?_⟩)|(with_reducible refine ⟨_,u2,?_⟩)|(with_reducible refine ⟨_,u3,?_⟩)|(with_reducible refine ⟨_,u4,?_⟩)|(with_reducible refine ⟨_,u5,?_⟩)|(refine ⟨_,g5,?_⟩)|skip);refine Z _ ?_;clear Z Y)|((refine b6_ 34 34 [] rfl (by kernel_rfl) (by kernel_rfl) ?_);simp only [List.take,List.drop])
  go_simp
 ·rw [decide_eq_false h4,Bool.not_false,Bool.true_or] at u4;rw [decide_eq_false h4,Bool.false_or] at u5;rw [decide_eq_false h4,Bool.not_false,Bool.true_or,Bool.false_or] at g5;generalize unl true 3=A4 at *;generalize unl D5 4=A5 at *;refine c0_ Tryd.func55 rfl (by kernel_rfl) (by kernel_rfl) rfl fun M0 w0=>?_;simp only [Tryd.ntmps55,Tryd.results55,b5_];repeat' first|(with_reducible first|apply a9_|apply a3_|apply c5_|apply a1_|refine a2_ [] ?_|apply a5_)|((with_reducible first|refine a0_ fun Y Z=>?_|refine a4_ fun Y Z=>?_);go_simp;(first|(with_reducible refine ⟨_,i1,?_⟩)|(with_reducible refine ⟨_,i2,?_⟩)|(with_reducible refine ⟨_,i3,?_⟩)|(with_reducible refine ⟨_,i4,?_⟩)|(with_reducible refine ⟨_,u1,?_⟩)|(with_reducible refine ⟨_,u2,?_⟩)|(with_reducible refine ⟨_,u3,?_⟩)|(with_reducible refine ⟨_,u4,?_⟩)|(with_reducible refine ⟨_,u5,?_⟩)|(refine ⟨_,g5,?_⟩)|skip);refine Z _ ?_;clear Z Y)|((refine b6_ 34 34 [] rfl (by kernel_rfl) (by kernel_rfl) ?_);simp only [List.take,List.drop])
  go_simp
end Go.Proofs.YtoibondihdhnoaaDoor
