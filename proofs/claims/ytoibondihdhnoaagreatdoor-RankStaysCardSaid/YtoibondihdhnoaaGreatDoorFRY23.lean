/- Texts in one: slices.Delete of one element of three cells, in a row of the call's own. -/
import Derived.Test.YtoibondihdhnoaaGreatDoorFRY16
import Derived.Lib.LazyBuf
import Derived.Test.YtoibondihdhnoaaGreatDoorFRY12
import Derived.Test.YtoibondihdhnoaaGreatDoorFRY5
import Derived.Deep.RegionLaw
import Derived.Lib.SliceRun
namespace Go.Proofs.YtoibondihdhnoaaGreatDoor
open Go.RowKit Go.Lib
set_option maxRecDepth 100000
set_option maxHeartbeats 2000000
def kn (cur:Array Value) : Nat→List Value→Array Value
 | _,[]=>cur
 | o,v::r=>kn (cur.setIfInBounds o v) (o+1) r
theorem xU:∀ (l:List Value) (o:Nat) (cur:Array Value),(kn cur o l).size=cur.size
 | [],_,_=>rfl
 | v::r,o,cur=>by rw [kn,xU r,Array.size_setIfInBounds]
theorem xV:∀ (l:List Value) (o j:Nat) (cur:Array Value),(j < o∨o+l.length≤j)→(kn cur o l)[j]? = cur[j]?
 | [],_,_,_,_=>rfl
 | v::r,o,j,cur,h=>by
  rw [kn,xV r (o+1) j _ (by simp at h;omega),Array.getElem?_setIfInBounds_ne (by simp at h;omega)]
theorem EL:∀ (l:List Value) (o j:Nat) (cur:Array Value),o≤j→j < o+l.length→o+l.length≤cur.size→(kn cur o l)[j]? = l[j - o]?
 | [],_,_,_,h1,h2,_=>by simp at h2;omega
 | v::r,o,j,cur,h1,h2,h3=>by
  simp at h2 h3;rw [kn];by_cases he:j=o
  ·subst he;rw [xV r (j+1) j _ (by omega),Array.getElem?_setIfInBounds_self_of_lt (by omega)];simp
  ·rw [EL r (o+1) j _ (by omega) (by omega) (by simp;omega),show j - o=(j - (o+1))+1 by omega,List.getElem?_cons_succ]
theorem tR (w:World) (b o:Nat) (v:Value) (r:List Value) : w.setCells b o (v::r)=(w.setCells b o [v]).setCells b (o+1) r:=rfl
theorem xW:∀ (l:List Value) (w:World) (b o:Nat) (cur:Array Value) (t:TypeId),Bk w b t cur→Bk (w.setCells b o l) b t (kn cur o l)
 | [],_,_,_,_,_,h=>h
 | v::r,w,b,o,cur,t,h=>by
  rw [tR,kn];exact xW r _ b (o+1) _ t (xX v h)
theorem Be:∀ (l:List Value) (w:World) (b o b':Nat),b'≠b→(w.setCells b o l).heap[b']? = w.heap[b']?
 | [],_,_,_,_,_=>rfl
 | v::r,w,b,o,b',h=>by rw [tR,Be r _ b (o+1) b' h,xY v h]
theorem Bf:∀ (l:List Value) (w:World) (b o:Nat),(w.setCells b o l).heap.size=w.heap.size
 | [],_,_,_=>rfl
 | v::r,w,b,o=>by rw [tR,Bf r,vA]
theorem Bg:∀ (l:List Value) (w:World) (b o:Nat),(w.setCells b o l).tape=w.tape
 | [],_,_,_=>rfl
 | v::r,w,b,o=>by rw [tR,Bg r];rfl
theorem JK (cs:Array Value) : (Builtin.zeroCells cs 1).toList=cs.toList:=by
 apply List.ext_getElem
 ·simp [Builtin.zeroCells]
 ·intro i h1 h2;simp at h2;simp [Builtin.zeroCells,Nat.mod_eq_of_lt h2,h2]
theorem JL {P:Program} (w:World) (t e ty:TypeId) (z:Value) (ht:P.underlying t=some (.slice e)) (hv:∀ w,(zeroValue e).run P w = .ok z w) (h1:∀ v∈z.cells.toList,v.oneCell'=true) (b o c:Nat)
  (hc:∀ j,j < z.cells.size→(w.cell? ⟨b,o+j,none⟩).isSome=true) (hf:∀ j,w.frozen? ⟨b,j,none⟩=false) :
  (Builtin.clear_ #[t] ty #[.slice (some ⟨b,o,none⟩) 1 c]).run P w = .ok (.tuple #[]) (w.setCells b o z.cells.toList):=by
 have fJ:=run_storeCells_cells (P:=P) b o z.cells.toList 0 w (by simpa using hc) (fun j _=>hf _) h1;simp only [Nat.add_zero] at fJ;simp [Builtin.clear_,run_underlying ht,hv,JK,fJ]
def rY:List Value:=[.string ⟨#[]⟩,.int .i64 0,.int .i64 0]
theorem JM (w:World) (g n cap i:Nat) (cur:Array Value) (hg:Bk w g 148 cur) (aM:cur.size=cap*3) (hn:n≤cap) (_hcap:cap≤maxLen) (hi:i < n) (h1:∀ j u,j < n*3→cur[j]? = some u→u.oneCell'=true) :
  Calls Tryz.prog 231 #[.slice (some ⟨g,0,none⟩) n cap,.int .i64 i,.int .i64 ((i:Int)+1)] w fun e w'=>e = .returned (.slice (some ⟨g,0,none⟩) (n - 1) cap) ∧
   w'=(w.drew.setCells g (i*3) ((cur.toList.drop ((i+1)*3)).take ((n - (i+1))*3))).setCells g ((n - 1)*3) rY:=by
 have mixed:Tryz.prog.follows .mixedOrders=true:=by kernel_rfl
 have t0:=Tryz.underlying0;have a0:=Tryz.isAgg0;have z0:=Tryz.sizeOf0;have v0:=Tryz.zeroValue0;have t3:=Tryz.underlying3;have a3:=Tryz.isAgg3;have z3:=Tryz.sizeOf3;have v3:=Tryz.zeroValue3;have t4:=Tryz.underlying4;have a4:=Tryz.isAgg4;have z4:=Tryz.sizeOf4;have v4:=Tryz.zeroValue4;have t22:Tryz.prog.underlying 30=some (.slice 148):=Tryz.underlying30;have a22:=Tryz.isAgg30;have z22:=Tryz.sizeOf30;have v22:=Tryz.zeroValue30;have t23:=Tryz.underlying148;have QI:=Tryz.isAgg148;have QJ:=Tryz.sizeOf148;have QK:=Tryz.zeroValue148;obtain ⟨d,i0,z,hd,rZ,hz,fE,aV⟩:=e_ EM;injection aV with q1 q2 q3 q4 q5 q6 q7 q8 q9
 have JN:i0.size=3:=q2.symm;have vB:z.cells.toList=rY:=q9.symm;have fX:z.cells.size=3:=by
  rw [←Array.length_toList,vB];rfl
 have hv:∀ w,(zeroValue 148).run Tryz.prog w = .ok z w:=fun w=>by simp [zeroValue,typeInfo,rZ,hz]
 unfold maxLen at _hcap;obtain ⟨news,eS⟩ : ∃ news,news=(cur.toList.drop ((i+1)*3)).take ((n - (i+1))*3):=⟨_,rfl⟩
 rw [←eS];have hlen:news.length=(n - (i+1))*3:=by
  rw [eS,List.length_take,List.length_drop,Array.length_toList,aM];omega
 have db:∀ t,t < news.length→news[t]? = cur[(i+1)*3+t]?:=fun t ht=>by
  rw [eS,List.getElem?_take_of_lt (by omega),List.getElem?_drop,Array.getElem?_toList]
 obtain ⟨A,hA,Bh⟩ : ∃ A:Addr,(if cap=i+1 then some (⟨g,0,none⟩ : Addr) else some ⟨g,(i+1)*3,none⟩)=some A∧Hid (∀ t u,news[t]? = some u→w.drew.cell? (A.add t)=some u):=by
  by_cases h:cap=i+1
  ·refine ⟨⟨g,0,none⟩,by simp [h],fun t u hu=>?_⟩;have h0:news.length=0:=by rw [hlen];omega
   rw [List.length_eq_zero_iff.1 h0] at hu;simp at hu
  ·refine ⟨⟨g,(i+1)*3,none⟩,by simp [h],fun t u hu=>?_⟩;have ht:t < news.length:=(List.getElem?_eq_some_iff.1 hu).1;rw [db t ht] at hu;rw [Addr.add_lit];exact (hg.cell _).trans hu
 have s1:Hid (news.length=(n - (i+1))*3):=hlen;have s2:Hid (∀ u∈news,u.oneCell'=true):=fun u hu=>by
  obtain ⟨t,ht,rfl⟩:=List.getElem_of_mem hu;refine h1 ((i+1)*3+t) _ (by omega) ?_;rw [←db t ht,List.getElem?_eq_getElem ht]
 have s3:Hid (∀ t,t < news.length→(w.drew.cell? ⟨g,0+i*3+t,none⟩).isSome=true∧w.drew.frozen? ⟨g,0+i*3+t,none⟩=false):=fun t ht=>by
  refine ⟨?_,hg.drew.frozen _⟩;rw [hg.drew.cell,Array.getElem?_eq_getElem (by omega)];rfl
 obtain ⟨W1,xZ⟩ : ∃ W1,W1=w.drew.setCells g (0+i*3) news:=⟨_,rfl⟩
 have hB:Bk W1 g 148 (kn cur (0+i*3) news):=by
  rw [xZ];exact xW news _ g _ cur _ hg.drew
 have oA:∀ ty,(Builtin.clear_ #[30] ty #[.slice (some ⟨g,(n - 1)*3,none⟩) 1 (cap - (n - 1))]).run Tryz.prog W1 = .ok (.tuple #[]) (W1.setCells g ((n - 1)*3) rY):=fun ty=>by
  rw [←vB];refine JL W1 _ _ ty z t22 hv (fun v hv=>?_) g _ _ (fun j hj=>?_) hB.frozen
  ·exact List.all_eq_true.1 fE v hv
  ·rw [hB.cell,Array.getElem?_eq_getElem (by rw [xU];omega)];rfl
 have hW:Hid (W1=w.drew.setCells g (0+i*3) news):=xZ;have tS:i≤cap:=by omega
 have ig:i+1≤cap:=by omega
 have e1:i+(n - (i+1))=n - 1:=by omega
 have e2:n - (n - 1)=1:=by omega
 have e3:((i:Int)+1)=((i+1:Nat) : Int):=rfl;rw [e3];have hf:w.drew.setCells g (i*3) news=W1:=by rw [xZ,Nat.zero_add]
 have HF:=Lib.hid hf;generalize hj:i+1=j at *;have vC:i≤j:=by omega
 have aq:i < j:=by omega
 have ax:¬i=j:=by omega
 have ep:j≤n:=by omega
 clear hj;clear xZ hB db hlen eS h1 hg aM hd q1 q2 q3 q4 q5 q6 q7 q8 q9 hf hz vB fX fE hv;go_enter Tryz.func231,Tryz.ntmps231
 go_wp2_with fail
 go_region_law_o (refine step_append_room rfl (.tmp 22) (.tmp 25) 30 rfl 148 i0 3 t22 rZ JN g 0 i cap (by simp [Act.eval,Act.put]) A (n - j) (cap - j) news (by simp [Act.eval,Act.put]) s1.out Bh.out s2.out (by omega) s3.out ?_;rw [←hW.out])
 go_wp2
 go_ret
 exact ⟨rfl,by rw [HF.out]⟩
theorem JO {cur:Array Value} {n cap i:Nat} (aM:cur.size=cap*3) (hn:n≤cap) (hi:i < n) (k r:Nat) (hk:k < n - 1) (hr:r < 3) :
  (kn (kn cur (i*3) ((cur.toList.drop ((i+1)*3)).take ((n - (i+1))*3))) ((n - 1)*3) rY)[k*3+r]? = if k < i then cur[k*3+r]? else cur[(k+1)*3+r]?:=by
 have hlen:((cur.toList.drop ((i+1)*3)).take ((n - (i+1))*3)).length=(n - (i+1))*3:=by
  rw [List.length_take,List.length_drop,Array.length_toList,aM];omega
 rw [xV _ _ _ _ (.inl (by omega))];by_cases h:k < i
 ·rw [if_pos h,xV _ _ _ _ (.inl (by omega))]
 ·rw [if_neg h,EL _ _ _ _ (by omega) (by omega) (by omega),List.getElem?_take_of_lt (by omega),List.getElem?_drop,Array.getElem?_toList];congr 1;omega
theorem Bi:∀ (l:List Value) (w:World) (b o:Nat),(w.setCells b o l).os=w.os
 | [],_,_,_=>rfl
 | v::r,w,b,o=>by rw [tR,Bi r];rfl
theorem Bj:∀ (l:List Value) (w:World) (b o:Nat),(w.setCells b o l).output=w.output
 | [],_,_,_=>rfl
 | v::r,w,b,o=>by rw [tR,Bj r];rfl
theorem Bl (es:List (List AV)) (nl:Bool) (i:Nat) (hi:i < es.length) : VH Tryz.prog 231 [some (.arr 148 3 nl es)] [.osl 0,I (i:Int),I ((i:Int)+1)] [] [some (.arr 148 3 false (es.eraseIdx i))] (.osl 0):=by
 refine ⟨by kernel_rfl,fun w M X p vs hM hX QL ix hv hO QM=>?_⟩;obtain ⟨v1,v2,v3,rfl⟩ : ∃ v1 v2 v3,vs=[v1,v2,v3]:=by
  rcases vs with _|⟨a,_|⟨b,_|⟨c,_|⟨_,_⟩⟩⟩⟩
  all_goals first|exact ⟨a,b,c,rfl⟩|(simp at ix)
 have g0:=hv 0 _ _ rfl rfl;have g1:=hv 1 _ _ rfl rfl;have g2:=hv 2 _ _ rfl rfl;obtain ⟨iF,lq,ba⟩:=hO 0 _ rfl;have aL:nl=false:=by
  cases nl
  ·rfl
  ·rw [if_pos rfl] at ba;subst ba;simp at hi
 subst aL;rw [if_neg (by simp)] at ba;obtain ⟨cz,cur,hg,hlen,aE⟩:=ba;have e2:v2 = .int .i64 (i:Int):=by
  cases g1 with
  | base _ _ h0=>cases h0;rfl
 have e3:v3 = .int .i64 ((i:Int)+1):=by
  cases g2 with
  | base _ _ h0=>cases h0;rfl
 subst e2;subst e3;obtain ⟨cap,rfl,bW,j_,gb⟩ : ∃ cap,v1 = .slice (some ⟨p 0,0,none⟩) es.length cap∧cur.size=cap*3∧es.length≤cap∧cap≤maxLen:=by
  cases g0 with
  | base _ _ h0=>cases h0
  | osl id A n c hid iK hb=>
   have:=iK _ _ _ _ rfl;unfold Osl at this;rw [if_neg (by simp)] at this;obtain ⟨cap,cur',e1,fL,bW,j_,gb⟩:=this;have bK:cur'=cur:=by
    rw [hg] at fL;injection fL with fL
    injection fL with fL
    exact fL.symm
   subst bK;exact ⟨cap,e1,bW,j_,gb⟩
 have h1:∀ j u,j < es.length*3→cur[j]? = some u→u.oneCell'=true:=fun j u hj hu=>by
  have hk:j / 3 < es.length:=by omega
  obtain ⟨xI,qp⟩:=lq (j / 3) es[j / 3] (List.getElem?_eq_getElem hk);have hr:j % 3 < es[j / 3].length:=by rw [xI];omega
  obtain ⟨u',lT,bA⟩:=aE (j / 3) es[j / 3] (j % 3) _ (List.getElem?_eq_getElem hk) (List.getElem?_eq_getElem hr);rw [show j / 3*3+j % 3=j by omega,hu] at lT;injection lT with lT
  subst lT;exact bA.one (qp _ (List.getElem_mem hr))
 refine (JM w (p 0) es.length cap i cur hg bW j_ gb hi h1).mono ?_;rintro e w' ⟨rfl,rfl⟩;obtain ⟨news,eS⟩ : ∃ news,news=(cur.toList.drop ((i+1)*3)).take ((es.length - (i+1))*3):=⟨_,rfl⟩
 obtain ⟨w2,pC⟩ : ∃ w2,(w.drew.setCells (p 0) (i*3) news).setCells (p 0) ((es.length - 1)*3) rY=w2:=⟨_,rfl⟩
 rw [←eS,pC];have hB:Bk w2 (p 0) 148 (kn (kn cur (i*3) news) ((es.length - 1)*3) rY):=by
  rw [←pC];exact xW _ _ _ _ _ _ (xW news _ _ _ cur _ hg)
 have b9:∀ b,b≠p 0→w2.heap[b]? = w.heap[b]?:=fun b hb=>by
  rw [←pC,Be _ _ _ _ _ hb,Be _ _ _ _ _ hb];rfl
 have aM:w2.heap.size=w.heap.size:=by
  rw [←pC,Bf,Bf];rfl
 have dQ:∀ (F:Nat→Nat→Prop),(∀ j,F (p 0) j)→Keeps F w w2:=fun F hF=>by
  have ax:∀ b j,¬F b j→b≠p 0:=fun b j hn he=>hn (by rw [he];exact hF j);refine ⟨by rw [aM];exact Nat.le_refl _,fun b _ hn=>b9 b (ax b 0 (hn 0)),fun {b o v} _ hn hc=>vD (b9 b (ax b o hn)) hc⟩
 have vE:∀ b j,b < w.heap.size→¬Mof M [some (.arr 148 3 false es)] p b j→¬Mof M [some (.arr 148 3 false (es.eraseIdx i))] p b j:=fun b j _ hn hm=>by
  rcases hm with hm|⟨id,ob,hid,hl,ct⟩
  ·exact hn (.inl hm)
  ·rcases id with _|id
   ·exact hn (.inr ⟨0,_,rfl,rfl,ct⟩)
   ·simp at hid
 have hK:=dQ (Mof M [some (.arr 148 3 false es)] p) fun j=>.inr ⟨0,_,rfl,rfl,.inl rfl⟩;have pD:(es.eraseIdx i).length=es.length - 1:=List.length_eraseIdx_of_lt hi;have vF:(kn (kn cur (i*3) news) ((es.length - 1)*3) rY).size=cap*3:=by rw [xU,xU,bW]
 refine ⟨_,p,rfl,?_,?_,?_,?_,fun i a v h=>by cases h⟩
 ·refine (Bel.start ⟨w,X⟩).keepF ?_ ?_ ?_ (dQ _ fun j=>cz.1 j)
  ·rw [←pC,Bi,Bi];rfl
  ·rw [←pC,Bg,Bg];rfl
  ·rw [←pC,Bj,Bj];rfl
 ·refine .osl 0 _ _ _ (by simp) (fun e sz nl es' he=>?_) fun e sz nl ak qs he=>by simp at he
  simp only [List.getElem?_cons_zero,Option.some.injEq,Ob.arr.injEq] at he;obtain ⟨rfl,rfl,rfl,rfl⟩:=he;unfold Osl;rw [if_neg (by simp),pD];exact ⟨cap,_,rfl,hB,vF,by omega,gb⟩
 ·intro k ob hk;rcases k with _|k
  ·simp only [List.getElem?_cons_zero,Option.some.injEq] at hk;subst hk;refine ⟨by decide,fun k x hx=>?_,?_⟩
   ·obtain ⟨k',dF⟩:=List.getElem?_of_mem (List.mem_of_mem_eraseIdx (List.mem_of_getElem? hx));exact lq k' x dF
   ·rw [if_neg (by simp)];refine ⟨cz,_,hB,?_,fun k x j c hx hj=>?_⟩
    ·rw [vF,pD];omega
    ·have hk:k < es.length - 1:=by rw [←pD];exact (List.getElem?_eq_some_iff.1 hx).1
     rw [List.getElem?_eraseIdx] at hx;have Bm:j < 3:=by
      have bB:=(List.getElem?_eq_some_iff.1 hj).1;split at hx
      ·rw [(lq _ _ hx).1] at bB;exact bB
      ·rw [(lq _ _ hx).1] at bB;exact bB
     rw [eS,JO bW j_ hi k j hk Bm];split at hx
     ·rename_i h;rw [if_pos h];obtain ⟨u,hu,bA⟩:=aE k x j c hx hj;exact ⟨u,hu,bA.keep hK vE⟩
     ·rename_i h;rw [if_neg h];obtain ⟨u,hu,bA⟩:=aE (k+1) x j c hx hj;exact ⟨u,hu,bA.keep hK vE⟩
  ·simp at hk
 ·intro k k' ob ob' hk dF _ _ b j j' _ _;rcases k with _|k
  ·rcases k' with _|k'
   ·rfl
   ·simp at dF
  ·simp at hk
end Go.Proofs.YtoibondihdhnoaaGreatDoor
