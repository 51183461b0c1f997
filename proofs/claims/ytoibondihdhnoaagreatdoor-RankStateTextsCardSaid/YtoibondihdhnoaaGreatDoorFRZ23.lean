/- Texts in one: slices.Delete of one element of three cells, in a row of the call's own. -/
import Derived.Test.YtoibondihdhnoaaGreatDoorFRZ16
import Derived.Lib.LazyBuf
import Derived.Test.YtoibondihdhnoaaGreatDoorFRZ12
import Derived.Test.YtoibondihdhnoaaGreatDoorFRZ5
import Derived.Deep.RegionLaw
import Derived.Lib.SliceRun
namespace Go.Proofs.YtoibondihdhnoaaGreatDoor
open Go.RowKit Go.Lib
set_option maxRecDepth 100000
set_option maxHeartbeats 2000000
def ke (cur:Array Value) : Nat→List Value→Array Value
 | _,[]=>cur
 | o,v::r=>ke (cur.setIfInBounds o v) (o+1) r
theorem yi:∀ (l:List Value) (o:Nat) (cur:Array Value),(ke cur o l).size=cur.size
 | [],_,_=>rfl
 | v::r,o,cur=>by rw [ke,yi r,Array.size_setIfInBounds]
theorem yj:∀ (l:List Value) (o j:Nat) (cur:Array Value),(j < o∨o+l.length≤j)→(ke cur o l)[j]? = cur[j]?
 | [],_,_,_,_=>rfl
 | v::r,o,j,cur,h=>by
  rw [ke,yj r (o+1) j _ (by simp at h;omega),Array.getElem?_setIfInBounds_ne (by simp at h;omega)]
theorem EW:∀ (l:List Value) (o j:Nat) (cur:Array Value),o≤j→j < o+l.length→o+l.length≤cur.size→(ke cur o l)[j]? = l[j - o]?
 | [],_,_,_,h1,h2,_=>by simp at h2;omega
 | v::r,o,j,cur,h1,h2,h3=>by
  simp at h2 h3;rw [ke];by_cases he:j=o
  ·subst he;rw [yj r (j+1) j _ (by omega),Array.getElem?_setIfInBounds_self_of_lt (by omega)];simp
  ·rw [EW r (o+1) j _ (by omega) (by omega) (by simp;omega),show j - o=(j - (o+1))+1 by omega,List.getElem?_cons_succ]
theorem tn (w:World) (b o:Nat) (v:Value) (r:List Value) : w.setCells b o (v::r)=(w.setCells b o [v]).setCells b (o+1) r:=rfl
theorem yl:∀ (l:List Value) (w:World) (b o:Nat) (cur:Array Value) (t:TypeId),Bk w b t cur→Bk (w.setCells b o l) b t (ke cur o l)
 | [],_,_,_,_,_,h=>h
 | v::r,w,b,o,cur,t,h=>by
  rw [tn,ke];exact yl r _ b (o+1) _ t (Bp v h)
theorem Bq:∀ (l:List Value) (w:World) (b o b':Nat),b'≠b→(w.setCells b o l).heap[b']? = w.heap[b']?
 | [],_,_,_,_,_=>rfl
 | v::r,w,b,o,b',h=>by rw [tn,Bq r _ b (o+1) b' h,Br v h]
theorem Bt:∀ (l:List Value) (w:World) (b o:Nat),(w.setCells b o l).heap.size=w.heap.size
 | [],_,_,_=>rfl
 | v::r,w,b,o=>by rw [tn,Bt r,ym]
theorem Bu:∀ (l:List Value) (w:World) (b o:Nat),(w.setCells b o l).tape=w.tape
 | [],_,_,_=>rfl
 | v::r,w,b,o=>by rw [tn,Bu r];rfl
theorem KE (cs:Array Value) : (Builtin.zeroCells cs 1).toList=cs.toList:=by
 apply List.ext_getElem
 ·simp [Builtin.zeroCells]
 ·intro i h1 h2;simp at h2;simp [Builtin.zeroCells,Nat.mod_eq_of_lt h2,h2]
theorem KF {P:Program} (w:World) (t e ty:TypeId) (z:Value) (ht:P.underlying t=some (.slice e)) (hv:∀ w,(zeroValue e).run P w = .ok z w) (h1:∀ v∈z.cells.toList,v.oneCell'=true) (b o c:Nat)
  (hc:∀ j,j < z.cells.size→(w.cell? ⟨b,o+j,none⟩).isSome=true) (hf:∀ j,w.frozen? ⟨b,j,none⟩=false) :
  (Builtin.clear_ #[t] ty #[.slice (some ⟨b,o,none⟩) 1 c]).run P w = .ok (.tuple #[]) (w.setCells b o z.cells.toList):=by
 have cC:=run_storeCells_cells (P:=P) b o z.cells.toList 0 w (by simpa using hc) (fun j _=>hf _) h1;simp only [Nat.add_zero] at cC;simp [Builtin.clear_,run_underlying ht,hv,KE,cC]
def rJ:List Value:=[.string ⟨#[]⟩,.int .i64 0,.int .i64 0]
theorem KG (w:World) (g n cap i:Nat) (cur:Array Value) (hg:Bk w g 148 cur) (aM:cur.size=cap*3) (hn:n≤cap) (_hcap:cap≤maxLen) (hi:i < n) (h1:∀ j u,j < n*3→cur[j]? = some u→u.oneCell'=true) :
  Calls Tryz.prog 231 #[.slice (some ⟨g,0,none⟩) n cap,.int .i64 i,.int .i64 ((i:Int)+1)] w fun e w'=>e = .returned (.slice (some ⟨g,0,none⟩) (n - 1) cap) ∧
   w'=(w.drew.setCells g (i*3) ((cur.toList.drop ((i+1)*3)).take ((n - (i+1))*3))).setCells g ((n - 1)*3) rJ:=by
 have mixed:Tryz.prog.follows .mixedOrders=true:=by kernel_rfl
 have t0:=Tryz.underlying0;have a0:=Tryz.isAgg0;have z0:=Tryz.sizeOf0;have v0:=Tryz.zeroValue0;have t3:=Tryz.underlying3;have a3:=Tryz.isAgg3;have z3:=Tryz.sizeOf3;have v3:=Tryz.zeroValue3;have t4:=Tryz.underlying4;have a4:=Tryz.isAgg4;have z4:=Tryz.sizeOf4;have v4:=Tryz.zeroValue4;have t22:Tryz.prog.underlying 30=some (.slice 148):=Tryz.underlying30;have a22:=Tryz.isAgg30;have z22:=Tryz.sizeOf30;have v22:=Tryz.zeroValue30;have t23:=Tryz.underlying148;have RG:=Tryz.isAgg148;have RH:=Tryz.sizeOf148;have RI:=Tryz.zeroValue148;obtain ⟨d,i0,z,hd,va,hz,fc,aV⟩:=eQ EX;injection aV with q1 q2 q3 q4 q5 q6 q7 q8 q9
 have KH:i0.size=3:=q2.symm;have vb:z.cells.toList=rJ:=q9.symm;have iJ:z.cells.size=3:=by
  rw [←Array.length_toList,vb];rfl
 have hv:∀ w,(zeroValue 148).run Tryz.prog w = .ok z w:=fun w=>by simp [zeroValue,typeInfo,va,hz]
 unfold maxLen at _hcap;obtain ⟨news,eC⟩ : ∃ news,news=(cur.toList.drop ((i+1)*3)).take ((n - (i+1))*3):=⟨_,rfl⟩
 rw [←eC];have hlen:news.length=(n - (i+1))*3:=by
  rw [eC,List.length_take,List.length_drop,Array.length_toList,aM];omega
 have dH:∀ t,t < news.length→news[t]? = cur[(i+1)*3+t]?:=fun t ht=>by
  rw [eC,List.getElem?_take_of_lt (by omega),List.getElem?_drop,Array.getElem?_toList]
 obtain ⟨A,hA,Bv⟩ : ∃ A:Addr,(if cap=i+1 then some (⟨g,0,none⟩ : Addr) else some ⟨g,(i+1)*3,none⟩)=some A∧Hid (∀ t u,news[t]? = some u→w.drew.cell? (A.add t)=some u):=by
  by_cases h:cap=i+1
  ·refine ⟨⟨g,0,none⟩,by simp [h],fun t u hu=>?_⟩;have h0:news.length=0:=by rw [hlen];omega
   rw [List.length_eq_zero_iff.1 h0] at hu;simp at hu
  ·refine ⟨⟨g,(i+1)*3,none⟩,by simp [h],fun t u hu=>?_⟩;have ht:t < news.length:=(List.getElem?_eq_some_iff.1 hu).1;rw [dH t ht] at hu;rw [Addr.add_lit];exact (hg.cell _).trans hu
 have s1:Hid (news.length=(n - (i+1))*3):=hlen;have s2:Hid (∀ u∈news,u.oneCell'=true):=fun u hu=>by
  obtain ⟨t,ht,rfl⟩:=List.getElem_of_mem hu;refine h1 ((i+1)*3+t) _ (by omega) ?_;rw [←dH t ht,List.getElem?_eq_getElem ht]
 have s3:Hid (∀ t,t < news.length→(w.drew.cell? ⟨g,0+i*3+t,none⟩).isSome=true∧w.drew.frozen? ⟨g,0+i*3+t,none⟩=false):=fun t ht=>by
  refine ⟨?_,hg.drew.frozen _⟩;rw [hg.drew.cell,Array.getElem?_eq_getElem (by omega)];rfl
 obtain ⟨W1,yn⟩ : ∃ W1,W1=w.drew.setCells g (0+i*3) news:=⟨_,rfl⟩
 have hB:Bk W1 g 148 (ke cur (0+i*3) news):=by
  rw [yn];exact yl news _ g _ cur _ hg.drew
 have nM:∀ ty,(Builtin.clear_ #[30] ty #[.slice (some ⟨g,(n - 1)*3,none⟩) 1 (cap - (n - 1))]).run Tryz.prog W1 = .ok (.tuple #[]) (W1.setCells g ((n - 1)*3) rJ):=fun ty=>by
  rw [←vb];refine KF W1 _ _ ty z t22 hv (fun v hv=>?_) g _ _ (fun j hj=>?_) hB.frozen
  ·exact List.all_eq_true.1 fc v hv
  ·rw [hB.cell,Array.getElem?_eq_getElem (by rw [yi];omega)];rfl
 have hW:Hid (W1=w.drew.setCells g (0+i*3) news):=yn;have RJ:i≤cap:=by omega
 have gQ:i+1≤cap:=by omega
 have e1:i+(n - (i+1))=n - 1:=by omega
 have e2:n - (n - 1)=1:=by omega
 have e3:((i:Int)+1)=((i+1:Nat) : Int):=rfl;rw [e3];have hf:w.drew.setCells g (i*3) news=W1:=by rw [yn,Nat.zero_add]
 have HF:=Lib.hid hf;generalize hj:i+1=j at *;have qh:i≤j:=by omega
 have aw:i < j:=by omega
 have aC:¬i=j:=by omega
 have fX:j≤n:=by omega
 clear hj;clear yn hB dH hlen eC h1 hg aM hd q1 q2 q3 q4 q5 q6 q7 q8 q9 hf hz vb iJ fc hv;go_enter Tryz.func231,Tryz.ntmps231
 go_wp2_with fail
 go_region_law_o (refine step_append_room rfl (.tmp 22) (.tmp 25) 30 rfl 148 i0 3 t22 va KH g 0 i cap (by simp [Act.eval,Act.put]) A (n - j) (cap - j) news (by simp [Act.eval,Act.put]) s1.out Bv.out s2.out (by omega) s3.out ?_;rw [←hW.out])
 go_wp2
 go_ret
 exact ⟨rfl,by rw [HF.out]⟩
theorem KJ {cur:Array Value} {n cap i:Nat} (aM:cur.size=cap*3) (hn:n≤cap) (hi:i < n) (k r:Nat) (hk:k < n - 1) (hr:r < 3) :
  (ke (ke cur (i*3) ((cur.toList.drop ((i+1)*3)).take ((n - (i+1))*3))) ((n - 1)*3) rJ)[k*3+r]? = if k < i then cur[k*3+r]? else cur[(k+1)*3+r]?:=by
 have hlen:((cur.toList.drop ((i+1)*3)).take ((n - (i+1))*3)).length=(n - (i+1))*3:=by
  rw [List.length_take,List.length_drop,Array.length_toList,aM];omega
 rw [yj _ _ _ _ (.inl (by omega))];by_cases h:k < i
 ·rw [if_pos h,yj _ _ _ _ (.inl (by omega))]
 ·rw [if_neg h,EW _ _ _ _ (by omega) (by omega) (by omega),List.getElem?_take_of_lt (by omega),List.getElem?_drop,Array.getElem?_toList];congr 1;omega
theorem Bw:∀ (l:List Value) (w:World) (b o:Nat),(w.setCells b o l).os=w.os
 | [],_,_,_=>rfl
 | v::r,w,b,o=>by rw [tn,Bw r];rfl
theorem By:∀ (l:List Value) (w:World) (b o:Nat),(w.setCells b o l).output=w.output
 | [],_,_,_=>rfl
 | v::r,w,b,o=>by rw [tn,By r];rfl
theorem Bz (es:List (List AV)) (nl:Bool) (i:Nat) (hi:i < es.length) : VH Tryz.prog 231 [some (.arr 148 3 nl es)] [.osl 0,I (i:Int),I ((i:Int)+1)] [] [some (.arr 148 3 false (es.eraseIdx i))] (.osl 0):=by
 refine ⟨by kernel_rfl,fun w M X p vs hM hX RL iQ hv hO RM=>?_⟩;obtain ⟨v1,v2,v3,rfl⟩ : ∃ v1 v2 v3,vs=[v1,v2,v3]:=by
  rcases vs with _|⟨a,_|⟨b,_|⟨c,_|⟨_,_⟩⟩⟩⟩
  all_goals first|exact ⟨a,b,c,rfl⟩|(simp at iQ)
 have g0:=hv 0 _ _ rfl rfl;have g1:=hv 1 _ _ rfl rfl;have g2:=hv 2 _ _ rfl rfl;obtain ⟨lA,dN,bf⟩:=hO 0 _ rfl;have bg:nl=false:=by
  cases nl
  ·rfl
  ·rw [if_pos rfl] at bf;subst bf;simp at hi
 subst bg;rw [if_neg (by simp)] at bf;obtain ⟨cf,cur,hg,hlen,aE⟩:=bf;have e2:v2 = .int .i64 (i:Int):=by
  cases g1 with
  | base _ _ h0=>cases h0;rfl
 have e3:v3 = .int .i64 ((i:Int)+1):=by
  cases g2 with
  | base _ _ h0=>cases h0;rfl
 subst e2;subst e3;obtain ⟨cap,rfl,bV,nD,gP⟩ : ∃ cap,v1 = .slice (some ⟨p 0,0,none⟩) es.length cap∧cur.size=cap*3∧es.length≤cap∧cap≤maxLen:=by
  cases g0 with
  | base _ _ h0=>cases h0
  | osl id A n c hid iw hb=>
   have:=iw _ _ _ _ rfl;unfold Osl at this;rw [if_neg (by simp)] at this;obtain ⟨cap,cur',e1,gX,bV,nD,gP⟩:=this;have bE:cur'=cur:=by
    rw [hg] at gX;injection gX with gX
    injection gX with gX
    exact gX.symm
   subst bE;exact ⟨cap,e1,bV,nD,gP⟩
 have h1:∀ j u,j < es.length*3→cur[j]? = some u→u.oneCell'=true:=fun j u hj hu=>by
  have hk:j / 3 < es.length:=by omega
  obtain ⟨xS,tq⟩:=dN (j / 3) es[j / 3] (List.getElem?_eq_getElem hk);have hr:j % 3 < es[j / 3].length:=by rw [xS];omega
  obtain ⟨u',lB,bB⟩:=aE (j / 3) es[j / 3] (j % 3) _ (List.getElem?_eq_getElem hk) (List.getElem?_eq_getElem hr);rw [show j / 3*3+j % 3=j by omega,hu] at lB;injection lB with lB
  subst lB;exact bB.one (tq _ (List.getElem_mem hr))
 refine (KG w (p 0) es.length cap i cur hg bV nD gP hi h1).mono ?_;rintro e w' ⟨rfl,rfl⟩;obtain ⟨news,eC⟩ : ∃ news,news=(cur.toList.drop ((i+1)*3)).take ((es.length - (i+1))*3):=⟨_,rfl⟩
 obtain ⟨w2,lC⟩ : ∃ w2,(w.drew.setCells (p 0) (i*3) news).setCells (p 0) ((es.length - 1)*3) rJ=w2:=⟨_,rfl⟩
 rw [←eC,lC];have hB:Bk w2 (p 0) 148 (ke (ke cur (i*3) news) ((es.length - 1)*3) rJ):=by
  rw [←lC];exact yl _ _ _ _ _ _ (yl news _ _ _ cur _ hg)
 have cI:∀ b,b≠p 0→w2.heap[b]? = w.heap[b]?:=fun b hb=>by
  rw [←lC,Bq _ _ _ _ _ hb,Bq _ _ _ _ _ hb];rfl
 have aM:w2.heap.size=w.heap.size:=by
  rw [←lC,Bt,Bt];rfl
 have dA:∀ (F:Nat→Nat→Prop),(∀ j,F (p 0) j)→Keeps F w w2:=fun F hF=>by
  have aC:∀ b j,¬F b j→b≠p 0:=fun b j hn he=>hn (by rw [he];exact hF j);refine ⟨by rw [aM];exact Nat.le_refl _,fun b _ hn=>cI b (aC b 0 (hn 0)),fun {b o v} _ hn hc=>vc (cI b (aC b o hn)) hc⟩
 have vd:∀ b j,b < w.heap.size→¬Mof M [some (.arr 148 3 false es)] p b j→¬Mof M [some (.arr 148 3 false (es.eraseIdx i))] p b j:=fun b j _ hn hm=>by
  rcases hm with hm|⟨id,ob,hid,hl,cO⟩
  ·exact hn (.inl hm)
  ·rcases id with _|id
   ·exact hn (.inr ⟨0,_,rfl,rfl,cO⟩)
   ·simp at hid
 have hK:=dA (Mof M [some (.arr 148 3 false es)] p) fun j=>.inr ⟨0,_,rfl,rfl,.inl rfl⟩;have oS:(es.eraseIdx i).length=es.length - 1:=List.length_eraseIdx_of_lt hi;have ve:(ke (ke cur (i*3) news) ((es.length - 1)*3) rJ).size=cap*3:=by rw [yi,yi,bV]
 refine ⟨_,p,rfl,?_,?_,?_,?_,fun i a v h=>by cases h⟩
 ·refine (Bel.start ⟨w,X⟩).keepF ?_ ?_ ?_ (dA _ fun j=>cf.1 j)
  ·rw [←lC,Bw,Bw];rfl
  ·rw [←lC,Bu,Bu];rfl
  ·rw [←lC,By,By];rfl
 ·refine .osl 0 _ _ _ (by simp) (fun e sz nl bQ he=>?_) fun e sz nl au qs he=>by simp at he
  simp only [List.getElem?_cons_zero,Option.some.injEq,Ob.arr.injEq] at he;obtain ⟨rfl,rfl,rfl,rfl⟩:=he;unfold Osl;rw [if_neg (by simp),oS];exact ⟨cap,_,rfl,hB,ve,by omega,gP⟩
 ·intro k ob hk;rcases k with _|k
  ·simp only [List.getElem?_cons_zero,Option.some.injEq] at hk;subst hk;refine ⟨by decide,fun k x hx=>?_,?_⟩
   ·obtain ⟨k',dy⟩:=List.getElem?_of_mem (List.mem_of_mem_eraseIdx (List.mem_of_getElem? hx));exact dN k' x dy
   ·rw [if_neg (by simp)];refine ⟨cf,_,hB,?_,fun k x j c hx hj=>?_⟩
    ·rw [ve,oS];omega
    ·have hk:k < es.length - 1:=by rw [←oS];exact (List.getElem?_eq_some_iff.1 hx).1
     rw [List.getElem?_eraseIdx] at hx;have BA:j < 3:=by
      have bK:=(List.getElem?_eq_some_iff.1 hj).1;split at hx
      ·rw [(dN _ _ hx).1] at bK;exact bK
      ·rw [(dN _ _ hx).1] at bK;exact bK
     rw [eC,KJ bV nD hi k j hk BA];split at hx
     ·rename_i h;rw [if_pos h];obtain ⟨u,hu,bB⟩:=aE k x j c hx hj;exact ⟨u,hu,bB.keep hK vd⟩
     ·rename_i h;rw [if_neg h];obtain ⟨u,hu,bB⟩:=aE (k+1) x j c hx hj;exact ⟨u,hu,bB.keep hK vd⟩
  ·simp at hk
 ·intro k k' ob ob' hk dy _ _ b j j' _ _;rcases k with _|k
  ·rcases k' with _|k'
   ·rfl
   ·simp at dy
  ·simp at hk
end Go.Proofs.YtoibondihdhnoaaGreatDoor
