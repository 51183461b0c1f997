/- Texts in one: What the rows of the laws of chapter 4 lay: the facts about package variables that the walks ask for. -/
import Derived.Test.YtoibondihdhnoaaGreatDoorFRY58
import Derived.Test.YtoibondihdhnoaaGreatDoorRows
import Derived.Shelf.Vars
import Derived.LaidMore
import Derived.OpenShut
import Derived.Lay
namespace Go.Proofs.YtoibondihdhnoaaGreatDoor
open Go.RowKit Go.ChangeShapes Go.WideShapes
set_option maxRecDepth 100000
theorem HO : "*" ++ "errors.errorString" = "*errors.errorString" := by decide
theorem HV (u : TypeId) (h : Tryz.prog.typeName? 3 u = some "*errors.errorString") : u = 278 :=
 typeName_ptr_named (nm := "errors.errorString") (by rw [HO]; kernel_rfl) (by kernel_rfl) (by decide) u (by rw [HO]; exact h)
theorem Po {W:World} {fuel:Nat} {cs:List Value} {s r:List UInt8} {b:UInt8} {q:List MemPlace} {f0:FuncId}
  (b_:((List.range Tryz.prog.funcs.size).filter fun f=>(Tryz.prog.funcs[f]?).any (·.name.toUTF8.data.toList == b::r))=[f0])
  (h:DataW.trod (funcToken Tryz.prog) Tryz.prog W 0 (fun _=>true) true fuel 171 cs=some (.agg [.lit (.string s),.held (b::r)],q)) : cs=[.string ⟨s.toArray⟩,.func (.func f0) #[] #[]]:=by
 obtain ⟨y0,y1,n,hx,hl,h0,h1⟩:=trod_struct2 Tryz.underlying171 h;have gw:cs.length=2:=hl.trans (by kernel_rfl);match cs,gw with
 | [u,v],_=>
  have c9:Tryz.prog.cellsOf 9=1:=by kernel_rfl
  have Di:Tryz.prog.cellsOf 169=1:=by kernel_rfl
  simp only [Prod.mk.injEq,DataW.agg.injEq,List.cons.injEq,and_true] at hx;obtain ⟨⟨e0,e1⟩,_⟩:=hx;rw [c9] at h0;rw [Di] at h1;obtain ⟨s',hc,hy,_⟩:=DataW.trod_string Tryz.underlying9 h0;obtain ⟨d1,p1⟩:=y1;simp only at e1;subst e1;have hv:=func_of_trod (f0:=f0) Tryz.underlying169 b_ h1;simp at hc;rw [hy] at e0;simp only [DataW.lit.injEq,Lit.string.injEq] at e0;rw [hc,hv,e0]
section
variable {W:World} (h:laidMetH Tryz.prog Rows.rankReplaysRow.laid W)
include h
theorem Pp : Lib.TabIs Tryz.prog W "internal/strconv.uint64pow10" .u64 Lib.pow10Tab :=
 Lib.tabIs_of_head (t:=260) (e:=243) (n:=20) (g:=2) (rest:=[]) (by kernel_rfl) (by kernel_rfl) Tryz.underlying260 Tryz.underlying243 (by kernel_rfl) (by kernel_rfl)
  (Dh h "internal/strconv.uint64pow10" (x := ("internal/strconv.uint64pow10", Lib.tabData .u64 Lib.pow10Tab)) (by kernel_rfl))
theorem Pq:∃ t q,W.cell? ⟨3,0,none⟩=some (.iface t q):=by
 obtain ⟨a, s, hv, _⟩ := laid_sentinel (g := 3) (ti := 221) (tp := 278) (te := 280) (ts := 9) (r := []) (Dh h "strconv.ErrSyntax" (x := ("strconv.ErrSyntax", Rows.laid_strconv_ErrSyntax)) (by kernel_rfl)) (by kernel_rfl) (by kernel_rfl) Tryz.underlying221
  HV Tryz.underlying278 Tryz.underlying280 rfl rfl Tryz.underlying9 (by kernel_rfl) (by kernel_rfl)
 exact ⟨_,_,World.var?_cell (by kernel_rfl) hv 0⟩
theorem Pr:∃ t q,W.cell? ⟨4,0,none⟩=some (.iface t q):=by
 obtain ⟨a, s, hv, _⟩ := laid_sentinel (g := 4) (ti := 221) (tp := 278) (te := 280) (ts := 9) (r := []) (Dh h "strconv.ErrRange" (x := ("strconv.ErrRange", Rows.laid_strconv_ErrRange)) (by kernel_rfl)) (by kernel_rfl) (by kernel_rfl) Tryz.underlying221
  HV Tryz.underlying278 Tryz.underlying280 rfl rfl Tryz.underlying9 (by kernel_rfl) (by kernel_rfl)
 exact ⟨_,_,World.var?_cell (by kernel_rfl) hv 0⟩
theorem Ps : ∃ cs, W.var? Tryz.prog "fiacre/rank.kinds" = some cs ∧ some cs.toList = pG qt 0 := by
 obtain ⟨g, t, cs, fuel, p, hg, ht, hv, hd⟩ := h.funcs (n := "fiacre/rank.kinds") (show ("fiacre/rank.kinds", Rows.laid_fiacre_rank_kinds) ∈ Rows.rankReplaysRow.laid by simp [Rows.rankReplaysRow])
 obtain rfl : 0 = g := Option.some.inj ((show Tryz.prog.globalNamed "fiacre/rank.kinds" = some 0 by kernel_rfl).symm.trans hg)
 obtain rfl:172=t:=Option.some.inj ((show (Tryz.prog.globals[0]?).map (·.type)=some 172 by kernel_rfl).symm.trans ht);refine ⟨cs,hv,?_⟩;obtain ⟨xs,m,_,hx,hl,hn,he⟩:=DataW.trod_array Tryz.underlying172 hd;have gw:cs.toList.length=12:=hl.trans (by kernel_rfl);have c171:Tryz.prog.cellsOf 171=2:=by kernel_rfl
 rw [c171] at he;generalize cs.toList=l at *;match xs,hn with
 | [x0,x1,x2,x3,x4,x5],_=>
  match l,gw with
  | [v0,v1,v2,v3,v4,v5,v6,v7,v8,v9,v10,v11],_=>
   have qp:=congrArg Prod.fst hx;simp only [DataW.funcsOut,DataW.funcsOutAll,List.map_cons,List.map_nil,DataW.agg.injEq,List.cons.injEq,and_true,DataW.funcsOut] at qp;obtain ⟨e0,e1,e2,e3,e4,e5⟩:=qp;have k:∀ {a b:Value} {x:DataW (List UInt8)×List MemPlace} {s r:List UInt8} {c:UInt8} {f0:FuncId},((List.range Tryz.prog.funcs.size).filter fun f=>(Tryz.prog.funcs[f]?).any (·.name.toUTF8.data.toList == c::r))=[f0] →
     DataW.trod (funcToken Tryz.prog) Tryz.prog W 0 (fun _=>true) true m 171 [a,b]=some x→DataW.agg [.lit (.string s),.held (c::r)]=x.1→a = .string ⟨s.toArray⟩∧b = .func (.func f0) #[] #[]:=fun {a b x s r c f0} b_ ht hx=>by
    obtain ⟨x1,x2⟩:=x;simp only at hx;subst hx;have:=Po b_ ht;simp only [List.cons.injEq,and_true] at this;exact this
   obtain ⟨rfl,rfl⟩:=k (f0:=224) (by kernel_rfl) (by simpa using he 0 (by decide)) e0;obtain ⟨rfl,rfl⟩:=k (f0:=225) (by kernel_rfl) (by simpa using he 1 (by decide)) e1;obtain ⟨rfl,rfl⟩:=k (f0:=226) (by kernel_rfl) (by simpa using he 2 (by decide)) e2;obtain ⟨rfl,rfl⟩:=k (f0:=227) (by kernel_rfl) (by simpa using he 3 (by decide)) e3;obtain ⟨rfl,rfl⟩:=k (f0:=228) (by kernel_rfl) (by simpa using he 4 (by decide)) e4;obtain ⟨rfl,rfl⟩:=k (f0:=229) (by kernel_rfl) (by simpa using he 5 (by decide)) e5;rfl
end
theorem Pt {W:World} (hs:W.ShapedOpen Tryz.prog) : ∃ m,W.cell? ⟨1,0,none⟩=some (.int .i64 m):=
 cell_of_shapedOpen_int (t:=3) (zero:=#[.int .i64 0]) hs (of_decide_eq_true (by kernel_rfl)) (by kernel_rfl) rfl (by kernel_rfl) (by kernel_rfl) Tryz.underlying3
theorem zQ {W:World} (h:laidMetH Tryz.prog Rows.rankReplaysRow.laid W) (hs:W.ShapedOpen Tryz.prog) : MOK W fun _ _=>False:=by
 obtain ⟨m,hm⟩:=Pt hs;obtain ⟨t3,q3,h3⟩:=Pq h;obtain ⟨t4,q4,h4⟩:=Pr h;have hp:=Pp h;refine ⟨fun _ _ hf=>hf.elim,⟨fun g vs hg=>?_,fun g hg=>⟨?_,fun _ hf=>hf⟩,⟨m,hm⟩,hp,⟨t3,q3,h3⟩,t4,q4,h4⟩⟩
 ·obtain ⟨cs,hk,bW⟩:=Ps h;by_cases h0:(0:Nat)=g
  ·subst h0;rw [←bW] at hg;injection hg with hg
   have hc := World.var?_cell (P := Tryz.prog) (n := "fiacre/rank.kinds") (g := 0) (by kernel_rfl) hk
   have aF:vs.all (·.oneCell')=true:=by
    rw [←hg];have:some cs.toList=some _:=bW.trans (show pG qt 0=some _ from rfl);rw [Option.some.inj this];rfl
   have Pu:0 < cs.size:=by
    have:some cs.toList=some _:=bW.trans (show pG qt 0=some _ from rfl);have e:=congrArg List.length (Option.some.inj this);simp at e;omega
   have lp:=hc 0;rw [Array.getElem?_eq_getElem Pu] at lp;refine ⟨World.block_lt_of_cell? _ _ lp,fun _ hf=>hf,aF,fun j v hj=>?_⟩;rw [hc j];rw [←hg] at hj;simpa using hj
  ·exfalso;simp only [qt,pG] at hg;rw [if_neg h0] at hg;cases hg
 ·have hc:∀ {g:Nat} {v:Value},W.cell? ⟨g,0,none⟩=some v→g < W.heap.size:=fun h=>World.block_lt_of_cell? _ _ h;simp only [x9,List.mem_cons,List.not_mem_nil,or_false] at hg;rcases hg with rfl|rfl|rfl|rfl
  ·exact hc hm
  ·exact hc (hp.cell ER 0 (by decide))
  ·exact hc h3
  ·exact hc h4
theorem Pv {P:Program} {w0:World} {laid:List (String×DataW Unit)} (args:Array Value) (hf:w0.layFits P laid []=true) (hi:w0.layIfaces P laid (w0.layVars P laid)=true) :
  laidMet P laid ((w0.layVars P laid).forCall (fun _ _=>0) ⟨#[],args,[]⟩).memory:=by
 have e1:(laid.filter fun x=>(laid.map (·.1)).contains x.1)=laid:=List.filter_eq_self.2 fun x hx=>List.contains_iff_mem.2 (List.mem_map.2 ⟨x,hx,rfl⟩);have e2:(laid.filter fun x=>!(laid.map (·.1)).contains x.1)=[]:=List.filter_eq_nil_iff.2 fun x hx=>by rw [List.contains_iff_mem.2 (List.mem_map.2 ⟨x,hx,rfl⟩)];simp
 have h:laidMet P laid (w0.layVars P laid):=laidMet_layVars (w0:=w0) (laid.map (·.1)) [] (by rw [e1]) (by rw [e1];exact hf) (by rw [e1];exact hi) (by rw [e2];exact LaidIn.none);exact h.of_heap (by simp [World.memory,World.forCall,Input.heap])
noncomputable def baseW (os:Os) : World:={ World.holding Tryz.prog os ⟨#[],#[],[]⟩ with heap:=(World.holding Tryz.prog os ⟨#[],#[],[]⟩).heap.setIfInBounds 0 (.cells #[.string ⟨#[97,114,114,105,118,101]⟩,.func (.func 224) #[] #[],.string ⟨#[115,101,114,118,101]⟩,.func (.func 225) #[] #[],.string ⟨#[100,101,99,108,105,110,101]⟩,.func (.func 226) #[] #[],.string ⟨#[108,101,97,118,101]⟩,.func (.func 227) #[] #[],.string ⟨#[99,97,108,108]⟩,.func (.func 228) #[] #[],.string ⟨#[114,101,116,117,114,110]⟩,.func (.func 229) #[] #[]] 172 (0,0)) }
def HW:List (String×DataW Unit):=Rows.rankReplaysRow.laid.filter fun x=>x.2.handleName?.isNone
noncomputable def startW (os:Os) : World:=(baseW os).layVars Tryz.prog HW
theorem zR (os:Os) : (startW os).os=os:=World.layVars_os _ _ _
theorem zS (os:Os) (args:Array Value) : laidMetH Tryz.prog Rows.rankReplaysRow.laid ((startW os).forCall (fun _ _=>0) ⟨#[],args,[]⟩).memory:=
 laidMetH_of_parts3 (fuel:=8) (Pv (w0:=baseW os) (laid:=HW) args (by kernel_rfl) (by kernel_rfl)) (by kernel_rfl) (by kernel_rfl)
end Go.Proofs.YtoibondihdhnoaaGreatDoor
