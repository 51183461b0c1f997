/- Texts in one: What the rows of the laws of chapter 4 lay: the facts about package variables that the walks ask for. -/
import Derived.Test.YtoibondihdhnoaaDoorFRX9
import Derived.Test.YtoibondihdhnoaaDoorRows
import Derived.Shelf.Vars
import Derived.LaidMore
import Derived.OpenShut
import Derived.Lay
namespace Go.Proofs.YtoibondihdhnoaaDoor
open Go.RowKit Go.ChangeShapes Go.WideShapes
set_option maxRecDepth 100000
theorem c5j {W:World} {fuel:Nat} {cs:List Value} {s r:List UInt8} {b:UInt8} {q:List MemPlace} {f0:FuncId}
  (hone:((List.range Tryd.prog.funcs.size).filter fun f=>(Tryd.prog.funcs[f]?).any (·.name.toUTF8.data.toList == b::r))=[f0])
  (h:DataW.trod (funcToken Tryd.prog) Tryd.prog W 0 (fun _=>true) true fuel 116 cs=some (.agg [.lit (.string s),.held (b::r)],q)) : cs=[.string ⟨s.toArray⟩,.func (.func f0) #[] #[]]:=by
 obtain ⟨y0,y1,n,hx,hl,h0,h1⟩:=trod_struct2 Tryd.underlying116 h;have hl2:cs.length=2:=hl.trans (by kernel_rfl);match cs,hl2 with
 | [u,v],_=>
  have c9:Tryd.prog.cellsOf 9=1:=by kernel_rfl
  have c114:Tryd.prog.cellsOf 114=1:=by kernel_rfl
  simp only [Prod.mk.injEq,DataW.agg.injEq,List.cons.injEq,and_true] at hx;obtain ⟨⟨e0,e1⟩,_⟩:=hx;rw [c9] at h0;rw [c114] at h1;obtain ⟨s',hc,hy,_⟩:=DataW.trod_string Tryd.underlying9 h0;obtain ⟨d1,p1⟩:=y1;simp only at e1;subst e1;have hv:=func_of_trod (f0:=f0) Tryd.underlying114 hone h1;simp at hc;rw [hy] at e0;simp only [DataW.lit.injEq,Lit.string.injEq] at e0;rw [hc,hv,e0]
section
variable {W:World} (h:laidMetH Tryd.prog Rows.topRankNobodyOvertakenRow.laid W)
include h
theorem c5k : Lib.TabIs Tryd.prog W "internal/strconv.uint64pow10" .u64 Lib.pow10Tab :=
 Lib.tabIs_of_head (t:=161) (e:=150) (n:=20) (g:=1) (rest:=[]) (by kernel_rfl) (by kernel_rfl) Tryd.underlying161 Tryd.underlying150 (by kernel_rfl) (by kernel_rfl)
  (c5m h "internal/strconv.uint64pow10" (x := ("internal/strconv.uint64pow10", Lib.tabData .u64 Lib.pow10Tab)) (by kernel_rfl))
theorem b7l : ∃ cs, W.var? Tryd.prog "fiacre/rank.kinds" = some cs ∧ some cs.toList = a8g c5w 0 := by
 obtain ⟨g, t, cs, fuel, p, hg, ht, hv, hd⟩ := h.funcs (n := "fiacre/rank.kinds") (show ("fiacre/rank.kinds", Rows.laid_fiacre_rank_kinds) ∈ Rows.topRankNobodyOvertakenRow.laid by simp [Rows.topRankNobodyOvertakenRow])
 obtain rfl : 0 = g := Option.some.inj ((show Tryd.prog.globalNamed "fiacre/rank.kinds" = some 0 by kernel_rfl).symm.trans hg)
 obtain rfl:117=t:=Option.some.inj ((show (Tryd.prog.globals[0]?).map (·.type)=some 117 by kernel_rfl).symm.trans ht);refine ⟨cs,hv,?_⟩;obtain ⟨xs,m,_,hx,hl,hn,he⟩:=DataW.trod_array Tryd.underlying117 hd;have hl2:cs.toList.length=12:=hl.trans (by kernel_rfl);have c116:Tryd.prog.cellsOf 116=2:=by kernel_rfl
 rw [c116] at he;generalize cs.toList=l at *;match xs,hn with
 | [x0,x1,x2,x3,x4,x5],_=>
  match l,hl2 with
  | [v0,v1,v2,v3,v4,v5,v6,v7,v8,v9,v10,v11],_=>
   have hx1:=congrArg Prod.fst hx;simp only [DataW.funcsOut,DataW.funcsOutAll,List.map_cons,List.map_nil,DataW.agg.injEq,List.cons.injEq,and_true,DataW.funcsOut] at hx1;obtain ⟨e0,e1,e2,e3,e4,e5⟩:=hx1;have k:∀ {a b:Value} {x:DataW (List UInt8)×List MemPlace} {s r:List UInt8} {c:UInt8} {f0:FuncId},((List.range Tryd.prog.funcs.size).filter fun f=>(Tryd.prog.funcs[f]?).any (·.name.toUTF8.data.toList == c::r))=[f0] →
     DataW.trod (funcToken Tryd.prog) Tryd.prog W 0 (fun _=>true) true m 116 [a,b]=some x→DataW.agg [.lit (.string s),.held (c::r)]=x.1→a = .string ⟨s.toArray⟩∧b = .func (.func f0) #[] #[]:=fun {a b x s r c f0} hone ht hx=>by
    obtain ⟨x1,x2⟩:=x;simp only at hx;subst hx;have:=c5j hone ht;simp only [List.cons.injEq,and_true] at this;exact this
   obtain ⟨rfl,rfl⟩:=k (f0:=109) (by kernel_rfl) (by simpa using he 0 (by decide)) e0;obtain ⟨rfl,rfl⟩:=k (f0:=110) (by kernel_rfl) (by simpa using he 1 (by decide)) e1;obtain ⟨rfl,rfl⟩:=k (f0:=111) (by kernel_rfl) (by simpa using he 2 (by decide)) e2;obtain ⟨rfl,rfl⟩:=k (f0:=112) (by kernel_rfl) (by simpa using he 3 (by decide)) e3;obtain ⟨rfl,rfl⟩:=k (f0:=113) (by kernel_rfl) (by simpa using he 4 (by decide)) e4;obtain ⟨rfl,rfl⟩:=k (f0:=114) (by kernel_rfl) (by simpa using he 5 (by decide)) e5;rfl
end
theorem c5l {W:World} (h:laidMetH Tryd.prog Rows.topRankNobodyOvertakenRow.laid W) : MOK W fun _ _=>False:=by
 have hp:=c5k h;refine ⟨fun _ _ hf=>hf.elim,⟨fun g vs hg=>?_,fun g hg=>⟨?_,fun _ hf=>hf⟩,trivial,hp,trivial⟩⟩
 ·obtain ⟨cs,hk,hcs⟩:=b7l h;by_cases h0:(0:Nat)=g
  ·subst h0;rw [←hcs] at hg;injection hg with hg
   have hc := World.var?_cell (P := Tryd.prog) (n := "fiacre/rank.kinds") (g := 0) (by kernel_rfl) hk
   have hall:vs.all (·.oneCell')=true:=by
    rw [←hg];have:some cs.toList=some _:=hcs.trans (show a8g c5w 0=some _ from rfl);rw [Option.some.inj this];rfl
   have h0s:0 < cs.size:=by
    have:some cs.toList=some _:=hcs.trans (show a8g c5w 0=some _ from rfl);have e:=congrArg List.length (Option.some.inj this);simp at e;omega
   have hc0:=hc 0;rw [Array.getElem?_eq_getElem h0s] at hc0;refine ⟨World.block_lt_of_cell? _ _ hc0,fun _ hf=>hf,hall,fun j v hj=>?_⟩;rw [hc j];rw [←hg] at hj;simpa using hj
  ·exfalso;simp only [c5w,a8g] at hg;rw [if_neg h0] at hg;cases hg
 ·simp only [d2s,List.mem_cons,List.not_mem_nil,or_false] at hg;subst hg;exact World.block_lt_of_cell? _ _ (hp.cell b8v 0 (by decide))
theorem b3e {P:Program} {w0:World} {laid:List (String×DataW Unit)} (args:Array Value) (hf:w0.layFits P laid []=true) (hi:w0.layIfaces P laid (w0.layVars P laid)=true) :
  laidMet P laid ((w0.layVars P laid).forCall (fun _ _=>0) ⟨#[],args,[]⟩).memory:=by
 have e1:(laid.filter fun x=>(laid.map (·.1)).contains x.1)=laid:=List.filter_eq_self.2 fun x hx=>List.contains_iff_mem.2 (List.mem_map.2 ⟨x,hx,rfl⟩);have e2:(laid.filter fun x=>!(laid.map (·.1)).contains x.1)=[]:=List.filter_eq_nil_iff.2 fun x hx=>by rw [List.contains_iff_mem.2 (List.mem_map.2 ⟨x,hx,rfl⟩)];simp
 have h:laidMet P laid (w0.layVars P laid):=laidMet_layVars (w0:=w0) (laid.map (·.1)) [] (by rw [e1]) (by rw [e1];exact hf) (by rw [e1];exact hi) (by rw [e2];exact LaidIn.none);exact h.of_heap (by simp [World.memory,World.forCall,Input.heap])
noncomputable def baseW (os:Os) : World:={ World.holding Tryd.prog os ⟨#[],#[],[]⟩ with heap:=(World.holding Tryd.prog os ⟨#[],#[],[]⟩).heap.setIfInBounds 0 (.cells #[.string ⟨#[97,114,114,105,118,101]⟩,.func (.func 109) #[] #[],.string ⟨#[115,101,114,118,101]⟩,.func (.func 110) #[] #[],.string ⟨#[100,101,99,108,105,110,101]⟩,.func (.func 111) #[] #[],.string ⟨#[108,101,97,118,101]⟩,.func (.func 112) #[] #[],.string ⟨#[99,97,108,108]⟩,.func (.func 113) #[] #[],.string ⟨#[114,101,116,117,114,110]⟩,.func (.func 114) #[] #[]] 117 (0,0)) }
def c6i:List (String×DataW Unit):=Rows.topRankNobodyOvertakenRow.laid.filter fun x=>x.2.handleName?.isNone
noncomputable def startW (os:Os) : World:=(baseW os).layVars Tryd.prog c6i
theorem c2d (os:Os) : (startW os).os=os:=World.layVars_os _ _ _
theorem b7m (os:Os) (args:Array Value) : laidMetH Tryd.prog Rows.topRankNobodyOvertakenRow.laid ((startW os).forCall (fun _ _=>0) ⟨#[],args,[]⟩).memory:=
 laidMetH_of_parts3 (fuel:=8) (b3e (w0:=baseW os) (laid:=c6i) args (by kernel_rfl) (by kernel_rfl)) (by kernel_rfl) (by kernel_rfl)
end Go.Proofs.YtoibondihdhnoaaDoor
