/- Part 2 of 5: walks and laws of the functions of chapter 02 (integers as text), which the last part joins; no condition beyond those of the theorem there. The words of the print (W..) are the kit's, cut down by program to what is used here. -/
import Derived.Test.YtaknchlegjcdhaaGreatDoorProg
import Derived.Below
import Derived.Deep.Draws
import Derived.Deep.AppendLies
import Derived.Maps.AppendAt
import Derived.OwnWalk
import Derived.Laws.BytesArg
import Derived.Laws.MakeOwn
import Derived.Laws.OwnMore
import Derived.Deep.OwnRows
import Derived.Tactics
import Derived.Lib.ConvBytes
import Derived.Laws.Slices
import Derived.WalkKit
import Derived.KernelRfl
import Derived.RowKit3
import Derived.Deep.LoopGhost
import Derived.Deep.QuietTactic
import Derived.BigQuiet
import Derived.WideLaws
import Derived.Deep.DeepCutAuto
import Derived.Deep.CutBlock
import Derived.Deep.RegionHeld3
import Derived.Laws.Rows
import Derived.Lib.AppendStr
import Derived.ArgAppend
import Derived.Laws.IdiomCopy
import Derived.OrdersHeld
import Derived.Laws.BitsLemmas
import Derived.RowKit
import Derived.Lib.AppendIntMem
import Derived.Shelf.LaysM
import Derived.Shelf.Strconv.Itoa3
import Derived.Lib.SmallJoins
import Derived.LaidMore
import Derived.ProofKit
import Derived.Stop.Joined
import Derived.SizedLaws
import Derived.DataShut
import Derived.Shelf.Strings.Builder1
import Derived.Shelf.Strings.Builder2
import Derived.Shelf.Small.Wraps
import Derived.Shelf.Strings.BuilderF
import Derived.Shelf.Strings.BuilderK
import Derived.Shelf.Strings.Builder2Cap
import Derived.Shelf.Strconv.Itoa0
import Derived.Shelf.Strconv.Itoa1
import Derived.Shelf.Strconv.Itoa2
import Derived.Shelf.Strconv.Clone
import Derived.Shelf.Strconv.SyntaxError
import Derived.Shelf.Strconv.Lower
import Derived.Shelf.Strconv.ParseUint10
import Derived.Shelf.Strconv.ParseUint10Empty
import Derived.Shelf.Strconv.RangeError
import Derived.Shelf.Strconv.ParseUintEmpty
import Derived.Shelf.Strconv.ParseUint10b64
import Derived.Shelf.Strconv.ParseUint10b32
import Derived.Shelf.Strconv.ParseUint10b16
import Derived.Shelf.Strconv.ParseUint10b8
import Derived.Shelf.Strings.Prefix
import Derived.Shelf.Bits.Mul64
import Derived.Shelf.Strings.Repeat
import Derived.Ground.Names2Prog
import Derived.Shelf.Slices.SearchI
import Derived.Test.YtaknchlegjcdhaaGreatDoorDz1
import Derived.Test.YtaknchlegjcdhaaGreatDoorCards
import Derived.Test.YtaknchlegjcdhaaGreatDoorTie
namespace Go.Proofs.YtaknchlegjcdhaaGreatDoor.Pr
open Go.RowKit Go.Proofs.YtaknchlegjcdhaaGreatDoorW.PrintWords Go.Proofs.YtaknchlegjcdhaaGreatDoorW.PrintLast Go.Proofs.YtaknchlegjcdhaaGreatDoorW.PrintMore
attribute [local go_sem] max2_int min2_int max_two min_two max_three min_three max_four min_four
set_option linter.unusedVariables false
set_option linter.unusedSimpArgs false
def errW:Option Int→Value
 | none=>.nilIface
 | some c=>.iface 152 (.int .i64 c)
theorem errW_none:errW none = .nilIface:=rfl
theorem errW_some (c:Int):errW (some c) = .iface 152 (.int .i64 c):=rfl
theorem info5:(Tryz.prog.info? 5).map (fun i=>(i.zero,i.size,i.bytes)) = some (some (.int .u8 0),1,1):=by kernel_rfl
theorem info95:(Tryz.prog.info? 95).map (fun i=>(i.zero,i.size,i.bytes)) = some (some (.int .u32 0),1,4):=by kernel_rfl
end Go.Proofs.YtaknchlegjcdhaaGreatDoor.Pr
namespace Go.Proofs.YtaknchlegjcdhaaGreatDoor.Pr
set_option linter.unusedVariables false
set_option linter.unusedSimpArgs false
open Go.RowKit Go.Lib
def LaidW (w:World):Prop:=Lib.TabIs Tryz.prog w "internal/strconv.uint64pow10" .u64 Lib.pow10Tab
theorem LaidW.below {w w':World} (h:LaidW w) (hb:Below w.heap.size w w'):LaidW w':=by
 unfold LaidW Lib.TabIs World.var? at h ⊢
 cases hg:Tryz.prog.globalNamed "internal/strconv.uint64pow10" with
 | none=>rw [hg] at h;simp at h
 | some g =>
  rw [hg] at h
  simp only [Option.bind_some] at h ⊢
  have hlt:g < w.heap.size:=by
   rcases Nat.lt_or_ge g w.heap.size with h'|h'
   ·exact h'
   ·rw [Array.getElem?_eq_none h'] at h;cases h
  rw [hb.block g hlt]
  exact h
end Go.Proofs.YtaknchlegjcdhaaGreatDoor.Pr
namespace Go.Proofs.YtaknchlegjcdhaaGreatDoor.Pr
set_option linter.unusedVariables false
set_option linter.unusedSimpArgs false
open Go.ChangeShapes Go.WideShapes Go.ChangeAt Go.Deep Go.Joins Go.RowKit Go.Proofs.YtaknchlegjcdhaaGreatDoorW.PrintWords
theorem own:ownKnob Tryz.prog.godebug = none:=by kernel_rfl
theorem laidOut:laidOutB Tryz.prog = true:=by kernel_rfl
set_option maxRecDepth 100000 in
theorem openS {H:Type} {enc:TypeId × Value→H} {W:World} {r:Reach} {b0:Nat} {v:Value} {d:DataW H} {p:List MemPlace} (hv:Value.okWide Tryz.prog W r b0 9 v) (h:DataW.Trod enc Tryz.prog W 0 (fun _=>true) true 9 v d p):∃ s,v = .string s:=by
 obtain ⟨s,e,_⟩:=Go.ChangeMaps.open_string Tryz.underlying9 hv h
 exact ⟨s,e⟩
def laid5:List (String × DataW Unit):=[("math/bits.deBruijn32tab",Rows.laid_math_bits_deBruijn32tab),("math/bits.deBruijn64tab",Rows.laid_math_bits_deBruijn64tab),("internal/strconv.uint64pow10",Rows.laid_internal_strconv_uint64pow10),("strconv.ErrRange",Rows.laid_strconv_ErrRange),("strconv.ErrSyntax",Rows.laid_strconv_ErrSyntax)]
theorem gPow:Tryz.prog.globalNamed "internal/strconv.uint64pow10" = some 0:=by kernel_rfl
theorem gPowType:(Tryz.prog.globals[0]?).map (·.type) = some 140:=by kernel_rfl
theorem laid_tab {W:World} (h:laidMetH Tryz.prog laid5 W):LaidW W:=by
 rw [MakeChecks.laidMetH_plain _ _ _ (by kernel_rfl)] at h
 obtain ⟨ps,⟨g0,t0,cs0,f0,p0,q0,hg0,ht0,hv0,hd0,⟨g1,t1,cs1,f1,p1,q1,hg1,ht1,hv1,hd1,⟨g2,t2,cs2,f2,p2,q2,hg2,ht2,hv2,hd2,_,_⟩,_⟩,_⟩,_⟩:=h
 obtain rfl:=Option.some.inj (gPow.symm.trans hg2)
 obtain rfl:=Option.some.inj (gPowType.symm.trans ht2)
 have e:(Rows.laid_internal_strconv_uint64pow10:DataW Unit) = Lib.tabData .u64 Lib.pow10Tab:=rfl
 rw [e] at hd2
 unfold LaidW Lib.TabIs
 rw [hv2,← Lib.cells_of_tab Tryz.underlying140 Tryz.underlying96 (by kernel_rfl) (by kernel_rfl) hd2]
theorem door_met (os:Os) (args:Array Value):laidMetH Tryz.prog laid5 ((World.doorLaid Tryz.prog 400 os).forCall (fun _ _=>0) ⟨#[],args,[]⟩).memory :=
 laidMetH_of_parts3 (fuel:=8) (laidMet_of_run' 8 (by kernel_rfl) (by kernel_rfl)) (by kernel_rfl) (by kernel_rfl)
end Go.Proofs.YtaknchlegjcdhaaGreatDoor.Pr
namespace Go.Proofs.YtaknchlegjcdhaaGreatDoor.Pr
open Go.RowKit Go.Proofs.YtaknchlegjcdhaaGreatDoorW.PrintWords Go.Proofs.YtaknchlegjcdhaaGreatDoorW.PrintLast Go.Proofs.YtaknchlegjcdhaaGreatDoorW.PrintMore
attribute [local go_sem] max2_int min2_int max_two min_two max_three min_three max_four min_four
set_option linter.unusedVariables false
set_option linter.unusedSimpArgs false
theorem eqA43 (d:Nat) (w:World) (x0 y0:Bool) (x1 y1:ByteArray) :
  (Op.equalIn (d + 2) 43 (.agg #[.bool x0,.string x1]) (.agg #[.bool y0,.string y1])).run Tryz.prog w = .ok (x0 == y0 && (x1.toList == y1.toList)) w:=by
 refine eqA_of Tryz.underlying43 (by kernel_rfl) ?_
 refine eqf_cons (by rfl) (by go_simp;rfl) (by go_simp;rfl) (by go_simp) ?_
 exact eqf_last (by rfl) (by go_simp;rfl) (by go_simp;rfl) (by go_simp)
end Go.Proofs.YtaknchlegjcdhaaGreatDoor.Pr
namespace Go.Proofs.YtaknchlegjcdhaaGreatDoor
open Go.RowKit Go.Proofs.YtaknchlegjcdhaaGreatDoorW.PrintWords Go.Proofs.YtaknchlegjcdhaaGreatDoorW.PrintLast Go.Proofs.YtaknchlegjcdhaaGreatDoorW.PrintMore
set_option linter.unusedVariables false
set_option linter.unusedSimpArgs false
theorem far_ {w:World} {g:Nat} {t:TypeId} {cs:Array Value} {p:Addr} (u:Value) (hp:g≠p.block) (h:w.heap[g]? = some (.cells cs t (0,0))):(w.setCell p u).heap[g]? = some (.cells cs t (0,0)):=blk_far h hp u
theorem bx_ {p:Prop} (h:p:=by repeat (first|(with_reducible first|exact Aside0.out (by assumption)|apply below_alloc|apply pw_below_drewN|apply below_drew1|refine below_set ?_ (Aside0.out (by assumption)))|exact Aside0.out (by assumption))):p:=h
theorem bk_ {p:Prop} (h:p:=by (repeat (first|(with_reducible first|refine blk_drewN ?_ _|refine blk_drew ?_|refine blk_alloc ?_ _)|(apply far_;exact Aside0.out (by assumption))|apply blk_put));exact Aside0.out (by assumption);all_goals rfl):p:=h
theorem rf_ {p:Prop} (h:p:=by first|rfl|(simp [errW_none,errW_some]<;>rfl)|(simp [*,errW_none,errW_some]<;>rfl)):p:=h
theorem hc_ {p:Prop} (h:p:=by first|exact trivial|((repeat' (first|refine And.intro ?_ ?_|exact (blk_cell (Aside0.out (by assumption)) _).trans rfl)))):p:=h
theorem bb_ {w W w2:World} {g:Nat} {o:Obj} (B:Aside0 (w.heap[g]? = some o)) (hb:Below W.heap.size W w2) (h:W.heap[g]? = some o:=by (with_reducible repeat (first|refine blk_drewN ?_ _|refine blk_drew ?_|refine blk_alloc ?_ _));exact Aside0.out (by assumption)):Aside0 (w2.heap[g]? = some o):=⟨blk_below h hb⟩
theorem bs_ {w W w2:World} (hb:Below W.heap.size W w2) (h:Below w.heap.size w W:=by repeat (first|(with_reducible first|exact Aside0.out (by assumption)|apply below_alloc|apply pw_below_drewN|apply below_drew1|refine below_set ?_ (Aside0.out (by assumption)))|exact Aside0.out (by assumption))):Aside0 (Below w.heap.size w w2):=⟨below_step h hb⟩
theorem nl_ {w W:World} {g g':Nat} {o:Obj} (B:Aside0 (w.heap[g]? = some o)) (hg:g' = W.heap.size) (h:W.heap[g]? = some o:=by (with_reducible repeat (first|refine blk_drewN ?_ _|refine blk_drew ?_|refine blk_alloc ?_ _));exact Aside0.out (by assumption)):Aside0 (g≠g'):=⟨by rw [hg];exact Nat.ne_of_lt (blk_lt h)⟩
theorem ng_ {w W:World} {g g':Nat} {o:Obj} (B:Aside0 (w.heap[g]? = some o)) (hg:g' = W.heap.size) (h:W.heap[g]? = some o:=by (with_reducible repeat (first|refine blk_drewN ?_ _|refine blk_drew ?_|refine blk_alloc ?_ _));exact Aside0.out (by assumption)):Aside0 (g'≠g):=⟨by rw [hg];exact Nat.ne_of_gt (blk_lt h)⟩
theorem ol_ {w W w2:World} {g g':Nat} {o:Obj} (B:Aside0 (w.heap[g]? = some o)) (hg:g' = W.heap.size) (hb:Below W.heap.size W w2) (h:W.heap[g]? = some o:=by (with_reducible repeat (first|refine blk_drewN ?_ _|refine blk_drew ?_|refine blk_alloc ?_ _));exact Aside0.out (by assumption)):Aside0 (w2.heap[g]? = some o)∧Aside0 (g≠g')∧Aside0 (g'≠g):=⟨⟨blk_below h hb⟩,nl_ ⟨h⟩ hg h,ng_ ⟨h⟩ hg h⟩
theorem dr_ {w:World} {g:Nat} {o:Obj} (B:Aside0 (w.heap[g]? = some o)):Aside0 (w.drew.heap[g]? = some o):=⟨blk_drew B.out⟩
theorem db_ {w W:World} (B:Aside0 (Below w.heap.size w W)):Aside0 (Below w.heap.size w W.drew):=⟨below_drew1 B.out⟩
theorem gk_ {W W2:World} {g:Nat} {o:Obj} (hw:W = W2) (h:W.heap[g]? = some o:=by (repeat (first|(with_reducible first|refine blk_drewN ?_ _|refine blk_drew ?_|refine blk_alloc ?_ _)|(apply far_;exact Aside0.out (by assumption))|apply blk_put));exact Aside0.out (by assumption);all_goals rfl):Aside0 (W2.heap[g]? = some o):=hw ▸ ⟨h⟩
theorem gb_ {w W W2:World} (hw:W = W2) (h:Below w.heap.size w W:=by repeat (first|(with_reducible first|exact Aside0.out (by assumption)|apply below_alloc|apply pw_below_drewN|apply below_drew1|refine below_set ?_ (Aside0.out (by assumption)))|exact Aside0.out (by assumption))):Aside0 (Below w.heap.size w W2):=hw ▸ ⟨h⟩
theorem kr_ {p:Prop} (h:p:=by kernel_rfl):p:=h
theorem de_ {p:Prop} (h:p:=by decide):p:=h
theorem sm_ {p:Prop} (h:p:=by simp):p:=h
theorem ab_ {b:Bool} {p:Prop} (h:b = false) (k:b = true):p:=absurd (h.symm.trans k) (by decide)
theorem an_ {b:Bool} {p:Prop} (h:b = true) (k:b = false):p:=absurd (h.symm.trans k) (by decide)
theorem da_ {p:Prop} [Decidable p] (h:decide p = true:=by first|(with_reducible assumption)|assumption):p:=of_decide_eq_true h
theorem mn_ {p:Prop} (h:p:=by repeat' first|(with_reducible exact LeO.refl _)|(with_reducible exact LeO.none _)|(with_reducible apply_assumption)|(with_reducible refine LeO.ite ?_ ?_)|(with_reducible refine LeO.bind ?_ (fun _=>?_))|exact LeO.none _|apply_assumption|refine LeO.ite ?_ ?_|refine LeO.bind ?_ (fun _=>?_)):p:=h
theorem cx_ {p q:Prop} (t:p) (h:p→q:=by intro t_;repeat (first|exact t_|(with_reducible refine Kd.C_alloc ?_ _)|(with_reducible refine Kd.C_drewN ?_ _)|(with_reducible refine Kd.C_drew ?_))):q:=h t
theorem vb_ {α:Type} {d:Kd α} {e:TypeId} {w W w2:World} {base:Nat} {ok:Nat→Prop} {v:Value} {xs:List α} (B:Aside0 (d.V e w base ok v xs)) (hb:Below W.heap.size W w2) (h:d.V e W base ok v xs:=by (with_reducible repeat (first|apply Kd.V_alloc|apply Kd.V_drewN|apply Kd.V_drew));exact Aside0.out (by assumption)):Aside0 (d.V e w2 base ok v xs):=⟨Kd.V_below h hb⟩
theorem rb_ {α:Type} {d:Kd α} {e:TypeId} {w W w2:World} {base:Nat} {ok:Nat→Prop} {v:Value} {xs:List α} (B:Aside0 (d.R e w base ok v xs)) (hb:Below W.heap.size W w2) (h:d.R e W base ok v xs:=by (with_reducible repeat (first|apply Kd.R_alloc|apply Kd.R_drewN|apply Kd.R_drew));exact Aside0.out (by assumption)):Aside0 (d.R e w2 base ok v xs):=⟨Kd.R_below h hb⟩
theorem c2_ {w:World} {g:Nat} {a b:Value} {t:TypeId} (B:Aside0 (w.heap[g]? = some (.cells #[a,b] t (0,0)))):w.cell? ⟨g,0,none⟩ = some a∧w.cell? ⟨g,1,none⟩ = some b∧w.frozen? ⟨g,0,none⟩ = false∧w.frozen? ⟨g,1,none⟩ = false:=⟨(blk_cell B.out 0).trans rfl,(blk_cell B.out 1).trans rfl,blk_frozen B.out 0,blk_frozen B.out 1⟩
theorem bn_ {α β:Type} {x:Option α} {f:α→Option β} {b:β} (h:x.bind f = some b):∃ a,Aside0 (x = some a)∧f a = some b:=by
 obtain ⟨a,ha,hb⟩:=Option.bind_eq_some_iff.mp h
 exact ⟨a,⟨ha⟩,hb⟩
section
variable {P : Program} {ops : Array Oper} {rest : List Oper} {o : Oper} {a : Act} {Q : Exit → Act → World → Prop}
theorem bv_ {w W:World} (cs:Array Value) (t:TypeId) {N:Tmp}
  (h:∀ g,g = W.heap.size→∀ w1,Aside0 (w1.heap[g]? = some (.cells cs t (0,0)))→Aside0 (w.heap.size≤g)→Below W.heap.size W w1→Aside0 (Below w.heap.size w w1)→wpList P ops Q rest (a.put o.dst (.pointer (some ⟨g,0,none⟩))) w1)
  (hd:o.dst = some N:=by rfl) (hgd:o.guard = none:=by rfl)
  (hrun:(execOp a.eval o).run P W = .ok (.value (.pointer (some ⟨W.heap.size,0,none⟩))) (W.alloc (.cells cs t (0,0))):=by first|(go_simp;done)|(go_simp;rfl))
  (hb:Below w.heap.size w W:=by repeat (first|(with_reducible first|exact Aside0.out (by assumption)|apply below_alloc|apply pw_below_drewN|apply below_drew1|refine below_set ?_ (Aside0.out (by assumption)))|exact Aside0.out (by assumption))):wpList P ops Q (o :: rest) a W :=
 box_event hgd hd hrun fun g hg w1 hbox k=>h g hg w1 ⟨hbox⟩ ⟨by rw [hg];exact below_size hb⟩ k ⟨below_step hb k⟩
theorem gm_ {w:World} (N:Option Tmp) {f:FuncId} {fn:Func} {as_:Array Operand} {ts:Array TypeId} (hf:P.funcs[f]? = some fn) (args:Array Value)
  (h:Calls P f args w fun e w'=>∃ v,e = .returned v∧wpList P ops Q rest (a.put N v) w')
  (hd:o.dst = N:=by rfl) (hg:o.guard = none:=by rfl) (hname:(fn.name == "runtime.NumGoroutine") = false:=by kernel_rfl) (hb:fn.body.isSome = true:=by rfl)
  (hop:o.op = .call { callee:=.value (.func f),args:=as_,argTypes:=ts }:=by rfl)
  (hargs:as_.map a.eval = args:=by (try simp only [List.map_toArray,List.map_cons,List.map_nil]);first|done|rfl|(simp only [List.length_drop,List.length_take];rfl)):wpList P ops Q (o :: rest) a w :=
 goesL_ N hd hg hf hname hb args hop hargs h
theorem gl_ {w W:World} (N:Option Tmp) {f:FuncId} {fn:Func} {as_:Array Operand} {ts:Array TypeId} (hf:P.funcs[f]? = some fn) (args:Array Value) {v:Value}
  (C:Calls P f args W fun e w'=>e = .returned v∧Below W.heap.size W w')
  (h:∀ w',Below W.heap.size W w'→Aside0 (Below w.heap.size w w')→wpList P ops Q rest (a.put N v) w')
  (hd:o.dst = N:=by rfl) (hg:o.guard = none:=by rfl) (hname:(fn.name == "runtime.NumGoroutine") = false:=by kernel_rfl) (hb:fn.body.isSome = true:=by rfl)
  (hop:o.op = .call { callee:=.value (.func f),args:=as_,argTypes:=ts }:=by rfl)
  (hargs:as_.map a.eval = args:=by (try simp only [List.map_toArray,List.map_cons,List.map_nil]);first|done|rfl|(simp only [List.length_drop,List.length_take];rfl))
  (k:Below w.heap.size w W:=by repeat (first|(with_reducible first|exact Aside0.out (by assumption)|apply below_alloc|apply pw_below_drewN|apply below_drew1|refine below_set ?_ (Aside0.out (by assumption)))|exact Aside0.out (by assumption))):wpList P ops Q (o :: rest) a W :=
 goesL_ N hd hg hf hname hb args hop hargs (C.mono fun _ w' hw=>⟨v,hw.1,h w' hw.2 ⟨below_step k hw.2⟩⟩)
end
section
variable {P : Program} {ops : Array Oper} {Q : Exit → Act → World → Prop} {md : Region.Mode} {S : World → Prop} {ds : List Nat}
theorem pu_ {oi:Oper} {v:Value} {fuel:Nat} {l:Array Bool} {a a':Act} {w:World} (i:Nat) (N:Option Tmp) (l':Array Bool) (h:wpAnyLast P md ops Q S ds fuel l' a' w)
  (hi:ops[i]? = some oi:=by rfl) (hN:oi.dst = N:=by rfl) (hc:anyB md ops l l' i = true:=by first|exact any_of (Aside0.out (by assumption)) (by kernel_rfl)|kernel_rfl)
  (hy:Yields P ops oi v a:=by exact Or.inl ⟨by rfl,by intro w';go_simp;with_reducible rfl⟩)
  (hQ:∀ c a w,Q (.panic c) (a.put oi.dst v) w→Q (.panic c) a w:=by exact fun _ _ _ h=>h)
  (ha:a.put N v = a':=by simp only [Act.put,List.setIfInBounds_toArray,List.set_cons_zero,List.set_cons_succ,i64_w,i32_w];rfl):wpAnyLast P md ops Q S ds (fuel + 1) l a w :=
 pure_ l' hi hN hc hQ hy ha h
theorem tk2_ {oi:Oper} {v:Value} {fuel:Nat} {l:Array Bool} {a a':Act} {w:World} (i:Nat) (N:Option Tmp) (l':Array Bool) (hS:S w) (h:wpAnyLast P md ops Q S ds fuel l' a' w)
  (hi:ops[i]? = some oi:=by rfl) (hN:oi.dst = N:=by rfl) (hc:takeB md ops ds l l' i = true:=by first|exact take_ofW (Aside0.out (by assumption)) (Aside0.out (by assumption)) (by kernel_rfl)|exact take_of (Aside0.out (by assumption)) (by kernel_rfl)|kernel_rfl)
  (hy:YieldsIf P ops S oi v a:=by exact Or.inl ⟨by rfl,by rintro w' ⟨s0,s1⟩;go_simp;with_reducible rfl⟩)
  (hQ:∀ c a w,Q (.panic c) (a.put oi.dst v) w→Q (.panic c) a w:=by exact fun _ _ _ h=>h)
  (ha:a.put N v = a':=by simp only [Act.put,List.setIfInBounds_toArray,List.set_cons_zero,List.set_cons_succ,i64_w,i32_w];rfl):wpAnyLast P md ops Q S ds (fuel + 1) l a w :=
 take_ l' hi hN hc hQ hy hS ha h
theorem tk4_ {oi:Oper} {v:Value} {fuel:Nat} {l:Array Bool} {a a':Act} {w:World} (i:Nat) (N:Option Tmp) (l':Array Bool) (hS:S w) (h:wpAnyLast P md ops Q S ds fuel l' a' w)
  (hi:ops[i]? = some oi:=by rfl) (hN:oi.dst = N:=by rfl) (hc:takeB md ops ds l l' i = true:=by first|exact take_ofW (Aside0.out (by assumption)) (Aside0.out (by assumption)) (by kernel_rfl)|exact take_of (Aside0.out (by assumption)) (by kernel_rfl)|kernel_rfl)
  (hy:YieldsIf P ops S oi v a:=by exact Or.inl ⟨by rfl,by rintro w' ⟨s0,s1,s2,s3⟩;go_simp;with_reducible rfl⟩)
  (hQ:∀ c a w,Q (.panic c) (a.put oi.dst v) w→Q (.panic c) a w:=by exact fun _ _ _ h=>h)
  (ha:a.put N v = a':=by simp only [Act.put,List.setIfInBounds_toArray,List.set_cons_zero,List.set_cons_succ,i64_w,i32_w];rfl):wpAnyLast P md ops Q S ds (fuel + 1) l a w :=
 take_ l' hi hN hc hQ hy hS ha h
theorem oc_ {oi:Oper} {fuel:Nat} {l:Array Bool} {a:Act} {w:World} (i:Nat) (N:Option Tmp) (l':Array Bool) {f:FuncId} {fn:Func} {as_:Array Operand} {ts:Array TypeId} (hf:P.funcs[f]? = some fn) (args:Array Value)
  (h:∀ K:Act→World→Prop,Shut (∀ a' w',S w'→(S w'→wpAnyLast P md ops Q S ds fuel l' a' w')→K a' w')→Calls P f args w fun e w'=>∃ v,e = .returned v∧K (a.put N v) w')
  (hi:ops[i]? = some oi:=by rfl) (hN:oi.dst = N:=by rfl) (hc:readyB md ops l l' i = true:=by first|exact one_of (Aside0.out (by assumption)) (by kernel_rfl)|kernel_rfl) (hd:i ∉ ds:=by decide)
  (hname:(fn.name == "runtime.NumGoroutine") = false:=by kernel_rfl) (hb:fn.body.isSome = true:=by rfl) (hw:Region.wanted oi (yielded ops a.tmps) = true:=by rfl)
  (hop:oi.op = .call { callee:=.value (.func f),args:=as_,argTypes:=ts }:=by rfl)
  (hargs:as_.map a.eval = args:=by (try simp only [List.map_toArray,List.map_cons,List.map_nil]);first|done|rfl|(simp only [List.length_drop,List.length_take];rfl)):wpAnyLast P md ops Q S ds (fuel + 1) l a w :=
 one_ l' hi hN hc hd fun K hK=>goes_ hf hname hb args hw hN hop hargs (h K hK)
theorem hk_ {fuel:Nat} {l:Array Bool} {a a':Act} {w:World} {K:Act→World→Prop} (hK:Shut (∀ a' w',S w'→(S w'→wpAnyLast P md ops Q S ds fuel l a' w')→K a' w')) (h:S w→wpAnyLast P md ops Q S ds fuel l a' w)
  (hS:S w:=by first|exact trivial|((repeat' (first|refine And.intro ?_ ?_|exact (blk_cell (Aside0.out (by assumption)) _).trans rfl))))
  (ha:a = a':=by show Act.put _ _ _ = _;simp only [Act.put,List.setIfInBounds_toArray,List.set_cons_zero,List.set_cons_succ,i64_w,i32_w];rfl):K a w :=
 hK.out _ _ hS fun hs=>norm_ ha (h hs)
end
end Go.Proofs.YtaknchlegjcdhaaGreatDoor
namespace Go.Proofs.YtaknchlegjcdhaaGreatDoor.Pr
open Go.RowKit Go.Proofs.YtaknchlegjcdhaaGreatDoorW.PrintWords Go.Proofs.YtaknchlegjcdhaaGreatDoorW.PrintLast Go.Proofs.YtaknchlegjcdhaaGreatDoorW.PrintMore
attribute [local go_sem] max2_int min2_int max_two min_two max_three min_three max_four min_four
set_option maxHeartbeats 8000000
set_option maxRecDepth 100000
set_option linter.unusedVariables false
set_option linter.unusedSimpArgs false
def stringslite_HasPrefix.f (a0:ByteArray) (a1:ByteArray):Option (Bool):=if (a0.size:Int) ≥ (a1.size:Int) then (if 0≤(a1.size:Int) then (if (a1.size:Int)≤(a0.size:Int) then (some ((a0.extract 0 ((a1.size:Int):Int).toNat).toList == a1.toList)) else (none)) else (none)) else (some false)
theorem stringslite_HasPrefix.calls (a0:ByteArray) (a1:ByteArray) (r:Bool) (w:World) (h:stringslite_HasPrefix.f a0 a1 = some r) :
  Calls Tryz.prog 123 #[.string a0,.string a1] w fun e w'=>e = .returned (.bool r)∧Drawn0 w w':=by
 have H:(if (a0.size:Int) ≥ (a1.size:Int) then (if 0≤(a1.size:Int) then (if (a1.size:Int)≤(a0.size:Int) then (some ((a0.extract 0 ((a1.size:Int):Int).toNat).toList == a1.toList)) else (none)) else (none)) else (some false)) = some r:=h
 clear h
 by_cases c3:(a0.size:Int) ≥ (a1.size:Int)
 ·rw [if_pos c3] at H
  have c3b0:decide ((a1.size:Int)≤(a0.size:Int)) = true:=decide_eq_true c3
  have c3b1:decide (a1.size≤a0.size) = true:=decide_eq_true (Int.ofNat_le.mp c3)
  clear c3
  by_cases c4:0≤(a1.size:Int)
  ·rw [if_pos c4] at H
   have c4b0:=eq_true c4
   have c4b1:decide (0≤(a1.size:Int)) = true:=decide_eq_true c4
   clear c4
   by_cases c5:(a1.size:Int)≤(a0.size:Int)
   ·rw [if_pos c5] at H
    have c5b0:=eq_true c5
    have c5b1:decide ((a1.size:Int)≤(a0.size:Int)) = true:=decide_eq_true c5
    clear c5
    obtain rfl:=Option.some.inj H
    go_enter Tryz.func123,Tryz.ntmps123
    go_wp2
    go_ret
    exact ⟨by first|rfl|(simp;done)|(simp [*];done),by repeat (first|exact Drawn0.refl _|apply Drawn0.step)⟩
   ·rw [if_neg c5] at H
    exact absurd H sm_
  ·rw [if_neg c4] at H
   exact absurd H sm_
 ·rw [if_neg c3] at H
  have c3b0:decide ((a1.size:Int)≤(a0.size:Int)) = false:=decide_eq_false c3
  have c3b1:decide (a1.size≤a0.size) = false:=decide_eq_false (fun h=>c3 (Int.ofNat_le.mpr h))
  clear c3
  obtain rfl:=Option.some.inj H
  go_enter Tryz.func123,Tryz.ntmps123
  go_wp2
  go_ret
  exact ⟨by first|rfl|(simp;done)|(simp [*];done),by repeat (first|exact Drawn0.refl _|apply Drawn0.step)⟩
end Go.Proofs.YtaknchlegjcdhaaGreatDoor.Pr
namespace Go.Proofs.YtaknchlegjcdhaaGreatDoor.Pr
open Go.RowKit Go.Proofs.YtaknchlegjcdhaaGreatDoorW.PrintWords Go.Proofs.YtaknchlegjcdhaaGreatDoorW.PrintLast Go.Proofs.YtaknchlegjcdhaaGreatDoorW.PrintMore
attribute [local go_sem] max2_int min2_int max_two min_two max_three min_three max_four min_four
set_option maxHeartbeats 8000000
set_option maxRecDepth 100000
set_option linter.unusedVariables false
set_option linter.unusedSimpArgs false
def stringslite_CutPrefix.f (a0:ByteArray) (a1:ByteArray):Option (ByteArray × Bool):=(stringslite_HasPrefix.f a0 a1).bind fun t101=>(if t101 = true then (if 0≤(a1.size:Int) then (if (a1.size:Int)≤(a0.size:Int) then (some (a0.extract ((a1.size:Int):Int).toNat a0.size,true)) else (none)) else (none)) else (some (a0,false)))
theorem stringslite_CutPrefix.calls (a0:ByteArray) (a1:ByteArray) (r1:ByteArray) (r2:Bool) (w:World) (h:stringslite_CutPrefix.f a0 a1 = some (r1,r2)) :
  Calls Tryz.prog 104 #[.string a0,.string a1] w fun e w'=>e = .returned (.tuple #[.string r1,.bool r2])∧Drawn0 w w':=by
 have H:((stringslite_HasPrefix.f a0 a1).bind fun t101=>(if t101 = true then (if 0≤(a1.size:Int) then (if (a1.size:Int)≤(a0.size:Int) then (some (a0.extract ((a1.size:Int):Int).toNat a0.size,true)) else (none)) else (none)) else (some (a0,false)))) = some (r1,r2):=h
 clear h
 obtain ⟨t101,A3,H⟩:=bn_ H
 by_cases c4:t101 = true
 ·subst c4
  have H1:(if 0≤(a1.size:Int) then (if (a1.size:Int)≤(a0.size:Int) then (some (a0.extract ((a1.size:Int):Int).toNat a0.size,true)) else (none)) else (none)) = some (r1,r2):=by rw [if_pos rfl] at H;exact H
  clear H
  have H:=H1
  clear H1
  by_cases c5:0≤(a1.size:Int)
  ·rw [if_pos c5] at H
   have c5b0:=eq_true c5
   have c5b1:decide (0≤(a1.size:Int)) = true:=decide_eq_true c5
   clear c5
   by_cases c6:(a1.size:Int)≤(a0.size:Int)
   ·rw [if_pos c6] at H
    have c6b0:=eq_true c6
    have c6b1:decide ((a1.size:Int)≤(a0.size:Int)) = true:=decide_eq_true c6
    clear c6
    simp only [Option.some.injEq,Prod.mk.injEq] at H
    obtain ⟨rfl,rfl⟩:=H
    go_enter Tryz.func104,Tryz.ntmps104
    go_wp2_with (first|((with_reducible refine gate_callee (f:=123) rfl ?_);refine gm_ (some 8) Tryz.func123 #[.string a0,.string a1] ?_;(with_reducible refine (stringslite_HasPrefix.calls a0 a1 true _ A3.out).mono ?_);rintro e w' ⟨rfl,⟨nd,rfl⟩⟩;refine ⟨_,rfl,?_⟩))
    go_ret2
    exact ⟨by first|rfl|(simp;done)|(simp [*];done),by repeat (first|exact Drawn0.refl _|apply Drawn0.step)⟩
   ·rw [if_neg c6] at H
    exact absurd H sm_
  ·rw [if_neg c5] at H
   exact absurd H sm_
 ·replace c4:=Bool.eq_false_iff.mpr c4
  subst c4
  have H1:(some (a0,false)) = some (r1,r2):=by rw [if_neg (show ¬ (false = true) by decide)] at H;exact H
  clear H
  have H:=H1
  clear H1
  simp only [Option.some.injEq,Prod.mk.injEq] at H
  obtain ⟨rfl,rfl⟩:=H
  go_enter Tryz.func104,Tryz.ntmps104
  go_wp2_with (first|((with_reducible refine gate_callee (f:=123) rfl ?_);refine gm_ (some 8) Tryz.func123 #[.string a0,.string a1] ?_;(with_reducible refine (stringslite_HasPrefix.calls a0 a1 false _ A3.out).mono ?_);rintro e w' ⟨rfl,⟨nd,rfl⟩⟩;refine ⟨_,rfl,?_⟩))
  go_ret2
  exact ⟨by first|rfl|(simp;done)|(simp [*];done),by repeat (first|exact Drawn0.refl _|apply Drawn0.step)⟩
end Go.Proofs.YtaknchlegjcdhaaGreatDoor.Pr
namespace Go.Proofs.YtaknchlegjcdhaaGreatDoor.Pr
open Go.RowKit Go.Proofs.YtaknchlegjcdhaaGreatDoorW.PrintWords Go.Proofs.YtaknchlegjcdhaaGreatDoorW.PrintLast Go.Proofs.YtaknchlegjcdhaaGreatDoorW.PrintMore
attribute [local go_sem] max2_int min2_int max_two min_two max_three min_three max_four min_four
set_option maxHeartbeats 8000000
set_option maxRecDepth 100000
set_option linter.unusedVariables false
set_option linter.unusedSimpArgs false
def strings_CutPrefix.f (a0:ByteArray) (a1:ByteArray):Option (ByteArray × Bool):=(stringslite_CutPrefix.f a0 a1).bind fun bt102=>(some (bt102.1,bt102.2))
theorem strings_CutPrefix.calls (a0:ByteArray) (a1:ByteArray) (r1:ByteArray) (r2:Bool) (w:World) (h:strings_CutPrefix.f a0 a1 = some (r1,r2)) :
  Calls Tryz.prog 73 #[.string a0,.string a1] w fun e w'=>e = .returned (.tuple #[.string r1,.bool r2])∧Drawn0 w w':=by
 have H:((stringslite_CutPrefix.f a0 a1).bind fun bt102=>(some (bt102.1,bt102.2))) = some (r1,r2):=h
 clear h
 obtain ⟨⟨t102,t103⟩,A3,H⟩:=bn_ H
 dsimp only at H
 simp only [Option.some.injEq,Prod.mk.injEq] at H
 obtain ⟨rfl,rfl⟩:=H
 go_enter Tryz.func73,Tryz.ntmps73
 go_wp2_with (first|((with_reducible refine gate_callee (f:=104) rfl ?_);refine gm_ (some 8) Tryz.func104 #[.string a0,.string a1] ?_;(with_reducible refine (stringslite_CutPrefix.calls a0 a1 t102 t103 _ A3.out).mono ?_);rintro e w' ⟨rfl,⟨nd,rfl⟩⟩;refine ⟨_,rfl,?_⟩))
 go_ret2
 exact ⟨by first|rfl|(simp;done)|(simp [*];done),by repeat (first|exact Drawn0.refl _|apply Drawn0.step)⟩
end Go.Proofs.YtaknchlegjcdhaaGreatDoor.Pr
namespace Go.Proofs.YtaknchlegjcdhaaGreatDoor.Pr
open Go.RowKit Go.Proofs.YtaknchlegjcdhaaGreatDoorW.PrintWords Go.Proofs.YtaknchlegjcdhaaGreatDoorW.PrintLast Go.Proofs.YtaknchlegjcdhaaGreatDoorW.PrintMore
attribute [local go_sem] max2_int min2_int max_two min_two max_three min_three max_four min_four
set_option maxHeartbeats 8000000
set_option maxRecDepth 100000
set_option linter.unusedVariables false
set_option linter.unusedSimpArgs false
mutual
def natural_Valid.j0:Nat→ByteArray→Bool→Option (Bool)
 | 0,_,_=>none
 | k + 1,x0,x15=>if x15 = true then (some false) else (natural_Valid.l0 k x0 (x0.size:Int) 0)
def natural_Valid.l0:Nat→ByteArray→Int→Int→Option (Bool)
 | 0,_,_,_=>none
 | k + 1,x0,x17,x18=>if x18 < x17 then (if 0≤x18 then (if x18 < (x0.size:Int) then (if (bt x0 x18) < 48 then (some false) else (if (bt x0 x18) > 57 then (some false) else (natural_Valid.l0 k x0 x17 (wrap64 (x18 + 1))))) else (none)) else (none)) else (some true)
end
def natural_Valid.f (k:Nat) (a0:ByteArray):Option (Bool):=if a0.toList = ([]:List UInt8) then (natural_Valid.j0 k a0 true) else (if (a0.size:Int) > 1 then (if 0 < (a0.size:Int) then (natural_Valid.j0 k a0 ((bt a0 0) == 48)) else (none)) else (natural_Valid.j0 k a0 false))
theorem natural_Valid.mono_l:∀ k,(∀ y0 y1,LeO (natural_Valid.j0 k y0 y1) (natural_Valid.j0 (k + 1) y0 y1))∧(∀ y0 y1 y2,LeO (natural_Valid.l0 k y0 y1 y2) (natural_Valid.l0 (k + 1) y0 y1 y2))
 | 0=>⟨fun _ _ r h=>by simp [natural_Valid.j0] at h,fun _ _ _ r h=>by simp [natural_Valid.l0] at h⟩
 | k + 1=>by
  obtain ⟨ih0,ih1⟩:=natural_Valid.mono_l k
  refine ⟨?_,?_⟩
  ·intro y0 y1
   unfold natural_Valid.j0
   repeat' first
   | (with_reducible exact ih0 _ _)
   | (with_reducible exact ih1 _ _ _)
   | (with_reducible exact LeO.refl _)
   | (with_reducible exact LeO.none _)
   | (with_reducible refine LeO.ite ?_ ?_)
   | (with_reducible refine LeO.bind ?_ (fun _=>?_))
   | exact ih0 _ _
   | exact ih1 _ _ _
   | exact LeO.none _
   | refine LeO.ite ?_ ?_
   | refine LeO.bind ?_ (fun _=>?_)
  ·intro y0 y1 y2
   unfold natural_Valid.l0
   repeat' first
   | (with_reducible exact ih0 _ _)
   | (with_reducible exact ih1 _ _ _)
   | (with_reducible exact LeO.refl _)
   | (with_reducible exact LeO.none _)
   | (with_reducible refine LeO.ite ?_ ?_)
   | (with_reducible refine LeO.bind ?_ (fun _=>?_))
   | exact ih0 _ _
   | exact ih1 _ _ _
   | exact LeO.none _
   | refine LeO.ite ?_ ?_
   | refine LeO.bind ?_ (fun _=>?_)
theorem natural_Valid.mono:∀ a0 k,LeO (natural_Valid.f k a0) (natural_Valid.f (k + 1) a0):=by
 intro a0 k
 obtain ⟨ih0,ih1⟩:=natural_Valid.mono_l k
 unfold natural_Valid.f
 repeat' first
   | (with_reducible exact ih0 _ _)
   | (with_reducible exact ih1 _ _ _)
   | (with_reducible exact LeO.refl _)
   | (with_reducible exact LeO.none _)
   | (with_reducible refine LeO.ite ?_ ?_)
   | (with_reducible refine LeO.bind ?_ (fun _=>?_))
   | exact ih0 _ _
   | exact ih1 _ _ _
   | exact LeO.none _
   | refine LeO.ite ?_ ?_
   | refine LeO.bind ?_ (fun _=>?_)
theorem natural_Valid.calls (k:Nat) (a0:ByteArray) (r:Bool) (w:World) (h:natural_Valid.f k a0 = some r) :
  Calls Tryz.prog 74 #[.string a0] w fun e w'=>e = .returned (.bool r)∧Drawn0 w w':=by
 have H:(if a0.toList = ([]:List UInt8) then (natural_Valid.j0 k a0 true) else (if (a0.size:Int) > 1 then (if 0 < (a0.size:Int) then (natural_Valid.j0 k a0 ((bt a0 0) == 48)) else (none)) else (natural_Valid.j0 k a0 false))) = some r:=h
 clear h
 have HC2:=Aside0.mk H
 clear H
 go_enter Tryz.func74,Tryz.ntmps74
 go_upto_region 1 with (fail)
 go_cut [15] (fun v15 wc=>∃ (kq:Nat) (x15_1:Bool),v15 = .bool x15_1∧Aside0 (natural_Valid.j0 kq a0 x15_1 = some r)∧Aside0 (kq≤k)∧Drawn0 w wc)
 case first =>
  have H:=HC2.out
  clear HC2
  by_cases c3:a0.toList = ([]:List UInt8)
  ·rw [if_pos c3] at H
   have c3b0:(a0.toList == ([]:List UInt8)) = true:=beq_iff_eq.mpr c3
   have c3b1:(a0.toList != ([]:List UInt8)) = false:=bne_eq_false_iff_eq.mpr c3
   clear c3
   (first|rw [c3b0]|(simp only [i64_w,i32_w];rw [c3b0])|skip)
   have H':=Aside0.mk H
   clear H
   go_wp2
   go_meet
   case rel=>exact ⟨_,(true),(by first|rfl|(simp;done)|(simp [*];done)),H',⟨by first|omega|exact Nat.le_refl _⟩,by repeat (first|exact Drawn0.refl _|apply Drawn0.step)⟩
  ·rw [if_neg c3] at H
   have c3b0:(a0.toList == ([]:List UInt8)) = false:=beq_eq_false_iff_ne.mpr c3
   have c3b1:(a0.toList != ([]:List UInt8)) = true:=bne_iff_ne.mpr c3
   (first|rw [c3b0]|(simp only [i64_w,i32_w];rw [c3b0])|skip)
   by_cases c4:(a0.size:Int) > 1
   ·rw [if_pos c4] at H
    have c4b0:decide (1 < (a0.size:Int)) = true:=decide_eq_true c4
    have c4b1:decide (1 < a0.size) = true:=decide_eq_true (by omega)
    clear c4
    by_cases c5:0 < (a0.size:Int)
    ·rw [if_pos c5] at H
     have c5b0:decide (0 < (a0.size:Int)) = true:=decide_eq_true c5
     have c5b1:decide (0 < a0.size) = true:=decide_eq_true (by omega)
     clear c5
     have H':=Aside0.mk H
     clear H
     have p6:0≤(0:Int):=(by omega)
     have q6:0 < a0.size:=(by have:(0:Int) < (a0.size:Int):=da_;omega)
     have hx6:∀ h:0 < a0.size,((a0[0]'h).toNat:Int) = bt a0 0:=bt_at a0 0
     clear p6
     have qi6:(0 < (a0.size:Int)) = True:=eq_true (of_decide_eq_true (by first|(with_reducible assumption)|assumption))
     replace q6:=eq_true q6
     go_wp2
     go_meet
     case rel=>exact ⟨_,(((bt a0 0) == 48)),(by first|rfl|(simp;done)|(simp [*];done)),H',⟨by first|omega|exact Nat.le_refl _⟩,by repeat (first|exact Drawn0.refl _|apply Drawn0.step)⟩
    ·rw [if_neg c5] at H
     exact absurd H sm_
   ·rw [if_neg c4] at H
    have c4b0:decide (1 < (a0.size:Int)) = false:=decide_eq_false c4
    have c4b1:decide (1 < a0.size) = false:=decide_eq_false (by omega)
    clear c4
    have H':=Aside0.mk H
    clear H
    go_wp2
    go_meet
    case rel=>exact ⟨_,(false),(by first|rfl|(simp;done)|(simp [*];done)),H',⟨by first|omega|exact Nat.le_refl _⟩,by repeat (first|exact Drawn0.refl _|apply Drawn0.step)⟩
 case rest =>
  clear HC2
  try clear p2
  try clear c3
  try clear c3b0
  try clear c3b1
  try clear c4
  try clear c4b0
  try clear c4b1
  try clear c5
  try clear c5b0
  try clear c5b1
  try clear p6
  try clear q6
  try clear hx6
  try clear qi6
  try clear p6
  try clear q6
  obtain ⟨kq,x15_1,rfl,HA,HJ1,⟨mc1,rfl⟩⟩:=hcut
  cases kq with
  | zero=>exact absurd HA.out (by simp [natural_Valid.j0])
  | succ kj1 =>
   have H:=HA.out
   clear HA
   simp only [natural_Valid.j0] at H
   by_cases c7:x15_1 = true
   ·subst c7
    have H1:(some false) = some r:=by rw [if_pos rfl] at H;exact H
    clear H
    have H:=H1
    clear H1
    obtain rfl:=Option.some.inj H
    go_wp2
    go_ret
    exact ⟨by first|rfl|(simp;done)|(simp [*];done),by repeat (first|exact Drawn0.refl _|apply Drawn0.step)⟩
   ·replace c7:=Bool.eq_false_iff.mpr c7
    subst c7
    have H1:(natural_Valid.l0 kj1 a0 (a0.size:Int) 0) = some r:=by rw [if_neg (show ¬ (false = true) by decide)] at H;exact H
    clear H
    have H:=H1
    clear H1
    have H':=Aside0.mk H
    clear H
    go_wp2
    go_loopg [18] kj1 (fun kq v18 w'=>∃ (x18_2:Int),v18 = .int .i64 x18_2∧Aside0 (natural_Valid.l0 kq a0 (a0.size:Int) x18_2 = some r)∧Aside0 (kq≤kj1)∧Drawn0 w w')
    case atStart=>exact ⟨(0),(by first|rfl|(simp;done)|(simp [*];done)),H',⟨Nat.le_refl _⟩,by repeat (first|exact Drawn0.refl _|apply Drawn0.step)⟩
    case round =>
     clear H'
     try clear c1
     try clear p2
     try clear c3
     try clear c3b0
     try clear c3b1
     try clear c4
     try clear c4b0
     try clear c4b1
     try clear c5
     try clear c5b0
     try clear c5b1
     try clear p6
     try clear q6
     try clear hx6
     try clear qi6
     try clear c7
     try clear p2
     try clear p6
     try clear q6
     obtain ⟨x18_2,rfl,HA,HK2,⟨m2,rfl⟩⟩:=hrel
     cases gk with
     | zero=>exact absurd HA.out (by simp [natural_Valid.l0])
     | succ k2 =>
      have H:=HA.out
      clear HA
      simp only [natural_Valid.l0] at H
      by_cases c8:x18_2 < (a0.size:Int)
      ·rw [if_pos c8] at H
       have c8b0:decide (x18_2 < (a0.size:Int)) = true:=decide_eq_true c8
       clear c8
       by_cases c9:0≤x18_2
       ·rw [if_pos c9] at H
        have c9b0:decide (0≤x18_2) = true:=decide_eq_true c9
        clear c9
        by_cases c10:x18_2 < (a0.size:Int)
        ·rw [if_pos c10] at H
         have c10b0:decide (x18_2 < (a0.size:Int)) = true:=decide_eq_true c10
         clear c10
         by_cases c12:(bt a0 x18_2) < 48
         ·rw [if_pos c12] at H
          have c12b0:decide ((bt a0 x18_2) < 48) = true:=decide_eq_true c12
          clear c12
          obtain rfl:=Option.some.inj H
          have p11:0≤(x18_2:Int):=da_
          have q11:x18_2 < (a0.size:Int):=da_
          have hx11:=bt_at a0 x18_2
          replace p11:=eq_true p11
          replace q11:=eq_true q11
          go_wp2
          go_ret
          exact ⟨by first|rfl|(simp;done)|(simp [*];done),by repeat (first|exact Drawn0.refl _|apply Drawn0.step)⟩
         ·rw [if_neg c12] at H
          have c12b0:decide ((bt a0 x18_2) < 48) = false:=decide_eq_false c12
          clear c12
          by_cases c14:(bt a0 x18_2) > 57
          ·rw [if_pos c14] at H
           have c14b0:decide (57 < (bt a0 x18_2)) = true:=decide_eq_true c14
           clear c14
           obtain rfl:=Option.some.inj H
           have p11:0≤(x18_2:Int):=da_
           have q11:x18_2 < (a0.size:Int):=da_
           have hx11:=bt_at a0 x18_2
           replace p11:=eq_true p11
           replace q11:=eq_true q11
           have p13:0≤(x18_2:Int):=da_
           have q13:x18_2 < (a0.size:Int):=da_
           have hx13:=bt_at a0 x18_2
           replace p13:=eq_true p13
           replace q13:=eq_true q13
           go_wp2
           go_ret
           exact ⟨by first|rfl|(simp;done)|(simp [*];done),by repeat (first|exact Drawn0.refl _|apply Drawn0.step)⟩
          ·rw [if_neg c14] at H
           have c14b0:decide (57 < (bt a0 x18_2)) = false:=decide_eq_false c14
           clear c14
           have H':=Aside0.mk H
           clear H
           have p11:0≤(x18_2:Int):=da_
           have q11:x18_2 < (a0.size:Int):=da_
           have hx11:=bt_at a0 x18_2
           replace p11:=eq_true p11
           replace q11:=eq_true q11
           have p13:0≤(x18_2:Int):=da_
           have q13:x18_2 < (a0.size:Int):=da_
           have hx13:=bt_at a0 x18_2
           replace p13:=eq_true p13
           replace q13:=eq_true q13
           go_wp2
           go_roundg k2
           case measure=>have:=HJ1.out;have:=HK2.out;omega
           case rel=>exact ⟨(wrap64 (x18_2 + 1)),(by first|rfl|(simp;done)|(simp [*];done)),H',⟨by have:=HJ1.out;have:=HK2.out;omega⟩,by repeat (first|exact Drawn0.refl _|apply Drawn0.step)⟩
        ·rw [if_neg c10] at H
         exact absurd H sm_
       ·rw [if_neg c9] at H
        exact absurd H sm_
      ·rw [if_neg c8] at H
       have c8b0:decide (x18_2 < (a0.size:Int)) = false:=decide_eq_false c8
       clear c8
       obtain rfl:=Option.some.inj H
       go_wp2
       go_ret
       exact ⟨by first|rfl|(simp;done)|(simp [*];done),by repeat (first|exact Drawn0.refl _|apply Drawn0.step)⟩
end Go.Proofs.YtaknchlegjcdhaaGreatDoor.Pr
namespace Go.Proofs.YtaknchlegjcdhaaGreatDoor.Pr
open Go.RowKit Go.Proofs.YtaknchlegjcdhaaGreatDoorW.PrintWords Go.Proofs.YtaknchlegjcdhaaGreatDoorW.PrintLast Go.Proofs.YtaknchlegjcdhaaGreatDoorW.PrintMore
attribute [local go_sem] max2_int min2_int max_two min_two max_three min_three max_four min_four
set_option maxHeartbeats 8000000
set_option maxRecDepth 100000
set_option linter.unusedVariables false
set_option linter.unusedSimpArgs false
attribute [local go_sem high] eqA43
def integer_read.f (k:Nat) (a0:ByteArray):Option (Bool × ByteArray × Bool):=(strings_CutPrefix.f a0 (⟨#[45]⟩:ByteArray)).bind fun bt105=>((natural_Valid.f k bt105.1).bind fun t108=>(if t108 = true then (some (bt105.2,bt105.1,(!bt105.2 || (!(bt105.1.toList == ([48]:List UInt8)))))) else (some (bt105.2,bt105.1,false))))
theorem integer_read.mono:∀ a0 k,LeO (integer_read.f k a0) (integer_read.f (k + 1) a0):=by intro a0 k;unfold integer_read.f;have:=@natural_Valid.mono;exact mn_
def integer_read.T3:Bool × List (List Nat × List Nat):=(true,[([],[]),([],[]),([1],[1]),([2,2],[2]),([3],[3]),([3],[3]),([4,5,3],[3,4,5]),([3,6],[3,6]),([0,3,0],[0]),([7,8,0,1,2,3,4,5,6,7,8],[7])])
def integer_read.B3:List Nat:=[0,0,2,6,14,14,62,126,15,511]
theorem integer_read.tab3:rtab .any (opsOf Tryz.f48 3) = integer_read.T3:=by kernel_rfl
theorem integer_read.bits3:waitsOk integer_read.T3.2 integer_read.B3 = true:=by kernel_rfl
theorem integer_read.calls (k:Nat) (a0:ByteArray) (r1:Bool) (r2:ByteArray) (r3:Bool) (w:World) (h:integer_read.f k a0 = some (r1,r2,r3)) :
  Calls Tryz.prog 48 #[.string a0] w fun e w'=>e = .returned (.tuple #[.agg #[.bool r1,.string r2],.bool r3])∧Below w.heap.size w w':=by
 have hu43:=Tryz.underlying43
 have HB:=Aside0.mk (Below.refl w.heap.size w)
 have H:((strings_CutPrefix.f a0 (⟨#[45]⟩:ByteArray)).bind fun bt105=>((natural_Valid.f k bt105.1).bind fun t108=>(if t108 = true then (some (bt105.2,bt105.1,(!bt105.2 || (!(bt105.1.toList == ([48]:List UInt8)))))) else (some (bt105.2,bt105.1,false))))) = some (r1,r2,r3):=h
 clear h
 obtain ⟨⟨t105,t106⟩,A2,H⟩:=bn_ H
 dsimp only at H
 obtain ⟨t108,A3,H⟩:=bn_ H
 by_cases c4:t108 = true
 ·subst c4
  have H1:(some (t106,t105,(!t106 || (!(t105.toList == ([48]:List UInt8)))))) = some (r1,r2,r3):=by rw [if_pos rfl] at H;exact H
  clear H
  have H:=H1
  clear H1
  simp only [Option.some.injEq,Prod.mk.injEq] at H
  obtain ⟨rfl,rfl,rfl⟩:=H
  go_enter Tryz.func48,Tryz.ntmps48
  try go_wp2_with (first|((with_reducible refine gate_dst (N:=2) rfl ?_);refine bv_ #[.bool false,.string (⟨#[]⟩:ByteArray)] 43 ?_;clear HB;intro gb104 hg w5 BK104 GE104 hb HB;clear hb hg)|((with_reducible refine gate_callee (f:=73) rfl ?_);refine gm_ (some 9) Tryz.func73 #[.string a0,.string (⟨#[45]⟩:ByteArray)] ?_;(with_reducible refine (strings_CutPrefix.calls a0 (⟨#[45]⟩:ByteArray) t105 t106 _ A2.out).mono ?_);rintro e w' ⟨rfl,⟨nd,rfl⟩⟩;refine ⟨_,rfl,?_⟩;(try (rw [drewN_self w5];generalize hq_:World.drewN w5 _ = w5;have n0_:Aside0 (w5.heap[gb104]? = some (.cells #[.bool false,.string (⟨#[]⟩:ByteArray)] 43 (0,0))):=⟨by rw [← hq_];exact bk_⟩;have n1_:Aside0 (Below w.heap.size w w5):=⟨by rw [← hq_];exact bx_⟩;clear BK104 HB hq_;have BK104:=n0_;have HB:=n1_;clear n0_ n1_)))|((with_reducible refine gate_dst (N:=6) rfl ?_);refine bv_ #[.bool false,.string (⟨#[]⟩:ByteArray)] 43 ?_;clear HB;intro gb107 hg w6 BK107 GE107 hb HB;have x_:=ol_ BK104 hg hb;clear BK104;obtain ⟨BK104,NB104_107,NB107_104⟩:=x_;clear hb hg;have hnb7:=NB107_104.out;have hnc7:=NB104_107.out;obtain ⟨hcz8_0,hcz8_1,hfz8_0,hfz8_1⟩:=c2_ BK107))
  generalize hw_:((w6.setCell ⟨gb107,0,none⟩ (.bool t106)).setCell ⟨gb107,1,none⟩ (.string t105)) = w9
  replace BK104:Aside0 (w9.heap[gb104]? = some (.cells #[.bool false,.string (⟨#[]⟩:ByteArray)] 43 (0,0))):=gk_ hw_
  replace BK107:Aside0 (w9.heap[gb107]? = some (.cells #[.bool t106,.string t105] 43 (0,0))):=gk_ hw_
  replace HB:=gb_ hw_
  clear hw_
  replace BK104:=dr_ BK104
  replace BK107:=dr_ BK107
  replace HB:=db_ HB
  refine start_ (n:=10) (S:=fun w'=>w'.cell? ⟨gb107,0,none⟩ = some (.bool t106)∧w'.cell? ⟨gb107,1,none⟩ = some (.string t105)) (ds:=[]) #[false,false,false,false,false,false,false,false,false,false] kr_ rfl rfl hc_ (fun hHeld=>?_);refine with_tabW integer_read.tab3 integer_read.bits3 (fun HT_ HW_=>?_)
  generalize w9.drew = w10 at BK104 BK107 HB hHeld ⊢
  refine pu_ 1 (some 16) #[false,true,false,false,false,false,false,false,false,false] ?_
  refine tk2_ 0 (some 15) #[true,true,false,false,false,false,false,false,false,false] hHeld ?_
  refine oc_ 2 (some 17) #[true,true,true,false,false,false,false,false,false,false] Tryz.func74 #[.string t105] (fun K hK=>?_)
  with_reducible refine (natural_Valid.calls k t105 true _ A3.out).mono ?_
  rintro e w' ⟨rfl,⟨nd,rfl⟩⟩
  refine ⟨_,rfl,?_⟩
  refine hk_ hK (fun hHeld=>?_);clear hK K
  refine pu_ 3 (some 18) #[true,true,true,true,false,false,false,false,false,false] ?_
  refine pu_ 5 (some 20) #[true,true,true,true,false,true,false,false,false,false] ?_
  refine tk2_ 4 (some 19) #[true,true,true,true,true,true,false,false,false,false] hHeld ?_
  refine pu_ 6 (some 21) #[true,true,true,true,true,true,true,false,false,false] ?_
  refine pu_ 7 (some 22) #[true,true,true,true,true,true,true,true,false,false] ?_
  refine one_ (i:=8) (N:=none) #[true,true,true,true,true,true,true,true,true,false] rfl rfl (one_of HT_.out kr_) de_ (fun K hK=>?_)
  have hs11:w10.cell? ⟨gb104,0,none⟩ = some (.bool false):=(blk_cell BK104.out 0).trans rfl
  have hfs11:=blk_frozen BK104.out 0
  have hns11_1:=NB107_104.out
  have hms11_1:=NB104_107.out
  have hs12:w10.cell? ⟨gb104,1,none⟩ = some (.string (⟨#[]⟩:ByteArray)):=(blk_cell BK104.out 1).trans rfl
  have hfs12:=blk_frozen BK104.out 1
  have hns12_1:=NB107_104.out
  have hms12_1:=NB104_107.out
  refine skip_ (w1:=?_) (by rfl) rfl ?_ ?_
  rotate_left
  ·go_simp
   rfl
  refine hK.out _ _ ⟨((cell_far (p:=⟨gb104,_,none⟩) NB107_104.out _).trans (((cell_far (p:=⟨gb104,_,none⟩) NB107_104.out _).trans (hHeld.1)))),((cell_far (p:=⟨gb104,_,none⟩) NB107_104.out _).trans (((cell_far (p:=⟨gb104,_,none⟩) NB107_104.out _).trans (hHeld.2))))⟩ (fun hHeld=>?_)
  clear hK K
  refine pu_ 9 (some 3) #[true,true,true,true,true,true,true,true,true,true] ?_
  refine done_ (done_of HT_.out kr_) ?_
  try go_wp2
  refine bodyPost_ret (results_ct rfl _ _ gb104 43 #[.bool t106,.string t105] (0,0) _ rfl bk_ Tryz.underlying43 rfl kr_) rfl ?_
  exact ⟨rf_,bx_⟩
 ·replace c4:=Bool.eq_false_iff.mpr c4
  subst c4
  have H1:(some (t106,t105,false)) = some (r1,r2,r3):=by rw [if_neg (show ¬ (false = true) by decide)] at H;exact H
  clear H
  have H:=H1
  clear H1
  simp only [Option.some.injEq,Prod.mk.injEq] at H
  obtain ⟨rfl,rfl,rfl⟩:=H
  go_enter Tryz.func48,Tryz.ntmps48
  try go_wp2_with (first|((with_reducible refine gate_dst (N:=2) rfl ?_);refine bv_ #[.bool false,.string (⟨#[]⟩:ByteArray)] 43 ?_;clear HB;intro gb104 hg w13 BK104 GE104 hb HB;clear hb hg)|((with_reducible refine gate_callee (f:=73) rfl ?_);refine gm_ (some 9) Tryz.func73 #[.string a0,.string (⟨#[45]⟩:ByteArray)] ?_;(with_reducible refine (strings_CutPrefix.calls a0 (⟨#[45]⟩:ByteArray) t105 t106 _ A2.out).mono ?_);rintro e w' ⟨rfl,⟨nd,rfl⟩⟩;refine ⟨_,rfl,?_⟩;(try (rw [drewN_self w13];generalize hq_:World.drewN w13 _ = w13;have n0_:Aside0 (w13.heap[gb104]? = some (.cells #[.bool false,.string (⟨#[]⟩:ByteArray)] 43 (0,0))):=⟨by rw [← hq_];exact bk_⟩;have n1_:Aside0 (Below w.heap.size w w13):=⟨by rw [← hq_];exact bx_⟩;clear BK104 HB hq_;have BK104:=n0_;have HB:=n1_;clear n0_ n1_)))|((with_reducible refine gate_dst (N:=6) rfl ?_);refine bv_ #[.bool false,.string (⟨#[]⟩:ByteArray)] 43 ?_;clear HB;intro gb107 hg w14 BK107 GE107 hb HB;have x_:=ol_ BK104 hg hb;clear BK104;obtain ⟨BK104,NB104_107,NB107_104⟩:=x_;clear hb hg;have hnb15:=NB107_104.out;have hnc15:=NB104_107.out;obtain ⟨hcz16_0,hcz16_1,hfz16_0,hfz16_1⟩:=c2_ BK107))
  generalize hw_:((w14.setCell ⟨gb107,0,none⟩ (.bool t106)).setCell ⟨gb107,1,none⟩ (.string t105)) = w17
  replace BK104:Aside0 (w17.heap[gb104]? = some (.cells #[.bool false,.string (⟨#[]⟩:ByteArray)] 43 (0,0))):=gk_ hw_
  replace BK107:Aside0 (w17.heap[gb107]? = some (.cells #[.bool t106,.string t105] 43 (0,0))):=gk_ hw_
  replace HB:=gb_ hw_
  clear hw_
  replace BK104:=dr_ BK104
  replace BK107:=dr_ BK107
  replace HB:=db_ HB
  refine start_ (n:=10) (S:=fun w'=>w'.cell? ⟨gb107,0,none⟩ = some (.bool t106)∧w'.cell? ⟨gb107,1,none⟩ = some (.string t105)) (ds:=[]) #[false,false,false,false,false,false,false,false,false,false] kr_ rfl rfl hc_ (fun hHeld=>?_);refine with_tabW integer_read.tab3 integer_read.bits3 (fun HT_ HW_=>?_)
  generalize w17.drew = w18 at BK104 BK107 HB hHeld ⊢
  refine pu_ 1 (some 16) #[false,true,false,false,false,false,false,false,false,false] ?_
  refine tk2_ 0 (some 15) #[true,true,false,false,false,false,false,false,false,false] hHeld ?_
  refine oc_ 2 (some 17) #[true,true,true,false,false,false,false,false,false,false] Tryz.func74 #[.string t105] (fun K hK=>?_)
  with_reducible refine (natural_Valid.calls k t105 false _ A3.out).mono ?_
  rintro e w' ⟨rfl,⟨nd,rfl⟩⟩
  refine ⟨_,rfl,?_⟩
  refine hk_ hK (fun hHeld=>?_);clear hK K
  refine pu_ 3 (some 18) #[true,true,true,true,false,false,false,false,false,false] ?_
  refine pure_ (i:=4) (N:=some 19) (v:=undef) (a':=?_) #[true,true,true,true,true,false,false,false,false,false] rfl rfl (any_of HT_.out kr_) (fun _ _ _ h=>h) (Or.inr ⟨by rfl,rfl⟩) ?_ ?_
  rotate_left
  ·simp only [Act.put,List.setIfInBounds_toArray,List.set_cons_zero,List.set_cons_succ,i64_w,i32_w]
   rfl
  refine pure_ (i:=5) (N:=some 20) (v:=undef) (a':=?_) #[true,true,true,true,true,true,false,false,false,false] rfl rfl (any_of HT_.out kr_) (fun _ _ _ h=>h) (Or.inr ⟨by rfl,rfl⟩) ?_ ?_
  rotate_left
  ·simp only [Act.put,List.setIfInBounds_toArray,List.set_cons_zero,List.set_cons_succ,i64_w,i32_w]
   rfl
  refine pure_ (i:=6) (N:=some 21) (v:=undef) (a':=?_) #[true,true,true,true,true,true,true,false,false,false] rfl rfl (any_of HT_.out kr_) (fun _ _ _ h=>h) (Or.inr ⟨by rfl,rfl⟩) ?_ ?_
  rotate_left
  ·simp only [Act.put,List.setIfInBounds_toArray,List.set_cons_zero,List.set_cons_succ,i64_w,i32_w]
   rfl
  refine pu_ 7 (some 22) #[true,true,true,true,true,true,true,true,false,false] ?_
  refine one_ (i:=8) (N:=none) #[true,true,true,true,true,true,true,true,true,false] rfl rfl (one_of HT_.out kr_) de_ (fun K hK=>?_)
  have hs19:w18.cell? ⟨gb104,0,none⟩ = some (.bool false):=(blk_cell BK104.out 0).trans rfl
  have hfs19:=blk_frozen BK104.out 0
  have hns19_1:=NB107_104.out
  have hms19_1:=NB104_107.out
  have hs20:w18.cell? ⟨gb104,1,none⟩ = some (.string (⟨#[]⟩:ByteArray)):=(blk_cell BK104.out 1).trans rfl
  have hfs20:=blk_frozen BK104.out 1
  have hns20_1:=NB107_104.out
  have hms20_1:=NB104_107.out
  refine skip_ (w1:=?_) (by rfl) rfl ?_ ?_
  rotate_left
  ·go_simp
   rfl
  refine hK.out _ _ ⟨((cell_far (p:=⟨gb104,_,none⟩) NB107_104.out _).trans (((cell_far (p:=⟨gb104,_,none⟩) NB107_104.out _).trans (hHeld.1)))),((cell_far (p:=⟨gb104,_,none⟩) NB107_104.out _).trans (((cell_far (p:=⟨gb104,_,none⟩) NB107_104.out _).trans (hHeld.2))))⟩ (fun hHeld=>?_)
  clear hK K
  refine pu_ 9 (some 3) #[true,true,true,true,true,true,true,true,true,true] ?_
  refine done_ (done_of HT_.out kr_) ?_
  try go_wp2
  refine bodyPost_ret (results_ct rfl _ _ gb104 43 #[.bool t106,.string t105] (0,0) _ rfl bk_ Tryz.underlying43 rfl kr_) rfl ?_
  exact ⟨rf_,bx_⟩
end Go.Proofs.YtaknchlegjcdhaaGreatDoor.Pr
namespace Go.Proofs.YtaknchlegjcdhaaGreatDoor.Pr
open Go.RowKit Go.Proofs.YtaknchlegjcdhaaGreatDoorW.PrintWords Go.Proofs.YtaknchlegjcdhaaGreatDoorW.PrintLast Go.Proofs.YtaknchlegjcdhaaGreatDoorW.PrintMore
attribute [local go_sem] max2_int min2_int max_two min_two max_three min_three max_four min_four
set_option maxHeartbeats 8000000
set_option maxRecDepth 100000
set_option linter.unusedVariables false
set_option linter.unusedSimpArgs false
def integer_zero.f :Option (Bool × ByteArray):=some (false,(⟨#[48]⟩:ByteArray))
theorem integer_zero.calls  (r1:Bool) (r2:ByteArray) (w:World) (h:integer_zero.f  = some (r1,r2)) :
  Calls Tryz.prog 59 #[] w fun e w'=>e = .returned (.agg #[.bool r1,.string r2])∧Below w.heap.size w w':=by
 have hu43:=Tryz.underlying43
 have HB:=Aside0.mk (Below.refl w.heap.size w)
 have H:(some (false,(⟨#[48]⟩:ByteArray))) = some (r1,r2):=h
 clear h
 simp only [Option.some.injEq,Prod.mk.injEq] at H
 obtain ⟨rfl,rfl⟩:=H
 go_enter Tryz.func59,Tryz.ntmps59
 go_wp2_with (first|((with_reducible refine gate_dst (N:=0) rfl ?_);refine bv_ #[.bool false,.string (⟨#[]⟩:ByteArray)] 43 ?_;clear HB;intro gb109 hg w1 BK109 GE109 hb HB;clear hb hg;obtain ⟨hcz2_0,hcz2_1,hfz2_0,hfz2_1⟩:=c2_ BK109))
 refine bodyPost_ret (results_cell_row rfl _ _ gb109 43 #[.bool false,.string (⟨#[48]⟩:ByteArray)] (0,0) _ rfl bk_ Tryz.underlying43 rfl kr_) rfl ?_
 exact ⟨rf_,bx_⟩
end Go.Proofs.YtaknchlegjcdhaaGreatDoor.Pr
namespace Go.Proofs.YtaknchlegjcdhaaGreatDoor.Pr
open Go.RowKit Go.Proofs.YtaknchlegjcdhaaGreatDoorW.PrintWords Go.Proofs.YtaknchlegjcdhaaGreatDoorW.PrintLast Go.Proofs.YtaknchlegjcdhaaGreatDoorW.PrintMore
attribute [local go_sem] max2_int min2_int max_two min_two max_three min_three max_four min_four
set_option maxHeartbeats 8000000
set_option maxRecDepth 100000
set_option linter.unusedVariables false
set_option linter.unusedSimpArgs false
def integer_both.j0:Nat→Bool→Bool→ByteArray→Bool→ByteArray→Option (Bool × ByteArray × Bool × ByteArray × Int)
 | 0,_,_,_,_,_=>none
 | k + 1,x26,x116000,x116001,x120000,x120001=>if x26 = true then ((integer_zero.f).bind fun bt120=>((integer_zero.f).bind fun bt122=>(some (bt120.1,bt120.2,bt122.1,bt122.2,1)))) else (some (x116000,x116001,x120000,x120001,0))
def integer_both.f (k:Nat) (a0:ByteArray) (a1:ByteArray):Option (Bool × ByteArray × Bool × ByteArray × Int):=(integer_read.f k a0).bind fun bt112=>((integer_read.f k a1).bind fun bt116=>(if bt112.2.2 = true then (integer_both.j0 k (!bt116.2.2) bt112.1 bt112.2.1 bt116.1 bt116.2.1) else (integer_both.j0 k true bt112.1 bt112.2.1 bt116.1 bt116.2.1)))
theorem integer_both.mono_l:∀ k,(∀ y0 y1 y2 y3 y4,LeO (integer_both.j0 k y0 y1 y2 y3 y4) (integer_both.j0 (k + 1) y0 y1 y2 y3 y4))
 | 0=>fun _ _ _ _ _ r h=>by simp [integer_both.j0] at h
 | k + 1=>by
  have ih0:=integer_both.mono_l k
  ·intro y0 y1 y2 y3 y4
   unfold integer_both.j0
   repeat' first
   | (with_reducible exact ih0 _ _ _ _ _)
   | (with_reducible exact integer_read.mono _ _)
   | (with_reducible exact LeO.refl _)
   | (with_reducible exact LeO.none _)
   | (with_reducible refine LeO.ite ?_ ?_)
   | (with_reducible refine LeO.bind ?_ (fun _=>?_))
   | exact ih0 _ _ _ _ _
   | exact integer_read.mono _ _
   | exact LeO.none _
   | refine LeO.ite ?_ ?_
   | refine LeO.bind ?_ (fun _=>?_)
theorem integer_both.mono:∀ a0 a1 k,LeO (integer_both.f k a0 a1) (integer_both.f (k + 1) a0 a1):=by
 intro a0 a1 k
 have ih0:=integer_both.mono_l k
 unfold integer_both.f
 repeat' first
   | (with_reducible exact ih0 _ _ _ _ _)
   | (with_reducible exact integer_read.mono _ _)
   | (with_reducible exact LeO.refl _)
   | (with_reducible exact LeO.none _)
   | (with_reducible refine LeO.ite ?_ ?_)
   | (with_reducible refine LeO.bind ?_ (fun _=>?_))
   | exact ih0 _ _ _ _ _
   | exact integer_read.mono _ _
   | exact LeO.none _
   | refine LeO.ite ?_ ?_
   | refine LeO.bind ?_ (fun _=>?_)
theorem integer_both.calls (k:Nat) (a0:ByteArray) (a1:ByteArray) (r1:Bool) (r2:ByteArray) (r3:Bool) (r4:ByteArray) (r5:Int) (w:World) (h:integer_both.f k a0 a1 = some (r1,r2,r3,r4,r5)) :
  Calls Tryz.prog 51 #[.string a0,.string a1] w fun e w'=>e = .returned (.tuple #[.agg #[.bool r1,.string r2],.agg #[.bool r3,.string r4],.int .i64 r5])∧Below w.heap.size w w':=by
 have hu43:=Tryz.underlying43
 have HB:=Aside0.mk (Below.refl w.heap.size w)
 have H:((integer_read.f k a0).bind fun bt112=>((integer_read.f k a1).bind fun bt116=>(if bt112.2.2 = true then (integer_both.j0 k (!bt116.2.2) bt112.1 bt112.2.1 bt116.1 bt116.2.1) else (integer_both.j0 k true bt112.1 bt112.2.1 bt116.1 bt116.2.1)))) = some (r1,r2,r3,r4,r5):=h
 clear h
 obtain ⟨⟨t112,t113,t114⟩,A3,H⟩:=bn_ H
 dsimp only at H
 obtain ⟨⟨t116,t117,t118⟩,A4,H⟩:=bn_ H
 dsimp only at H
 have HC5:=Aside0.mk H
 clear H
 go_enter Tryz.func51,Tryz.ntmps51
 go_upto_region 3 with (first|((with_reducible refine gate_dst (N:=4) rfl ?_);refine bv_ #[.bool false,.string (⟨#[]⟩:ByteArray)] 43 ?_;clear HB;intro gb110 hg w6 BK110 GE110 hb HB;clear hb hg)|((with_reducible refine gate_dst (N:=5) rfl ?_);refine bv_ #[.bool false,.string (⟨#[]⟩:ByteArray)] 43 ?_;clear HB;intro gb111 hg w7 BK111 GE111 hb HB;have x_:=ol_ BK110 hg hb;clear BK110;obtain ⟨BK110,NB110_111,NB111_110⟩:=x_;clear hb hg)|((with_reducible refine gate_callee (f:=48) rfl ?_);refine gl_ (some 13) Tryz.func48 #[.string a0] (integer_read.calls k a0 t112 t113 t114 _ A3.out) ?_;clear HB;intro w8 hb HB;replace BK110:=bb_ BK110 hb;replace BK111:=bb_ BK111 hb;clear hb)|((with_reducible refine gate_dst (N:=7) rfl ?_);refine bv_ #[.bool false,.string (⟨#[]⟩:ByteArray)] 43 ?_;clear HB;intro gb115 hg w9 BK115 GE115 hb HB;have x_:=ol_ BK110 hg hb;clear BK110;obtain ⟨BK110,NB110_115,NB115_110⟩:=x_;have x_:=ol_ BK111 hg hb;clear BK111;obtain ⟨BK111,NB111_115,NB115_111⟩:=x_;clear hb hg;have hnb10:=NB115_110.out;have hnc10:=NB110_115.out;have hnb11:=NB115_111.out;have hnc11:=NB111_115.out;obtain ⟨hcz12_0,hcz12_1,hfz12_0,hfz12_1⟩:=c2_ BK115)|((with_reducible refine gate_callee (f:=48) rfl ?_);refine gm_ (some 18) Tryz.func48 #[.string a1] ?_;(with_reducible refine (integer_read.calls k a1 t116 t117 t118 _ A4.out).mono ?_);rintro e w13 ⟨rfl,hb⟩;refine ⟨_,rfl,?_⟩;replace BK110:=Aside0.mk (blk_below (g:=gb110) (o:=.cells #[.bool false,.string (⟨#[]⟩:ByteArray)] 43 (0,0)) bk_ hb);replace BK111:=Aside0.mk (blk_below (g:=gb111) (o:=.cells #[.bool false,.string (⟨#[]⟩:ByteArray)] 43 (0,0)) bk_ hb);replace BK115:=Aside0.mk (blk_below (g:=gb115) (o:=.cells #[.bool t112,.string t113] 43 (0,0)) bk_ hb);replace HB:=bs_ hb;(try clear hb))|((with_reducible refine gate_dst (N:=9) rfl ?_);refine bv_ #[.bool false,.string (⟨#[]⟩:ByteArray)] 43 ?_;clear HB;intro gb119 hg w14 BK119 GE119 hb HB;have x_:=ol_ BK110 hg hb;clear BK110;obtain ⟨BK110,NB110_119,NB119_110⟩:=x_;have x_:=ol_ BK111 hg hb;clear BK111;obtain ⟨BK111,NB111_119,NB119_111⟩:=x_;have x_:=ol_ BK115 hg hb;clear BK115;obtain ⟨BK115,NB115_119,NB119_115⟩:=x_;clear hb hg;have hnb15:=NB119_110.out;have hnc15:=NB110_119.out;have hnb16:=NB119_111.out;have hnc16:=NB111_119.out;have hnb17:=NB119_115.out;have hnc17:=NB115_119.out;obtain ⟨hcz18_0,hcz18_1,hfz18_0,hfz18_1⟩:=c2_ BK119))
 (try simp only [Act.put,List.setIfInBounds_toArray,List.set_cons_zero,List.set_cons_succ])
 go_cut [26] (fun v26 wc=>∃ (kq:Nat) (x26_4:Bool),v26 = .bool x26_4∧Aside0 (integer_both.j0 kq x26_4 t112 t113 t116 t117 = some (r1,r2,r3,r4,r5))∧Aside0 (kq≤k)∧Aside0 (wc.heap[gb110]? = some (.cells #[.bool false,.string (⟨#[]⟩:ByteArray)] 43 (0,0)))∧Aside0 (wc.heap[gb111]? = some (.cells #[.bool false,.string (⟨#[]⟩:ByteArray)] 43 (0,0)))∧Aside0 (wc.heap[gb115]? = some (.cells #[.bool t112,.string t113] 43 (0,0)))∧Aside0 (wc.heap[gb119]? = some (.cells #[.bool t116,.string t117] 43 (0,0)))∧Aside0 (Below w.heap.size w wc))
 case first =>
  have H:=HC5.out
  clear HC5
  by_cases c19:t114 = true
  ·subst c19
   have H1:(integer_both.j0 k (!t118) t112 t113 t116 t117) = some (r1,r2,r3,r4,r5):=by rw [if_pos rfl] at H;exact H
   clear H
   have H:=H1
   clear H1
   have H':=Aside0.mk H
   clear H
   go_wp2
   go_meet
   case rel=>exact ⟨_,(!t118),(by first|rfl|(simp;done)|(simp [*];done)),H',⟨by first|omega|exact Nat.le_refl _⟩,⟨bk_⟩,⟨bk_⟩,⟨bk_⟩,⟨bk_⟩,⟨bx_⟩⟩
  ·replace c19:=Bool.eq_false_iff.mpr c19
   subst c19
   have H1:(integer_both.j0 k true t112 t113 t116 t117) = some (r1,r2,r3,r4,r5):=by rw [if_neg (show ¬ (false = true) by decide)] at H;exact H
   clear H
   have H:=H1
   clear H1
   have H':=Aside0.mk H
   clear H
   go_wp2
   go_meet
   case rel=>exact ⟨_,(true),(by first|rfl|(simp;done)|(simp [*];done)),H',⟨by first|omega|exact Nat.le_refl _⟩,⟨bk_⟩,⟨bk_⟩,⟨bk_⟩,⟨bk_⟩,⟨bx_⟩⟩
 case rest =>
  clear HC5
  try clear c1
  try clear p2
  try clear c4
  try clear c5
  try clear c10
  try clear c11
  try clear c15
  try clear c16
  try clear c17
  try clear c19
  try clear hcz12_0
  try clear hcz12_1
  try clear hcz18_0
  try clear hcz18_1
  try clear hfz12_0
  try clear hfz12_1
  try clear hfz18_0
  try clear hfz18_1
  obtain ⟨kq,x26_4,rfl,HA,HJ4,BK110,BK111,BK115,BK119,HB⟩:=hcut
  cases kq with
  | zero=>exact absurd HA.out (by simp [integer_both.j0])
  | succ kj4 =>
   have H:=HA.out
   clear HA
   simp only [integer_both.j0] at H
   by_cases c20:x26_4 = true
   ·subst c20
    have H1:((integer_zero.f).bind fun bt120=>((integer_zero.f).bind fun bt122=>(some (bt120.1,bt120.2,bt122.1,bt122.2,1)))) = some (r1,r2,r3,r4,r5):=by rw [if_pos rfl] at H;exact H
    clear H
    have H:=H1
    clear H1
    obtain ⟨⟨t120,t121⟩,A21,H⟩:=bn_ H
    dsimp only at H
    obtain ⟨⟨t122,t123⟩,A22,H⟩:=bn_ H
    dsimp only at H
    simp only [Option.some.injEq,Prod.mk.injEq] at H
    obtain ⟨rfl,rfl,rfl,rfl,rfl⟩:=H
    go_wp2_with (first|((with_reducible refine gate_callee (f:=59) rfl ?_);refine gl_ (some 27) Tryz.func59 #[] (integer_zero.calls  t120 t121 _ A21.out) ?_;clear HB;intro w23 hb HB;replace BK110:=bb_ BK110 hb;replace BK111:=bb_ BK111 hb;replace BK115:=bb_ BK115 hb;replace BK119:=bb_ BK119 hb;clear hb)|((with_reducible refine gate_callee (f:=59) rfl ?_);refine gl_ (some 28) Tryz.func59 #[] (integer_zero.calls  t122 t123 _ A22.out) ?_;clear HB;intro w24 hb HB;replace BK110:=bb_ BK110 hb;replace BK111:=bb_ BK111 hb;replace BK115:=bb_ BK115 hb;replace BK119:=bb_ BK119 hb;clear hb;have hnb25:=NB110_111.out;have hnc25:=NB111_110.out;have hnb26:=NB110_115.out;have hnc26:=NB115_110.out;have hnb27:=NB110_119.out;have hnc27:=NB119_110.out;obtain ⟨hcz28_0,hcz28_1,hfz28_0,hfz28_1⟩:=c2_ BK110;have hnb29:=NB111_115.out;have hnc29:=NB115_111.out;have hnb30:=NB111_119.out;have hnc30:=NB119_111.out;obtain ⟨hcz31_0,hcz31_1,hfz31_0,hfz31_1⟩:=c2_ BK111))
    refine bodyPost_ret (results_list (rs:=[.cell 4 43,.cell 5 43,.tmp 6]) rfl sm_ (.cell gb110 43 #[.bool t120,.string t121] (0,0) _ rfl bk_ Tryz.underlying43 rfl kr_ (.cell gb111 43 #[.bool t122,.string t123] (0,0) _ rfl bk_ Tryz.underlying43 rfl kr_ (.tmp .nil)))) rfl ?_
    exact ⟨rf_,bx_⟩
   ·replace c20:=Bool.eq_false_iff.mpr c20
    subst c20
    have H1:(some (t112,t113,t116,t117,0)) = some (r1,r2,r3,r4,r5):=by rw [if_neg (show ¬ (false = true) by decide)] at H;exact H
    clear H
    have H:=H1
    clear H1
    simp only [Option.some.injEq,Prod.mk.injEq] at H
    obtain ⟨rfl,rfl,rfl,rfl,rfl⟩:=H
    try go_wp2
    replace BK110:=dr_ BK110
    replace BK111:=dr_ BK111
    replace BK115:=dr_ BK115
    replace BK119:=dr_ BK119
    replace HB:=db_ HB
    refine start_ (n:=5) (S:=fun w'=>w'.cell? ⟨gb115,0,none⟩ = some (.bool t112)∧w'.cell? ⟨gb115,1,none⟩ = some (.string t113)∧w'.cell? ⟨gb119,0,none⟩ = some (.bool t116)∧w'.cell? ⟨gb119,1,none⟩ = some (.string t117)) (ds:=[]) #[false,false,false,false,false] kr_ rfl rfl hc_ (fun hHeld=>?_)
    generalize wc.drew = w32 at BK110 BK111 BK115 BK119 HB hHeld ⊢
    refine tk4_ 0 (some 29) #[true,false,false,false,false] hHeld ?_
    refine tk4_ 1 (some 30) #[true,true,false,false,false] hHeld ?_
    refine one_ (i:=2) (N:=none) #[true,true,true,false,false] rfl rfl kr_ de_ (fun K hK=>?_)
    have hs33:w32.cell? ⟨gb110,0,none⟩ = some (.bool false):=(blk_cell BK110.out 0).trans rfl
    have hfs33:=blk_frozen BK110.out 0
    have hns33_1:=NB111_110.out
    have hns33_2:=NB115_110.out
    have hns33_3:=NB119_110.out
    have hms33_1:=NB110_111.out
    have hms33_2:=NB110_115.out
    have hms33_3:=NB110_119.out
    have hs34:w32.cell? ⟨gb110,1,none⟩ = some (.string (⟨#[]⟩:ByteArray)):=(blk_cell BK110.out 1).trans rfl
    have hfs34:=blk_frozen BK110.out 1
    have hns34_1:=NB111_110.out
    have hns34_2:=NB115_110.out
    have hns34_3:=NB119_110.out
    have hms34_1:=NB110_111.out
    have hms34_2:=NB110_115.out
    have hms34_3:=NB110_119.out
    refine skip_ (w1:=?_) (by rfl) rfl ?_ ?_
    rotate_left
    ·go_simp
     rfl
    refine hK.out _ _ ⟨((cell_far (p:=⟨gb110,_,none⟩) NB115_110.out _).trans (((cell_far (p:=⟨gb110,_,none⟩) NB115_110.out _).trans (hHeld.1)))),((cell_far (p:=⟨gb110,_,none⟩) NB115_110.out _).trans (((cell_far (p:=⟨gb110,_,none⟩) NB115_110.out _).trans (hHeld.2.1)))),((cell_far (p:=⟨gb110,_,none⟩) NB119_110.out _).trans (((cell_far (p:=⟨gb110,_,none⟩) NB119_110.out _).trans (hHeld.2.2.1)))),((cell_far (p:=⟨gb110,_,none⟩) NB119_110.out _).trans (((cell_far (p:=⟨gb110,_,none⟩) NB119_110.out _).trans (hHeld.2.2.2))))⟩ (fun hHeld=>?_)
    clear hK K
    refine one_ (i:=3) (N:=none) #[true,true,true,true,false] rfl rfl kr_ de_ (fun K hK=>?_)
    have hs35:w32.cell? ⟨gb111,0,none⟩ = some (.bool false):=(blk_cell BK111.out 0).trans rfl
    have hfs35:=blk_frozen BK111.out 0
    have hns35_0:=NB110_111.out
    have hns35_2:=NB115_111.out
    have hns35_3:=NB119_111.out
    have hms35_0:=NB111_110.out
    have hms35_2:=NB111_115.out
    have hms35_3:=NB111_119.out
    have hs36:w32.cell? ⟨gb111,1,none⟩ = some (.string (⟨#[]⟩:ByteArray)):=(blk_cell BK111.out 1).trans rfl
    have hfs36:=blk_frozen BK111.out 1
    have hns36_0:=NB110_111.out
    have hns36_2:=NB115_111.out
    have hns36_3:=NB119_111.out
    have hms36_0:=NB111_110.out
    have hms36_2:=NB111_115.out
    have hms36_3:=NB111_119.out
    refine skip_ (w1:=?_) (by rfl) rfl ?_ ?_
    rotate_left
    ·go_simp
     rfl
    refine hK.out _ _ ⟨((cell_far (p:=⟨gb111,_,none⟩) NB115_111.out _).trans (((cell_far (p:=⟨gb111,_,none⟩) NB115_111.out _).trans (hHeld.1)))),((cell_far (p:=⟨gb111,_,none⟩) NB115_111.out _).trans (((cell_far (p:=⟨gb111,_,none⟩) NB115_111.out _).trans (hHeld.2.1)))),((cell_far (p:=⟨gb111,_,none⟩) NB119_111.out _).trans (((cell_far (p:=⟨gb111,_,none⟩) NB119_111.out _).trans (hHeld.2.2.1)))),((cell_far (p:=⟨gb111,_,none⟩) NB119_111.out _).trans (((cell_far (p:=⟨gb111,_,none⟩) NB119_111.out _).trans (hHeld.2.2.2))))⟩ (fun hHeld=>?_)
    clear hK K
    refine pu_ 4 (some 6) #[true,true,true,true,true] ?_
    refine done_ kr_ ?_
    try go_wp2
    refine bodyPost_ret (results_list (rs:=[.cell 4 43,.cell 5 43,.tmp 6]) rfl sm_ (.cell gb110 43 #[.bool t112,.string t113] (0,0) _ rfl bk_ Tryz.underlying43 rfl kr_ (.cell gb111 43 #[.bool t116,.string t117] (0,0) _ rfl bk_ Tryz.underlying43 rfl kr_ (.tmp .nil)))) rfl ?_
    exact ⟨rf_,bx_⟩
end Go.Proofs.YtaknchlegjcdhaaGreatDoor.Pr
namespace Go.Proofs.YtaknchlegjcdhaaGreatDoor.Pr
open Go.RowKit Go.Proofs.YtaknchlegjcdhaaGreatDoorW.PrintWords Go.Proofs.YtaknchlegjcdhaaGreatDoorW.PrintLast Go.Proofs.YtaknchlegjcdhaaGreatDoorW.PrintMore
attribute [local go_sem] max2_int min2_int max_two min_two max_three min_three max_four min_four
set_option maxHeartbeats 8000000
set_option maxRecDepth 100000
set_option linter.unusedVariables false
set_option linter.unusedSimpArgs false
def integer_one.f (k:Nat) (a0:ByteArray):Option (Bool × ByteArray × Int):=(integer_both.f k a0 (⟨#[48]⟩:ByteArray)).bind fun bt125=>(some (bt125.1,bt125.2.1,bt125.2.2.2.2))
theorem integer_one.mono:∀ a0 k,LeO (integer_one.f k a0) (integer_one.f (k + 1) a0):=by intro a0 k;unfold integer_one.f;have:=@integer_both.mono;exact mn_
theorem integer_one.calls (k:Nat) (a0:ByteArray) (r1:Bool) (r2:ByteArray) (r3:Int) (w:World) (h:integer_one.f k a0 = some (r1,r2,r3)) :
  Calls Tryz.prog 39 #[.string a0] w fun e w'=>e = .returned (.tuple #[.agg #[.bool r1,.string r2],.int .i64 r3])∧Below w.heap.size w w':=by
 have hu43:=Tryz.underlying43
 have HB:=Aside0.mk (Below.refl w.heap.size w)
 have H:((integer_both.f k a0 (⟨#[48]⟩:ByteArray)).bind fun bt125=>(some (bt125.1,bt125.2.1,bt125.2.2.2.2))) = some (r1,r2,r3):=h
 clear h
 obtain ⟨⟨t125,t126,t127,t128,t129⟩,A2,H⟩:=bn_ H
 dsimp only at H
 simp only [Option.some.injEq,Prod.mk.injEq] at H
 obtain ⟨rfl,rfl,rfl⟩:=H
 go_enter Tryz.func39,Tryz.ntmps39
 go_wp2_with (first|((with_reducible refine gate_dst (N:=2) rfl ?_);refine bv_ #[.bool false,.string (⟨#[]⟩:ByteArray)] 43 ?_;clear HB;intro gb124 hg w3 BK124 GE124 hb HB;clear hb hg)|((with_reducible refine gate_callee (f:=51) rfl ?_);refine gl_ (some 9) Tryz.func51 #[.string a0,.string (⟨#[48]⟩:ByteArray)] (integer_both.calls k a0 (⟨#[48]⟩:ByteArray) t125 t126 t127 t128 t129 _ A2.out) ?_;clear HB;intro w4 hb HB;replace BK124:=bb_ BK124 hb;clear hb)|((with_reducible refine gate_dst (N:=4) rfl ?_);refine bv_ #[.bool false,.string (⟨#[]⟩:ByteArray)] 43 ?_;clear HB;intro gb130 hg w5 BK130 GE130 hb HB;have x_:=ol_ BK124 hg hb;clear BK124;obtain ⟨BK124,NB124_130,NB130_124⟩:=x_;clear hb hg)|((with_reducible refine gate_dst (N:=5) rfl ?_);refine bv_ #[.bool false,.string (⟨#[]⟩:ByteArray)] 43 ?_;clear HB;intro gb131 hg w6 BK131 GE131 hb HB;have x_:=ol_ BK124 hg hb;clear BK124;obtain ⟨BK124,NB124_131,NB131_124⟩:=x_;have x_:=ol_ BK130 hg hb;clear BK130;obtain ⟨BK130,NB130_131,NB131_130⟩:=x_;clear hb hg;have hnb7:=NB130_124.out;have hnc7:=NB124_130.out;have hnb8:=NB130_131.out;have hnc8:=NB131_130.out;obtain ⟨hcz9_0,hcz9_1,hfz9_0,hfz9_1⟩:=c2_ BK130;have hnb10:=NB131_124.out;have hnc10:=NB124_131.out;obtain ⟨hcz11_0,hcz11_1,hfz11_0,hfz11_1⟩:=c2_ BK131;obtain ⟨hcz12_0,hcz12_1,hfz12_0,hfz12_1⟩:=c2_ BK124))
 refine bodyPost_ret (results_ct rfl _ _ gb124 43 #[.bool t125,.string t126] (0,0) _ rfl bk_ Tryz.underlying43 rfl kr_) rfl ?_
 exact ⟨rf_,bx_⟩
end Go.Proofs.YtaknchlegjcdhaaGreatDoor.Pr
namespace Go.Proofs.YtaknchlegjcdhaaGreatDoor.Pr
open Go.RowKit Go.Proofs.YtaknchlegjcdhaaGreatDoorW.PrintWords Go.Proofs.YtaknchlegjcdhaaGreatDoorW.PrintLast Go.Proofs.YtaknchlegjcdhaaGreatDoorW.PrintMore
attribute [local go_sem] max2_int min2_int max_two min_two max_three min_three max_four min_four
set_option maxHeartbeats 8000000
set_option maxRecDepth 100000
set_option linter.unusedVariables false
set_option linter.unusedSimpArgs false
attribute [local go_sem high] eqA43
def integer_number_sign.f (a0_0:Bool) (a0_1:ByteArray):Option (Int):=(integer_zero.f).bind fun bt133=>(if (a0_0 == bt133.1 && (a0_1.toList == bt133.2.toList)) = true then (some 0) else (if a0_0 = true then (some (-1)) else (some 1)))
theorem integer_number_sign.calls (a0_0:Bool) (a0_1:ByteArray) (r:Int) (w:World) (h:integer_number_sign.f a0_0 a0_1 = some r) :
  Calls Tryz.prog 40 #[.agg #[.bool a0_0,.string a0_1]] w fun e w'=>e = .returned (.int .i64 r)∧Below w.heap.size w w':=by
 have hu43:=Tryz.underlying43
 have HB:=Aside0.mk (Below.refl w.heap.size w)
 have H:((integer_zero.f).bind fun bt133=>(if (a0_0 == bt133.1 && (a0_1.toList == bt133.2.toList)) = true then (some 0) else (if a0_0 = true then (some (-1)) else (some 1)))) = some r:=h
 clear h
 obtain ⟨⟨t133,t134⟩,A2,H⟩:=bn_ H
 dsimp only at H
 by_cases c3:(a0_0 == t133 && (a0_1.toList == t134.toList)) = true
 ·rw [if_pos c3] at H
  have c3b0:(a0_0 == t133 && (a0_1.toList == t134.toList)) = true:=c3
  (try (have c3b1:decide (a0_0 = t133 && (a0_1.toList == t134.toList)) = true:=by simpa using c3))
  (try (have c3b2:(a0_0 == t133 && (a0_1.toList == t134.toList)) = true:=by simpa using c3))
  clear c3
  obtain rfl:=Option.some.inj H
  go_enter Tryz.func40,Tryz.ntmps40
  try go_wp2_with (first|((with_reducible refine gate_dst (N:=1) rfl ?_);refine bv_ #[.bool a0_0,.string a0_1] 43 ?_;clear HB;intro gb132 hg w4 BK132 GE132 hb HB;clear hb hg))
  replace BK132:=dr_ BK132
  replace HB:=db_ HB
  refine start_ (n:=4) (S:=fun w'=>w'.cell? ⟨gb132,0,none⟩ = some (.bool a0_0)∧w'.cell? ⟨gb132,1,none⟩ = some (.string a0_1)) (ds:=[]) #[false,false,false,false] kr_ rfl rfl hc_ (fun hHeld=>?_)
  generalize w4.drew = w5 at BK132 HB hHeld ⊢
  refine tk2_ 0 (some 4) #[true,false,false,false] hHeld ?_
  refine oc_ 1 (some 5) #[true,true,false,false] Tryz.func59 #[] (fun K hK=>?_)
  with_reducible refine (integer_zero.calls  t133 t134 _ A2.out).mono ?_
  rintro e w6 ⟨rfl,hb⟩
  refine ⟨_,rfl,?_⟩
  replace BK132:=bb_ BK132 hb
  replace HB:=bs_ hb
  (try clear hb)
  refine hk_ hK (fun hHeld=>?_);clear hK K
  refine pu_ 2 (some 6) #[true,true,true,false] ?_
  refine pu_ 3 (some 3) #[true,true,true,true] ?_
  refine done_ kr_ ?_
  try go_wp2
  go_ret
  exact ⟨rf_,bx_⟩
 ·rw [if_neg c3] at H
  have c3b0:(a0_0 == t133 && (a0_1.toList == t134.toList)) = false:=by simpa using c3
  (try (have c3b1:decide (a0_0 = t133 && (a0_1.toList == t134.toList)) = false:=by simpa using c3))
  (try (have c3b2:(a0_0 == t133 && (a0_1.toList == t134.toList)) = false:=by simpa using c3))
  (try (have c3b3:¬ (a0_0 = t133 && (a0_1.toList == t134.toList)):=by simpa using c3))
  clear c3
  by_cases c7:a0_0 = true
  ·subst c7
   have c3b9:¬ (t133 = true∧(a0_1.toList == t134.toList) = true):=by
    rintro ⟨e1,e⟩
    simp [e1,e] at c3b0
   have H1:(some (-1)) = some r:=by rw [if_pos rfl] at H;exact H
   clear H
   have H:=H1
   clear H1
   obtain rfl:=Option.some.inj H
   go_enter Tryz.func40,Tryz.ntmps40
   try go_wp2_with (first|((with_reducible refine gate_dst (N:=1) rfl ?_);refine bv_ #[.bool true,.string a0_1] 43 ?_;clear HB;intro gb132 hg w8 BK132 GE132 hb HB;clear hb hg))
   replace BK132:=dr_ BK132
   replace HB:=db_ HB
   refine start_ (n:=4) (S:=fun w'=>w'.cell? ⟨gb132,0,none⟩ = some (.bool true)∧w'.cell? ⟨gb132,1,none⟩ = some (.string a0_1)) (ds:=[]) #[false,false,false,false] kr_ rfl rfl hc_ (fun hHeld=>?_)
   generalize w8.drew = w9 at BK132 HB hHeld ⊢
   refine tk2_ 0 (some 4) #[true,false,false,false] hHeld ?_
   refine oc_ 1 (some 5) #[true,true,false,false] Tryz.func59 #[] (fun K hK=>?_)
   with_reducible refine (integer_zero.calls  t133 t134 _ A2.out).mono ?_
   rintro e w10 ⟨rfl,hb⟩
   refine ⟨_,rfl,?_⟩
   replace BK132:=bb_ BK132 hb
   replace HB:=bs_ hb
   (try clear hb)
   refine hk_ hK (fun hHeld=>?_);clear hK K
   refine pu_ 2 (some 6) #[true,true,true,false] ?_
   refine pu_ 3 (some 3) #[true,true,true,true] ?_
   refine done_ kr_ ?_
   obtain ⟨hcz11_0,hcz11_1,hfz11_0,hfz11_1⟩:=c2_ BK132
   try go_wp2
   all_goals first
    | (exfalso;rename_i hx;exact c3b9 hx)
    | (go_ret;exact ⟨rf_,bx_⟩)
  ·replace c7:=Bool.eq_false_iff.mpr c7
   subst c7
   have c3b9:¬ ((!t133) = true∧(a0_1.toList == t134.toList) = true):=by
    rintro ⟨e1,e⟩
    simp only [Bool.not_eq_true'] at e1
    simp [e1,e] at c3b0
   have H1:(some 1) = some r:=by rw [if_neg (show ¬ (false = true) by decide)] at H;exact H
   clear H
   have H:=H1
   clear H1
   obtain rfl:=Option.some.inj H
   go_enter Tryz.func40,Tryz.ntmps40
   try go_wp2_with (first|((with_reducible refine gate_dst (N:=1) rfl ?_);refine bv_ #[.bool false,.string a0_1] 43 ?_;clear HB;intro gb132 hg w12 BK132 GE132 hb HB;clear hb hg))
   replace BK132:=dr_ BK132
   replace HB:=db_ HB
   refine start_ (n:=4) (S:=fun w'=>w'.cell? ⟨gb132,0,none⟩ = some (.bool false)∧w'.cell? ⟨gb132,1,none⟩ = some (.string a0_1)) (ds:=[]) #[false,false,false,false] kr_ rfl rfl hc_ (fun hHeld=>?_)
   generalize w12.drew = w13 at BK132 HB hHeld ⊢
   refine tk2_ 0 (some 4) #[true,false,false,false] hHeld ?_
   refine oc_ 1 (some 5) #[true,true,false,false] Tryz.func59 #[] (fun K hK=>?_)
   with_reducible refine (integer_zero.calls  t133 t134 _ A2.out).mono ?_
   rintro e w14 ⟨rfl,hb⟩
   refine ⟨_,rfl,?_⟩
   replace BK132:=bb_ BK132 hb
   replace HB:=bs_ hb
   (try clear hb)
   refine hk_ hK (fun hHeld=>?_);clear hK K
   refine pu_ 2 (some 6) #[true,true,true,false] ?_
   refine pu_ 3 (some 3) #[true,true,true,true] ?_
   refine done_ kr_ ?_
   obtain ⟨hcz15_0,hcz15_1,hfz15_0,hfz15_1⟩:=c2_ BK132
   try go_wp2
   all_goals first
    | (exfalso;rename_i hx;exact c3b9 hx)
    | (go_ret;exact ⟨rf_,bx_⟩)
end Go.Proofs.YtaknchlegjcdhaaGreatDoor.Pr
namespace Go.Proofs.YtaknchlegjcdhaaGreatDoor.Pr
open Go.RowKit Go.Proofs.YtaknchlegjcdhaaGreatDoorW.PrintWords Go.Proofs.YtaknchlegjcdhaaGreatDoorW.PrintLast Go.Proofs.YtaknchlegjcdhaaGreatDoorW.PrintMore
attribute [local go_sem] max2_int min2_int max_two min_two max_three min_three max_four min_four
set_option maxHeartbeats 8000000
set_option maxRecDepth 100000
set_option linter.unusedVariables false
set_option linter.unusedSimpArgs false
def integer_Sign.f (k:Nat) (a0:ByteArray):Option (Int × Int):=(integer_one.f k a0).bind fun bt135=>((integer_number_sign.f bt135.1 bt135.2.1).bind fun t139=>(some (t139,bt135.2.2)))
theorem integer_Sign.mono:∀ a0 k,LeO (integer_Sign.f k a0) (integer_Sign.f (k + 1) a0):=by intro a0 k;unfold integer_Sign.f;have:=@integer_one.mono;exact mn_
theorem integer_Sign.calls (k:Nat) (a0:ByteArray) (r1:Int) (r2:Int) (w:World) (h:integer_Sign.f k a0 = some (r1,r2)) :
  Calls Tryz.prog 12 #[.string a0] w fun e w'=>e = .returned (.tuple #[.int .i64 r1,.int .i64 r2])∧Below w.heap.size w w':=by
 have hu43:=Tryz.underlying43
 have HB:=Aside0.mk (Below.refl w.heap.size w)
 have H:((integer_one.f k a0).bind fun bt135=>((integer_number_sign.f bt135.1 bt135.2.1).bind fun t139=>(some (t139,bt135.2.2)))) = some (r1,r2):=h
 clear h
 obtain ⟨⟨t135,t136,t137⟩,A2,H⟩:=bn_ H
 dsimp only at H
 obtain ⟨t139,A3,H⟩:=bn_ H
 simp only [Option.some.injEq,Prod.mk.injEq] at H
 obtain ⟨rfl,rfl⟩:=H
 go_enter Tryz.func12,Tryz.ntmps12
 go_wp2_with (first|((with_reducible refine gate_callee (f:=39) rfl ?_);refine gl_ (some 8) Tryz.func39 #[.string a0] (integer_one.calls k a0 t135 t136 t137 _ A2.out) ?_;clear HB;intro w4 hb HB;clear hb)|((with_reducible refine gate_dst (N:=4) rfl ?_);refine bv_ #[.bool false,.string (⟨#[]⟩:ByteArray)] 43 ?_;clear HB;intro gb138 hg w5 BK138 GE138 hb HB;clear hb hg;obtain ⟨hcz6_0,hcz6_1,hfz6_0,hfz6_1⟩:=c2_ BK138)|((with_reducible refine gate_callee (f:=40) rfl ?_);refine gm_ (some 12) Tryz.func40 #[.agg #[.bool t135,.string t136]] ?_;(with_reducible refine (integer_number_sign.calls t135 t136 t139 _ A3.out).mono ?_);rintro e w7 ⟨rfl,hb⟩;refine ⟨_,rfl,?_⟩;replace BK138:=Aside0.mk (blk_below (g:=gb138) (o:=.cells #[.bool t135,.string t136] 43 (0,0)) bk_ hb);replace HB:=bs_ hb;(try clear hb)))
 go_ret2
 exact ⟨rf_,bx_⟩
end Go.Proofs.YtaknchlegjcdhaaGreatDoor.Pr
namespace Go.Proofs.YtaknchlegjcdhaaGreatDoor.Pr
open Go.RowKit Go.Proofs.YtaknchlegjcdhaaGreatDoorW.PrintWords Go.Proofs.YtaknchlegjcdhaaGreatDoorW.PrintLast Go.Proofs.YtaknchlegjcdhaaGreatDoorW.PrintMore
attribute [local go_sem] max2_int min2_int max_two min_two max_three min_three max_four min_four
set_option maxHeartbeats 8000000
set_option maxRecDepth 100000
set_option linter.unusedVariables false
set_option linter.unusedSimpArgs false
def integer_Abs.f (k:Nat) (a0:ByteArray):Option (ByteArray × Int):=(integer_one.f k a0).bind fun bt140=>(if bt140.2.2 = 0 then (some (bt140.2.1,0)) else (some ((⟨#[]⟩:ByteArray),bt140.2.2)))
theorem integer_Abs.mono:∀ a0 k,LeO (integer_Abs.f k a0) (integer_Abs.f (k + 1) a0):=by intro a0 k;unfold integer_Abs.f;have:=@integer_one.mono;exact mn_
theorem integer_Abs.calls (k:Nat) (a0:ByteArray) (r1:ByteArray) (r2:Int) (w:World) (h:integer_Abs.f k a0 = some (r1,r2)) :
  Calls Tryz.prog 14 #[.string a0] w fun e w'=>e = .returned (.tuple #[.string r1,.int .i64 r2])∧Below w.heap.size w w':=by
 have hu43:=Tryz.underlying43
 have HB:=Aside0.mk (Below.refl w.heap.size w)
 have H:((integer_one.f k a0).bind fun bt140=>(if bt140.2.2 = 0 then (some (bt140.2.1,0)) else (some ((⟨#[]⟩:ByteArray),bt140.2.2)))) = some (r1,r2):=h
 clear h
 obtain ⟨⟨t140,t141,t142⟩,A2,H⟩:=bn_ H
 dsimp only at H
 by_cases c3:t142 = 0
 ·rw [if_pos c3] at H
  have c3b0:(t142 == 0) = true:=beq_iff_eq.mpr c3
  have c3b1:(t142 != 0) = false:=bne_eq_false_iff_eq.mpr c3
  clear c3
  simp only [Option.some.injEq,Prod.mk.injEq] at H
  obtain ⟨rfl,rfl⟩:=H
  go_enter Tryz.func14,Tryz.ntmps14
  go_wp2_with (first|((with_reducible refine gate_callee (f:=39) rfl ?_);refine gl_ (some 8) Tryz.func39 #[.string a0] (integer_one.calls k a0 t140 t141 t142 _ A2.out) ?_;clear HB;intro w4 hb HB;clear hb)|((with_reducible refine gate_dst (N:=4) rfl ?_);refine bv_ #[.bool false,.string (⟨#[]⟩:ByteArray)] 43 ?_;clear HB;intro gb143 hg w5 BK143 GE143 hb HB;clear hb hg;obtain ⟨hcz6_0,hcz6_1,hfz6_0,hfz6_1⟩:=c2_ BK143))
  go_ret2
  exact ⟨rf_,bx_⟩
 ·rw [if_neg c3] at H
  have c3b0:(t142 == 0) = false:=beq_eq_false_iff_ne.mpr c3
  have c3b1:(t142 != 0) = true:=bne_iff_ne.mpr c3
  simp only [Option.some.injEq,Prod.mk.injEq] at H
  obtain ⟨rfl,rfl⟩:=H
  go_enter Tryz.func14,Tryz.ntmps14
  go_wp2_with (first|((with_reducible refine gate_callee (f:=39) rfl ?_);refine gl_ (some 8) Tryz.func39 #[.string a0] (integer_one.calls k a0 t140 t141 t142 _ A2.out) ?_;clear HB;intro w7 hb HB;clear hb)|((with_reducible refine gate_dst (N:=4) rfl ?_);refine bv_ #[.bool false,.string (⟨#[]⟩:ByteArray)] 43 ?_;clear HB;intro gb143 hg w8 BK143 GE143 hb HB;clear hb hg;obtain ⟨hcz9_0,hcz9_1,hfz9_0,hfz9_1⟩:=c2_ BK143))
  go_ret2
  exact ⟨rf_,bx_⟩
end Go.Proofs.YtaknchlegjcdhaaGreatDoor.Pr
namespace Go.Proofs.YtaknchlegjcdhaaGreatDoor.Pr
open Go.RowKit Go.Proofs.YtaknchlegjcdhaaGreatDoorW.PrintWords Go.Proofs.YtaknchlegjcdhaaGreatDoorW.PrintLast Go.Proofs.YtaknchlegjcdhaaGreatDoorW.PrintMore
attribute [local go_sem] max2_int min2_int max_two min_two max_three min_three max_four min_four
set_option maxHeartbeats 8000000
set_option maxRecDepth 100000
set_option linter.unusedVariables false
set_option linter.unusedSimpArgs false
def integer_with.f (a0:Bool) (a1:ByteArray):Option (Bool × ByteArray):=if a0 = true then (some ((a1.toList != ([48]:List UInt8)),a1)) else (some (false,a1))
theorem integer_with.calls (a0:Bool) (a1:ByteArray) (r1:Bool) (r2:ByteArray) (w:World) (h:integer_with.f a0 a1 = some (r1,r2)) :
  Calls Tryz.prog 62 #[.bool a0,.string a1] w fun e w'=>e = .returned (.agg #[.bool r1,.string r2])∧Below w.heap.size w w':=by
 have hu43:=Tryz.underlying43
 have HB:=Aside0.mk (Below.refl w.heap.size w)
 have H:(if a0 = true then (some ((a1.toList != ([48]:List UInt8)),a1)) else (some (false,a1))) = some (r1,r2):=h
 clear h
 by_cases c3:a0 = true
 ·subst c3
  have H1:(some ((a1.toList != ([48]:List UInt8)),a1)) = some (r1,r2):=by rw [if_pos rfl] at H;exact H
  clear H
  have H:=H1
  clear H1
  simp only [Option.some.injEq,Prod.mk.injEq] at H
  obtain ⟨rfl,rfl⟩:=H
  go_enter Tryz.func62,Tryz.ntmps62
  go_wp2_with (first|((with_reducible refine gate_dst (N:=4) rfl ?_);refine bv_ #[.bool false,.string (⟨#[]⟩:ByteArray)] 43 ?_;clear HB;intro gb144 hg w4 BK144 GE144 hb HB;clear hb hg;obtain ⟨hcz5_0,hcz5_1,hfz5_0,hfz5_1⟩:=c2_ BK144))
  refine bodyPost_ret (results_cell_row rfl _ _ gb144 43 #[.bool (a1.toList != ([48]:List UInt8)),.string a1] (0,0) _ rfl bk_ Tryz.underlying43 rfl kr_) rfl ?_
  exact ⟨rf_,bx_⟩
 ·replace c3:=Bool.eq_false_iff.mpr c3
  subst c3
  have H1:(some (false,a1)) = some (r1,r2):=by rw [if_neg (show ¬ (false = true) by decide)] at H;exact H
  clear H
  have H:=H1
  clear H1
  simp only [Option.some.injEq,Prod.mk.injEq] at H
  obtain ⟨rfl,rfl⟩:=H
  go_enter Tryz.func62,Tryz.ntmps62
  go_wp2_with (first|((with_reducible refine gate_dst (N:=4) rfl ?_);refine bv_ #[.bool false,.string (⟨#[]⟩:ByteArray)] 43 ?_;clear HB;intro gb144 hg w6 BK144 GE144 hb HB;clear hb hg;obtain ⟨hcz7_0,hcz7_1,hfz7_0,hfz7_1⟩:=c2_ BK144))
  refine bodyPost_ret (results_cell_row rfl _ _ gb144 43 #[.bool false,.string a1] (0,0) _ rfl bk_ Tryz.underlying43 rfl kr_) rfl ?_
  exact ⟨rf_,bx_⟩
end Go.Proofs.YtaknchlegjcdhaaGreatDoor.Pr
namespace Go.Proofs.YtaknchlegjcdhaaGreatDoor.Pr
open Go.RowKit Go.Proofs.YtaknchlegjcdhaaGreatDoorW.PrintWords Go.Proofs.YtaknchlegjcdhaaGreatDoorW.PrintLast Go.Proofs.YtaknchlegjcdhaaGreatDoorW.PrintMore
attribute [local go_sem] max2_int min2_int max_two min_two max_three min_three max_four min_four
set_option maxHeartbeats 8000000
set_option maxRecDepth 100000
set_option linter.unusedVariables false
set_option linter.unusedSimpArgs false
def integer_number_opposite.f (a0_0:Bool) (a0_1:ByteArray):Option (Bool × ByteArray):=(integer_with.f (!a0_0) a0_1).bind fun bt147=>(some (bt147.1,bt147.2))
theorem integer_number_opposite.calls (a0_0:Bool) (a0_1:ByteArray) (r1:Bool) (r2:ByteArray) (w:World) (h:integer_number_opposite.f a0_0 a0_1 = some (r1,r2)) :
  Calls Tryz.prog 45 #[.agg #[.bool a0_0,.string a0_1]] w fun e w'=>e = .returned (.agg #[.bool r1,.string r2])∧Below w.heap.size w w':=by
 have hu43:=Tryz.underlying43
 have HB:=Aside0.mk (Below.refl w.heap.size w)
 have H:((integer_with.f (!a0_0) a0_1).bind fun bt147=>(some (bt147.1,bt147.2))) = some (r1,r2):=h
 clear h
 obtain ⟨⟨t147,t148⟩,A2,H⟩:=bn_ H
 dsimp only at H
 simp only [Option.some.injEq,Prod.mk.injEq] at H
 obtain ⟨rfl,rfl⟩:=H
 go_enter Tryz.func45,Tryz.ntmps45
 go_wp2_with (first|((with_reducible refine gate_dst (N:=1) rfl ?_);refine bv_ #[.bool a0_0,.string a0_1] 43 ?_;clear HB;intro gb145 hg w3 BK145 GE145 hb HB;clear hb hg)|((with_reducible refine gate_dst (N:=2) rfl ?_);refine bv_ #[.bool false,.string (⟨#[]⟩:ByteArray)] 43 ?_;clear HB;intro gb146 hg w4 BK146 GE146 hb HB;have x_:=ol_ BK145 hg hb;clear BK145;obtain ⟨BK145,NB145_146,NB146_145⟩:=x_;clear hb hg;have hnb5:=NB145_146.out;have hnc5:=NB146_145.out;obtain ⟨hcz6_0,hcz6_1,hfz6_0,hfz6_1⟩:=c2_ BK145)|((with_reducible refine gate_callee (f:=62) rfl ?_);refine gl_ (some 8) Tryz.func62 #[.bool (!a0_0),.string a0_1] (integer_with.calls (!a0_0) a0_1 t147 t148 _ A2.out) ?_;clear HB;intro w7 hb HB;replace BK145:=bb_ BK145 hb;replace BK146:=bb_ BK146 hb;clear hb;obtain ⟨hcz8_0,hcz8_1,hfz8_0,hfz8_1⟩:=c2_ BK146))
 refine bodyPost_ret (results_cell_row rfl _ _ gb146 43 #[.bool t147,.string t148] (0,0) _ rfl bk_ Tryz.underlying43 rfl kr_) rfl ?_
 exact ⟨rf_,bx_⟩
end Go.Proofs.YtaknchlegjcdhaaGreatDoor.Pr
namespace Go.Proofs.YtaknchlegjcdhaaGreatDoor.Pr
open Go.RowKit Go.Proofs.YtaknchlegjcdhaaGreatDoorW.PrintWords Go.Proofs.YtaknchlegjcdhaaGreatDoorW.PrintLast Go.Proofs.YtaknchlegjcdhaaGreatDoorW.PrintMore
attribute [local go_sem] max2_int min2_int max_two min_two max_three min_three max_four min_four
set_option maxHeartbeats 8000000
set_option maxRecDepth 100000
set_option linter.unusedVariables false
set_option linter.unusedSimpArgs false
def integer_number_text.f (a0_0:Bool) (a0_1:ByteArray):Option (ByteArray):=if a0_0 = true then (if 1 + a0_1.size≤9223372036854775807 then (some ((⟨#[45]⟩:ByteArray) ++ a0_1)) else (none)) else (some a0_1)
theorem integer_number_text.calls (a0_0:Bool) (a0_1:ByteArray) (r:ByteArray) (w:World) (h:integer_number_text.f a0_0 a0_1 = some r) :
  Calls Tryz.prog 46 #[.agg #[.bool a0_0,.string a0_1]] w fun e w'=>e = .returned (.string r)∧Below w.heap.size w w':=by
 have hu43:=Tryz.underlying43
 have HB:=Aside0.mk (Below.refl w.heap.size w)
 have H:(if a0_0 = true then (if 1 + a0_1.size≤9223372036854775807 then (some ((⟨#[45]⟩:ByteArray) ++ a0_1)) else (none)) else (some a0_1)) = some r:=h
 clear h
 by_cases c2:a0_0 = true
 ·subst c2
  have H1:(if 1 + a0_1.size≤9223372036854775807 then (some ((⟨#[45]⟩:ByteArray) ++ a0_1)) else (none)) = some r:=by rw [if_pos rfl] at H;exact H
  clear H
  have H:=H1
  clear H1
  by_cases c3:1 + a0_1.size≤9223372036854775807
  ·rw [if_pos c3] at H
   have c3b0:=eq_true c3
   have c3b1:decide (1 + a0_1.size≤9223372036854775807) = true:=decide_eq_true c3
   try have c3b2:(9223372036854775807 < 1 + a0_1.size) = False:=eq_false (Nat.not_lt.2 c3)
   obtain rfl:=Option.some.inj H
   go_enter Tryz.func46,Tryz.ntmps46
   go_wp2_with (first|((with_reducible refine gate_dst (N:=1) rfl ?_);refine bv_ #[.bool true,.string a0_1] 43 ?_;clear HB;intro gb149 hg w4 BK149 GE149 hb HB;clear hb hg;obtain ⟨hcz5_0,hcz5_1,hfz5_0,hfz5_1⟩:=c2_ BK149))
   go_ret
   exact ⟨rf_,bx_⟩
  ·rw [if_neg c3] at H
   exact absurd H sm_
 ·replace c2:=Bool.eq_false_iff.mpr c2
  subst c2
  have H1:(some a0_1) = some r:=by rw [if_neg (show ¬ (false = true) by decide)] at H;exact H
  clear H
  have H:=H1
  clear H1
  obtain rfl:=Option.some.inj H
  go_enter Tryz.func46,Tryz.ntmps46
  go_wp2_with (first|((with_reducible refine gate_dst (N:=1) rfl ?_);refine bv_ #[.bool false,.string a0_1] 43 ?_;clear HB;intro gb149 hg w6 BK149 GE149 hb HB;clear hb hg;obtain ⟨hcz7_0,hcz7_1,hfz7_0,hfz7_1⟩:=c2_ BK149))
  go_ret
  exact ⟨rf_,bx_⟩
end Go.Proofs.YtaknchlegjcdhaaGreatDoor.Pr
namespace Go.Proofs.YtaknchlegjcdhaaGreatDoor.Pr
open Go.RowKit Go.Proofs.YtaknchlegjcdhaaGreatDoorW.PrintWords Go.Proofs.YtaknchlegjcdhaaGreatDoorW.PrintLast Go.Proofs.YtaknchlegjcdhaaGreatDoorW.PrintMore
attribute [local go_sem] max2_int min2_int max_two min_two max_three min_three max_four min_four
set_option maxHeartbeats 8000000
set_option maxRecDepth 100000
set_option linter.unusedVariables false
set_option linter.unusedSimpArgs false
def integer_Neg.f (k:Nat) (a0:ByteArray):Option (ByteArray × Int):=(integer_one.f k a0).bind fun bt150=>(if bt150.2.2 = 0 then ((integer_number_opposite.f bt150.1 bt150.2.1).bind fun bt154=>((integer_number_text.f bt154.1 bt154.2).bind fun t156=>(some (t156,0)))) else (some ((⟨#[]⟩:ByteArray),bt150.2.2)))
theorem integer_Neg.mono:∀ a0 k,LeO (integer_Neg.f k a0) (integer_Neg.f (k + 1) a0):=by intro a0 k;unfold integer_Neg.f;have:=@integer_one.mono;exact mn_
theorem integer_Neg.calls (k:Nat) (a0:ByteArray) (r1:ByteArray) (r2:Int) (w:World) (h:integer_Neg.f k a0 = some (r1,r2)) :
  Calls Tryz.prog 16 #[.string a0] w fun e w'=>e = .returned (.tuple #[.string r1,.int .i64 r2])∧Below w.heap.size w w':=by
 have hu43:=Tryz.underlying43
 have HB:=Aside0.mk (Below.refl w.heap.size w)
 have H:((integer_one.f k a0).bind fun bt150=>(if bt150.2.2 = 0 then ((integer_number_opposite.f bt150.1 bt150.2.1).bind fun bt154=>((integer_number_text.f bt154.1 bt154.2).bind fun t156=>(some (t156,0)))) else (some ((⟨#[]⟩:ByteArray),bt150.2.2)))) = some (r1,r2):=h
 clear h
 obtain ⟨⟨t150,t151,t152⟩,A2,H⟩:=bn_ H
 dsimp only at H
 by_cases c3:t152 = 0
 ·rw [if_pos c3] at H
  have c3b0:(t152 == 0) = true:=beq_iff_eq.mpr c3
  have c3b1:(t152 != 0) = false:=bne_eq_false_iff_eq.mpr c3
  clear c3
  obtain ⟨⟨t154,t155⟩,A4,H⟩:=bn_ H
  dsimp only at H
  obtain ⟨t156,A5,H⟩:=bn_ H
  simp only [Option.some.injEq,Prod.mk.injEq] at H
  obtain ⟨rfl,rfl⟩:=H
  go_enter Tryz.func16,Tryz.ntmps16
  go_wp2_with (first|((with_reducible refine gate_callee (f:=39) rfl ?_);refine gl_ (some 8) Tryz.func39 #[.string a0] (integer_one.calls k a0 t150 t151 t152 _ A2.out) ?_;clear HB;intro w6 hb HB;clear hb)|((with_reducible refine gate_dst (N:=4) rfl ?_);refine bv_ #[.bool false,.string (⟨#[]⟩:ByteArray)] 43 ?_;clear HB;intro gb153 hg w7 BK153 GE153 hb HB;clear hb hg;obtain ⟨hcz8_0,hcz8_1,hfz8_0,hfz8_1⟩:=c2_ BK153)|((with_reducible refine gate_callee (f:=45) rfl ?_);refine gm_ (some 15) Tryz.func45 #[.agg #[.bool t150,.string t151]] ?_;(with_reducible refine (integer_number_opposite.calls t150 t151 t154 t155 _ A4.out).mono ?_);rintro e w9 ⟨rfl,hb⟩;refine ⟨_,rfl,?_⟩;replace BK153:=Aside0.mk (blk_below (g:=gb153) (o:=.cells #[.bool t150,.string t151] 43 (0,0)) bk_ hb);replace HB:=bs_ hb;(try clear hb))|((with_reducible refine gate_callee (f:=46) rfl ?_);refine gl_ (some 16) Tryz.func46 #[.agg #[.bool t154,.string t155]] (integer_number_text.calls t154 t155 t156 _ A5.out) ?_;clear HB;intro w10 hb HB;replace BK153:=bb_ BK153 hb;clear hb))
  go_ret2
  exact ⟨rf_,bx_⟩
 ·rw [if_neg c3] at H
  have c3b0:(t152 == 0) = false:=beq_eq_false_iff_ne.mpr c3
  have c3b1:(t152 != 0) = true:=bne_iff_ne.mpr c3
  simp only [Option.some.injEq,Prod.mk.injEq] at H
  obtain ⟨rfl,rfl⟩:=H
  go_enter Tryz.func16,Tryz.ntmps16
  go_wp2_with (first|((with_reducible refine gate_callee (f:=39) rfl ?_);refine gl_ (some 8) Tryz.func39 #[.string a0] (integer_one.calls k a0 t150 t151 t152 _ A2.out) ?_;clear HB;intro w11 hb HB;clear hb)|((with_reducible refine gate_dst (N:=4) rfl ?_);refine bv_ #[.bool false,.string (⟨#[]⟩:ByteArray)] 43 ?_;clear HB;intro gb153 hg w12 BK153 GE153 hb HB;clear hb hg;obtain ⟨hcz13_0,hcz13_1,hfz13_0,hfz13_1⟩:=c2_ BK153))
  go_ret2
  exact ⟨rf_,bx_⟩
end Go.Proofs.YtaknchlegjcdhaaGreatDoor.Pr
namespace Go.Proofs.YtaknchlegjcdhaaGreatDoor.Pr
open Go.RowKit Go.Proofs.YtaknchlegjcdhaaGreatDoorW.PrintWords Go.Proofs.YtaknchlegjcdhaaGreatDoorW.PrintLast Go.Proofs.YtaknchlegjcdhaaGreatDoorW.PrintMore
attribute [local go_sem] max2_int min2_int max_two min_two max_three min_three max_four min_four
set_option maxHeartbeats 8000000
set_option maxRecDepth 100000
set_option linter.unusedVariables false
set_option linter.unusedSimpArgs false
def integer_Valid.f (k:Nat) (a0:ByteArray):Option (Bool):=(integer_read.f k a0).bind fun bt157=>(some bt157.2.2)
theorem integer_Valid.mono:∀ a0 k,LeO (integer_Valid.f k a0) (integer_Valid.f (k + 1) a0):=by intro a0 k;unfold integer_Valid.f;have:=@integer_read.mono;exact mn_
theorem integer_Valid.calls (k:Nat) (a0:ByteArray) (r:Bool) (w:World) (h:integer_Valid.f k a0 = some r) :
  Calls Tryz.prog 18 #[.string a0] w fun e w'=>e = .returned (.bool r)∧Below w.heap.size w w':=by
 have hu43:=Tryz.underlying43
 have HB:=Aside0.mk (Below.refl w.heap.size w)
 have H:((integer_read.f k a0).bind fun bt157=>(some bt157.2.2)) = some r:=h
 clear h
 obtain ⟨⟨t157,t158,t159⟩,A2,H⟩:=bn_ H
 dsimp only at H
 obtain rfl:=Option.some.inj H
 go_enter Tryz.func18,Tryz.ntmps18
 go_wp2_with (first|((with_reducible refine gate_callee (f:=48) rfl ?_);refine gl_ (some 7) Tryz.func48 #[.string a0] (integer_read.calls k a0 t157 t158 t159 _ A2.out) ?_;clear HB;intro w3 hb HB;clear hb)|((with_reducible refine gate_dst (N:=3) rfl ?_);refine bv_ #[.bool false,.string (⟨#[]⟩:ByteArray)] 43 ?_;clear HB;intro gb160 hg w4 BK160 GE160 hb HB;clear hb hg;obtain ⟨hcz5_0,hcz5_1,hfz5_0,hfz5_1⟩:=c2_ BK160))
 go_ret
 exact ⟨rf_,bx_⟩
end Go.Proofs.YtaknchlegjcdhaaGreatDoor.Pr
namespace Go.Proofs
open Go.Shelf
def Tryz.lays169_ren:Go.Shelf.Ren:=⟨fun|169=>102|n=>n,fun|70=>107|9=>9|0=>0|72=>110|37=>108|127=>138|3=>3|5=>5|n=>n,fun|n=>n⟩
theorem Tryz.lays169:Go.Proofs.Lays.n169 Tryz.prog Tryz.lays169_ren:={
 mixed:=by kernel_rfl
 f169:=Tryz.func102.trans (congrArg some (by kernel_rfl))
 t0:=Tryz.underlying0
 a0:=Tryz.isAgg0
 z0:=Tryz.sizeOf0
 v0:=Tryz.zeroValue0
 t3:=Tryz.underlying3
 a3:=Tryz.isAgg3
 z3:=Tryz.sizeOf3
 v3:=Tryz.zeroValue3
 t9:=Tryz.underlying9
 a9:=Tryz.isAgg9
 z9:=Tryz.sizeOf9
 v9:=Tryz.zeroValue9
 t37:=Tryz.underlying108
 a37:=Tryz.isAgg108
 z37:=Tryz.sizeOf108
 v37:=Tryz.zeroValue108
 t70:=Tryz.underlying107
 a70:=Tryz.isAgg107
 z70:=Tryz.sizeOf107
 v70:=Tryz.zeroValue107
 t72:=Tryz.underlying110
 a72:=Tryz.isAgg110
 z72:=Tryz.sizeOf110
 v72:=Tryz.zeroValue110
 t127:=Tryz.underlying138
 a127:=Tryz.isAgg138
 z127:=Tryz.sizeOf138
 v127:=Tryz.zeroValue138 }
theorem Tryz.Builder_Extra_169:Builder.Extra Tryz.prog Tryz.lays169_ren:={
 sizeBuilder:=by kernel_rfl
 liesBuilder:=by kernel_rfl
 t5:=Tryz.underlying5
 a5:=Tryz.isAgg5
 z5:=Tryz.sizeOf5
 v5:=Tryz.zeroValue5
 infoByte:=by kernel_rfl
 cellsByte:=by kernel_rfl
 sizeByte:=by kernel_rfl
 neB5:=by decide }
open Go.RowKit in
theorem Tryz.Builder_String_any_k (B b:Nat) (l:List UInt8) (w:World) (h:Lib.IsBuilderF 110 5 B b (Lib.byteCells l) w) (hBw:B≤w.heap.size) :
  Calls Tryz.prog 102 #[.pointer (some ⟨b,0,none⟩)] w fun e w'=>e = .returned (.string ⟨l.toArray⟩)∧(Lib.IsBuilderF 110 5 B b (Lib.byteCells l) w'∧Below B w w'∧Lib.OthersKept 5 (some b) w w'):=Any.Builder_String_any_k Tryz.lays169 Tryz.Builder_Extra_169 B b l w h hBw
def Tryz.lays283_ren:Go.Shelf.Ren:=⟨fun|283=>105|n=>n,fun|3=>3|9=>9|4=>4|n=>n,fun|n=>n⟩
theorem Tryz.lays283:Go.Proofs.Lays.n283 Tryz.prog Tryz.lays283_ren:={
 mixed:=by kernel_rfl
 f283:=Tryz.func105.trans (congrArg some (by kernel_rfl))
 t3:=Tryz.underlying3
 a3:=Tryz.isAgg3
 z3:=Tryz.sizeOf3
 v3:=Tryz.zeroValue3
 t4:=Tryz.underlying4
 a4:=Tryz.isAgg4
 z4:=Tryz.sizeOf4
 v4:=Tryz.zeroValue4
 t9:=Tryz.underlying9
 a9:=Tryz.isAgg9
 z9:=Tryz.sizeOf9
 v9:=Tryz.zeroValue9 }
open Go.Lib in
theorem Tryz.internal_strconv_small (i:Nat) (h:i < 100) (w:World) :
  Calls Tryz.prog 105 #[.int .i64 i] w fun e w'=>e = .returned (.string ⟨(Lib.decDigits i).toArray⟩)∧w' = w:=Any.internal_strconv_small Tryz.lays283 i h w
def Tryz.laysM284_ren:Go.Shelf.Ren:=⟨fun|284=>106|129=>125|317=>124|318=>126|n=>n,fun|53=>96|3=>3|212=>140|0=>0|4=>4|46=>134|5=>5|9=>9|n=>n,fun|17=>0|n=>n⟩
theorem Tryz.laysM284:Go.Proofs.LaysM.n284 Tryz.prog Tryz.laysM284_ren:={
 mixed:=by kernel_rfl
 f129:=Tryz.func125.trans (congrArg some (by kernel_rfl))
 f284:=Tryz.func106.trans (congrArg some (by kernel_rfl))
 f317:=Tryz.func124.trans (congrArg some (by kernel_rfl))
 f318:=Tryz.func126.trans (congrArg some (by kernel_rfl))
 t0:=Tryz.underlying0
 a0:=Tryz.isAgg0
 z0:=Tryz.sizeOf0
 v0:=Tryz.zeroValue0
 t3:=Tryz.underlying3
 a3:=Tryz.isAgg3
 z3:=Tryz.sizeOf3
 v3:=Tryz.zeroValue3
 t4:=Tryz.underlying4
 a4:=Tryz.isAgg4
 z4:=Tryz.sizeOf4
 v4:=Tryz.zeroValue4
 t5:=Tryz.underlying5
 a5:=Tryz.isAgg5
 z5:=Tryz.sizeOf5
 v5:=Tryz.zeroValue5
 t9:=Tryz.underlying9
 a9:=Tryz.isAgg9
 z9:=Tryz.sizeOf9
 v9:=Tryz.zeroValue9
 t46:=Tryz.underlying134
 a46:=Tryz.isAgg134
 z46:=Tryz.sizeOf134
 v46:=Tryz.zeroValue134
 t53:=Tryz.underlying96
 a53:=Tryz.isAgg96
 z53:=Tryz.sizeOf96
 v53:=Tryz.zeroValue96
 t212:=Tryz.underlying140
 a212:=Tryz.isAgg140
 z212:=Tryz.sizeOf140
 v212:=Tryz.zeroValue140
 g17:=by kernel_rfl
 i0:=by kernel_rfl
 i3:=by kernel_rfl
 i4:=by kernel_rfl
 i5:=by kernel_rfl
 i9:=by kernel_rfl
 i46:=by kernel_rfl
 i53:=by kernel_rfl
 i212:=by kernel_rfl
 m17:=by kernel_rfl }
open Go.Lib in
theorem Tryz.internal_strconv_numDigits (u:Nat) (h1:1≤u) (h2:u < 18446744073709551616) (w:World) (htab:Lib.TabIs Tryz.prog w "internal/strconv.uint64pow10" .u64 Lib.pow10Tab) :
  Calls Tryz.prog 106 #[.int .u64 u] w fun e w'=>e = .returned (.int .i64 (Lib.nDigits u))∧w' = w:=Any.internal_strconv_numDigits Tryz.laysM284 u h1 h2 w htab
def Tryz.lays285_ren:Go.Shelf.Ren:=⟨fun|285=>107|n=>n,fun|37=>108|53=>96|3=>3|4=>4|51=>95|9=>9|5=>5|0=>0|n=>n,fun|n=>n⟩
theorem Tryz.lays285:Go.Proofs.Lays.n285 Tryz.prog Tryz.lays285_ren:={
 mixed:=by kernel_rfl
 f285:=Tryz.func107.trans (congrArg some (by kernel_rfl))
 t0:=Tryz.underlying0
 a0:=Tryz.isAgg0
 z0:=Tryz.sizeOf0
 v0:=Tryz.zeroValue0
 t3:=Tryz.underlying3
 a3:=Tryz.isAgg3
 z3:=Tryz.sizeOf3
 v3:=Tryz.zeroValue3
 t4:=Tryz.underlying4
 a4:=Tryz.isAgg4
 z4:=Tryz.sizeOf4
 v4:=Tryz.zeroValue4
 t5:=Tryz.underlying5
 a5:=Tryz.isAgg5
 z5:=Tryz.sizeOf5
 v5:=Tryz.zeroValue5
 t9:=Tryz.underlying9
 a9:=Tryz.isAgg9
 z9:=Tryz.sizeOf9
 v9:=Tryz.zeroValue9
 t37:=Tryz.underlying108
 a37:=Tryz.isAgg108
 z37:=Tryz.sizeOf108
 v37:=Tryz.zeroValue108
 t51:=Tryz.underlying95
 a51:=Tryz.isAgg95
 z51:=Tryz.sizeOf95
 v51:=Tryz.zeroValue95
 t53:=Tryz.underlying96
 a53:=Tryz.isAgg96
 z53:=Tryz.sizeOf96
 v53:=Tryz.zeroValue96 }
open Go.RowKit Go.Sort Go.Lib in
theorem Tryz.internal_strconv_formatBase10 (blk off cap:Nat) (u:Nat) (d:Array UInt8) (w:World) (hH:Holds (fun (b:UInt8)=>Value.int .u8 (b.toNat:Int)) w blk off d) (hu:u < 10 ^ d.size) (hu64:u < 18446744073709551616) (hsz:d.size < 4611686018427387904) :
  Calls Tryz.prog 107 #[.slice (some ⟨blk,off,none⟩) d.size cap,.int .u64 u] w fun e w' =>
   e = .returned (.tuple #[])∧∃ (n v':Nat) (dk:Array UInt8),w' = (putRow (fun (b:UInt8)=>Value.int .u8 (b.toNat:Int)) w blk off dk).drewN n∧FmtInv d.size u 0 v' dk:=Any.internal_strconv_formatBase10 Tryz.lays285 blk off cap u d w hH hu hu64 hsz
def Tryz.laysM246_ren:Go.Shelf.Ren:=⟨fun|246=>75|283=>105|284=>106|285=>107|286=>108|129=>125|317=>124|318=>126|319=>127|320=>128|337=>136|338=>137|n=>n,fun|2=>2|3=>3|9=>9|4=>4|171=>121|0=>0|53=>96|37=>108|5=>5|173=>124|212=>140|51=>95|20=>20|213=>141|46=>134|232=>158|233=>159|n=>n,fun|17=>0|18=>1|19=>2|n=>n⟩
def Tryz.laysM243_ren:Go.Shelf.Ren:=⟨fun|243=>50|246=>75|283=>105|284=>106|285=>107|286=>108|129=>125|317=>124|318=>126|319=>127|320=>128|337=>136|338=>137|n=>n,fun|3=>3|9=>9|2=>2|4=>4|171=>121|0=>0|53=>96|37=>108|5=>5|173=>124|212=>140|51=>95|20=>20|213=>141|46=>134|232=>158|233=>159|n=>n,fun|17=>0|18=>1|19=>2|n=>n⟩
def Tryz.laysM171_ren:Go.Shelf.Ren:=⟨fun|171=>21|243=>50|246=>75|283=>105|284=>106|285=>107|286=>108|129=>125|317=>124|318=>126|319=>127|320=>128|337=>136|338=>137|n=>n,fun|3=>3|9=>9|2=>2|4=>4|171=>121|0=>0|53=>96|37=>108|5=>5|173=>124|212=>140|51=>95|20=>20|213=>141|46=>134|232=>158|233=>159|n=>n,fun|17=>0|18=>1|19=>2|n=>n⟩
theorem Tryz.laysM171:Go.Proofs.LaysM.n171 Tryz.prog Tryz.laysM171_ren:={
 mixed:=by kernel_rfl
 f129:=Tryz.func125.trans (congrArg some (by kernel_rfl))
 f171:=Tryz.func21.trans (congrArg some (by kernel_rfl))
 f243:=Tryz.func50.trans (congrArg some (by kernel_rfl))
 f246:=Tryz.func75.trans (congrArg some (by kernel_rfl))
 f283:=Tryz.func105.trans (congrArg some (by kernel_rfl))
 f284:=Tryz.func106.trans (congrArg some (by kernel_rfl))
 f285:=Tryz.func107.trans (congrArg some (by kernel_rfl))
 f286:=Tryz.func108.trans (congrArg some (by kernel_rfl))
 f317:=Tryz.func124.trans (congrArg some (by kernel_rfl))
 f318:=Tryz.func126.trans (congrArg some (by kernel_rfl))
 f319:=Tryz.func127.trans (congrArg some (by kernel_rfl))
 f320:=Tryz.func128.trans (congrArg some (by kernel_rfl))
 f337:=Tryz.func136.trans (congrArg some (by kernel_rfl))
 f338:=Tryz.func137.trans (congrArg some (by kernel_rfl))
 t0:=Tryz.underlying0
 a0:=Tryz.isAgg0
 z0:=Tryz.sizeOf0
 v0:=Tryz.zeroValue0
 t2:=Tryz.underlying2
 a2:=Tryz.isAgg2
 z2:=Tryz.sizeOf2
 v2:=Tryz.zeroValue2
 t3:=Tryz.underlying3
 a3:=Tryz.isAgg3
 z3:=Tryz.sizeOf3
 v3:=Tryz.zeroValue3
 t4:=Tryz.underlying4
 a4:=Tryz.isAgg4
 z4:=Tryz.sizeOf4
 v4:=Tryz.zeroValue4
 t5:=Tryz.underlying5
 a5:=Tryz.isAgg5
 z5:=Tryz.sizeOf5
 v5:=Tryz.zeroValue5
 t9:=Tryz.underlying9
 a9:=Tryz.isAgg9
 z9:=Tryz.sizeOf9
 v9:=Tryz.zeroValue9
 t20:=Tryz.underlying20
 a20:=Tryz.isAgg20
 z20:=Tryz.sizeOf20
 v20:=Tryz.zeroValue20
 t37:=Tryz.underlying108
 a37:=Tryz.isAgg108
 z37:=Tryz.sizeOf108
 v37:=Tryz.zeroValue108
 t46:=Tryz.underlying134
 a46:=Tryz.isAgg134
 z46:=Tryz.sizeOf134
 v46:=Tryz.zeroValue134
 t51:=Tryz.underlying95
 a51:=Tryz.isAgg95
 z51:=Tryz.sizeOf95
 v51:=Tryz.zeroValue95
 t53:=Tryz.underlying96
 a53:=Tryz.isAgg96
 z53:=Tryz.sizeOf96
 v53:=Tryz.zeroValue96
 t171:=Tryz.underlying121
 a171:=Tryz.isAgg121
 z171:=Tryz.sizeOf121
 v171:=Tryz.zeroValue121
 t173:=Tryz.underlying124
 a173:=Tryz.isAgg124
 z173:=Tryz.sizeOf124
 v173:=Tryz.zeroValue124
 t212:=Tryz.underlying140
 a212:=Tryz.isAgg140
 z212:=Tryz.sizeOf140
 v212:=Tryz.zeroValue140
 t213:=Tryz.underlying141
 a213:=Tryz.isAgg141
 z213:=Tryz.sizeOf141
 t232:=Tryz.underlying158
 a232:=Tryz.isAgg158
 z232:=Tryz.sizeOf158
 v232:=Tryz.zeroValue158
 t233:=Tryz.underlying159
 a233:=Tryz.isAgg159
 z233:=Tryz.sizeOf159
 v233:=Tryz.zeroValue159
 g17:=by kernel_rfl
 g18:=by kernel_rfl
 g19:=by kernel_rfl
 i0:=by kernel_rfl
 i2:=by kernel_rfl
 i3:=by kernel_rfl
 i4:=by kernel_rfl
 i5:=by kernel_rfl
 i9:=by kernel_rfl
 i20:=by kernel_rfl
 i37:=by kernel_rfl
 i46:=by kernel_rfl
 i51:=by kernel_rfl
 i53:=by kernel_rfl
 i171:=by kernel_rfl
 i173:=by kernel_rfl
 i212:=by kernel_rfl
 i232:=by kernel_rfl
 i233:=by kernel_rfl
 m17:=by kernel_rfl
 m18:=by kernel_rfl
 m19:=by kernel_rfl }
open Go.RowKit Go.Sort Go.Lib in
theorem Tryz.strconv_Itoa (n:Int) (h0:-9223372036854775808≤n) (h1:n≤9223372036854775807) (w:World) (htab:Lib.TabIs Tryz.prog w "internal/strconv.uint64pow10" .u64 Lib.pow10Tab) :
  Calls Tryz.prog 21 #[.int .i64 n] w fun e w'=>e = .returned (.string ⟨(Lib.itoa n).toArray⟩)∧∃ k os,w' = grow (w.drewN k) os:=Any.strconv_Itoa Tryz.laysM171 n h0 h1 w htab
def Tryz.lays105_ren:Go.Shelf.Ren:=⟨fun|105=>101|212=>119|99=>120|165=>121|166=>100|170=>122|169=>102|263=>133|264=>134|206=>123|240=>118|241=>135|276=>132|277=>144|n=>n,fun|9=>9|3=>3|4=>4|20=>20|0=>0|46=>134|109=>135|5=>5|72=>110|76=>117|51=>95|146=>147|53=>96|148=>149|70=>107|37=>108|75=>116|127=>138|164=>145|80=>56|n=>n,fun|n=>n⟩
theorem Tryz.lays105:Go.Proofs.Lays.n105 Tryz.prog Tryz.lays105_ren:={
 mixed:=by kernel_rfl
 f99:=Tryz.func120.trans (congrArg some (by kernel_rfl))
 f105:=Tryz.func101.trans (congrArg some (by kernel_rfl))
 f165:=Tryz.func121.trans (congrArg some (by kernel_rfl))
 f166:=Tryz.func100.trans (congrArg some (by kernel_rfl))
 f169:=Tryz.func102.trans (congrArg some (by kernel_rfl))
 f170:=Tryz.func122.trans (congrArg some (by kernel_rfl))
 f206:=Tryz.func123.trans (congrArg some (by kernel_rfl))
 f212:=Tryz.func119.trans (congrArg some (by kernel_rfl))
 f240:=Tryz.func118.trans (congrArg some (by kernel_rfl))
 f241:=Tryz.func135.trans (congrArg some (by kernel_rfl))
 f263:=Tryz.func133.trans (congrArg some (by kernel_rfl))
 f264:=Tryz.func134.trans (congrArg some (by kernel_rfl))
 f276:=Tryz.func132.trans (congrArg some (by kernel_rfl))
 f277:=Tryz.func144.trans (congrArg some (by kernel_rfl))
 t0:=Tryz.underlying0
 a0:=Tryz.isAgg0
 z0:=Tryz.sizeOf0
 v0:=Tryz.zeroValue0
 t3:=Tryz.underlying3
 a3:=Tryz.isAgg3
 z3:=Tryz.sizeOf3
 v3:=Tryz.zeroValue3
 t4:=Tryz.underlying4
 a4:=Tryz.isAgg4
 z4:=Tryz.sizeOf4
 v4:=Tryz.zeroValue4
 t5:=Tryz.underlying5
 a5:=Tryz.isAgg5
 z5:=Tryz.sizeOf5
 v5:=Tryz.zeroValue5
 t9:=Tryz.underlying9
 a9:=Tryz.isAgg9
 z9:=Tryz.sizeOf9
 v9:=Tryz.zeroValue9
 t20:=Tryz.underlying20
 a20:=Tryz.isAgg20
 z20:=Tryz.sizeOf20
 v20:=Tryz.zeroValue20
 t37:=Tryz.underlying108
 a37:=Tryz.isAgg108
 z37:=Tryz.sizeOf108
 v37:=Tryz.zeroValue108
 t46:=Tryz.underlying134
 a46:=Tryz.isAgg134
 z46:=Tryz.sizeOf134
 v46:=Tryz.zeroValue134
 t51:=Tryz.underlying95
 a51:=Tryz.isAgg95
 z51:=Tryz.sizeOf95
 v51:=Tryz.zeroValue95
 t53:=Tryz.underlying96
 a53:=Tryz.isAgg96
 z53:=Tryz.sizeOf96
 v53:=Tryz.zeroValue96
 t70:=Tryz.underlying107
 a70:=Tryz.isAgg107
 z70:=Tryz.sizeOf107
 v70:=Tryz.zeroValue107
 t72:=Tryz.underlying110
 a72:=Tryz.isAgg110
 z72:=Tryz.sizeOf110
 v72:=Tryz.zeroValue110
 t75:=Tryz.underlying116
 a75:=Tryz.isAgg116
 z75:=Tryz.sizeOf116
 v75:=Tryz.zeroValue116
 t76:=Tryz.underlying117
 a76:=Tryz.isAgg117
 z76:=Tryz.sizeOf117
 v76:=Tryz.zeroValue117
 t109:=Tryz.underlying135
 a109:=Tryz.isAgg135
 z109:=Tryz.sizeOf135
 v109:=Tryz.zeroValue135
 t127:=Tryz.underlying138
 a127:=Tryz.isAgg138
 z127:=Tryz.sizeOf138
 v127:=Tryz.zeroValue138
 t146:=Tryz.underlying147
 a146:=Tryz.isAgg147
 z146:=Tryz.sizeOf147
 v146:=Tryz.zeroValue147
 t148:=Tryz.underlying149
 a148:=Tryz.isAgg149
 z148:=Tryz.sizeOf149
 v148:=Tryz.zeroValue149
 t164:=Tryz.underlying145
 a164:=Tryz.isAgg145
 z164:=Tryz.sizeOf145
 v164:=Tryz.zeroValue145 }
theorem Tryz.Builder_Extra_105:Builder.Extra Tryz.prog Tryz.lays105_ren:={
 sizeBuilder:=by kernel_rfl
 liesBuilder:=by kernel_rfl
 t5:=Tryz.underlying5
 a5:=Tryz.isAgg5
 z5:=Tryz.sizeOf5
 v5:=Tryz.zeroValue5
 infoByte:=by kernel_rfl
 cellsByte:=by kernel_rfl
 sizeByte:=by kernel_rfl
 neB5:=by decide }
open Go.RowKit Go.Lib in
theorem Tryz.strings_Repeat (s:ByteArray) (c:Nat) (w:World) (hc:c≤9223372036854775807) (hlen:s.size * c≤140737488355328) :
  Calls Tryz.prog 101 #[.string s,.int .i64 c] w fun e w'=>e = .returned (.string ⟨(Lib.repeatL s.data.toList c).toArray⟩)∧Below w.heap.size w w':=Any.strings_Repeat Tryz.lays105 Tryz.Builder_Extra_105 s c w hc hlen
end Go.Proofs
set_option linter.unusedVariables false
set_option linter.unusedSimpArgs false
namespace Go.Proofs.YtaknchlegjcdhaaGreatDoor.Pr
open Go.RowKit Go.Lib Go.Shelf Go.Proofs.YtaknchlegjcdhaaGreatDoorW.PrintWords
def strconv_Itoa_21.f (n:Int):Option ByteArray:=if -9223372036854775808≤n∧n≤9223372036854775807 then some ⟨(Lib.itoa n).toArray⟩ else none
theorem strconv_Itoa_21.calls (a0:Int) (r:ByteArray) (w:World) (hL:LaidW w) (h:strconv_Itoa_21.f a0 = some r) :
  Calls Tryz.prog 21 #[.int .i64 a0] w fun e w'=>e = .returned (.string r)∧Below w.heap.size w w':=by
 unfold strconv_Itoa_21.f at h
 by_cases hc:-9223372036854775808≤a0∧a0≤9223372036854775807
 case neg=>rw [if_neg hc] at h;cases h
 rw [if_pos hc] at h
 injection h with h
 subst h
 refine (Tryz.strconv_Itoa a0 hc.1 hc.2 w hL).mono ?_
 rintro e w' ⟨he,k,os,rfl⟩
 exact ⟨he,below_grow _ _ (Nat.le_refl _) k os⟩
end Go.Proofs.YtaknchlegjcdhaaGreatDoor.Pr
namespace Go.Proofs.YtaknchlegjcdhaaGreatDoor.Pr
open Go.RowKit Go.Proofs.YtaknchlegjcdhaaGreatDoorW.PrintWords Go.Proofs.YtaknchlegjcdhaaGreatDoorW.PrintLast Go.Proofs.YtaknchlegjcdhaaGreatDoorW.PrintMore
attribute [local go_sem] max2_int min2_int max_two min_two max_three min_three max_four min_four
set_option maxHeartbeats 8000000
set_option maxRecDepth 100000
set_option linter.unusedVariables false
set_option linter.unusedSimpArgs false
def integer_From.f (a0:Int):Option (ByteArray):=(strconv_Itoa_21.f a0).bind fun t180=>(some t180)
theorem integer_From.calls (a0:Int) (r:ByteArray) (w:World) (hL:LaidW w) (h:integer_From.f a0 = some r) :
  Calls Tryz.prog 20 #[.int .i64 a0] w fun e w'=>e = .returned (.string r)∧Below w.heap.size w w':=by
 have HB:=Aside0.mk (Below.refl w.heap.size w)
 have HLW:=Aside0.mk hL
 clear hL
 have H:((strconv_Itoa_21.f a0).bind fun t180=>(some t180)) = some r:=h
 clear h
 obtain ⟨t180,A2,H⟩:=bn_ H
 obtain rfl:=Option.some.inj H
 go_enter Tryz.func20,Tryz.ntmps20
 go_wp2_with (first|((with_reducible refine gate_callee (f:=21) rfl ?_);refine gl_ (some 4) Tryz.func21 #[.int .i64 a0] (strconv_Itoa_21.calls a0 t180 _ (HLW.out.below bx_) A2.out) ?_;clear HB;intro w3 hb HB;clear hb))
 go_ret
 exact ⟨rf_,bx_⟩
end Go.Proofs.YtaknchlegjcdhaaGreatDoor.Pr
set_option linter.unusedVariables false
namespace Go.Proofs.YtaknchlegjcdhaaGreatDoor.NatTh
def B:Int:=1000000000
theorem B_pos:0 < B:=by decide
def val:List Int→Int
 | []=>0
 | w :: ws=>w + B * val ws
def Wd (l:List Int):Prop:=∀ w ∈ l,0≤w∧w < B
theorem Wd.nil:Wd []:=fun w h=>by simp at h
theorem Wd.cons {w:Int} {l:List Int} (hw:0≤w∧w < B) (h:Wd l):Wd (w :: l):=fun x hx=>by
 rcases List.mem_cons.1 hx with rfl|hx
 ·exact hw
 ·exact h x hx
theorem Wd.tail {w:Int} {l:List Int} (h:Wd (w :: l)):Wd l:=fun x hx=>h x (by simp [hx])
theorem Wd.append {a b:List Int} (ha:Wd a) (hb:Wd b):Wd (a ++ b):=fun x hx=>by
 rcases List.mem_append.1 hx with h|h
 ·exact ha x h
 ·exact hb x h
theorem Wd.take {a:List Int} (h:Wd a) (n:Nat):Wd (a.take n):=fun x hx=>h x (List.mem_of_mem_take hx)
theorem Wd.drop {a:List Int} (h:Wd a) (n:Nat):Wd (a.drop n):=fun x hx=>h x (List.mem_of_mem_drop hx)
theorem Wd.set {a:List Int} (h:Wd a) (n:Nat) {w:Int} (hw:0≤w∧w < B):Wd (a.set n w):=fun x hx=>by
 rcases List.mem_or_eq_of_mem_set hx with h2|rfl
 ·exact h x h2
 ·exact hw
theorem Wd.get {a:List Int} (h:Wd a) (i:Nat) (hi:i < a.length):0≤a[i]∧a[i] < B:=h _ (List.getElem_mem hi)
theorem Wd.zeros (n:Nat):Wd (List.replicate n 0):=fun x hx=>by
 rw [List.eq_of_mem_replicate hx]
 exact ⟨by omega,B_pos⟩
theorem Bpow_pos (n:Nat):0 < B ^ n:=Int.pow_pos B_pos
theorem Bpow_succ (n:Nat):B ^ (n + 1) = B * B ^ n:=by rw [Int.pow_succ,Int.mul_comm]
theorem val_append (a b:List Int):val (a ++ b) = val a + B ^ a.length * val b:=by
 induction a with
 | nil=>simp [val]
 | cons w a ih =>
  rw [List.cons_append,val,val,ih,List.length_cons,Bpow_succ,Int.mul_add,Int.add_assoc,Int.mul_assoc]
theorem val_snoc (a:List Int) (w:Int):val (a ++ [w]) = val a + B ^ a.length * w:=by
 rw [val_append]
 simp [val]
theorem val_zeros (n:Nat):val (List.replicate n 0) = 0:=by
 induction n with
 | zero=>rfl
 | succ n ih=>rw [List.replicate_succ,val,ih];simp
theorem val_nonneg {l:List Int} (h:Wd l):0≤val l:=by
 induction l with
 | nil=>simp [val]
 | cons w l ih =>
  have h1:=ih h.tail
  have h2:=h w (by simp)
  have h3:=Int.mul_nonneg (Int.le_of_lt B_pos) h1
  unfold val
  omega
theorem val_lt {l:List Int} (h:Wd l):val l < B ^ l.length:=by
 induction l with
 | nil=>simp [val]
 | cons w l ih =>
  have h1:=ih h.tail
  have h2:=h w (by simp)
  have h3:B * (val l + 1)≤B * B ^ l.length:=Int.mul_le_mul_of_nonneg_left (by omega) (Int.le_of_lt B_pos)
  rw [Int.mul_add] at h3
  rw [List.length_cons,Bpow_succ]
  unfold val
  omega
theorem val_take_succ (a:List Int) (i:Nat) (hi:i < a.length):val (a.take (i + 1)) = val (a.take i) + B ^ i * a[i]:=by
 rw [List.take_add_one,List.getElem?_eq_getElem hi,Option.toList_some,val_snoc,List.length_take,Nat.min_eq_left (by omega)]
theorem val_take_drop (a:List Int) (i:Nat) (hi:i≤a.length):val a = val (a.take i) + B ^ i * val (a.drop i):=by
 conv=>lhs;rw [← List.take_append_drop i a]
 rw [val_append,List.length_take,Nat.min_eq_left hi]
def Trim (l:List Int):Prop:=∀ w,l.getLast? = some w→w≠0
def Num (l:List Int):Prop:=Wd l∧Trim l
theorem Num.nil:Num []:=⟨Wd.nil,fun w h=>by simp at h⟩
theorem Num.tail {w:Int} {l:List Int} (h:Num (w :: l)):Num l:=⟨h.1.tail,fun x hx=>h.2 x (by
 cases l with
 | nil=>simp at hx
 | cons y l=>simpa [List.getLast?_cons_cons] using hx)⟩
theorem Num.pos {l:List Int} (h:Num l) (hn:l≠[]):0 < val l:=by
 induction l with
 | nil=>exact absurd rfl hn
 | cons w l ih =>
  have hw:=h.1 w (by simp)
  have h1:=val_nonneg h.1.tail
  have h2:=Int.mul_nonneg (Int.le_of_lt B_pos) h1
  unfold val
  by_cases hl:l = []
  ·subst hl
   have:=h.2 w (by simp)
   omega
  ·have h3:=Int.mul_pos B_pos (ih h.tail hl)
   omega
theorem Num.eq {a b:List Int} (ha:Num a) (hb:Num b) (h:val a = val b):a = b:=by
 induction a generalizing b with
 | nil =>
  cases b with
  | nil=>rfl
  | cons y b =>
   have:=hb.pos (by simp)
   rw [← h] at this
   exact absurd this (by simp [val])
 | cons x a ih =>
  cases b with
  | nil =>
   have:=ha.pos (by simp)
   rw [h] at this
   exact absurd this (by simp [val])
  | cons y b =>
   have hx:=ha.1 x (by simp)
   have hy:=hb.1 y (by simp)
   unfold val at h
   have e:x = y∧val a = val b:=by
    have h1:(x + B * val a) % B = x:=by rw [Int.add_mul_emod_self_left];exact Int.emod_eq_of_lt hx.1 hx.2
    have h2:(y + B * val b) % B = y:=by rw [Int.add_mul_emod_self_left];exact Int.emod_eq_of_lt hy.1 hy.2
    rw [h] at h1
    have e1:x = y:=h1.symm.trans h2
    subst e1
    refine ⟨rfl,?_⟩
    exact Int.eq_of_mul_eq_mul_left (Int.ne_of_gt B_pos) (by omega)
   rw [e.1,ih ha.tail hb.tail e.2]
theorem Num.len_le {a:List Int} (ha:Num a) {n:Nat} (h:val a < B ^ n):a.length≤n:=by
 by_cases e:a.length≤n
 ·exact e
 ·exfalso
  obtain ⟨m,hm⟩:∃ m,a.length = m + 1:=⟨a.length - 1,by omega⟩
  have h1:=val_take_drop a m (by omega)
  have h2:=val_nonneg (ha.1.take m)
  have h3:a.drop m = [a[m]]:=by
   rw [List.drop_eq_getElem_cons (by omega),List.drop_of_length_le (by omega)]
  have h4:a[m]≠0:=ha.2 _ (by rw [List.getLast?_eq_getElem?,show a.length - 1 = m by omega,List.getElem?_eq_getElem])
  have h5:=ha.1.get m (by omega)
  rw [h3] at h1
  have h6:B ^ n≤B ^ m:=by
   obtain ⟨d,rfl⟩:∃ d,m = n + d:=⟨m - n,by omega⟩
   rw [Int.pow_add]
   have:=Bpow_pos n
   have h8:=Bpow_pos d
   have:B ^ n * 1≤B ^ n * B ^ d:=Int.mul_le_mul_of_nonneg_left (by omega) (Int.le_of_lt (Bpow_pos n))
   omega
  have h7:B ^ m * 1≤B ^ m * a[m]:=Int.mul_le_mul_of_nonneg_left (by omega) (Int.le_of_lt (Bpow_pos m))
  simp only [val,Int.mul_zero,Int.add_zero] at h1
  omega
def trimL (l:List Int):List Int:=(l.reverse.dropWhile (· == 0)).reverse
theorem trimL_snoc_zero (l:List Int):trimL (l ++ [0]) = trimL l:=by simp [trimL]
theorem trimL_snoc (l:List Int) (w:Int) (hw:w≠0):trimL (l ++ [w]) = l ++ [w]:=by simp [trimL,hw]
theorem snoc_cases (l:List Int):l = [] ∨ ∃ a w,l = a ++ [w]:=by
 rcases List.eq_nil_or_concat l with h|⟨a,w,h⟩
 ·exact .inl h
 ·exact .inr ⟨a,w,by simpa using h⟩
theorem trimL_spec:∀ (n:Nat) (l:List Int),l.length = n→val (trimL l) = val l∧(Wd l→Num (trimL l))∧(trimL l).length≤l.length
 | 0,l,h=>by
  have:l = []:=List.eq_nil_of_length_eq_zero h
  subst this
  exact ⟨rfl,fun _=>Num.nil,Nat.le_refl _⟩
 | n + 1,l,h=>by
  rcases snoc_cases l with rfl|⟨a,w,rfl⟩
  ·simp at h
  ·by_cases e:w = 0
   ·subst e
    rw [trimL_snoc_zero]
    obtain ⟨h1,h2,h3⟩:=trimL_spec n a (by simpa using h)
    refine ⟨by rw [h1,val_snoc];simp,fun hw=>h2 (fun x hx=>hw x (by simp [hx])),by rw [List.length_append];omega⟩
   ·rw [trimL_snoc a w e]
    exact ⟨rfl,fun hw=>⟨hw,fun x hx=>by simp at hx;rw [← hx];exact e⟩,Nat.le_refl _⟩
theorem val_trimL (l:List Int):val (trimL l) = val l:=(trimL_spec _ l rfl).1
theorem num_trimL {l:List Int} (h:Wd l):Num (trimL l):=(trimL_spec _ l rfl).2.1 h
theorem len_trimL (l:List Int):(trimL l).length≤l.length:=(trimL_spec _ l rfl).2.2
def numOf (n:Nat):List Int:=if h:n = 0 then [] else ((n % 1000000000:Nat):Int) :: numOf (n / 1000000000)
 termination_by n
 decreasing_by exact Nat.div_lt_self (by omega) (by omega)
theorem numOf_zero:numOf 0 = []:=by rw [numOf];simp
theorem numOf_spec (n:Nat):Num (numOf n)∧val (numOf n) = n:=by
 induction n using Nat.strongRecOn with
 | ind n ih =>
  by_cases h:n = 0
  ·subst h
   rw [numOf_zero]
   exact ⟨Num.nil,rfl⟩
  ·rw [numOf,dif_neg h]
   obtain ⟨h1,h2⟩:=ih (n / 1000000000) (Nat.div_lt_self (by omega) (by omega))
   refine ⟨⟨Wd.cons ⟨by omega,by unfold B;omega⟩ h1.1,fun w hw=>?_⟩,?_⟩
   ·by_cases e:n / 1000000000 = 0
    ·rw [e,numOf_zero] at hw
     simp at hw
     omega
    ·have hne:numOf (n / 1000000000)≠[]:=fun h0=>by
      rw [h0] at h2
      simp [val] at h2
      omega
     obtain ⟨y,l,hl⟩:=List.exists_cons_of_ne_nil hne
     rw [hl,List.getLast?_cons_cons] at hw
     rw [hl] at h1
     exact h1.2 w hw
   ·rw [val,h2]
    unfold B
    omega
theorem num_numOf (n:Nat):Num (numOf n):=(numOf_spec n).1
theorem val_numOf (n:Nat):val (numOf n) = n:=(numOf_spec n).2
theorem Num.numOf {l:List Int} (h:Num l):l = numOf (val l).toNat:=h.eq (num_numOf _) (by
 rw [val_numOf]
 have:=val_nonneg h.1
 omega)
theorem guess_low (top v1 V X q:Int) (hX:0 < X) (hv:0 < v1) (hV:v1 * (B * X)≤V) (hq:q * V < (top + 1) * (B * X)) (hq0:0≤q):q≤top / v1:=by
 have hBX:0 < B * X:=Int.mul_pos B_pos hX
 have h1:q * (v1 * (B * X))≤q * V:=Int.mul_le_mul_of_nonneg_left hV hq0
 have h2:(q * v1) * (B * X) < (top + 1) * (B * X):=by rw [Int.mul_assoc];omega
 have h3:q * v1 < top + 1:=Int.lt_of_mul_lt_mul_right h2 (Int.le_of_lt hBX)
 exact (Int.le_ediv_iff_mul_le hv).2 (by omega)
theorem guess_too (g r top v1 v2 u2 V U X U' V':Int) (hX:0 < X) (hg:0≤g) (ht:g * v1 + r = top) (hV:V = (v1 * B + v2) * X + V') (hV':0≤V') (hU:U = (top * B + u2) * X + U') (hU':U' < X) (h:r * B + u2 < g * v2):U < g * V:=by
 have h1:g * V = (g * v1 * B + g * v2) * X + g * V':=by
  rw [hV,Int.mul_add,← Int.mul_assoc,Int.mul_add,← Int.mul_assoc]
 have h2:0≤g * V':=Int.mul_nonneg hg hV'
 have h3:top * B + u2 + 1≤g * v1 * B + g * v2:=by
  have:top * B = g * v1 * B + r * B:=by rw [← ht,Int.add_mul]
  omega
 have h4:(top * B + u2 + 1) * X≤(g * v1 * B + g * v2) * X:=Int.mul_le_mul_of_nonneg_right h3 (Int.le_of_lt hX)
 rw [Int.add_mul,Int.one_mul] at h4
 omega
theorem guess_high1 (g r top v1 v2 u2 V U X U' V':Int) (hX:0 < X) (hg:0≤g) (hgB:g < B) (hv1:1≤v1) (hv2:0≤v2) (ht:g * v1 + r = top) (hV:V = (v1 * B + v2) * X + V') (hV0:0≤V') (hV':V' < X) (hU:U = (top * B + u2) * X + U') (hU':0≤U') (h:g * v2≤r * B + u2):(g - 1) * V≤U:=by
 have h1:g * V = (g * v1 * B + g * v2) * X + g * V':=by
  rw [hV,Int.mul_add,← Int.mul_assoc,Int.mul_add,← Int.mul_assoc]
 have h3:g * v1 * B + g * v2≤top * B + u2:=by
  have:top * B = g * v1 * B + r * B:=by rw [← ht,Int.add_mul]
  omega
 have h4:(g * v1 * B + g * v2) * X≤(top * B + u2) * X:=Int.mul_le_mul_of_nonneg_right h3 (Int.le_of_lt hX)
 have h5:g * V'≤B * X:=Int.mul_le_mul (by omega) (by omega) hV0 (by decide)
 have h6:B * X≤(v1 * B + v2) * X:=Int.mul_le_mul_of_nonneg_right (by
  have:1 * B≤v1 * B:=Int.mul_le_mul_of_nonneg_right hv1 (by decide)
  omega) (Int.le_of_lt hX)
 rw [Int.sub_mul,Int.one_mul]
 omega
theorem guess_high2 (g r top v1 V U Y:Int) (hY:0 < Y) (hg:1≤g) (hgB:g≤B + v1 + 1) (ht:g * v1 + r = top) (hr:B≤r) (hV:V≤(v1 + 1) * Y) (hU:top * Y≤U):(g - 1) * V≤U:=by
 have h1:(g - 1) * V≤(g - 1) * ((v1 + 1) * Y):=Int.mul_le_mul_of_nonneg_left hV (by omega)
 have h2:(g - 1) * (v1 + 1)≤top:=by
  rw [Int.sub_mul,Int.mul_add]
  omega
 have h3:(g - 1) * (v1 + 1) * Y≤top * Y:=Int.mul_le_mul_of_nonneg_right h2 (Int.le_of_lt hY)
 rw [Int.mul_assoc] at h3
 omega
end Go.Proofs.YtaknchlegjcdhaaGreatDoor.NatTh
namespace Go.Proofs.YtaknchlegjcdhaaGreatDoor.NatTh
end Go.Proofs.YtaknchlegjcdhaaGreatDoor.NatTh
set_option linter.unusedVariables false
namespace Go.Proofs.YtaknchlegjcdhaaGreatDoor.NatTh
theorem take_set_succ (l:List Int) (n:Nat) (w:Int) (h:n < l.length):(l.set n w).take (n + 1) = l.take n ++ [w]:=by
 rw [List.take_set]
 rw [List.take_add_one,List.getElem?_eq_getElem h,Option.toList_some]
 have:(l.take n).length = n:=by rw [List.length_take];omega
 rw [List.set_append_right _ _ (by omega),this,Nat.sub_self]
 rfl
theorem drop_set_succ (l:List Int) (n:Nat) (w:Int):(l.set n w).drop (n + 1) = l.drop (n + 1):=by
 rw [List.drop_set_of_lt (by omega)]
theorem drop_succ_of {a b:List Int} {n:Nat} (h:a.drop n = b.drop n):a.drop (n + 1) = b.drop (n + 1):=by
 rw [← List.drop_drop,h,List.drop_drop]
theorem getD_drop {a b:List Int} {n i:Nat} (h:a.drop n = b.drop n) (hi:n≤i):a.getD i 0 = b.getD i 0:=by
 have e:(a.drop n)[i - n]? = (b.drop n)[i - n]?:=by rw [h]
 rw [List.getElem?_drop,List.getElem?_drop,show n + (i - n) = i by omega] at e
 rw [List.getD_eq_getElem?_getD,List.getD_eq_getElem?_getD,e]
theorem val_take_set (l:List Int) (n:Nat) (w:Int) (h:n < l.length):val ((l.set n w).take (n + 1)) = val (l.take n) + B ^ n * w:=by
 rw [take_set_succ l n w h,val_snoc,List.length_take,Nat.min_eq_left (by omega)]
theorem val_take_succD (a:List Int) (i:Nat) (hi:i < a.length):val (a.take (i + 1)) = val (a.take i) + B ^ i * a.getD i 0:=by
 rw [val_take_succ a i hi,List.getD_eq_getElem?_getD,List.getElem?_eq_getElem hi]
 rfl
theorem Wd.getD {a:List Int} (h:Wd a) (i:Nat):0≤a.getD i 0∧a.getD i 0 < B:=by
 rw [List.getD_eq_getElem?_getD]
 by_cases hi:i < a.length
 ·rw [List.getElem?_eq_getElem hi]
  exact h.get i hi
 ·rw [List.getElem?_eq_none (by omega)]
  exact ⟨Int.le_refl _,B_pos⟩
theorem val_take_more (a:List Int) (i:Nat):val (a.take (i + 1)) = val (a.take i) + B ^ i * a.getD i 0:=by
 by_cases hi:i < a.length
 ·exact val_take_succD a i hi
 ·rw [List.take_of_length_le (by omega),List.take_of_length_le (by omega),List.getD_eq_getElem?_getD,List.getElem?_eq_none (by omega)]
  simp
theorem val_split (a:List Int) (i:Nat) (hi:i≤a.length):val a = val (a.take i) + B ^ i * val (a.drop i):=val_take_drop a i hi
theorem val_drop_succ (a:List Int) (i:Nat) (hi:i < a.length):val (a.drop i) = a.getD i 0 + B * val (a.drop (i + 1)):=by
 rw [List.drop_eq_getElem_cons hi,val,List.getD_eq_getElem?_getD,List.getElem?_eq_getElem hi]
 rfl
structure Run (u u':List Int) (at':Nat) (T C:Int):Prop where
 wd:Wd u'
 len:u'.length = u.length
 rest:u'.drop at' = u.drop at'
 eq:val (u'.take at') + B ^ at' * C = val (u.take at') + T
theorem Run.start {u:List Int} (h:Wd u) (n:Nat):Run u u n 0 0:=⟨h,rfl,rfl,by simp⟩
theorem Run.get {u u':List Int} {n:Nat} {T C:Int} (h:Run u u' n T C):u'.getD n 0 = u.getD n 0:=getD_drop h.rest (Nat.le_refl _)
theorem Run.step {u u':List Int} {n:Nat} {T C d C' x:Int} (h:Run u u' n T C) (hn:n < u.length) (hd:0≤d∧d < B) (e:d + B * C' = u.getD n 0 + C + x) :
  Run u (u'.set n d) (n + 1) (T + B ^ n * x) C':=by
 have hl:=h.len
 refine ⟨h.wd.set n hd,by rw [List.length_set,hl],by rw [drop_set_succ];exact drop_succ_of h.rest,?_⟩
 rw [val_take_set _ _ _ (by omega),val_take_succD _ _ hn,Bpow_succ]
 have h1:=h.eq
 generalize val (u'.take n) = X at *
 generalize val (u.take n) = Y at *
 generalize B ^ n = P at *
 generalize u.getD n 0 = w at *
 grind
theorem Run.value {u u':List Int} {n:Nat} {T C:Int} (h:Run u u' n T C) (hn:n≤u.length):val u' + B ^ n * C = val u + T:=by
 rw [val_split u' n (by rw [h.len];exact hn),val_split u n hn,h.rest]
 have h1:=h.eq
 generalize val (u'.take n) = X at *
 generalize val (u.take n) = Y at *
 generalize B ^ n = P at *
 generalize val (u.drop n) = Z at *
 grind
end Go.Proofs.YtaknchlegjcdhaaGreatDoor.NatTh
set_option linter.unusedVariables false
namespace Go.Proofs.YtaknchlegjcdhaaGreatDoor.NatTh
theorem val_set (l:List Int) (n:Nat) (w:Int) (h:n < l.length):val (l.set n w) = val l + B ^ n * (w - l.getD n 0):=by
 rw [val_split (l.set n w) (n + 1) (by rw [List.length_set];omega),val_split l (n + 1) (by omega),val_take_set _ _ _ h,val_take_succD _ _ h,drop_set_succ]
 generalize val (l.take n) = X
 generalize B ^ n = P
 generalize B ^ (n + 1) * val (l.drop (n + 1)) = Y
 generalize l.getD n 0 = w0
 grind
theorem val_take_le {l:List Int} (h:Wd l) (n:Nat):val (l.take n) < B ^ n:=by
 have h1:=val_lt (h.take n)
 have h2:B ^ (l.take n).length≤B ^ n:=by
  obtain ⟨d,hd⟩:∃ d,n = (l.take n).length + d:=⟨n - (l.take n).length,by rw [List.length_take];omega⟩
  have h3:=Bpow_pos (l.take n).length
  have h4:=Bpow_pos d
  have:B ^ (l.take n).length * 1≤B ^ (l.take n).length * B ^ d:=Int.mul_le_mul_of_nonneg_left (by omega) (Int.le_of_lt h3)
  rw [← Int.pow_add,← hd] at this
  omega
 omega
theorem val_take_nn {l:List Int} (h:Wd l) (n:Nat):0≤val (l.take n):=val_nonneg (h.take n)
theorem val_drop_nn {l:List Int} (h:Wd l) (n:Nat):0≤val (l.drop n):=val_nonneg (h.drop n)
theorem Bpow_add (m n:Nat):B ^ (m + n) = B ^ m * B ^ n:=Int.pow_add _ _ _
theorem val_high {l:List Int} (h:Wd l) (n:Nat) (hn:n≤l.length) (hv:val l < B ^ n):val (l.drop n) = 0∧val l = val (l.take n):=by
 have h1:=val_split l n hn
 have h2:=val_take_nn h n
 have h3:=val_drop_nn h n
 have h4:val (l.drop n) = 0:=by
  by_cases e:val (l.drop n) = 0
  ·exact e
  ·have:B ^ n * 1≤B ^ n * val (l.drop n):=Int.mul_le_mul_of_nonneg_left (by omega) (Int.le_of_lt (Bpow_pos n))
   omega
 refine ⟨h4,?_⟩
 rw [h4] at h1
 simpa using h1
theorem ring1 (B t X c b a:Int):t + X * c + B * X * b + B * (B * X) * a = ((a * B + b) * B + c) * X + t:=by grind
theorem ring3 (B X a b c U':Int):((a * B + b) * B + c) * X + U' = (a * B + b + 1) * (B * X) - B * X + c * X + U':=by grind
theorem ring4 (B d:Int):(2 * B + 1) * d = d * B + d * B + d:=by grind
theorem ring2 (B t Y X c b:Int):(t + Y * c + B * Y * b) * X = (b * B + c) * (X * Y) + t * X:=by grind
structure Place (u v:List Int) (j:Nat):Prop where
 wu:Wd u
 wv:Wd v
 k2:2≤v.length
 fit:j + v.length < u.length
 top:0 < v.getD (v.length - 1) 0
 low:val u < val v * B ^ (j + 1)
def qw (u v:List Int) (j:Nat):Int:=val u / (val v * B ^ j)
namespace Place
variable {u v : List Int} {j : Nat}
theorem V_pos (h:Place u v j):0 < val v:=by
 have h1:=val_split v (v.length - 1) (by omega)
 have hk:=h.k2
 have h2:=val_drop_succ v (v.length - 1) (by omega)
 have h3:=val_take_nn h.wv (v.length - 1)
 have h4:=val_drop_nn h.wv (v.length - 1 + 1)
 have h5:=Int.mul_nonneg (Int.le_of_lt B_pos) h4
 have h6:=h.top
 have h7:0 < B ^ (v.length - 1) * val (v.drop (v.length - 1)):=Int.mul_pos (Bpow_pos _) (by omega)
 omega
theorem VB_pos (h:Place u v j):0 < val v * B ^ j:=Int.mul_pos h.V_pos (Bpow_pos j)
theorem qw_nonneg (h:Place u v j):0≤qw u v j:=Int.ediv_nonneg (val_nonneg h.wu) (Int.le_of_lt h.VB_pos)
theorem qw_lt (h:Place u v j):qw u v j < B:=by
 refine Int.ediv_lt_of_lt_mul h.VB_pos ?_
 have:=h.low
 rw [Bpow_succ] at this
 rw [show B * (val v * B ^ j) = val v * (B * B ^ j) by grind]
 exact this
theorem qw_le (h:Place u v j):qw u v j * (val v * B ^ j)≤val u:=Int.ediv_mul_le _ (Int.ne_of_gt h.VB_pos)
theorem qw_gt (h:Place u v j):val u < (qw u v j + 1) * (val v * B ^ j):=Int.lt_ediv_add_one_mul_self _ h.VB_pos
theorem le_qw (h:Place u v j) {g:Int} (hg:g * (val v * B ^ j)≤val u):g≤qw u v j:=(Int.le_ediv_iff_mul_le h.VB_pos).2 hg
theorem qw_of_lt (h:Place u v j) {g:Int} (hg:val u < g * (val v * B ^ j)):qw u v j < g:=(Int.ediv_lt_iff_lt_mul h.VB_pos).2 hg
theorem parts (h:Place u v j):∃ X U' V',0 < X∧0≤U'∧U' < X∧0≤V'∧V' < X ∧
  val u = ((u.getD (j + v.length) 0 * B + u.getD (j + v.length - 1) 0) * B + u.getD (j + v.length - 2) 0) * X + U' ∧
  val v * B ^ j = (v.getD (v.length - 1) 0 * B + v.getD (v.length - 2) 0) * X + V':=by
 have hk:=h.k2
 have hf:=h.fit
 obtain ⟨k,hk'⟩:∃ k,v.length = k + 2:=⟨v.length - 2,by omega⟩
 have hV:=val_lt h.wv
 have hb:val u < B ^ (j + v.length + 1):=by
  have h1:=h.low
  have h2:val v * B ^ (j + 1)≤B ^ v.length * B ^ (j + 1):=Int.mul_le_mul_of_nonneg_right (Int.le_of_lt hV) (Int.le_of_lt (Bpow_pos _))
  rw [← Bpow_add,show v.length + (j + 1) = j + v.length + 1 by omega] at h2
  omega
 have e1:=(val_high h.wu (j + v.length + 1) (by omega) hb).2
 rw [val_take_more,hk',show j + (k + 2) = j + k + 1 + 1 by omega,val_take_more,val_take_more] at e1
 have e2:val v = val (v.take (k + 1 + 1)):=by rw [List.take_of_length_le (by omega)]
 rw [val_take_more,val_take_more] at e2
 rw [hk',show j + (k + 2) = j + k + 1 + 1 by omega,show j + k + 1 + 1 - 1 = j + k + 1 by omega,show j + k + 1 + 1 - 2 = j + k by omega,show k + 2 - 1 = k + 1 by omega,show k + 2 - 2 = k by omega]
 refine ⟨B ^ (j + k),val (u.take (j + k)),val (v.take k) * B ^ j,Bpow_pos _,val_take_nn h.wu _,val_take_le h.wu _,Int.mul_nonneg (val_take_nn h.wv _) (Int.le_of_lt (Bpow_pos _)),?_,?_,?_⟩
 ·rw [Int.add_comm] at *
  have h1:=val_take_le h.wv k
  have h2:=Int.mul_lt_mul_of_pos_right h1 (Bpow_pos j)
  rw [← Bpow_add,Nat.add_comm k j] at h2
  exact h2
 ·rw [Bpow_succ (j + k + 1),Bpow_succ (j + k)] at e1
  rw [e1,ring1]
 ·rw [Bpow_succ] at e2
  rw [Bpow_add,e2,ring2]
end Place
structure Guess (u v:List Int) (j:Nat) (g r:Int):Prop where
 g0:0≤g
 r0:0≤r
 eq:g * v.getD (v.length - 1) 0 + r = u.getD (j + v.length) 0 * B + u.getD (j + v.length - 1) 0
 up:qw u v j≤g
 hi:g≤2 * B
namespace Guess
variable {u v : List Int} {j : Nat} {g r : Int}
theorem head_le (h:Place u v j):u.getD (j + v.length) 0≤v.getD (v.length - 1) 0:=by
 obtain ⟨X,U',V',hX,hU,hU',hV,hV',e1,e2⟩:=h.parts
 have h1:=h.low
 have h2:val v * B ^ (j + 1) = (val v * B ^ j) * B:=by rw [Bpow_succ];grind
 rw [h2,e2,e1] at h1
 have hu1:=h.wu.getD (j + v.length - 1)
 have hu2:=h.wu.getD (j + v.length - 2)
 have hv2:=h.wv.getD (v.length - 2)
 by_cases e:u.getD (j + v.length) 0≤v.getD (v.length - 1) 0
 ·exact e
 ·exfalso
  generalize u.getD (j + v.length) 0 = a at *
  generalize u.getD (j + v.length - 1) 0 = b at *
  generalize u.getD (j + v.length - 2) 0 = c at *
  generalize v.getD (v.length - 1) 0 = d at *
  generalize v.getD (v.length - 2) 0 = f at *
  have h3:((d * B + f) * X + V') * B≤(d + 1) * (B * B * X):=by
   have h4:(f * X + V')≤B * X:=by
    have:f * X + X≤B * X:=by
     have:=Int.mul_le_mul_of_nonneg_right (show f + 1≤B by omega) (Int.le_of_lt hX)
     rw [Int.add_mul,Int.one_mul] at this
     exact this
    omega
   have h5:=Int.mul_le_mul_of_nonneg_right h4 (Int.le_of_lt B_pos)
   grind
  have h4:(d + 1) * (B * B * X)≤a * (B * B * X):=Int.mul_le_mul_of_nonneg_right (by omega) (Int.mul_nonneg (by decide) (Int.le_of_lt hX))
  have h5:a * (B * B * X)≤((a * B + b) * B + c) * X:=by
   have h6:0≤(b * B + c) * X:=Int.mul_nonneg (by have:=Int.mul_nonneg hu1.1 (Int.le_of_lt B_pos);omega) (Int.le_of_lt hX)
   grind
  omega
theorem start (h:Place u v j):Guess u v j ((u.getD (j + v.length) 0 * B + u.getD (j + v.length - 1) 0) / v.getD (v.length - 1) 0) ((u.getD (j + v.length) 0 * B + u.getD (j + v.length - 1) 0) % v.getD (v.length - 1) 0):=by
 have hv:=h.top
 have hl:=head_le h
 obtain ⟨X,U',V',hX,hU,hU',hV,hV',e1,e2⟩:=h.parts
 have hu0:=h.wu.getD (j + v.length)
 have hu1:=h.wu.getD (j + v.length - 1)
 have hu2:=h.wu.getD (j + v.length - 2)
 have hv2:=h.wv.getD (v.length - 2)
 have hq:=h.qw_le
 have hq0:=h.qw_nonneg
 rw [e1,e2] at hq
 have h0:0≤u.getD (j + v.length) 0 * B + u.getD (j + v.length - 1) 0:=by
  have:=Int.mul_nonneg hu0.1 (Int.le_of_lt B_pos)
  omega
 refine ⟨Int.ediv_nonneg h0 (Int.le_of_lt hv),Int.emod_nonneg _ (Int.ne_of_gt hv),by rw [Int.mul_comm];exact Int.mul_ediv_add_emod _ _,?_,?_⟩
 ·generalize qw u v j = q at *
  generalize u.getD (j + v.length) 0 = a at *
  generalize u.getD (j + v.length - 1) 0 = b at *
  generalize u.getD (j + v.length - 2) 0 = c at *
  generalize v.getD (v.length - 1) 0 = d at *
  generalize v.getD (v.length - 2) 0 = f at *
  refine guess_low (a * B + b) d ((d * B + f) * X + V') X q hX hv ?_ ?_ hq0
  ·have:=Int.mul_nonneg hv2.1 (Int.le_of_lt hX)
   rw [Int.add_mul,Int.mul_assoc]
   omega
  ·refine Int.lt_of_le_of_lt hq ?_
   have:c * X + X≤B * X:=by
    have:=Int.mul_le_mul_of_nonneg_right (show c + 1≤B by omega) (Int.le_of_lt hX)
    rw [Int.add_mul,Int.one_mul] at this
    exact this
   rw [ring3]
   omega
 ·generalize u.getD (j + v.length) 0 = a at *
  generalize u.getD (j + v.length - 1) 0 = b at *
  generalize v.getD (v.length - 1) 0 = d at *
  refine Int.le_of_lt_add_one (Int.ediv_lt_of_lt_mul hv ?_)
  have h1:a * B≤d * B:=Int.mul_le_mul_of_nonneg_right hl (Int.le_of_lt B_pos)
  have h2:1 * B≤d * B:=Int.mul_le_mul_of_nonneg_right hv (Int.le_of_lt B_pos)
  rw [ring4]
  omega
theorem step (h:Place u v j) (G:Guess u v j g r) (hc:B≤g ∨ r * B + u.getD (j + v.length - 2) 0 < g * v.getD (v.length - 2) 0) :
  Guess u v j (g - 1) (r + v.getD (v.length - 1) 0)∧1≤g:=by
 have hv:=h.top
 obtain ⟨X,U',V',hX,hU,hU',hV,hV',e1,e2⟩:=h.parts
 have hq:qw u v j < g:=by
  rcases hc with hc|hc
  ·have:=h.qw_lt
   omega
  ·refine h.qw_of_lt ?_
   exact guess_too g r _ _ _ _ (val v * B ^ j) (val u) X U' V' hX G.g0 G.eq e2 hV e1 hU' hc
 have hq0:=h.qw_nonneg
 have h1:=G.r0
 have h2:=G.hi
 refine ⟨⟨by omega,by omega,?_,by omega,by omega⟩,by omega⟩
 rw [← G.eq,Int.sub_mul]
 omega
theorem done (h:Place u v j) (G:Guess u v j g r) (hc:B≤r ∨ (g < B∧g * v.getD (v.length - 2) 0≤r * B + u.getD (j + v.length - 2) 0)):g = qw u v j ∨ g = qw u v j + 1:=by
 have hv:=h.top
 obtain ⟨X,U',V',hX,hU,hU',hV,hV',e1,e2⟩:=h.parts
 have hq0:=h.qw_nonneg
 have hup:=G.up
 have hv2:=h.wv.getD (v.length - 2)
 have hu2:=h.wu.getD (j + v.length - 2)
 by_cases e:g = 0
 ·omega
 ·have hg:=G.g0
  have key:(g - 1) * (val v * B ^ j)≤val u:=by
   rcases hc with hc|⟨hc1,hc2⟩
   ·have hu0:=h.wu.getD (j + v.length)
    have hu1:=h.wu.getD (j + v.length - 1)
    have hl:=head_le h
    have heq:=G.eq
    refine guess_high2 g r _ (v.getD (v.length - 1) 0) (val v * B ^ j) (val u) (B * X) (Int.mul_pos B_pos hX) (by omega) ?_ G.eq hc ?_ ?_
    ·generalize u.getD (j + v.length) 0 = a at *
     generalize u.getD (j + v.length - 1) 0 = b at *
     generalize v.getD (v.length - 1) 0 = d at *
     have h1:a * B≤d * B:=Int.mul_le_mul_of_nonneg_right hl (Int.le_of_lt B_pos)
     by_cases h2:g≤B + d + 1
     ·exact h2
     ·have h3:(B + 1) * d≤g * d:=Int.mul_le_mul_of_nonneg_right (by omega) (Int.le_of_lt hv)
      grind
    ·rw [e2]
     have:v.getD (v.length - 2) 0 * X + X≤B * X:=by
      have:=Int.mul_le_mul_of_nonneg_right (show v.getD (v.length - 2) 0 + 1≤B by omega) (Int.le_of_lt hX)
      rw [Int.add_mul,Int.one_mul] at this
      exact this
     grind
    ·rw [e1]
     have:=Int.mul_nonneg hu2.1 (Int.le_of_lt hX)
     grind
   ·exact guess_high1 g r _ (v.getD (v.length - 1) 0) _ _ (val v * B ^ j) (val u) X U' V' hX hg hc1 hv hv2.1 G.eq e2 hV hV' e1 hU hc2
  have:=h.le_qw key
  omega
end Guess
theorem sub_done {u v u':List Int} {j:Nat} {g c:Int} (h:Place u v j) (hg:g = qw u v j ∨ g = qw u v j + 1) (R:Run u u' (j + v.length) (-(g * (val v * B ^ j))) (-c)) :
  (u.getD (j + v.length) 0 - c = 0∧g = qw u v j∧val (u'.set (j + v.length) 0) = val u - qw u v j * (val v * B ^ j)) ∨
  (u.getD (j + v.length) 0 - c = -1∧g = qw u v j + 1∧∀ u'' up,Run u' u'' (j + v.length) (val v * B ^ j) up→up = 1∧val (u''.set (j + v.length) 0) = val u - qw u v j * (val v * B ^ j)):=by
 have hf:=h.fit
 have hl:=R.len
 have hV:=val_lt h.wv
 have hVB:val v * B ^ j < B ^ (j + v.length):=by
  have:=Int.mul_lt_mul_of_pos_right hV (Bpow_pos j)
  rw [← Bpow_add,Nat.add_comm] at this
  exact this
 have h1:=R.value (by omega)
 have h2:=val_split u' (j + v.length) (by omega)
 have h3:=val_take_nn R.wd (j + v.length)
 have h4:=val_take_le R.wd (j + v.length)
 have hP:=Bpow_pos (j + v.length)
 have hdrop:val (u'.drop (j + v.length)) = u.getD (j + v.length) 0:=by
  rw [R.rest,val_drop_succ _ _ (by omega)]
  have hb:val u < B ^ (j + v.length + 1):=by
   have h1:=h.low
   have h2:val v * B ^ (j + 1)≤B ^ v.length * B ^ (j + 1):=Int.mul_le_mul_of_nonneg_right (Int.le_of_lt hV) (Int.le_of_lt (Bpow_pos _))
   rw [← Bpow_add,show v.length + (j + 1) = j + v.length + 1 by omega] at h2
   omega
  rw [(val_high h.wu _ (by omega) hb).1]
  simp
 have hget:u'.getD (j + v.length) 0 = u.getD (j + v.length) 0:=R.get
 have hq1:=h.qw_le
 have hq2:=h.qw_gt
 have hs:=val_set u' (j + v.length) 0 (by omega)
 rw [hdrop] at h2
 rw [hget] at hs
 rw [hs]
 have h5:val (u'.take (j + v.length)) + B ^ (j + v.length) * (u.getD (j + v.length) 0 - c) = val u - g * (val v * B ^ j):=by
  rw [Int.mul_sub]
  rw [Int.mul_neg] at h1
  omega
 rcases hg with hg|hg
 ·left
  rw [← hg] at hq1 hq2 ⊢
  rw [Int.add_mul,Int.one_mul] at hq2
  have h6:u.getD (j + v.length) 0 - c = 0:=by
   have ha:0≤val u - g * (val v * B ^ j):=by omega
   have hb:val u - g * (val v * B ^ j) < B ^ (j + v.length):=by omega
   rw [← h5] at ha hb
   generalize u.getD (j + v.length) 0 - c = t at *
   generalize B ^ (j + v.length) = P at *
   generalize val (u'.take (j + v.length)) = X at *
   by_cases e1:1≤t
   ·have:P * 1≤P * t:=Int.mul_le_mul_of_nonneg_left e1 (by omega)
    omega
   ·by_cases e2:t≤-1
    ·have:P * t≤P * (-1):=Int.mul_le_mul_of_nonneg_left e2 (by omega)
     omega
    ·omega
  refine ⟨h6,rfl,?_⟩
  rw [h6] at h5
  generalize B ^ (j + v.length) = P at *
  rw [h2]
  grind
 ·right
  have hq1':(g - 1) * (val v * B ^ j)≤val u:=by rw [hg,Int.add_sub_cancel];exact hq1
  have hq2':val u < g * (val v * B ^ j):=by rw [hg];exact hq2
  rw [Int.sub_mul,Int.one_mul] at hq1'
  have h6:u.getD (j + v.length) 0 - c = -1:=by
   have ha:-(B ^ (j + v.length)) < val u - g * (val v * B ^ j):=by omega
   have hb:val u - g * (val v * B ^ j) < 0:=by omega
   rw [← h5] at ha hb
   generalize u.getD (j + v.length) 0 - c = t at *
   generalize B ^ (j + v.length) = P at *
   generalize val (u'.take (j + v.length)) = X at *
   by_cases e1:0≤t
   ·have:0≤P * t:=Int.mul_nonneg (by omega) e1
    omega
   ·by_cases e2:t≤-2
    ·have:P * t≤P * (-2):=Int.mul_le_mul_of_nonneg_left e2 (by omega)
     omega
    ·omega
  refine ⟨h6,hg,fun u'' up R2=>?_⟩
  have hl2:=R2.len
  have k1:=R2.eq
  have k2:=val_split u'' (j + v.length) (by omega)
  rw [R2.rest,hdrop] at k2
  have k3:=val_take_nn R2.wd (j + v.length)
  have k4:=val_take_le R2.wd (j + v.length)
  have k5:u''.getD (j + v.length) 0 = u.getD (j + v.length) 0:=by rw [R2.get,hget]
  rw [val_set _ _ _ (by omega),k5]
  rw [h6] at h5
  have e9:qw u v j * (val v * B ^ j) = g * (val v * B ^ j) - val v * B ^ j:=by rw [hg];grind
  rw [e9]
  have hup:up = 1:=by
   generalize B ^ (j + v.length) = P at *
   generalize val (u'.take (j + v.length)) = X at *
   generalize val (u''.take (j + v.length)) = Y at *
   by_cases e1:2≤up
   ·have:P * 2≤P * up:=Int.mul_le_mul_of_nonneg_left e1 (by omega)
    omega
   ·by_cases e2:up≤0
    ·have:P * up≤P * 0:=Int.mul_le_mul_of_nonneg_left e2 (by omega)
     omega
    ·omega
  refine ⟨hup,?_⟩
  rw [hup] at k1
  generalize B ^ (j + v.length) = P at *
  generalize val (u'.take (j + v.length)) = X at *
  generalize val (u''.take (j + v.length)) = Y at *
  rw [k2]
  grind
end Go.Proofs.YtaknchlegjcdhaaGreatDoor.NatTh
set_option linter.unusedVariables false
namespace Go.Proofs.YtaknchlegjcdhaaGreatDoor.NatTh
theorem len_le {a n:Nat} (h:(a:Int) < B ^ n):(numOf a).length≤n:=(num_numOf a).len_le (by rw [val_numOf];exact h)
theorem lt_len (a:Nat):(a:Int) < B ^ (numOf a).length:=by
 have:=val_lt (num_numOf a).1
 rwa [val_numOf] at this
theorem Bpow_le {m n:Nat} (h:m≤n):B ^ m≤B ^ n:=by
 obtain ⟨d,rfl⟩:∃ d,n = m + d:=⟨n - m,by omega⟩
 have h3:=Bpow_pos m
 have h4:=Bpow_pos d
 have:B ^ m * 1≤B ^ m * B ^ d:=Int.mul_le_mul_of_nonneg_left (by omega) (Int.le_of_lt h3)
 rw [← Bpow_add] at this
 omega
theorem len_mono {a b:Nat} (h:a≤b):(numOf a).length≤(numOf b).length:=len_le (by have:=lt_len b;omega)
theorem len_add (a b n:Nat) (ha:(numOf a).length≤n) (hb:(numOf b).length≤n):(numOf (a + b)).length≤n + 1:=by
 refine len_le ?_
 have h1:=lt_len a
 have h2:=lt_len b
 have h3:=Bpow_le ha
 have h4:=Bpow_le hb
 have h5:=Bpow_pos n
 rw [Bpow_succ]
 have:2 * B ^ n≤B * B ^ n:=Int.mul_le_mul_of_nonneg_right (by decide) (Int.le_of_lt h5)
 omega
theorem len_mul (a b:Nat):(numOf (a * b)).length≤(numOf a).length + (numOf b).length:=by
 refine len_le ?_
 have h1:=lt_len a
 have h2:=lt_len b
 rw [Bpow_add,Int.natCast_mul]
 exact Int.mul_lt_mul' (Int.le_of_lt h1) h2 (by omega) (Bpow_pos _)
theorem numOf_nil {a:Nat}:numOf a = [] ↔ a = 0:=by
 constructor
 ·intro h
  have:=val_numOf a
  rw [h] at this
  simp [val] at this
  omega
 ·rintro rfl
  exact numOf_zero
theorem len_pos {a:Nat} (h:0 < a):0 < (numOf a).length:=by
 rw [List.length_pos_iff]
 intro e
 rw [numOf_nil] at e
 omega
theorem trim_numOf {l:List Int} (h:Wd l) {n:Nat} (e:val l = n):trimL l = numOf n:=by
 rw [(num_trimL h).numOf,val_trimL,e]
 rfl
theorem num_is {l:List Int} (h:Num l) {n:Nat} (e:val l = n):l = numOf n:=by
 rw [h.numOf,e]
 rfl
theorem Num.ge {l:List Int} (h:Num l) (hn:l≠[]):B ^ (l.length - 1)≤val l:=by
 have hl:0 < l.length:=List.length_pos_iff.2 hn
 have h1:=val_split l (l.length - 1) (by omega)
 have h2:=val_take_nn h.1 (l.length - 1)
 have h3:=val_drop_succ l (l.length - 1) (by omega)
 rw [List.drop_of_length_le (show l.length≤l.length - 1 + 1 by omega)] at h3
 have h4:l.getD (l.length - 1) 0≠0:=by
  have:=h.2 (l.getD (l.length - 1) 0) (by rw [List.getLast?_eq_getElem?,List.getD_eq_getElem?_getD,List.getElem?_eq_getElem (by omega)];rfl)
  exact this
 have h5:=h.1.getD (l.length - 1)
 have h6:B ^ (l.length - 1) * 1≤B ^ (l.length - 1) * val (l.drop (l.length - 1)):=Int.mul_le_mul_of_nonneg_left (by rw [h3,show val ([]:List Int) = 0 from rfl];omega) (Int.le_of_lt (Bpow_pos _))
 omega
theorem top_pos (a:Nat) (h:0 < a):0 < (numOf a).getD ((numOf a).length - 1) 0:=by
 have hl:=len_pos h
 have h5:=(num_numOf a).1.getD ((numOf a).length - 1)
 have:=(num_numOf a).2 ((numOf a).getD ((numOf a).length - 1) 0) (by rw [List.getLast?_eq_getElem?,List.getD_eq_getElem?_getD,List.getElem?_eq_getElem (by omega)];rfl)
 omega
theorem lt_of_len {a b:Nat} (h:(numOf a).length < (numOf b).length):a < b:=by
 have h1:=lt_len a
 have h2:=(num_numOf b).ge (by intro e;rw [e] at h;simp at h)
 rw [val_numOf] at h2
 have h3:=Bpow_le (show (numOf a).length≤(numOf b).length - 1 by omega)
 omega
theorem lt_of_word {x y:List Int} (hx:Wd x) (hy:Wd y) (hl:x.length = y.length) {i:Nat} (hi:i < x.length) (hd:x.drop (i + 1) = y.drop (i + 1)) (h:x.getD i 0 < y.getD i 0):val x < val y:=by
 have h1:=val_split x i (by omega)
 have h2:=val_split y i (by omega)
 have h3:=val_drop_succ x i hi
 have h4:=val_drop_succ y i (by omega)
 have h5:=val_take_le hx i
 have h6:=val_take_nn hy i
 have h7:B ^ i * (val (x.drop i) + 1)≤B ^ i * val (y.drop i):=Int.mul_le_mul_of_nonneg_left (by rw [h3,h4,hd];omega) (Int.le_of_lt (Bpow_pos i))
 rw [Int.mul_add] at h7
 omega
theorem drop_eq_of {x y:List Int} (hl:x.length = y.length) {i:Nat} (hi:i < x.length) (hd:x.drop (i + 1) = y.drop (i + 1)) (h:x.getD i 0 = y.getD i 0):x.drop i = y.drop i:=by
 rw [List.drop_eq_getElem_cons hi,List.drop_eq_getElem_cons (show i < y.length by omega),hd]
 rw [List.getD_eq_getElem?_getD,List.getD_eq_getElem?_getD,List.getElem?_eq_getElem hi,List.getElem?_eq_getElem (show i < y.length by omega)] at h
 simp only [Option.getD_some] at h
 rw [h]
def ord (a b:Nat):Int:=if a < b then -1 else if b < a then 1 else 0
theorem numOf_one {a:Nat} (h:a < 1000000000) (h0:0 < a):numOf a = [(a:Int)]:=by
 rw [numOf,dif_neg (by omega),Nat.mod_eq_of_lt h,Nat.div_eq_of_lt h,numOf_zero]
theorem val_two (l:List Int) (h:l.length = 2):val l = l.getD 0 0 + B * l.getD 1 0:=by
 match l,h with
 | [a,b],_=>simp [val]
theorem val_one (l:List Int) (h:l.length = 1):val l = l.getD 0 0:=by
 match l,h with
 | [a],_=>simp [val]
end Go.Proofs.YtaknchlegjcdhaaGreatDoor.NatTh
namespace Go.Proofs.YtaknchlegjcdhaaGreatDoor.Pr
open Go.RowKit Go.Proofs.YtaknchlegjcdhaaGreatDoorW.PrintWords Go.Proofs.YtaknchlegjcdhaaGreatDoorW.PrintLast Go.Proofs.YtaknchlegjcdhaaGreatDoorW.PrintMore
attribute [local go_sem] max2_int min2_int max_two min_two max_three min_three max_four min_four
set_option maxHeartbeats 8000000
set_option maxRecDepth 100000
set_option linter.unusedVariables false
set_option linter.unusedSimpArgs false
def natural_num_trim.l0:Nat→List Int→Option (List Int)
 | 0,_=>none
 | k + 1,x0=>if (x0.length:Int) > 0 then (if 0≤(wrap64 ((x0.length:Int) - 1)) then (if (wrap64 ((x0.length:Int) - 1)) < (x0.length:Int) then (if (rd x0 (wrap64 ((x0.length:Int) - 1))) = 0 then (if (wrap64 ((x0.length:Int) - 1))≤(x0.length:Int) then (natural_num_trim.l0 k (x0.take ((wrap64 ((x0.length:Int) - 1)):Int).toNat)) else (none)) else (some x0)) else (none)) else (none)) else (some x0)
def natural_num_trim.f (k:Nat) (l0:List Int):Option (List Int):=natural_num_trim.l0 k l0
theorem natural_num_trim.calls (k:Nat) (P0_:Nat→Prop) (A0:Option Addr) (c0:Nat) (l0:List Int) (r:List Int) (w:World) (hs0:Kd.V (Kd.int .u32) 95 w w.heap.size (fun k_=>P0_ k_) (.slice A0 l0.length c0) l0) (h:natural_num_trim.f k l0 = some r) :
  Calls Tryz.prog 97 #[.slice A0 l0.length c0] w fun e w'=>∃ v0_:Value,e = .returned (v0_)∧Kd.V (Kd.int .u32) 95 w' w.heap.size (fun k_=>(P0_ k_ ∨ w.heap.size≤k_)) v0_ r∧Below w.heap.size w w':=by
 have HO0:=Aside0.mk (show Kd.V (Kd.int .u32) 95 w w.heap.size (fun k_=>(P0_ k_ ∨ w.heap.size≤k_)) (.slice A0 l0.length c0) l0 from Kd.V_mono hs0 (fun k_ hk=>.inl hk))
 have HB:=Aside0.mk (Below.refl w.heap.size w)
 have H:(natural_num_trim.l0 k l0) = some r:=h
 clear h
 have H':=Aside0.mk H
 clear H
 go_enter Tryz.func97,Tryz.ntmps97
 go_wp2
 go_loopg [0] k (fun kq v0 w'=>∃ (x0_1:List Int),Aside0 (natural_num_trim.l0 kq x0_1 = some r)∧Aside0 (kq≤k)∧Aside0 (Kd.V (Kd.int .u32) 95 w' w.heap.size (fun k_=>(P0_ k_ ∨ w.heap.size≤k_)) v0 x0_1)∧Aside0 (Below w.heap.size w w'))
 case atStart=>exact ⟨(l0),H',⟨Nat.le_refl _⟩,⟨by (with_reducible repeat (first|apply Kd.V_alloc|apply Kd.V_drewN|apply Kd.V_drew));exact HO0.out⟩,⟨bx_⟩⟩
 case round =>
  clear H'
  obtain ⟨x0_1,HA,HK1,HO_0,HB⟩:=hrel
  cases gk with
  | zero=>exact absurd HA.out (by simp [natural_num_trim.l0])
  | succ k1 =>
   have H:=HA.out
   clear HA
   simp only [natural_num_trim.l0] at H
   by_cases c2:(x0_1.length:Int) > 0
   ·rw [if_pos c2] at H
    have c2b0:decide (0 < (x0_1.length:Int)) = true:=decide_eq_true c2
    have c2b1:decide (0 < x0_1.length) = true:=decide_eq_true (by omega)
    clear c2
    obtain ⟨ji3,hji3⟩:∃ j_:Int,(wrap64 ((x0_1.length:Int) - 1)) = j_:=⟨_,rfl⟩
    replace H:(if 0≤(ji3) then (if (ji3) < (x0_1.length:Int) then (if (rd x0_1 (ji3)) = 0 then (if (ji3)≤(x0_1.length:Int) then (natural_num_trim.l0 k1 (x0_1.take ((ji3):Int).toNat)) else (none)) else (some x0_1)) else (none)) else (none)) = some r:=by first|(rw [hji3] at H;exact H)|(simp only [hji3] at H ⊢;exact H)
    have hji3w:(IntKind.i64.wrap ((x0_1.length:Int) - 1)) = ji3:=(i64_w _).trans hji3
    by_cases c4:0≤(ji3)
    ·rw [if_pos c4] at H
     have c4b0:decide (0≤(ji3)) = true:=decide_eq_true c4
     clear c4
     by_cases c5:(ji3) < (x0_1.length:Int)
     ·rw [if_pos c5] at H
      have c5b0:decide ((ji3) < (x0_1.length:Int)) = true:=decide_eq_true c5
      clear c5
      by_cases c6:(rd x0_1 (ji3)) = 0
      ·rw [if_pos c6] at H
       have c6b0:((rd x0_1 (ji3)) == 0) = true:=beq_iff_eq.mpr c6
       have c6b1:((rd x0_1 (ji3)) != 0) = false:=bne_eq_false_iff_eq.mpr c6
       clear c6
       have c7b0:=eq_true (of_decide_eq_true (by first|(with_reducible assumption)|assumption):0≤(ji3))
       by_cases c8:(ji3)≤(x0_1.length:Int)
       ·rw [if_pos c8] at H
        have c8b0:=eq_true c8
        have c8b1:decide ((ji3)≤(x0_1.length:Int)) = true:=decide_eq_true c8
        clear c8
        obtain ⟨y182,hy182⟩:∃ y_:List Int,y_ = (x0_1.take ((ji3):Int).toNat):=⟨_,rfl⟩
        replace H:(natural_num_trim.l0 k1 y182) = some r:=by first|(rw [hy182];with_reducible exact H)|(have H2_:=(Option.bind_some _ _).symm.trans H;rw [hy182];with_reducible exact H2_)|(have H2_:=(Option.bind_some _ _).symm.trans H;with_reducible exact H2_)|with_reducible exact H|(rw [hy182];exact H)|exact H
        have Ny182:=Aside0.mk hy182
        clear hy182
        have H':=Aside0.mk H
        clear H
        obtain ⟨Ao9,co9,eo9⟩:=Kd.V_slice HO_0.out
        subst eo9
        have p181:0≤((ji3):Int):=da_
        have q181:(ji3) < (x0_1.length:Int):=da_
        obtain ⟨ad181,e181,hx181_0⟩:=Kd.at_int (Kd.V_reads' HO_0.out).2.2 (ji3) p181 q181
        cases e181
        replace p181:=eq_true p181
        replace q181:=eq_true q181
        have q10:((ji3):Int)≤((x0_1.length:Int):Int):=da_
        obtain ⟨i010,hi010,_,hsz10,_⟩:=info_parts info95
        have hroom10:x0_1.length≤co9:=(Kd.V_reads' HO_0.out).2.1
        have hC10:Kd.F (Kd.int .u32) _ _ (some ad181) x0_1.length x0_1:=(Kd.V_at (base:=w.heap.size) HO_0.out).2.2
        have hcut10:=cut_to (P:=Tryz.prog) 74 95 .i64 Tryz.underlying74 hi010 (some ad181) x0_1.length co9 (ji3) (of_decide_eq_true (by first|(with_reducible assumption)|assumption)) q10 hroom10
        have hr10:=Kd.F_take (m:=((ji3):Int).toNat) hC10 (by omega)
        have hy10:y182.length = ((ji3):Int).toNat:=(by rw [Ny182.out,List.length_take];omega)
        rw [← Ny182.out] at hr10
        rw [← hy10] at hcut10
        have HO186:=Aside0.mk (show Kd.V (Kd.int .u32) 95 _ w.heap.size _ (.slice (some ad181) y182.length co9) y182 from Kd.V_mk (by omega) hr10)
        have HC186:=Aside0.mk (show y182.length≤co9 from by omega)
        clear hr10 hC10 hroom10 hi010 hsz10
        have KY10:=Aside0.mk hy10
        clear hy10
        replace q10:=eq_true q10
        go_wp2
        go_roundg k1
        case measure=>have:=HK1.out;omega
        case rel=>exact ⟨(y182),H',⟨by have:=HK1.out;omega⟩,⟨by (with_reducible repeat (first|apply Kd.V_alloc|apply Kd.V_drewN|apply Kd.V_drew));exact HO186.out⟩,⟨bx_⟩⟩
       ·rw [if_neg c8] at H
        exact absurd H sm_
      ·rw [if_neg c6] at H
       have c6b0:((rd x0_1 (ji3)) == 0) = false:=beq_eq_false_iff_ne.mpr c6
       have c6b1:((rd x0_1 (ji3)) != 0) = true:=bne_iff_ne.mpr c6
       obtain rfl:=Option.some.inj H
       obtain ⟨Ao11,co11,eo11⟩:=Kd.V_slice HO_0.out
       subst eo11
       have p181:0≤((ji3):Int):=da_
       have q181:(ji3) < (x0_1.length:Int):=da_
       obtain ⟨ad181,e181,hx181_0⟩:=Kd.at_int (Kd.V_reads' HO_0.out).2.2 (ji3) p181 q181
       cases e181
       replace p181:=eq_true p181
       replace q181:=eq_true q181
       go_wp2
       go_ret
       exact ⟨_,by first|rfl|(simp [errW_none,errW_some]<;>rfl)|(simp only [← hji3];first|rfl|(simp [errW_none,errW_some]<;>rfl))|(simp [*,errW_none,errW_some]<;>rfl),by (with_reducible repeat (first|apply Kd.V_alloc|apply Kd.V_drewN|apply Kd.V_drew));exact HO_0.out,bx_⟩
     ·rw [if_neg c5] at H
      exact absurd H sm_
    ·rw [if_neg c4] at H
     exact absurd H sm_
   ·rw [if_neg c2] at H
    have c2b0:decide (0 < (x0_1.length:Int)) = false:=decide_eq_false c2
    have c2b1:decide (0 < x0_1.length) = false:=decide_eq_false (by omega)
    clear c2
    obtain rfl:=Option.some.inj H
    obtain ⟨Ao12,co12,eo12⟩:=Kd.V_slice HO_0.out
    subst eo12
    go_wp2
    go_ret
    exact ⟨_,rf_,by (with_reducible repeat (first|apply Kd.V_alloc|apply Kd.V_drewN|apply Kd.V_drew));exact HO_0.out,bx_⟩
end Go.Proofs.YtaknchlegjcdhaaGreatDoor.Pr
namespace Go.Proofs.YtaknchlegjcdhaaGreatDoor.Pr
open Go.RowKit Go.Proofs.YtaknchlegjcdhaaGreatDoorW.PrintWords Go.Proofs.YtaknchlegjcdhaaGreatDoorW.PrintLast Go.Proofs.YtaknchlegjcdhaaGreatDoorW.PrintMore
attribute [local go_sem] max2_int min2_int max_two min_two max_three min_three max_four min_four
set_option maxHeartbeats 8000000
set_option maxRecDepth 100000
set_option linter.unusedVariables false
set_option linter.unusedSimpArgs false
def garboardref01_trim.l0:Nat→List Int→Option (List Int)
 | 0,_=>none
 | k + 1,x0=>if (x0.length:Int) > 0 then (if 0≤(wrap64 ((x0.length:Int) - 1)) then (if (wrap64 ((x0.length:Int) - 1)) < (x0.length:Int) then (if (rd x0 (wrap64 ((x0.length:Int) - 1))) = 0 then (if (wrap64 ((x0.length:Int) - 1))≤(x0.length:Int) then (garboardref01_trim.l0 k (x0.take ((wrap64 ((x0.length:Int) - 1)):Int).toNat)) else (none)) else (some x0)) else (none)) else (none)) else (some x0)
def garboardref01_trim.f (k:Nat) (l0:List Int):Option (List Int):=garboardref01_trim.l0 k l0
theorem garboardref01_trim.calls (k:Nat) (P0_:Nat→Prop) (A0:Option Addr) (c0:Nat) (l0:List Int) (r:List Int) (w:World) (hs0:Kd.V (Kd.int .u32) 95 w w.heap.size (fun k_=>P0_ k_) (.slice A0 l0.length c0) l0) (h:garboardref01_trim.f k l0 = some r) :
  Calls Tryz.prog 103 #[.slice A0 l0.length c0] w fun e w'=>∃ v0_:Value,e = .returned (v0_)∧Kd.V (Kd.int .u32) 95 w' w.heap.size (fun k_=>(P0_ k_ ∨ w.heap.size≤k_)) v0_ r∧Below w.heap.size w w':=by
 have HO0:=Aside0.mk (show Kd.V (Kd.int .u32) 95 w w.heap.size (fun k_=>(P0_ k_ ∨ w.heap.size≤k_)) (.slice A0 l0.length c0) l0 from Kd.V_mono hs0 (fun k_ hk=>.inl hk))
 have HB:=Aside0.mk (Below.refl w.heap.size w)
 have H:(garboardref01_trim.l0 k l0) = some r:=h
 clear h
 have H':=Aside0.mk H
 clear H
 go_enter Tryz.func103,Tryz.ntmps103
 go_wp2
 go_loopg [0] k (fun kq v0 w'=>∃ (x0_1:List Int),Aside0 (garboardref01_trim.l0 kq x0_1 = some r)∧Aside0 (kq≤k)∧Aside0 (Kd.V (Kd.int .u32) 95 w' w.heap.size (fun k_=>(P0_ k_ ∨ w.heap.size≤k_)) v0 x0_1)∧Aside0 (Below w.heap.size w w'))
 case atStart=>exact ⟨(l0),H',⟨Nat.le_refl _⟩,⟨by (with_reducible repeat (first|apply Kd.V_alloc|apply Kd.V_drewN|apply Kd.V_drew));exact HO0.out⟩,⟨bx_⟩⟩
 case round =>
  clear H'
  try clear c1
  obtain ⟨x0_1,HA,HK1,HO_0,HB⟩:=hrel
  cases gk with
  | zero=>exact absurd HA.out (by simp [garboardref01_trim.l0])
  | succ k1 =>
   have H:=HA.out
   clear HA
   simp only [garboardref01_trim.l0] at H
   by_cases c2:(x0_1.length:Int) > 0
   ·rw [if_pos c2] at H
    have c2b0:decide (0 < (x0_1.length:Int)) = true:=decide_eq_true c2
    have c2b1:decide (0 < x0_1.length) = true:=decide_eq_true (by omega)
    clear c2
    obtain ⟨ji3,hji3⟩:∃ j_:Int,(wrap64 ((x0_1.length:Int) - 1)) = j_:=⟨_,rfl⟩
    replace H:(if 0≤(ji3) then (if (ji3) < (x0_1.length:Int) then (if (rd x0_1 (ji3)) = 0 then (if (ji3)≤(x0_1.length:Int) then (garboardref01_trim.l0 k1 (x0_1.take ((ji3):Int).toNat)) else (none)) else (some x0_1)) else (none)) else (none)) = some r:=by first|(rw [hji3] at H;exact H)|(simp only [hji3] at H ⊢;exact H)
    have hji3w:(IntKind.i64.wrap ((x0_1.length:Int) - 1)) = ji3:=(i64_w _).trans hji3
    by_cases c4:0≤(ji3)
    ·rw [if_pos c4] at H
     have c4b0:decide (0≤(ji3)) = true:=decide_eq_true c4
     clear c4
     by_cases c5:(ji3) < (x0_1.length:Int)
     ·rw [if_pos c5] at H
      have c5b0:decide ((ji3) < (x0_1.length:Int)) = true:=decide_eq_true c5
      clear c5
      by_cases c6:(rd x0_1 (ji3)) = 0
      ·rw [if_pos c6] at H
       have c6b0:((rd x0_1 (ji3)) == 0) = true:=beq_iff_eq.mpr c6
       have c6b1:((rd x0_1 (ji3)) != 0) = false:=bne_eq_false_iff_eq.mpr c6
       clear c6
       have c7b0:=eq_true (of_decide_eq_true (by first|(with_reducible assumption)|assumption):0≤(ji3))
       by_cases c8:(ji3)≤(x0_1.length:Int)
       ·rw [if_pos c8] at H
        have c8b0:=eq_true c8
        have c8b1:decide ((ji3)≤(x0_1.length:Int)) = true:=decide_eq_true c8
        clear c8
        obtain ⟨y418,hy418⟩:∃ y_:List Int,y_ = (x0_1.take ((ji3):Int).toNat):=⟨_,rfl⟩
        replace H:(garboardref01_trim.l0 k1 y418) = some r:=by first|(rw [hy418];with_reducible exact H)|(have H2_:=(Option.bind_some _ _).symm.trans H;rw [hy418];with_reducible exact H2_)|(have H2_:=(Option.bind_some _ _).symm.trans H;with_reducible exact H2_)|with_reducible exact H|(rw [hy418];exact H)|exact H
        have Ny418:=Aside0.mk hy418
        clear hy418
        have H':=Aside0.mk H
        clear H
        obtain ⟨Ao9,co9,eo9⟩:=Kd.V_slice HO_0.out
        subst eo9
        have p417:0≤((ji3):Int):=da_
        have q417:(ji3) < (x0_1.length:Int):=da_
        obtain ⟨ad417,e417,hx417_0⟩:=Kd.at_int (Kd.V_reads' HO_0.out).2.2 (ji3) p417 q417
        cases e417
        replace p417:=eq_true p417
        replace q417:=eq_true q417
        have q10:((ji3):Int)≤((x0_1.length:Int):Int):=da_
        obtain ⟨i010,hi010,_,hsz10,_⟩:=info_parts info95
        have hroom10:x0_1.length≤co9:=(Kd.V_reads' HO_0.out).2.1
        have hC10:Kd.F (Kd.int .u32) _ _ (some ad417) x0_1.length x0_1:=(Kd.V_at (base:=w.heap.size) HO_0.out).2.2
        have hcut10:=cut_to (P:=Tryz.prog) 49 95 .i64 Tryz.underlying49 hi010 (some ad417) x0_1.length co9 (ji3) (of_decide_eq_true (by first|(with_reducible assumption)|assumption)) q10 hroom10
        have hr10:=Kd.F_take (m:=((ji3):Int).toNat) hC10 (by omega)
        have hy10:y418.length = ((ji3):Int).toNat:=(by rw [Ny418.out,List.length_take];omega)
        rw [← Ny418.out] at hr10
        rw [← hy10] at hcut10
        have HO422:=Aside0.mk (show Kd.V (Kd.int .u32) 95 _ w.heap.size _ (.slice (some ad417) y418.length co9) y418 from Kd.V_mk (by omega) hr10)
        have HC422:=Aside0.mk (show y418.length≤co9 from by omega)
        clear hr10 hC10 hroom10 hi010 hsz10
        have KY10:=Aside0.mk hy10
        clear hy10
        replace q10:=eq_true q10
        go_wp2
        go_roundg k1
        case measure=>have:=HK1.out;omega
        case rel=>exact ⟨(y418),H',⟨by have:=HK1.out;omega⟩,⟨by (with_reducible repeat (first|apply Kd.V_alloc|apply Kd.V_drewN|apply Kd.V_drew));exact HO422.out⟩,⟨bx_⟩⟩
       ·rw [if_neg c8] at H
        exact absurd H sm_
      ·rw [if_neg c6] at H
       have c6b0:((rd x0_1 (ji3)) == 0) = false:=beq_eq_false_iff_ne.mpr c6
       have c6b1:((rd x0_1 (ji3)) != 0) = true:=bne_iff_ne.mpr c6
       obtain rfl:=Option.some.inj H
       obtain ⟨Ao11,co11,eo11⟩:=Kd.V_slice HO_0.out
       subst eo11
       have p417:0≤((ji3):Int):=da_
       have q417:(ji3) < (x0_1.length:Int):=da_
       obtain ⟨ad417,e417,hx417_0⟩:=Kd.at_int (Kd.V_reads' HO_0.out).2.2 (ji3) p417 q417
       cases e417
       replace p417:=eq_true p417
       replace q417:=eq_true q417
       go_wp2
       go_ret
       exact ⟨_,by first|rfl|(simp [errW_none,errW_some]<;>rfl)|(simp only [← hji3];first|rfl|(simp [errW_none,errW_some]<;>rfl))|(simp [*,errW_none,errW_some]<;>rfl),by (with_reducible repeat (first|apply Kd.V_alloc|apply Kd.V_drewN|apply Kd.V_drew));exact HO_0.out,bx_⟩
     ·rw [if_neg c5] at H
      exact absurd H sm_
    ·rw [if_neg c4] at H
     exact absurd H sm_
   ·rw [if_neg c2] at H
    have c2b0:decide (0 < (x0_1.length:Int)) = false:=decide_eq_false c2
    have c2b1:decide (0 < x0_1.length) = false:=decide_eq_false (by omega)
    clear c2
    obtain rfl:=Option.some.inj H
    obtain ⟨Ao12,co12,eo12⟩:=Kd.V_slice HO_0.out
    subst eo12
    go_wp2
    go_ret
    exact ⟨_,rf_,by (with_reducible repeat (first|apply Kd.V_alloc|apply Kd.V_drewN|apply Kd.V_drew));exact HO_0.out,bx_⟩
end Go.Proofs.YtaknchlegjcdhaaGreatDoor.Pr
namespace Go.Proofs.YtaknchlegjcdhaaGreatDoor.Pr
open Go.RowKit Go.Proofs.YtaknchlegjcdhaaGreatDoorW.PrintWords Go.Proofs.YtaknchlegjcdhaaGreatDoorW.PrintLast Go.Proofs.YtaknchlegjcdhaaGreatDoorW.PrintMore
attribute [local go_sem] max2_int min2_int max_two min_two max_three min_three max_four min_four
set_option maxHeartbeats 8000000
set_option maxRecDepth 100000
set_option linter.unusedVariables false
set_option linter.unusedSimpArgs false
def cmp_isNaN_int.f (a0:Int):Option (Bool):=some (a0 != a0)
theorem cmp_isNaN_int.calls (a0:Int) (r:Bool) (w:World) (h:cmp_isNaN_int.f a0 = some r) :
  Calls Tryz.prog 114 #[.int .i64 a0] w fun e w'=>e = .returned (.bool r)∧Drawn0 w w':=by
 have H:(some (a0 != a0)) = some r:=h
 clear h
 obtain rfl:=Option.some.inj H
 go_enter Tryz.func114,Tryz.ntmps114
 go_wp2
 go_ret
 exact ⟨by first|rfl|(simp;done)|(simp [*];done),by repeat (first|exact Drawn0.refl _|apply Drawn0.step)⟩
end Go.Proofs.YtaknchlegjcdhaaGreatDoor.Pr
namespace Go.Proofs.YtaknchlegjcdhaaGreatDoor.Pr
open Go.RowKit Go.Proofs.YtaknchlegjcdhaaGreatDoorW.PrintWords Go.Proofs.YtaknchlegjcdhaaGreatDoorW.PrintLast Go.Proofs.YtaknchlegjcdhaaGreatDoorW.PrintMore
attribute [local go_sem] max2_int min2_int max_two min_two max_three min_three max_four min_four
set_option maxHeartbeats 8000000
set_option maxRecDepth 100000
set_option linter.unusedVariables false
set_option linter.unusedSimpArgs false
def cmp_Compare_int.f (a0:Int) (a1:Int):Option (Int):=(cmp_isNaN_int.f a0).bind fun t221=>((cmp_isNaN_int.f a1).bind fun t222=>(if t221 = true then (if t222 = true then (some 0) else (some (-1))) else (if t222 = true then (some 1) else (if a0 < a1 then (some (-1)) else (if a0 > a1 then (some 1) else (some 0))))))
theorem cmp_Compare_int.calls (a0:Int) (a1:Int) (r:Int) (w:World) (h:cmp_Compare_int.f a0 a1 = some r) :
  Calls Tryz.prog 91 #[.int .i64 a0,.int .i64 a1] w fun e w'=>e = .returned (.int .i64 r)∧Drawn0 w w':=by
 have H:((cmp_isNaN_int.f a0).bind fun t221=>((cmp_isNaN_int.f a1).bind fun t222=>(if t221 = true then (if t222 = true then (some 0) else (some (-1))) else (if t222 = true then (some 1) else (if a0 < a1 then (some (-1)) else (if a0 > a1 then (some 1) else (some 0))))))) = some r:=h
 clear h
 obtain ⟨t221,A3,H⟩:=bn_ H
 obtain ⟨t222,A4,H⟩:=bn_ H
 by_cases c5:t221 = true
 ·subst c5
  have H1:(if t222 = true then (some 0) else (some (-1))) = some r:=by rw [if_pos rfl] at H;exact H
  clear H
  have H:=H1
  clear H1
  by_cases c6:t222 = true
  ·subst c6
   have H1:(some 0) = some r:=by rw [if_pos rfl] at H;exact H
   clear H
   have H:=H1
   clear H1
   obtain rfl:=Option.some.inj H
   go_enter Tryz.func91,Tryz.ntmps91
   go_wp2_with (first|((with_reducible refine gate_callee (f:=114) rfl ?_);refine gm_ (some 8) Tryz.func114 #[.int .i64 a0] ?_;(with_reducible refine (cmp_isNaN_int.calls a0 true _ A3.out).mono ?_);rintro e w' ⟨rfl,⟨nd,rfl⟩⟩;refine ⟨_,rfl,?_⟩)|((with_reducible refine gate_callee (f:=114) rfl ?_);refine gm_ (some 10) Tryz.func114 #[.int .i64 a1] ?_;(with_reducible refine (cmp_isNaN_int.calls a1 true _ A4.out).mono ?_);rintro e w' ⟨rfl,⟨nd,rfl⟩⟩;refine ⟨_,rfl,?_⟩))
   go_ret
   exact ⟨by first|rfl|(simp;done)|(simp [*];done),by repeat (first|exact Drawn0.refl _|apply Drawn0.step)⟩
  ·replace c6:=Bool.eq_false_iff.mpr c6
   subst c6
   have H1:(some (-1)) = some r:=by rw [if_neg (show ¬ (false = true) by decide)] at H;exact H
   clear H
   have H:=H1
   clear H1
   obtain rfl:=Option.some.inj H
   go_enter Tryz.func91,Tryz.ntmps91
   go_wp2_with (first|((with_reducible refine gate_callee (f:=114) rfl ?_);refine gm_ (some 8) Tryz.func114 #[.int .i64 a0] ?_;(with_reducible refine (cmp_isNaN_int.calls a0 true _ A3.out).mono ?_);rintro e w' ⟨rfl,⟨nd,rfl⟩⟩;refine ⟨_,rfl,?_⟩)|((with_reducible refine gate_callee (f:=114) rfl ?_);refine gm_ (some 10) Tryz.func114 #[.int .i64 a1] ?_;(with_reducible refine (cmp_isNaN_int.calls a1 false _ A4.out).mono ?_);rintro e w' ⟨rfl,⟨nd,rfl⟩⟩;refine ⟨_,rfl,?_⟩))
   go_ret
   exact ⟨by first|rfl|(simp;done)|(simp [*];done),by repeat (first|exact Drawn0.refl _|apply Drawn0.step)⟩
 ·replace c5:=Bool.eq_false_iff.mpr c5
  subst c5
  have H1:(if t222 = true then (some 1) else (if a0 < a1 then (some (-1)) else (if a0 > a1 then (some 1) else (some 0)))) = some r:=by rw [if_neg (show ¬ (false = true) by decide)] at H;exact H
  clear H
  have H:=H1
  clear H1
  by_cases c7:t222 = true
  ·subst c7
   have H1:(some 1) = some r:=by rw [if_pos rfl] at H;exact H
   clear H
   have H:=H1
   clear H1
   obtain rfl:=Option.some.inj H
   go_enter Tryz.func91,Tryz.ntmps91
   go_wp2_with (first|((with_reducible refine gate_callee (f:=114) rfl ?_);refine gm_ (some 8) Tryz.func114 #[.int .i64 a0] ?_;(with_reducible refine (cmp_isNaN_int.calls a0 false _ A3.out).mono ?_);rintro e w' ⟨rfl,⟨nd,rfl⟩⟩;refine ⟨_,rfl,?_⟩)|((with_reducible refine gate_callee (f:=114) rfl ?_);refine gm_ (some 10) Tryz.func114 #[.int .i64 a1] ?_;(with_reducible refine (cmp_isNaN_int.calls a1 true _ A4.out).mono ?_);rintro e w' ⟨rfl,⟨nd,rfl⟩⟩;refine ⟨_,rfl,?_⟩))
   go_ret
   exact ⟨by first|rfl|(simp;done)|(simp [*];done),by repeat (first|exact Drawn0.refl _|apply Drawn0.step)⟩
  ·replace c7:=Bool.eq_false_iff.mpr c7
   subst c7
   have H1:(if a0 < a1 then (some (-1)) else (if a0 > a1 then (some 1) else (some 0))) = some r:=by rw [if_neg (show ¬ (false = true) by decide)] at H;exact H
   clear H
   have H:=H1
   clear H1
   by_cases c8:a0 < a1
   ·rw [if_pos c8] at H
    have c8b0:decide (a0 < a1) = true:=decide_eq_true c8
    clear c8
    obtain rfl:=Option.some.inj H
    go_enter Tryz.func91,Tryz.ntmps91
    go_wp2_with (first|((with_reducible refine gate_callee (f:=114) rfl ?_);refine gm_ (some 8) Tryz.func114 #[.int .i64 a0] ?_;(with_reducible refine (cmp_isNaN_int.calls a0 false _ A3.out).mono ?_);rintro e w' ⟨rfl,⟨nd,rfl⟩⟩;refine ⟨_,rfl,?_⟩)|((with_reducible refine gate_callee (f:=114) rfl ?_);refine gm_ (some 10) Tryz.func114 #[.int .i64 a1] ?_;(with_reducible refine (cmp_isNaN_int.calls a1 false _ A4.out).mono ?_);rintro e w' ⟨rfl,⟨nd,rfl⟩⟩;refine ⟨_,rfl,?_⟩))
    go_ret
    exact ⟨by first|rfl|(simp;done)|(simp [*];done),by repeat (first|exact Drawn0.refl _|apply Drawn0.step)⟩
   ·rw [if_neg c8] at H
    have c8b0:decide (a0 < a1) = false:=decide_eq_false c8
    clear c8
    by_cases c9:a0 > a1
    ·rw [if_pos c9] at H
     have c9b0:decide (a1 < a0) = true:=decide_eq_true c9
     clear c9
     obtain rfl:=Option.some.inj H
     go_enter Tryz.func91,Tryz.ntmps91
     go_wp2_with (first|((with_reducible refine gate_callee (f:=114) rfl ?_);refine gm_ (some 8) Tryz.func114 #[.int .i64 a0] ?_;(with_reducible refine (cmp_isNaN_int.calls a0 false _ A3.out).mono ?_);rintro e w' ⟨rfl,⟨nd,rfl⟩⟩;refine ⟨_,rfl,?_⟩)|((with_reducible refine gate_callee (f:=114) rfl ?_);refine gm_ (some 10) Tryz.func114 #[.int .i64 a1] ?_;(with_reducible refine (cmp_isNaN_int.calls a1 false _ A4.out).mono ?_);rintro e w' ⟨rfl,⟨nd,rfl⟩⟩;refine ⟨_,rfl,?_⟩))
     go_ret
     exact ⟨by first|rfl|(simp;done)|(simp [*];done),by repeat (first|exact Drawn0.refl _|apply Drawn0.step)⟩
    ·rw [if_neg c9] at H
     have c9b0:decide (a1 < a0) = false:=decide_eq_false c9
     clear c9
     obtain rfl:=Option.some.inj H
     go_enter Tryz.func91,Tryz.ntmps91
     go_wp2_with (first|((with_reducible refine gate_callee (f:=114) rfl ?_);refine gm_ (some 8) Tryz.func114 #[.int .i64 a0] ?_;(with_reducible refine (cmp_isNaN_int.calls a0 false _ A3.out).mono ?_);rintro e w' ⟨rfl,⟨nd,rfl⟩⟩;refine ⟨_,rfl,?_⟩)|((with_reducible refine gate_callee (f:=114) rfl ?_);refine gm_ (some 10) Tryz.func114 #[.int .i64 a1] ?_;(with_reducible refine (cmp_isNaN_int.calls a1 false _ A4.out).mono ?_);rintro e w' ⟨rfl,⟨nd,rfl⟩⟩;refine ⟨_,rfl,?_⟩))
     go_ret
     exact ⟨by first|rfl|(simp;done)|(simp [*];done),by repeat (first|exact Drawn0.refl _|apply Drawn0.step)⟩
end Go.Proofs.YtaknchlegjcdhaaGreatDoor.Pr
namespace Go.Proofs.YtaknchlegjcdhaaGreatDoor.Pr
open Go.RowKit Go.Proofs.YtaknchlegjcdhaaGreatDoorW.PrintWords Go.Proofs.YtaknchlegjcdhaaGreatDoorW.PrintLast Go.Proofs.YtaknchlegjcdhaaGreatDoorW.PrintMore
attribute [local go_sem] max2_int min2_int max_two min_two max_three min_three max_four min_four
set_option maxHeartbeats 8000000
set_option maxRecDepth 100000
set_option linter.unusedVariables false
set_option linter.unusedSimpArgs false
def cmp_isNaN_uint32.f (a0:Int):Option (Bool):=some (a0 != a0)
theorem cmp_isNaN_uint32.calls (a0:Int) (r:Bool) (w:World) (h:cmp_isNaN_uint32.f a0 = some r) :
  Calls Tryz.prog 115 #[.int .u32 a0] w fun e w'=>e = .returned (.bool r)∧Drawn0 w w':=by
 have H:(some (a0 != a0)) = some r:=h
 clear h
 obtain rfl:=Option.some.inj H
 go_enter Tryz.func115,Tryz.ntmps115
 go_wp2
 go_ret
 exact ⟨by first|rfl|(simp;done)|(simp [*];done),by repeat (first|exact Drawn0.refl _|apply Drawn0.step)⟩
end Go.Proofs.YtaknchlegjcdhaaGreatDoor.Pr
namespace Go.Proofs.YtaknchlegjcdhaaGreatDoor.Pr
open Go.RowKit Go.Proofs.YtaknchlegjcdhaaGreatDoorW.PrintWords Go.Proofs.YtaknchlegjcdhaaGreatDoorW.PrintLast Go.Proofs.YtaknchlegjcdhaaGreatDoorW.PrintMore
attribute [local go_sem] max2_int min2_int max_two min_two max_three min_three max_four min_four
set_option maxHeartbeats 8000000
set_option maxRecDepth 100000
set_option linter.unusedVariables false
set_option linter.unusedSimpArgs false
def cmp_Compare_uint32.f (a0:Int) (a1:Int):Option (Int):=(cmp_isNaN_uint32.f a0).bind fun t223=>((cmp_isNaN_uint32.f a1).bind fun t224=>(if t223 = true then (if t224 = true then (some 0) else (some (-1))) else (if t224 = true then (some 1) else (if a0 < a1 then (some (-1)) else (if a0 > a1 then (some 1) else (some 0))))))
theorem cmp_Compare_uint32.calls (a0:Int) (a1:Int) (r:Int) (w:World) (h:cmp_Compare_uint32.f a0 a1 = some r) :
  Calls Tryz.prog 92 #[.int .u32 a0,.int .u32 a1] w fun e w'=>e = .returned (.int .i64 r)∧Drawn0 w w':=by
 have H:((cmp_isNaN_uint32.f a0).bind fun t223=>((cmp_isNaN_uint32.f a1).bind fun t224=>(if t223 = true then (if t224 = true then (some 0) else (some (-1))) else (if t224 = true then (some 1) else (if a0 < a1 then (some (-1)) else (if a0 > a1 then (some 1) else (some 0))))))) = some r:=h
 clear h
 obtain ⟨t223,A3,H⟩:=bn_ H
 obtain ⟨t224,A4,H⟩:=bn_ H
 by_cases c5:t223 = true
 ·subst c5
  have H1:(if t224 = true then (some 0) else (some (-1))) = some r:=by rw [if_pos rfl] at H;exact H
  clear H
  have H:=H1
  clear H1
  by_cases c6:t224 = true
  ·subst c6
   have H1:(some 0) = some r:=by rw [if_pos rfl] at H;exact H
   clear H
   have H:=H1
   clear H1
   obtain rfl:=Option.some.inj H
   go_enter Tryz.func92,Tryz.ntmps92
   go_wp2_with (first|((with_reducible refine gate_callee (f:=115) rfl ?_);refine gm_ (some 8) Tryz.func115 #[.int .u32 a0] ?_;(with_reducible refine (cmp_isNaN_uint32.calls a0 true _ A3.out).mono ?_);rintro e w' ⟨rfl,⟨nd,rfl⟩⟩;refine ⟨_,rfl,?_⟩)|((with_reducible refine gate_callee (f:=115) rfl ?_);refine gm_ (some 10) Tryz.func115 #[.int .u32 a1] ?_;(with_reducible refine (cmp_isNaN_uint32.calls a1 true _ A4.out).mono ?_);rintro e w' ⟨rfl,⟨nd,rfl⟩⟩;refine ⟨_,rfl,?_⟩))
   go_ret
   exact ⟨by first|rfl|(simp;done)|(simp [*];done),by repeat (first|exact Drawn0.refl _|apply Drawn0.step)⟩
  ·replace c6:=Bool.eq_false_iff.mpr c6
   subst c6
   have H1:(some (-1)) = some r:=by rw [if_neg (show ¬ (false = true) by decide)] at H;exact H
   clear H
   have H:=H1
   clear H1
   obtain rfl:=Option.some.inj H
   go_enter Tryz.func92,Tryz.ntmps92
   go_wp2_with (first|((with_reducible refine gate_callee (f:=115) rfl ?_);refine gm_ (some 8) Tryz.func115 #[.int .u32 a0] ?_;(with_reducible refine (cmp_isNaN_uint32.calls a0 true _ A3.out).mono ?_);rintro e w' ⟨rfl,⟨nd,rfl⟩⟩;refine ⟨_,rfl,?_⟩)|((with_reducible refine gate_callee (f:=115) rfl ?_);refine gm_ (some 10) Tryz.func115 #[.int .u32 a1] ?_;(with_reducible refine (cmp_isNaN_uint32.calls a1 false _ A4.out).mono ?_);rintro e w' ⟨rfl,⟨nd,rfl⟩⟩;refine ⟨_,rfl,?_⟩))
   go_ret
   exact ⟨by first|rfl|(simp;done)|(simp [*];done),by repeat (first|exact Drawn0.refl _|apply Drawn0.step)⟩
 ·replace c5:=Bool.eq_false_iff.mpr c5
  subst c5
  have H1:(if t224 = true then (some 1) else (if a0 < a1 then (some (-1)) else (if a0 > a1 then (some 1) else (some 0)))) = some r:=by rw [if_neg (show ¬ (false = true) by decide)] at H;exact H
  clear H
  have H:=H1
  clear H1
  by_cases c7:t224 = true
  ·subst c7
   have H1:(some 1) = some r:=by rw [if_pos rfl] at H;exact H
   clear H
   have H:=H1
   clear H1
   obtain rfl:=Option.some.inj H
   go_enter Tryz.func92,Tryz.ntmps92
   go_wp2_with (first|((with_reducible refine gate_callee (f:=115) rfl ?_);refine gm_ (some 8) Tryz.func115 #[.int .u32 a0] ?_;(with_reducible refine (cmp_isNaN_uint32.calls a0 false _ A3.out).mono ?_);rintro e w' ⟨rfl,⟨nd,rfl⟩⟩;refine ⟨_,rfl,?_⟩)|((with_reducible refine gate_callee (f:=115) rfl ?_);refine gm_ (some 10) Tryz.func115 #[.int .u32 a1] ?_;(with_reducible refine (cmp_isNaN_uint32.calls a1 true _ A4.out).mono ?_);rintro e w' ⟨rfl,⟨nd,rfl⟩⟩;refine ⟨_,rfl,?_⟩))
   go_ret
   exact ⟨by first|rfl|(simp;done)|(simp [*];done),by repeat (first|exact Drawn0.refl _|apply Drawn0.step)⟩
  ·replace c7:=Bool.eq_false_iff.mpr c7
   subst c7
   have H1:(if a0 < a1 then (some (-1)) else (if a0 > a1 then (some 1) else (some 0))) = some r:=by rw [if_neg (show ¬ (false = true) by decide)] at H;exact H
   clear H
   have H:=H1
   clear H1
   by_cases c8:a0 < a1
   ·rw [if_pos c8] at H
    have c8b0:decide (a0 < a1) = true:=decide_eq_true c8
    clear c8
    obtain rfl:=Option.some.inj H
    go_enter Tryz.func92,Tryz.ntmps92
    go_wp2_with (first|((with_reducible refine gate_callee (f:=115) rfl ?_);refine gm_ (some 8) Tryz.func115 #[.int .u32 a0] ?_;(with_reducible refine (cmp_isNaN_uint32.calls a0 false _ A3.out).mono ?_);rintro e w' ⟨rfl,⟨nd,rfl⟩⟩;refine ⟨_,rfl,?_⟩)|((with_reducible refine gate_callee (f:=115) rfl ?_);refine gm_ (some 10) Tryz.func115 #[.int .u32 a1] ?_;(with_reducible refine (cmp_isNaN_uint32.calls a1 false _ A4.out).mono ?_);rintro e w' ⟨rfl,⟨nd,rfl⟩⟩;refine ⟨_,rfl,?_⟩))
    go_ret
    exact ⟨by first|rfl|(simp;done)|(simp [*];done),by repeat (first|exact Drawn0.refl _|apply Drawn0.step)⟩
   ·rw [if_neg c8] at H
    have c8b0:decide (a0 < a1) = false:=decide_eq_false c8
    clear c8
    by_cases c9:a0 > a1
    ·rw [if_pos c9] at H
     have c9b0:decide (a1 < a0) = true:=decide_eq_true c9
     clear c9
     obtain rfl:=Option.some.inj H
     go_enter Tryz.func92,Tryz.ntmps92
     go_wp2_with (first|((with_reducible refine gate_callee (f:=115) rfl ?_);refine gm_ (some 8) Tryz.func115 #[.int .u32 a0] ?_;(with_reducible refine (cmp_isNaN_uint32.calls a0 false _ A3.out).mono ?_);rintro e w' ⟨rfl,⟨nd,rfl⟩⟩;refine ⟨_,rfl,?_⟩)|((with_reducible refine gate_callee (f:=115) rfl ?_);refine gm_ (some 10) Tryz.func115 #[.int .u32 a1] ?_;(with_reducible refine (cmp_isNaN_uint32.calls a1 false _ A4.out).mono ?_);rintro e w' ⟨rfl,⟨nd,rfl⟩⟩;refine ⟨_,rfl,?_⟩))
     go_ret
     exact ⟨by first|rfl|(simp;done)|(simp [*];done),by repeat (first|exact Drawn0.refl _|apply Drawn0.step)⟩
    ·rw [if_neg c9] at H
     have c9b0:decide (a1 < a0) = false:=decide_eq_false c9
     clear c9
     obtain rfl:=Option.some.inj H
     go_enter Tryz.func92,Tryz.ntmps92
     go_wp2_with (first|((with_reducible refine gate_callee (f:=115) rfl ?_);refine gm_ (some 8) Tryz.func115 #[.int .u32 a0] ?_;(with_reducible refine (cmp_isNaN_uint32.calls a0 false _ A3.out).mono ?_);rintro e w' ⟨rfl,⟨nd,rfl⟩⟩;refine ⟨_,rfl,?_⟩)|((with_reducible refine gate_callee (f:=115) rfl ?_);refine gm_ (some 10) Tryz.func115 #[.int .u32 a1] ?_;(with_reducible refine (cmp_isNaN_uint32.calls a1 false _ A4.out).mono ?_);rintro e w' ⟨rfl,⟨nd,rfl⟩⟩;refine ⟨_,rfl,?_⟩))
     go_ret
     exact ⟨by first|rfl|(simp;done)|(simp [*];done),by repeat (first|exact Drawn0.refl _|apply Drawn0.step)⟩
end Go.Proofs.YtaknchlegjcdhaaGreatDoor.Pr
namespace Go.Proofs.YtaknchlegjcdhaaGreatDoor.Pr
open Go.RowKit Go.Proofs.YtaknchlegjcdhaaGreatDoorW.PrintWords Go.Proofs.YtaknchlegjcdhaaGreatDoorW.PrintLast Go.Proofs.YtaknchlegjcdhaaGreatDoorW.PrintMore
attribute [local go_sem] max2_int min2_int max_two min_two max_three min_three max_four min_four
set_option maxHeartbeats 8000000
set_option maxRecDepth 100000
set_option linter.unusedVariables false
set_option linter.unusedSimpArgs false
def natural_num_compare.l0:Nat→List Int→List Int→Int→Option (Int)
 | 0,_,_,_=>none
 | k + 1,x0,x1,x5=>if x5 ≥ 0 then (if 0≤x5 then (if x5 < (x0.length:Int) then (if x5 < (x1.length:Int) then (if (rd x0 x5) = (rd x1 x5) then (natural_num_compare.l0 k x0 x1 (wrap64 (x5 - 1))) else ((cmp_Compare_uint32.f (rd x0 x5) (rd x1 x5)).bind fun t230=>(some t230))) else (none)) else (none)) else (none)) else (some 0)
def natural_num_compare.f (k:Nat) (l0:List Int) (l1:List Int):Option (Int):=if (l0.length:Int) = (l1.length:Int) then (natural_num_compare.l0 k l0 l1 (wrap64 ((l0.length:Int) - 1))) else ((cmp_Compare_int.f (l0.length:Int) (l1.length:Int)).bind fun t225=>(some t225))
theorem natural_num_compare.calls (k:Nat) (A0:Option Addr) (c0:Nat) (l0:List Int) (A1:Option Addr) (c1:Nat) (l1:List Int) (r:Int) (w:World) (hr0:Kd.C (Kd.int .u32) w A0 l0.length l0) (hc0:l0.length≤c0) (hr1:Kd.C (Kd.int .u32) w A1 l1.length l1) (hc1:l1.length≤c1) (h:natural_num_compare.f k l0 l1 = some r) :
  Calls Tryz.prog 66 #[.slice A0 l0.length c0,.slice A1 l1.length c1] w fun e w'=>e = .returned (.int .i64 r)∧Drawn0 w w':=by
 have HR0:=Aside0.mk hr0
 have HC0:=Aside0.mk hc0
 clear hr0 hc0
 have HR1:=Aside0.mk hr1
 have HC1:=Aside0.mk hc1
 clear hr1 hc1
 have H:(if (l0.length:Int) = (l1.length:Int) then (natural_num_compare.l0 k l0 l1 (wrap64 ((l0.length:Int) - 1))) else ((cmp_Compare_int.f (l0.length:Int) (l1.length:Int)).bind fun t225=>(some t225))) = some r:=h
 clear h
 by_cases c3:(l0.length:Int) = (l1.length:Int)
 ·rw [if_pos c3] at H
  have c3b0:((l0.length:Int) == (l1.length:Int)) = true:=beq_iff_eq.mpr c3
  have c3b1:((l0.length:Int) != (l1.length:Int)) = false:=bne_eq_false_iff_eq.mpr c3
  have c3b2:(l0.length == l1.length) = true:=by first|simpa using c3|(simp at c3 ⊢;omega)
  clear c3
  have H':=Aside0.mk H
  clear H
  go_enter Tryz.func66,Tryz.ntmps66
  go_wp2
  repeat (go_quiet (fail);try go_wp2)
  go_loopg [5] k (fun kq v5 w'=>∃ (x5_1:Int),v5 = .int .i64 x5_1∧Aside0 (natural_num_compare.l0 kq l0 l1 x5_1 = some r)∧Aside0 (kq≤k)∧Drawn0 w w')
  case atStart=>exact ⟨(wrap64 ((l0.length:Int) - 1)),(by first|rfl|(simp;done)|(simp [*];done)),H',⟨Nat.le_refl _⟩,by repeat (first|exact Drawn0.refl _|apply Drawn0.step)⟩
  case round =>
   clear H'
   try clear c1
   try clear p2
   try clear c3
   try clear c3b0
   try clear c3b1
   try clear c3b2
   obtain ⟨x5_1,rfl,HA,HK1,⟨m1,rfl⟩⟩:=hrel
   cases gk with
   | zero=>exact absurd HA.out (by simp [natural_num_compare.l0])
   | succ k1 =>
    have H:=HA.out
    clear HA
    simp only [natural_num_compare.l0] at H
    by_cases c4:x5_1 ≥ 0
    ·rw [if_pos c4] at H
     have c4b0:decide (0≤x5_1) = true:=decide_eq_true c4
     clear c4
     by_cases c5:0≤x5_1
     ·rw [if_pos c5] at H
      have c5b0:decide (0≤x5_1) = true:=decide_eq_true c5
      clear c5
      by_cases c6:x5_1 < (l0.length:Int)
      ·rw [if_pos c6] at H
       have c6b0:decide (x5_1 < (l0.length:Int)) = true:=decide_eq_true c6
       clear c6
       by_cases c7:x5_1 < (l1.length:Int)
       ·rw [if_pos c7] at H
        have c7b0:decide (x5_1 < (l1.length:Int)) = true:=decide_eq_true c7
        clear c7
        by_cases c8:(rd l0 x5_1) = (rd l1 x5_1)
        ·rw [if_pos c8] at H
         have c8b0:((rd l0 x5_1) == (rd l1 x5_1)) = true:=beq_iff_eq.mpr c8
         have c8b1:((rd l0 x5_1) != (rd l1 x5_1)) = false:=bne_eq_false_iff_eq.mpr c8
         clear c8
         have H':=Aside0.mk H
         clear H
         have p226:0≤(x5_1:Int):=da_
         have q226:x5_1 < (l0.length:Int):=da_
         obtain ⟨ad226,e226,hx226_0⟩:=Kd.at_int HR0.out x5_1 p226 q226
         cases e226
         replace p226:=eq_true p226
         replace q226:=eq_true q226
         have p227:0≤(x5_1:Int):=da_
         have q227:x5_1 < (l1.length:Int):=da_
         obtain ⟨ad227,e227,hx227_0⟩:=Kd.at_int HR1.out x5_1 p227 q227
         cases e227
         replace p227:=eq_true p227
         replace q227:=eq_true q227
         go_wp2
         repeat (go_quiet (fail);try go_wp2)
         go_roundg k1
         case measure=>have:=HK1.out;omega
         case rel=>exact ⟨(wrap64 (x5_1 - 1)),(by first|rfl|(simp;done)|(simp [*];done)),H',⟨by have:=HK1.out;omega⟩,by repeat (first|exact Drawn0.refl _|apply Drawn0.step)⟩
        ·rw [if_neg c8] at H
         have c8b0:((rd l0 x5_1) == (rd l1 x5_1)) = false:=beq_eq_false_iff_ne.mpr c8
         have c8b1:((rd l0 x5_1) != (rd l1 x5_1)) = true:=bne_iff_ne.mpr c8
         obtain ⟨t230,A9,H⟩:=bn_ H
         obtain rfl:=Option.some.inj H
         have p226:0≤(x5_1:Int):=da_
         have q226:x5_1 < (l0.length:Int):=da_
         obtain ⟨ad226,e226,hx226_0⟩:=Kd.at_int HR0.out x5_1 p226 q226
         cases e226
         replace p226:=eq_true p226
         replace q226:=eq_true q226
         have p227:0≤(x5_1:Int):=da_
         have q227:x5_1 < (l1.length:Int):=da_
         obtain ⟨ad227,e227,hx227_0⟩:=Kd.at_int HR1.out x5_1 p227 q227
         cases e227
         replace p227:=eq_true p227
         replace q227:=eq_true q227
         have p228:0≤(x5_1:Int):=da_
         have q228:x5_1 < (l0.length:Int):=da_
         obtain ⟨ad228,e228,hx228_0⟩:=Kd.at_int HR0.out x5_1 p228 q228
         obtain rfl:ad226 = ad228:=(by injection e228)
         replace p228:=eq_true p228
         replace q228:=eq_true q228
         have p229:0≤(x5_1:Int):=da_
         have q229:x5_1 < (l1.length:Int):=da_
         obtain ⟨ad229,e229,hx229_0⟩:=Kd.at_int HR1.out x5_1 p229 q229
         obtain rfl:ad227 = ad229:=(by injection e229)
         replace p229:=eq_true p229
         replace q229:=eq_true q229
         go_wp2_with (first|(go_at_call 92;(with_reducible refine (cmp_Compare_uint32.calls (rd l0 x5_1) (rd l1 x5_1) t230 _ A9.out).mono ?_);rintro e w' ⟨rfl,⟨nd,rfl⟩⟩;(try first|exact ⟨rfl,_,World.drewN_drewN _ _ _⟩|exact ⟨rfl,_,Eq.trans (World.drewN_drewN _ _ _) (congrArg (World.drewN _) (Nat.add_assoc _ _ _))⟩)))
         repeat (go_quiet (first|(go_at_call 92;(with_reducible refine (cmp_Compare_uint32.calls (rd l0 x5_1) (rd l1 x5_1) t230 _ A9.out).mono ?_);rintro e w' ⟨rfl,⟨nd,rfl⟩⟩;(try first|exact ⟨rfl,_,World.drewN_drewN _ _ _⟩|exact ⟨rfl,_,Eq.trans (World.drewN_drewN _ _ _) (congrArg (World.drewN _) (Nat.add_assoc _ _ _))⟩)));try go_wp2_with (first|(go_at_call 92;(with_reducible refine (cmp_Compare_uint32.calls (rd l0 x5_1) (rd l1 x5_1) t230 _ A9.out).mono ?_);rintro e w' ⟨rfl,⟨nd,rfl⟩⟩;(try first|exact ⟨rfl,_,World.drewN_drewN _ _ _⟩|exact ⟨rfl,_,Eq.trans (World.drewN_drewN _ _ _) (congrArg (World.drewN _) (Nat.add_assoc _ _ _))⟩))))
         go_ret
         exact ⟨by first|rfl|(simp;done)|(simp [*];done),by repeat (first|exact Drawn0.refl _|apply Drawn0.step)⟩
       ·rw [if_neg c7] at H
        exact absurd H sm_
      ·rw [if_neg c6] at H
       exact absurd H sm_
     ·rw [if_neg c5] at H
      exact absurd H sm_
    ·rw [if_neg c4] at H
     have c4b0:decide (0≤x5_1) = false:=decide_eq_false c4
     clear c4
     obtain rfl:=Option.some.inj H
     go_wp2
     repeat (go_quiet (fail);try go_wp2)
     go_ret
     exact ⟨by first|rfl|(simp;done)|(simp [*];done),by repeat (first|exact Drawn0.refl _|apply Drawn0.step)⟩
 ·rw [if_neg c3] at H
  have c3b0:((l0.length:Int) == (l1.length:Int)) = false:=beq_eq_false_iff_ne.mpr c3
  have c3b1:((l0.length:Int) != (l1.length:Int)) = true:=bne_iff_ne.mpr c3
  have c3b2:(l0.length == l1.length) = false:=by first|simpa using c3|(simp at c3 ⊢;omega)
  obtain ⟨t225,A10,H⟩:=bn_ H
  obtain rfl:=Option.some.inj H
  go_enter Tryz.func66,Tryz.ntmps66
  go_wp2_with (first|(go_at_call 91;(with_reducible refine (cmp_Compare_int.calls (l0.length:Int) (l1.length:Int) t225 _ A10.out).mono ?_);rintro e w' ⟨rfl,⟨nd,rfl⟩⟩;(try first|exact ⟨rfl,_,World.drewN_drewN _ _ _⟩|exact ⟨rfl,_,Eq.trans (World.drewN_drewN _ _ _) (congrArg (World.drewN _) (Nat.add_assoc _ _ _))⟩)))
  repeat (go_quiet (first|(go_at_call 91;(with_reducible refine (cmp_Compare_int.calls (l0.length:Int) (l1.length:Int) t225 _ A10.out).mono ?_);rintro e w' ⟨rfl,⟨nd,rfl⟩⟩;(try first|exact ⟨rfl,_,World.drewN_drewN _ _ _⟩|exact ⟨rfl,_,Eq.trans (World.drewN_drewN _ _ _) (congrArg (World.drewN _) (Nat.add_assoc _ _ _))⟩)));try go_wp2_with (first|(go_at_call 91;(with_reducible refine (cmp_Compare_int.calls (l0.length:Int) (l1.length:Int) t225 _ A10.out).mono ?_);rintro e w' ⟨rfl,⟨nd,rfl⟩⟩;(try first|exact ⟨rfl,_,World.drewN_drewN _ _ _⟩|exact ⟨rfl,_,Eq.trans (World.drewN_drewN _ _ _) (congrArg (World.drewN _) (Nat.add_assoc _ _ _))⟩))))
  go_ret
  exact ⟨by first|rfl|(simp;done)|(simp [*];done),by repeat (first|exact Drawn0.refl _|apply Drawn0.step)⟩
end Go.Proofs.YtaknchlegjcdhaaGreatDoor.Pr
namespace Go.Proofs.YtaknchlegjcdhaaGreatDoor.Pr
open Go.RowKit Go.Proofs.YtaknchlegjcdhaaGreatDoorW.PrintWords Go.Proofs.YtaknchlegjcdhaaGreatDoorW.PrintLast Go.Proofs.YtaknchlegjcdhaaGreatDoorW.PrintMore
attribute [local go_sem] max2_int min2_int max_two min_two max_three min_three max_four min_four
set_option maxHeartbeats 8000000
set_option maxRecDepth 100000
set_option linter.unusedVariables false
set_option linter.unusedSimpArgs false
def garboardref01_Cmp.l0:Nat→List Int→List Int→Int→Option (Int)
 | 0,_,_,_=>none
 | k + 1,x0,x1,x5=>if x5 ≥ 0 then (if 0≤x5 then (if x5 < (x0.length:Int) then (if x5 < (x1.length:Int) then (if (rd x0 x5) < (rd x1 x5) then (some (-1)) else (if (rd x0 x5) > (rd x1 x5) then (some 1) else (garboardref01_Cmp.l0 k x0 x1 (wrap64 (x5 - 1))))) else (none)) else (none)) else (none)) else (some 0)
def garboardref01_Cmp.f (k:Nat) (l0:List Int) (l1:List Int):Option (Int):=if (l0.length:Int) = (l1.length:Int) then (garboardref01_Cmp.l0 k l0 l1 (wrap64 ((l0.length:Int) - 1))) else (if (l0.length:Int) < (l1.length:Int) then (some (-1)) else (some 1))
end Go.Proofs.YtaknchlegjcdhaaGreatDoor.Pr
namespace Go.Proofs.YtaknchlegjcdhaaGreatDoor.Pr
open Go.RowKit Go.Proofs.YtaknchlegjcdhaaGreatDoorW.PrintWords Go.Proofs.YtaknchlegjcdhaaGreatDoorW.PrintLast Go.Proofs.YtaknchlegjcdhaaGreatDoorW.PrintMore
attribute [local go_sem] max2_int min2_int max_two min_two max_three min_three max_four min_four
set_option maxHeartbeats 8000000
set_option maxRecDepth 100000
set_option linter.unusedVariables false
set_option linter.unusedSimpArgs false
def natural_num_small.f (l0:List Int):Option (Int × Bool):=if (l0.length:Int) = 0 then (some (0,true)) else (if (l0.length:Int) = 1 then (if 0 < (l0.length:Int) then (some (IntKind.u64.wrap (rd l0 0),true)) else (none)) else (if (l0.length:Int) = 2 then (if 0 < (l0.length:Int) then (if 1 < (l0.length:Int) then (some (IntKind.u64.wrap ((IntKind.u64.wrap (rd l0 0)) + (IntKind.u64.wrap (1000000000 * (IntKind.u64.wrap (rd l0 1))))),true)) else (none)) else (none)) else (some (0,false))))
theorem natural_num_small.calls (A0:Option Addr) (c0:Nat) (l0:List Int) (r1:Int) (r2:Bool) (w:World) (hr0:Kd.C (Kd.int .u32) w A0 l0.length l0) (hc0:l0.length≤c0) (h:natural_num_small.f l0 = some (r1,r2)) :
  Calls Tryz.prog 93 #[.slice A0 l0.length c0] w fun e w'=>e = .returned (.tuple #[.int .u64 r1,.bool r2])∧Drawn0 w w':=by
 have HR0:=Aside0.mk hr0
 have HC0:=Aside0.mk hc0
 clear hr0 hc0
 have H:(if (l0.length:Int) = 0 then (some (0,true)) else (if (l0.length:Int) = 1 then (if 0 < (l0.length:Int) then (some (IntKind.u64.wrap (rd l0 0),true)) else (none)) else (if (l0.length:Int) = 2 then (if 0 < (l0.length:Int) then (if 1 < (l0.length:Int) then (some (IntKind.u64.wrap ((IntKind.u64.wrap (rd l0 0)) + (IntKind.u64.wrap (1000000000 * (IntKind.u64.wrap (rd l0 1))))),true)) else (none)) else (none)) else (some (0,false))))) = some (r1,r2):=h
 clear h
 by_cases c2:(l0.length:Int) = 0
 ·rw [if_pos c2] at H
  have c2b0:((l0.length:Int) == 0) = true:=beq_iff_eq.mpr c2
  have c2b1:((l0.length:Int) != 0) = false:=bne_eq_false_iff_eq.mpr c2
  clear c2
  simp only [Option.some.injEq,Prod.mk.injEq] at H
  obtain ⟨rfl,rfl⟩:=H
  go_enter Tryz.func93,Tryz.ntmps93
  go_wp2
  repeat (go_quiet (fail);try go_wp2)
  go_ret2
  exact ⟨by first|rfl|(simp;done)|(simp [*];done),by repeat (first|exact Drawn0.refl _|apply Drawn0.step)⟩
 ·rw [if_neg c2] at H
  have c2b0:((l0.length:Int) == 0) = false:=beq_eq_false_iff_ne.mpr c2
  have c2b1:((l0.length:Int) != 0) = true:=bne_iff_ne.mpr c2
  have c2b2:¬ (l0 = []):=fun h_=>c2 (by rw [h_];rfl)
  by_cases c3:(l0.length:Int) = 1
  ·rw [if_pos c3] at H
   have c3b0:((l0.length:Int) == 1) = true:=beq_iff_eq.mpr c3
   have c3b1:((l0.length:Int) != 1) = false:=bne_eq_false_iff_eq.mpr c3
   clear c3
   by_cases c4:0 < (l0.length:Int)
   ·rw [if_pos c4] at H
    have c4b0:decide (0 < (l0.length:Int)) = true:=decide_eq_true c4
    have c4b1:decide (0 < l0.length) = true:=decide_eq_true (by omega)
    clear c4
    simp only [Option.some.injEq,Prod.mk.injEq] at H
    obtain ⟨rfl,rfl⟩:=H
    have p303:0≤(0:Int):=(by omega)
    have q303:0 < (l0.length:Int):=da_
    obtain ⟨ad303,e303,hx303_0⟩:=Kd.at_int HR0.out 0 p303 q303
    cases e303
    have qi303:(0 < l0.length) = True:=eq_true (by omega)
    (try rw [show ((0:Int)).toNat = 0 from rfl] at hx303_0)
    (try rw [Addr.add_zero'] at hx303_0)
    replace p303:=eq_true p303
    replace q303:=eq_true q303
    go_enter Tryz.func93,Tryz.ntmps93
    go_wp2
    repeat (go_quiet (fail);try go_wp2)
    go_ret2
    exact ⟨by first|rfl|(simp;done)|(simp [*];done),by repeat (first|exact Drawn0.refl _|apply Drawn0.step)⟩
   ·rw [if_neg c4] at H
    exact absurd H sm_
  ·rw [if_neg c3] at H
   have c3b0:((l0.length:Int) == 1) = false:=beq_eq_false_iff_ne.mpr c3
   have c3b1:((l0.length:Int) != 1) = true:=bne_iff_ne.mpr c3
   by_cases c5:(l0.length:Int) = 2
   ·rw [if_pos c5] at H
    have c5b0:((l0.length:Int) == 2) = true:=beq_iff_eq.mpr c5
    have c5b1:((l0.length:Int) != 2) = false:=bne_eq_false_iff_eq.mpr c5
    clear c5
    by_cases c6:0 < (l0.length:Int)
    ·rw [if_pos c6] at H
     have c6b0:decide (0 < (l0.length:Int)) = true:=decide_eq_true c6
     have c6b1:decide (0 < l0.length) = true:=decide_eq_true (by omega)
     clear c6
     by_cases c7:1 < (l0.length:Int)
     ·rw [if_pos c7] at H
      have c7b0:decide (1 < (l0.length:Int)) = true:=decide_eq_true c7
      have c7b1:decide (1 < l0.length) = true:=decide_eq_true (by omega)
      clear c7
      simp only [Option.some.injEq,Prod.mk.injEq] at H
      obtain ⟨rfl,rfl⟩:=H
      have p304:0≤(0:Int):=(by omega)
      have q304:0 < (l0.length:Int):=da_
      obtain ⟨ad304,e304,hx304_0⟩:=Kd.at_int HR0.out 0 p304 q304
      cases e304
      have qi304:(0 < l0.length) = True:=eq_true (by omega)
      (try rw [show ((0:Int)).toNat = 0 from rfl] at hx304_0)
      (try rw [Addr.add_zero'] at hx304_0)
      replace p304:=eq_true p304
      replace q304:=eq_true q304
      have p305:0≤(1:Int):=(by omega)
      have q305:1 < (l0.length:Int):=da_
      obtain ⟨ad305,e305,hx305_0⟩:=Kd.at_int HR0.out 1 p305 q305
      obtain rfl:ad304 = ad305:=(by injection e305)
      (try simp only [show (1:Int).toNat = 1 from rfl,Nat.reduceMul,Nat.reduceEqDiff,Go.Addr.add,↓reduceIte] at hx305_0)
      have qi305:(1 < l0.length) = True:=eq_true (by omega)
      (try rw [show ((1:Int)).toNat = 1 from rfl] at hx305_0)
      replace p305:=eq_true p305
      replace q305:=eq_true q305
      go_enter Tryz.func93,Tryz.ntmps93
      go_wp2
      repeat (go_quiet (fail);try go_wp2)
      go_ret2
      exact ⟨by first|rfl|(simp;done)|(simp [*];done),by repeat (first|exact Drawn0.refl _|apply Drawn0.step)⟩
     ·rw [if_neg c7] at H
      exact absurd H sm_
    ·rw [if_neg c6] at H
     exact absurd H sm_
   ·rw [if_neg c5] at H
    have c5b0:((l0.length:Int) == 2) = false:=beq_eq_false_iff_ne.mpr c5
    have c5b1:((l0.length:Int) != 2) = true:=bne_iff_ne.mpr c5
    simp only [Option.some.injEq,Prod.mk.injEq] at H
    obtain ⟨rfl,rfl⟩:=H
    go_enter Tryz.func93,Tryz.ntmps93
    go_wp2
    repeat (go_quiet (fail);try go_wp2)
    go_ret2
    exact ⟨by first|rfl|(simp;done)|(simp [*];done),by repeat (first|exact Drawn0.refl _|apply Drawn0.step)⟩
end Go.Proofs.YtaknchlegjcdhaaGreatDoor.Pr
namespace Go.Proofs.YtaknchlegjcdhaaGreatDoor.Pr
open Go.RowKit Go.Proofs.YtaknchlegjcdhaaGreatDoorW.PrintWords Go.Proofs.YtaknchlegjcdhaaGreatDoorW.PrintLast Go.Proofs.YtaknchlegjcdhaaGreatDoorW.PrintMore
attribute [local go_sem] max2_int min2_int max_two min_two max_three min_three max_four min_four
set_option maxHeartbeats 8000000
set_option maxRecDepth 100000
set_option linter.unusedVariables false
set_option linter.unusedSimpArgs false
def natural_of.f (k:Nat) (a0:Int):Option (List Int):=(natural_num_trim.f k (([(Int.tmod a0 1000000000) % 4294967296,(IntKind.u64.wrap (Int.tdiv a0 1000000000)) % 4294967296]:List Int))).bind fun t309=>(some t309)
theorem natural_of.calls (k:Nat) (a0:Int) (r:List Int) (w:World) (h:natural_of.f k a0 = some r) :
  Calls Tryz.prog 94 #[.int .u64 a0] w fun e w'=>∃ v0_:Value,e = .returned (v0_)∧Kd.V (Kd.int .u32) 95 w' w.heap.size (fun k_=>(w.heap.size≤k_)) v0_ r∧Below w.heap.size w w':=by
 have HB:=Aside0.mk (Below.refl w.heap.size w)
 have H:((natural_num_trim.f k (([(Int.tmod a0 1000000000) % 4294967296,(IntKind.u64.wrap (Int.tdiv a0 1000000000)) % 4294967296]:List Int))).bind fun t309=>(some t309)) = some r:=h
 clear h
 obtain ⟨y306,hy306⟩:∃ y_:List Int,y_ = (([(Int.tmod a0 1000000000) % 4294967296,(IntKind.u64.wrap (Int.tdiv a0 1000000000)) % 4294967296]:List Int)):=⟨_,rfl⟩
 replace H:((natural_num_trim.f k y306).bind fun t309=>(some t309)) = some r:=by first|(rw [hy306];with_reducible exact H)|(have H2_:=(Option.bind_some _ _).symm.trans H;rw [hy306];with_reducible exact H2_)|(have H2_:=(Option.bind_some _ _).symm.trans H;with_reducible exact H2_)|with_reducible exact H|(rw [hy306];exact H)|exact H
 have Ny306:=Aside0.mk hy306
 clear hy306
 obtain ⟨t309,A2,H⟩:=bn_ H
 obtain rfl:=Option.some.inj H
 go_enter Tryz.func94,Tryz.ntmps94
 go_wp2_with (first|((with_reducible refine gate_dst (N:=9) rfl ?_);refine Kd.R_lit (Kd.int .u32) _ 95 ?hg (N:=9) ?hd (xs:=([(Int.tmod a0 1000000000) % 4294967296,(IntKind.u64.wrap (Int.tdiv a0 1000000000)) % 4294967296]:List Int)) (inner:=[.int .u32 ((Int.tmod a0 1000000000) % 4294967296),.int .u32 ((IntKind.u64.wrap (Int.tdiv a0 1000000000)) % 4294967296)]) (ok:=fun _=>True) (okp:=fun _=>True) ?hr ?hp (fun _ hk=>hk) trivial (Below.refl _ _) (Nat.le_refl _) sm_ ?_;(case hd=>rfl);(case hg=>rfl);(case hr=>first|(go_simp;done)|(go_simp;rfl));(case hp=>exact (Reps.one (show Kd.M (Kd.int .u32) _ _ _ ((Int.tmod a0 1000000000) % 4294967296) [.int .u32 ((Int.tmod a0 1000000000) % 4294967296)] from rfl) (Reps.one (show Kd.M (Kd.int .u32) _ _ _ ((IntKind.u64.wrap (Int.tdiv a0 1000000000)) % 4294967296) [.int .u32 ((IntKind.u64.wrap (Int.tdiv a0 1000000000)) % 4294967296)] from rfl) (Reps.none _ _))));intro v307 w3 ho4 hb hg_ hnew_;clear hg_ hnew_;(first|rw [← Ny306.out] at ho4|(simp only [Int.reduceToNat] at ho4;rw [← Ny306.out] at ho4));have HO308:=Aside0.mk (Kd.R_lower (Kd.R_newM (M:=fun k_=>(w.heap.size≤k_)) ho4 (below_size bx_) (fun k_ h_=>h_)) (below_size bx_));replace HB:=bs_ hb;clear hb ho4;obtain ⟨Ao5,co5,eo5⟩:=Kd.R_slice HO308.out;subst eo5)|((with_reducible refine gate_callee (f:=97) rfl ?_);refine gm_ (some 10) Tryz.func97 #[.slice Ao5 y306.length co5] ?_;(with_reducible refine (natural_num_trim.calls k (fun k_=>some k_ = (.slice Ao5 y306.length co5:Value).ownBlock) _ _ y306 t309 _ ?side1 A2.out).mono ?_);(case side1=>exact Kd.R_V (Kd.R_tight rfl (HO308.out)));rintro e w6 ⟨v310,rfl,ho0,hb⟩;refine ⟨_,rfl,?_⟩;have HO311:=Aside0.mk (Kd.V_lower (Kd.V_mono (ok':=fun k_=>(w.heap.size≤k_)) ho0 (fun k_ hk_=>Or.elim hk_ (fun hs_=>((HO308.out).1 k_ hs_.symm).1) (fun hn_=>(Nat.le_trans (below_size bx_) hn_)))) (below_size bx_));replace HO308:=rb_ HO308 hb;replace HB:=bs_ hb;(try clear hb);(try clear ho0)))
 go_ret
 exact ⟨_,rf_,by (with_reducible repeat (first|apply Kd.V_alloc|apply Kd.V_drewN|apply Kd.V_drew));exact HO311.out,bx_⟩
end Go.Proofs.YtaknchlegjcdhaaGreatDoor.Pr
namespace Go.Proofs.YtaknchlegjcdhaaGreatDoor.Pr
open Go.RowKit Go.Proofs.YtaknchlegjcdhaaGreatDoorW.PrintWords Go.Proofs.YtaknchlegjcdhaaGreatDoorW.PrintLast Go.Proofs.YtaknchlegjcdhaaGreatDoorW.PrintMore
attribute [local go_sem] max2_int min2_int max_two min_two max_three min_three max_four min_four
set_option maxHeartbeats 8000000
set_option maxRecDepth 100000
set_option linter.unusedVariables false
set_option linter.unusedSimpArgs false
def natural_num_by.l0:Nat→List Int→Int→List Int→Int→Int→Option (List Int × List Int)
 | 0,_,_,_,_,_=>none
 | k + 1,x0,x1,x6,x7,x8=>if x8 ≥ 0 then (if 0≤x8 then (if x8 < (x0.length:Int) then (if x1 = 0 then (none) else (if x8 < (x6.length:Int) then (natural_num_by.l0 k x0 x1 (x6.set (x8:Int).toNat ((IntKind.u64.wrap (Int.tdiv (IntKind.u64.wrap ((IntKind.u64.wrap (x7 * 1000000000)) + (IntKind.u64.wrap (rd x0 x8)))) x1)) % 4294967296)) (Int.tmod (IntKind.u64.wrap ((IntKind.u64.wrap (x7 * 1000000000)) + (IntKind.u64.wrap (rd x0 x8)))) x1) (wrap64 (x8 - 1))) else (none))) else (none)) else (none)) else ((natural_num_trim.f k x6).bind fun t317=>((natural_of.f k x7).bind fun t320=>(some (t317,t320))))
def natural_num_by.f (k:Nat) (l0:List Int) (a1:Int):Option (List Int × List Int):=if 0≤(l0.length:Int) then (if ((l0.length:Int):Int).toNat≤70368744177664 then (natural_num_by.l0 k l0 a1 (List.replicate ((l0.length:Int):Int).toNat 0) 0 (wrap64 ((l0.length:Int) - 1))) else (none)) else (none)
theorem natural_num_by.calls (k:Nat) (A0:Option Addr) (c0:Nat) (l0:List Int) (a1:Int) (r1:List Int) (r2:List Int) (w:World) (hr0:Kd.C (Kd.int .u32) w A0 l0.length l0) (hc0:l0.length≤c0) (h:natural_num_by.f k l0 a1 = some (r1,r2)) :
  Calls Tryz.prog 95 #[.slice A0 l0.length c0,.int .u64 a1] w fun e w'=>∃ v0_ v1_:Value,e = .returned (.tuple #[v0_,v1_])∧Kd.V (Kd.int .u32) 95 w' w.heap.size (fun k_=>(w.heap.size≤k_)) v0_ r1∧Kd.V (Kd.int .u32) 95 w' w.heap.size (fun k_=>(w.heap.size≤k_)) v1_ r2∧Below w.heap.size w w':=by
 have HR0:=Aside0.mk hr0
 have HC0:=Aside0.mk hc0
 clear hr0 hc0
 have HB:=Aside0.mk (Below.refl w.heap.size w)
 have H:(if 0≤(l0.length:Int) then (if ((l0.length:Int):Int).toNat≤70368744177664 then (natural_num_by.l0 k l0 a1 (List.replicate ((l0.length:Int):Int).toNat 0) 0 (wrap64 ((l0.length:Int) - 1))) else (none)) else (none)) = some (r1,r2):=h
 clear h
 by_cases c3:0≤(l0.length:Int)
 ·rw [if_pos c3] at H
  have c3b0:=eq_true c3
  have c3b1:decide (0≤(l0.length:Int)) = true:=decide_eq_true c3
  clear c3
  by_cases c4:((l0.length:Int):Int).toNat≤70368744177664
  ·rw [if_pos c4] at H
   have c4b0:=eq_true c4
   have c4b1:decide (((l0.length:Int):Int).toNat≤70368744177664) = true:=decide_eq_true c4
   clear c4
   obtain ⟨y312,hy312⟩:∃ y_:List Int,y_ = (List.replicate ((l0.length:Int):Int).toNat 0):=⟨_,rfl⟩
   replace H:(natural_num_by.l0 k l0 a1 y312 0 (wrap64 ((l0.length:Int) - 1))) = some (r1,r2):=by first|(rw [hy312];with_reducible exact H)|(have H2_:=(Option.bind_some _ _).symm.trans H;rw [hy312];with_reducible exact H2_)|(have H2_:=(Option.bind_some _ _).symm.trans H;with_reducible exact H2_)|with_reducible exact H|(rw [hy312];exact H)|exact H
   have Ny312:=Aside0.mk hy312
   clear hy312
   have H':=Aside0.mk H
   clear H
   go_enter Tryz.func95,Tryz.ntmps95
   go_wp2_with (first|((with_reducible refine gate_dst (N:=11) rfl ?_);refine Kd.R_make (Kd.int .u32) _ 95 rfl (N:=11) rfl 74 _ _ rfl (l0.length:Int) rfl rfl Tryz.underlying74 (.int .u32 0) 4 info95 rfl de_ (by omega) 0 (ok:=fun _=>True) (okp:=fun _=>True) rfl (fun _ hk=>hk) trivial (of_decide_eq_true (by first|(with_reducible assumption)|assumption)) (Nat.le_trans (Nat.mul_le_mul_right _ (of_decide_eq_true (by first|(with_reducible assumption)|assumption):(l0.length:Int).toNat≤70368744177664)) (by omega)) (Below.refl _ _) (Nat.le_refl _) ?_;intro v313 w5 ho6 hb hg_ hnew_;clear hg_ hnew_;(first|rw [← Ny312.out] at ho6|(simp only [Int.reduceToNat] at ho6;rw [← Ny312.out] at ho6));have HO314:=Aside0.mk (Kd.R_lower (Kd.R_newM (M:=fun k_=>(w.heap.size≤k_)) ho6 (below_size bx_) (fun k_ h_=>h_)) (below_size bx_));replace HB:=bs_ hb;clear hb ho6))
   go_loopg [7,8] k (fun kq v7 v8 w'=>∃ (x6_1:List Int) (x7_1:Int) (x8_1:Int),v7 = .int .u64 x7_1∧v8 = .int .i64 x8_1∧Aside0 (natural_num_by.l0 kq l0 a1 x6_1 x7_1 x8_1 = some (r1,r2))∧Aside0 (kq≤k)∧Aside0 (Kd.R (Kd.int .u32) 95 w' w.heap.size (fun k_=>(w.heap.size≤k_)) v313 x6_1)∧Aside0 (Below w.heap.size w w'))
   case atStart=>exact ⟨(y312),(0),(wrap64 ((l0.length:Int) - 1)),(by first|rfl|(simp;done)|(simp [*];done)),(by first|rfl|(simp;done)|(simp [*];done)),H',⟨Nat.le_refl _⟩,⟨by (with_reducible repeat (first|apply Kd.R_alloc|apply Kd.R_drewN|apply Kd.R_drew));exact Kd.R_mono HO314.out (fun _ hk=>hk.1)⟩,⟨bx_⟩⟩
   case round =>
    clear H'
    try clear p2
    try clear c3
    try clear c3b0
    try clear c3b1
    try clear c4
    try clear c4b0
    try clear c4b1
    try clear p6
    obtain ⟨x6_1,x7_1,x8_1,rfl,rfl,HA,HK1,HO_6,HB⟩:=hrel
    cases gk with
    | zero=>exact absurd HA.out (by simp [natural_num_by.l0])
    | succ k1 =>
     have H:=HA.out
     clear HA
     simp only [natural_num_by.l0] at H
     by_cases c7:x8_1 ≥ 0
     ·rw [if_pos c7] at H
      have c7b0:decide (0≤x8_1) = true:=decide_eq_true c7
      clear c7
      by_cases c8:0≤x8_1
      ·rw [if_pos c8] at H
       have c8b0:decide (0≤x8_1) = true:=decide_eq_true c8
       clear c8
       by_cases c9:x8_1 < (l0.length:Int)
       ·rw [if_pos c9] at H
        have c9b0:decide (x8_1 < (l0.length:Int)) = true:=decide_eq_true c9
        clear c9
        by_cases c10:a1 = 0
        ·rw [if_pos c10] at H
         exact absurd H sm_
        ·rw [if_neg c10] at H
         have c10b0:(a1 == 0) = false:=beq_eq_false_iff_ne.mpr c10
         have c10b1:(a1 != 0) = true:=bne_iff_ne.mpr c10
         by_cases c11:x8_1 < (x6_1.length:Int)
         ·rw [if_pos c11] at H
          have c11b0:decide (x8_1 < (x6_1.length:Int)) = true:=decide_eq_true c11
          clear c11
          obtain ⟨y316,hy316⟩:∃ y_:List Int,y_ = (x6_1.set (x8_1:Int).toNat ((IntKind.u64.wrap (Int.tdiv (IntKind.u64.wrap ((IntKind.u64.wrap (x7_1 * 1000000000)) + (IntKind.u64.wrap (rd l0 x8_1)))) a1)) % 4294967296)):=⟨_,rfl⟩
          replace H:(natural_num_by.l0 k1 l0 a1 y316 (Int.tmod (IntKind.u64.wrap ((IntKind.u64.wrap (x7_1 * 1000000000)) + (IntKind.u64.wrap (rd l0 x8_1)))) a1) (wrap64 (x8_1 - 1))) = some (r1,r2):=by first|(rw [hy316];with_reducible exact H)|(have H2_:=(Option.bind_some _ _).symm.trans H;rw [hy316];with_reducible exact H2_)|(have H2_:=(Option.bind_some _ _).symm.trans H;with_reducible exact H2_)|with_reducible exact H|(rw [hy316];exact H)|exact H
          have Ny316:=Aside0.mk hy316
          clear hy316
          have H':=Aside0.mk H
          clear H
          have p315:0≤(x8_1:Int):=da_
          have q315:x8_1 < (l0.length:Int):=da_
          obtain ⟨ad315,e315,hx315_0⟩:=Kd.at_int HR0.out x8_1 p315 q315
          cases e315
          replace hx315_0:=(HB.out.cell (World.block_lt_of_cell? w _ hx315_0)).trans hx315_0
          replace p315:=eq_true p315
          replace q315:=eq_true q315
          have p12:0≤(x8_1:Int):=da_
          have q12:(x8_1:Int) < ((x6_1.length:Int):Int):=da_
          obtain ⟨go12,co12,eo12,gb12,gl12,cl12,HG12⟩:=Kd.R_form HO_6.out (by omega)
          (first|cases eo12|(injection eo12 with ea_ en_ ec_;(first|subst ea_|(injection ea_ with ea_;subst ea_));subst ec_;clear en_))
          have GB12:=Aside0.mk gb12
          have GG12:=Aside0.mk HG12
          clear gb12 gl12 HG12
          obtain ⟨hx12_0,hf12_0⟩:=Kd.R_celln 0 HO_6.out (x8_1:Int) p12 q12
          replace p12:=eq_true p12
          replace q12:=eq_true q12
          have HP13:=Kd.R_putg HO_6.out (x8_1:Int) ((IntKind.u64.wrap (Int.tdiv (IntKind.u64.wrap ((IntKind.u64.wrap (x7_1 * 1000000000)) + (IntKind.u64.wrap (rd l0 x8_1)))) a1)) % 4294967296)
          go_wp2_with (first|((with_reducible refine gate_store (t:=95) (p:=33) rfl ?_);refine store_event (t:=95) (p:=33) (v:=?vo_w14) (w1:=(wr.setCell ⟨go12,(x8_1:Int).toNat,none⟩ (.int .u32 ((IntKind.u64.wrap (Int.tdiv (IntKind.u64.wrap ((IntKind.u64.wrap (x7_1 * 1000000000)) + (IntKind.u64.wrap (rd l0 x8_1)))) a1)) % 4294967296)))) ?hg ?ho ?hn ?hr ?_;(case ho=>rfl);(case hg=>rfl);(case hn=>rfl);(case hr=>first|(go_simp;done)|(go_simp;rfl));intro w14 hw;have hg:wr.grownBy w14 (some go12):=(by rw [hw];exact HP13.2);have hp_:Kd.R (Kd.int .u32) 95 w14 w.heap.size (fun k_=>(w.heap.size≤k_)) (.slice (some ⟨go12,0,none⟩) x6_1.length co12) y316:=(by rw [hw,Ny316.out];exact HP13.1);clear HP13;replace HO_6:=Aside0.mk hp_;replace HB:=Aside0.mk ((by rw [hw];exact below_set (HB.out) GB12.out:Below w.heap.size w w14));clear hg hw hp_))
          go_roundg k1
          case measure=>have:=HK1.out;omega
          case rel=>exact ⟨(y316),(Int.tmod (IntKind.u64.wrap ((IntKind.u64.wrap (x7_1 * 1000000000)) + (IntKind.u64.wrap (rd l0 x8_1)))) a1),(wrap64 (x8_1 - 1)),(by first|rfl|(simp;done)|(simp [*];done)),(by first|rfl|(simp;done)|(simp [*];done)),H',⟨by have:=HK1.out;omega⟩,⟨by (with_reducible repeat (first|apply Kd.R_alloc|apply Kd.R_drewN|apply Kd.R_drew));first|exact HO_6.out|(rw [Ny316.out];exact (Kd.R_putg (by first|exact Kd.R_drewN HO_6.out _|(apply Kd.R_drewN;exact HO_6.out)) (x8_1:Int) ((IntKind.u64.wrap (Int.tdiv (IntKind.u64.wrap ((IntKind.u64.wrap (x7_1 * 1000000000)) + (IntKind.u64.wrap (rd l0 x8_1)))) a1)) % 4294967296)).1)|(rw [Ny316.out];exact (Kd.R_putg HO_6.out (x8_1:Int) ((IntKind.u64.wrap (Int.tdiv (IntKind.u64.wrap ((IntKind.u64.wrap (x7_1 * 1000000000)) + (IntKind.u64.wrap (rd l0 x8_1)))) a1)) % 4294967296)).1)⟩,⟨by first|(exact below_set bx_ GB12.out)|(repeat (first|(with_reducible first|exact HB.out|apply below_alloc|apply pw_below_drewN|apply below_drew1)|exact HB.out))⟩⟩
         ·rw [if_neg c11] at H
          exact absurd H sm_
       ·rw [if_neg c9] at H
        exact absurd H sm_
      ·rw [if_neg c8] at H
       exact absurd H sm_
     ·rw [if_neg c7] at H
      have c7b0:decide (0≤x8_1) = false:=decide_eq_false c7
      clear c7
      obtain ⟨t317,A15,H⟩:=bn_ H
      obtain ⟨t320,A16,H⟩:=bn_ H
      simp only [Option.some.injEq,Prod.mk.injEq] at H
      obtain ⟨rfl,rfl⟩:=H
      obtain ⟨Ao17,co17,eo17⟩:=Kd.R_slice HO_6.out
      subst eo17
      go_wp2_with (first|((with_reducible refine gate_callee (f:=97) rfl ?_);refine gm_ (some 38) Tryz.func97 #[.slice Ao17 x6_1.length co17] ?_;(with_reducible refine (natural_num_trim.calls k1 (fun k_=>some k_ = (.slice Ao17 x6_1.length co17:Value).ownBlock) _ _ x6_1 t317 _ ?side1 A15.out).mono ?_);(case side1=>exact Kd.R_V (Kd.R_tight rfl (HO_6.out)));rintro e w18 ⟨v318,rfl,ho0,hb⟩;refine ⟨_,rfl,?_⟩;have HO319:=Aside0.mk (Kd.V_lower (Kd.V_mono (ok':=fun k_=>(w.heap.size≤k_)) ho0 (fun k_ hk_=>Or.elim hk_ (fun hs_=>((HO_6.out).1 k_ hs_.symm)) (fun hn_=>(Nat.le_trans (below_size bx_) hn_)))) (below_size bx_));replace HO_6:=rb_ HO_6 hb;replace HB:=bs_ hb;(try clear hb);(try clear ho0))|((with_reducible refine gate_callee (f:=94) rfl ?_);refine gm_ (some 40) Tryz.func94 #[.int .u64 x7_1] ?_;(with_reducible refine (natural_of.calls k1 x7_1 t320 _ A16.out).mono ?_);rintro e w19 ⟨v321,rfl,ho0,hb⟩;refine ⟨_,rfl,?_⟩;have HO322:=Aside0.mk (Kd.V_lower (Kd.V_mono (ok':=fun k_=>(w.heap.size≤k_)∧some k_≠(.slice Ao17 x6_1.length co17:Value).ownBlock) ho0 (fun k_ hk_=>⟨(Nat.le_trans (below_size bx_) hk_),(Kd.fresh' (Kd.R_lt (by (with_reducible repeat (first|apply Kd.R_alloc|apply Kd.R_drewN|apply Kd.R_drew));exact HO_6.out)) k_ hk_)⟩)) (below_size bx_));replace HO_6:=rb_ HO_6 hb;replace HO319:=vb_ HO319 hb;replace HB:=bs_ hb;(try clear hb);(try clear ho0)))
      go_ret2
      exact ⟨_,_,rf_,by (with_reducible repeat (first|apply Kd.V_alloc|apply Kd.V_drewN|apply Kd.V_drew));exact HO319.out,by (with_reducible repeat (first|apply Kd.V_alloc|apply Kd.V_drewN|apply Kd.V_drew));exact Kd.V_mono HO322.out (fun _ hk=>hk.1),bx_⟩
  ·rw [if_neg c4] at H
   exact absurd H sm_
 ·rw [if_neg c3] at H
  exact absurd H sm_
end Go.Proofs.YtaknchlegjcdhaaGreatDoor.Pr
namespace Go.Proofs.YtaknchlegjcdhaaGreatDoor.Pr
open Go.RowKit Go.Proofs.YtaknchlegjcdhaaGreatDoorW.PrintWords Go.Proofs.YtaknchlegjcdhaaGreatDoorW.PrintLast Go.Proofs.YtaknchlegjcdhaaGreatDoorW.PrintMore
attribute [local go_sem] max2_int min2_int max_two min_two max_three min_three max_four min_four
set_option maxHeartbeats 8000000
set_option maxRecDepth 100000
set_option linter.unusedVariables false
set_option linter.unusedSimpArgs false
def garboardref01_small.l0:Nat→List Int→Int→List Int→Int→Int→Option (List Int × Int)
 | 0,_,_,_,_,_=>none
 | k + 1,x0,x1,x6,x7,x8=>if x8 ≥ 0 then (if 0≤x8 then (if x8 < (x0.length:Int) then (if (IntKind.u64.wrap (x1)) = 0 then (none) else (if x8 < (x6.length:Int) then (garboardref01_small.l0 k x0 x1 (x6.set (x8:Int).toNat ((IntKind.u64.wrap (Int.tdiv (IntKind.u64.wrap ((IntKind.u64.wrap (x7 * 1000000000)) + (IntKind.u64.wrap (rd x0 x8)))) (IntKind.u64.wrap (x1)))) % 4294967296)) (Int.tmod (IntKind.u64.wrap ((IntKind.u64.wrap (x7 * 1000000000)) + (IntKind.u64.wrap (rd x0 x8)))) (IntKind.u64.wrap (x1))) (wrap64 (x8 - 1))) else (none))) else (none)) else (none)) else ((garboardref01_trim.f k x6).bind fun t713=>(some (t713,(x7) % 4294967296)))
def garboardref01_small.f (k:Nat) (l0:List Int) (a1:Int):Option (List Int × Int):=if 0≤(l0.length:Int) then (if ((l0.length:Int):Int).toNat≤70368744177664 then (garboardref01_small.l0 k l0 a1 (List.replicate ((l0.length:Int):Int).toNat 0) 0 (wrap64 ((l0.length:Int) - 1))) else (none)) else (none)
end Go.Proofs.YtaknchlegjcdhaaGreatDoor.Pr
set_option linter.unusedVariables false
set_option linter.unusedSimpArgs false
namespace Go.Proofs.YtaknchlegjcdhaaGreatDoor.Pr
open Go.RowKit Go.Proofs.YtaknchlegjcdhaaGreatDoorW.PrintWords Go.Proofs.YtaknchlegjcdhaaGreatDoorW.PrintLast Go.Proofs.YtaknchlegjcdhaaGreatDoorW.PrintMore Go.Proofs.YtaknchlegjcdhaaGreatDoor.NatTh
theorem w64 {x:Int} (h0:-9223372036854775808≤x) (h:x < 9223372036854775808):wrap64 x = x:=by unfold wrap64;omega
theorem u64w {x:Int} (h0:0≤x) (h:x < 18446744073709551616):IntKind.u64.wrap x = x:=by rw [IntKind.wrap_u64];omega
theorem rd_eq (l:List Int) (n:Nat):rd l (n:Int) = l.getD n 0:=by unfold rd;rw [Int.toNat_natCast]
theorem rd_last (a:List Int) (w:Int):rd (a ++ [w]) (a.length:Int) = w:=by rw [rd_eq];simp
theorem trim_k:∀ (n:Nat) (l:List Int),l.length = n→n < 1152921504606846976→∀ k,n < k→natural_num_trim.l0 k l = some (trimL l)∧garboardref01_trim.l0 k l = some (trimL l):=by
 intro n
 induction n with
 | zero =>
  intro l hl _ k hk
  obtain ⟨k,rfl⟩:∃ m,k = m + 1:=⟨k - 1,by omega⟩
  have:l = []:=List.eq_nil_of_length_eq_zero hl
  subst this
  constructor
  ·simp only [natural_num_trim.l0]
   rw [if_neg (by simp)]
   rfl
  ·simp only [garboardref01_trim.l0]
   rw [if_neg (by simp)]
   rfl
 | succ n ih =>
  intro l hl hb k hk
  obtain ⟨k,rfl⟩:∃ m,k = m + 1:=⟨k - 1,by omega⟩
  rcases snoc_cases l with rfl|⟨a,w,rfl⟩
  ·simp at hl
  ·have ha:a.length = n:=by simpa using hl
   have hL:(((a ++ [w]).length:Nat):Int) = a.length + 1:=by simp
   have hw:wrap64 ((a.length:Int) + 1 - 1) = a.length:=by rw [w64 (by omega) (by omega)];omega
   obtain ⟨h1,h2⟩:=ih a ha (by omega) k (by omega)
   constructor
   ·simp only [natural_num_trim.l0]
    rw [hL,hw,if_pos (by omega),if_pos (by omega),if_pos (by omega),rd_last]
    by_cases e:w = 0
    ·subst e
     rw [if_pos rfl,if_pos (by omega),Int.toNat_natCast,List.take_left' rfl,trimL_snoc_zero]
     exact h1
    ·rw [if_neg e,trimL_snoc a w e]
   ·simp only [garboardref01_trim.l0]
    rw [hL,hw,if_pos (by omega),if_pos (by omega),if_pos (by omega),rd_last]
    by_cases e:w = 0
    ·subst e
     rw [if_pos rfl,if_pos (by omega),Int.toNat_natCast,List.take_left' rfl,trimL_snoc_zero]
     exact h2
    ·rw [if_neg e,trimL_snoc a w e]
def Ok (l:List Int):Prop:=l.length≤1099511627776
theorem trim_ev {l:List Int} (h:l.length < 1152921504606846976):Ev (fun k=>natural_num_trim.f k l) (trimL l):=⟨l.length + 1,fun k hk=>(trim_k _ l rfl h k (by omega)).1⟩
theorem rtrim_ev {l:List Int} (h:l.length < 1152921504606846976):Ev (fun k=>garboardref01_trim.f k l) (trimL l):=⟨l.length + 1,fun k hk=>(trim_k _ l rfl h k (by omega)).2⟩
theorem cmp32 (a b:Int):cmp_Compare_uint32.f a b = some (if a < b then -1 else if b < a then 1 else 0):=by
 unfold cmp_Compare_uint32.f cmp_isNaN_uint32.f
 simp only [bne_self_eq_false,Option.bind_some,Bool.false_eq_true,if_false]
 by_cases h:a < b
 ·rw [if_pos h,if_pos h]
 ·rw [if_neg h,if_neg h]
  by_cases h2:b < a
  ·rw [if_pos h2,if_pos h2]
  ·rw [if_neg h2,if_neg h2]
theorem cmp64 (a b:Int):cmp_Compare_int.f a b = some (if a < b then -1 else if b < a then 1 else 0):=by
 unfold cmp_Compare_int.f cmp_isNaN_int.f
 simp only [bne_self_eq_false,Option.bind_some,Bool.false_eq_true,if_false]
 by_cases h:a < b
 ·rw [if_pos h,if_pos h]
 ·rw [if_neg h,if_neg h]
  by_cases h2:b < a
  ·rw [if_pos h2,if_pos h2]
  ·rw [if_neg h2,if_neg h2]
def cmpV (a b:Int):Int:=if a < b then -1 else if b < a then 1 else 0
theorem cmp_loop (x y:List Int) (hx:Wd x) (hy:Wd y) (hl:x.length = y.length) (hb:x.length < 1152921504606846976):∀ (n:Nat),n≤x.length→x.drop n = y.drop n→∀ k,n < k →
  natural_num_compare.l0 k x y ((n:Int) - 1) = some (cmpV (val x) (val y))∧garboardref01_Cmp.l0 k x y ((n:Int) - 1) = some (cmpV (val x) (val y)):=by
 intro n
 induction n with
 | zero =>
  intro _ hd k hk
  obtain ⟨k,rfl⟩:∃ m,k = m + 1:=⟨k - 1,by omega⟩
  simp only [List.drop_zero] at hd
  subst hd
  have e:cmpV (val x) (val x) = 0:=by unfold cmpV;simp
  rw [e]
  constructor
  ·simp only [natural_num_compare.l0]
   rw [if_neg (by omega)]
  ·simp only [garboardref01_Cmp.l0]
   rw [if_neg (by omega)]
 | succ n ih =>
  intro hn hd k hk
  obtain ⟨k,rfl⟩:∃ m,k = m + 1:=⟨k - 1,by omega⟩
  have e1:(((n + 1:Nat):Int) - 1) = n:=by omega
  have e2:wrap64 ((n:Int) - 1) = (n:Int) - 1:=w64 (by omega) (by omega)
  rw [e1]
  have hlt:=fun h=>lt_of_word hx hy hl (show n < x.length by omega) hd h
  have hgt:=fun h=>lt_of_word hy hx hl.symm (show n < y.length by omega) hd.symm h
  have he:=fun h=>drop_eq_of hl (show n < x.length by omega) hd h
  constructor
  ·simp only [natural_num_compare.l0]
   rw [if_pos (by omega),if_pos (by omega),if_pos (by omega),if_pos (by omega),rd_eq,rd_eq,e2,cmp32]
   by_cases h:x.getD n 0 = y.getD n 0
   ·rw [if_pos h]
    exact (ih (by omega) (he h) k (by omega)).1
   ·rw [if_neg h]
    simp only [Option.bind_some]
    congr 1
    unfold cmpV
    by_cases h1:x.getD n 0 < y.getD n 0
    ·rw [if_pos h1,if_pos (hlt h1)]
    ·have h2:y.getD n 0 < x.getD n 0:=by omega
     have h3:=hgt h2
     rw [if_neg h1,if_pos h2,if_neg (by omega),if_pos h3]
  ·simp only [garboardref01_Cmp.l0]
   rw [if_pos (by omega),if_pos (by omega),if_pos (by omega),if_pos (by omega),rd_eq,rd_eq,e2]
   unfold cmpV
   by_cases h1:x.getD n 0 < y.getD n 0
   ·rw [if_pos h1,if_pos (hlt h1)]
   ·rw [if_neg h1]
    by_cases h2:x.getD n 0 > y.getD n 0
    ·have h3:=hgt h2
     rw [if_pos h2,if_neg (by omega),if_pos h3]
    ·rw [if_neg h2]
     exact (ih (by omega) (he (by omega)) k (by omega)).2
theorem compare_ev (a b:Nat) (ha:Ok (numOf a)) (hb:Ok (numOf b)):Ev (fun k=>natural_num_compare.f k (numOf a) (numOf b)) (ord a b)∧Ev (fun k=>garboardref01_Cmp.f k (numOf a) (numOf b)) (ord a b):=by
 unfold Ok at ha hb
 have hc:cmpV (val (numOf a)) (val (numOf b)) = ord a b:=by
  rw [val_numOf,val_numOf]
  unfold cmpV ord
  by_cases h1:a < b
  ·rw [if_pos h1,if_pos (by omega)]
  ·rw [if_neg h1,if_neg (by omega)]
   by_cases h2:b < a
   ·rw [if_pos h2,if_pos (by omega)]
   ·rw [if_neg h2,if_neg (by omega)]
 by_cases hl:(numOf a).length = (numOf b).length
 ·have h:=fun k hk=>cmp_loop (numOf a) (numOf b) (num_numOf a).1 (num_numOf b).1 hl (by omega) (numOf a).length (Nat.le_refl _) (by rw [List.drop_length,hl,List.drop_length]) k hk
  rw [hc] at h
  constructor
  ·refine ⟨(numOf a).length + 1,fun k hk=>?_⟩
   simp only [natural_num_compare.f]
   rw [if_pos (by omega),w64 (by omega) (by omega)]
   exact (h k (by omega)).1
  ·refine ⟨(numOf a).length + 1,fun k hk=>?_⟩
   simp only [garboardref01_Cmp.f]
   rw [if_pos (by omega),w64 (by omega) (by omega)]
   exact (h k (by omega)).2
 ·have key:ord a b = if ((numOf a).length:Int) < ((numOf b).length:Int) then -1 else 1:=by
   unfold ord
   by_cases h1:(numOf a).length < (numOf b).length
   ·rw [if_pos (lt_of_len h1),if_pos (by omega)]
   ·have h2:=lt_of_len (show (numOf b).length < (numOf a).length by omega)
    rw [if_neg (by omega),if_pos h2,if_neg (by omega)]
  constructor
  ·refine ⟨0,fun k hk=>?_⟩
   simp only [natural_num_compare.f]
   rw [if_neg (by omega),cmp64,key]
   simp only [Option.bind_some]
   by_cases h1:((numOf a).length:Int) < ((numOf b).length:Int)
   ·rw [if_pos h1,if_pos h1]
   ·rw [if_neg h1,if_pos (by omega),if_neg h1]
  ·refine ⟨0,fun k hk=>?_⟩
   simp only [garboardref01_Cmp.f]
   rw [if_neg (by omega),key]
   by_cases h1:((numOf a).length:Int) < ((numOf b).length:Int)
   ·rw [if_pos h1,if_pos h1]
   ·rw [if_neg h1,if_neg h1]
theorem BB:B = 1000000000:=rfl
theorem small_eq (a:Nat):natural_num_small.f (numOf a) = some (if (numOf a).length≤2 then ((a:Int),true) else (0,false)):=by
 have hv:=val_numOf a
 have hw:=(num_numOf a).1
 have h0:=hw.getD 0
 have h1:=hw.getD 1
 rw [BB] at h0 h1
 unfold natural_num_small.f
 by_cases e0:(numOf a).length = 0
 ·have:a = 0:=numOf_nil.1 (List.eq_nil_of_length_eq_zero e0)
  rw [if_pos (by omega),if_pos (by omega),this]
  rfl
 ·rw [if_neg (by omega)]
  by_cases e1:(numOf a).length = 1
  ·rw [if_pos (by omega),if_pos (by omega),if_pos (by omega)]
   have e:=val_one _ e1
   rw [show (0:Int) = ((0:Nat):Int) from rfl,rd_eq,← e,hv,u64w (by omega) (by omega)]
  ·rw [if_neg (by omega)]
   by_cases e2:(numOf a).length = 2
   ·rw [if_pos (by omega),if_pos (by omega),if_pos (by omega),if_pos (by omega)]
    have e:=val_two _ e2
    rw [BB] at e
    rw [show rd (numOf a) 0 = (numOf a).getD 0 0 from rd_eq _ 0,show rd (numOf a) 1 = (numOf a).getD 1 0 from rd_eq _ 1]
    rw [u64w h0.1 (by omega),u64w h1.1 (by omega),u64w (x:=1000000000 * (numOf a).getD 1 0) (by omega) (by omega),u64w (by omega) (by omega),← e,hv]
   ·rw [if_neg (by omega),if_neg (by omega)]
theorem wd2 {x y:Int} (hx:0≤x∧x < 1000000000) (hy:0≤y∧y < 1000000000):Wd [x,y]:=Wd.cons hx (Wd.cons hy Wd.nil)
theorem of_ev (a:Nat) (h:a < 1000000000000000000):Ev (fun k=>natural_of.f k a) (numOf a):=by
 have e1:Int.tmod (a:Int) 1000000000 = (a:Int) % 1000000000:=Int.tmod_eq_emod_of_nonneg (by omega)
 have e2:Int.tdiv (a:Int) 1000000000 = (a:Int) / 1000000000:=Int.tdiv_eq_ediv_of_nonneg (by omega)
 have ew:Wd [(a:Int) % 1000000000,(a:Int) / 1000000000]:=wd2 (by omega) (by omega)
 have ev:val [(a:Int) % 1000000000,(a:Int) / 1000000000] = a:=by
  simp only [val,BB]
  omega
 have h1:=trim_ev (l:=[(a:Int) % 1000000000,(a:Int) / 1000000000]) (by simp)
 rw [trim_numOf ew ev] at h1
 refine Ev.congr (f:=fun k=>(natural_num_trim.f k [(a:Int) % 1000000000,(a:Int) / 1000000000]).bind fun t=>some t) (fun k=>?_) (Ev.bind h1 (Ev.now _))
 simp only [natural_of.f]
 rw [e1,e2,u64w (by omega) (by omega),Int.emod_eq_of_lt (show (0:Int)≤(a:Int) % 1000000000 by omega) (by omega),Int.emod_eq_of_lt (show (0:Int)≤(a:Int) / 1000000000 by omega) (by omega)]
end Go.Proofs.YtaknchlegjcdhaaGreatDoor.Pr
set_option linter.unusedVariables false
set_option linter.unusedSimpArgs false
namespace Go.Proofs.YtaknchlegjcdhaaGreatDoor.Pr
open Go.RowKit Go.Proofs.YtaknchlegjcdhaaGreatDoorW.PrintWords Go.Proofs.YtaknchlegjcdhaaGreatDoorW.PrintLast Go.Proofs.YtaknchlegjcdhaaGreatDoorW.PrintMore Go.Proofs.YtaknchlegjcdhaaGreatDoor.NatTh
theorem drop_set_self (l:List Int) (n:Nat) (w:Int) (h:n < l.length):(l.set n w).drop n = w :: l.drop (n + 1):=by
 rw [List.drop_eq_getElem_cons (by rw [List.length_set];exact h),drop_set_succ]
 simp
theorem by_step (x:List Int) (n:Nat) (w r d:Int) (hx:Wd x) (hn:n < x.length) (hw:0 < w) (hr:r = val (x.drop (n + 1)) % w) :
  (r * 1000000000 + x.getD n 0) / w = val (x.drop n) / w - B * (val (x.drop (n + 1)) / w)∧(r * 1000000000 + x.getD n 0) % w = val (x.drop n) % w∧0≤(r * 1000000000 + x.getD n 0) / w∧(r * 1000000000 + x.getD n 0) / w < 1000000000∧0≤r∧r < w:=by
 have hd:=val_drop_succ x n hn
 have hg:=hx.getD n
 have h1:=Int.mul_ediv_add_emod (val (x.drop (n + 1))) w
 have h0:=Int.emod_nonneg (val (x.drop (n + 1))) (Int.ne_of_gt hw)
 have h2:=Int.emod_lt_of_pos (val (x.drop (n + 1))) hw
 rw [← hr] at h0 h1 h2
 rw [BB] at *
 generalize val (x.drop (n + 1)) / w = Q at *
 have e:val (x.drop n) = (r * 1000000000 + x.getD n 0) + w * (1000000000 * Q):=by
  rw [hd,← h1,Int.mul_add,← Int.mul_assoc w,Int.mul_comm w 1000000000,Int.mul_assoc]
  omega
 rw [e,Int.add_mul_ediv_left _ _ (Int.ne_of_gt hw),Int.add_mul_emod_self_left]
 refine ⟨by omega,rfl,Int.ediv_nonneg (by omega) (by omega),?_,h0,h2⟩
 refine Int.ediv_lt_of_lt_mul hw ?_
 omega
structure ByI (x out:List Int) (w:Int) (n:Nat):Prop where
 wd:Wd out
 len:out.length = x.length
 eq:val (out.drop n) = val (x.drop n) / w
theorem ByI.step {x out:List Int} {w:Int} {n:Nat} (h:ByI x out w (n + 1)) (hx:Wd x) (hn:n < x.length) (hw:0 < w) :
  ByI x (out.set n ((val (x.drop (n + 1)) % w * 1000000000 + x.getD n 0) / w)) w n:=by
 obtain ⟨h1,h2,h3,h4,h5,h6⟩:=by_step x n w _ 0 hx hn hw rfl
 refine ⟨h.wd.set n ⟨h3,by rw [BB];exact h4⟩,by rw [List.length_set];exact h.len,?_⟩
 rw [drop_set_self _ _ _ (by rw [h.len];exact hn),val,h.eq,h1]
 omega
theorem by_loop (x:List Int) (w:Int) (hx:Wd x) (hw:0 < w) (hw2:w≤4294967295) (hb:x.length < 1152921504606846976):∀ (n:Nat),n≤x.length→∀ (out:List Int),ByI x out w n→∃ out',ByI x out' w 0 ∧
  (∀ k,n≤k→natural_num_by.l0 (k + 1) x w out (val (x.drop n) % w) ((n:Int) - 1) = natural_num_by.l0 (k + 1 - n) x w out' (val x % w) (-1)) ∧
  (∀ k,n≤k→garboardref01_small.l0 (k + 1) x w out (val (x.drop n) % w) ((n:Int) - 1) = garboardref01_small.l0 (k + 1 - n) x w out' (val x % w) (-1)):=by
 intro n
 induction n with
 | zero =>
  intro _ out h
  exact ⟨out,h,fun k _=>by rw [Nat.sub_zero];rfl,fun k _=>by rw [Nat.sub_zero];rfl⟩
 | succ n ih =>
  intro hn out h
  obtain ⟨out',h',e1,e2⟩:=ih (by omega) _ (h.step hx (by omega) hw)
  obtain ⟨h1,h2,h3,h4,h5,h6⟩:=by_step x n w _ 0 hx (by omega) hw rfl
  have hl:=h.len
  have hg:=hx.getD n
  rw [BB] at hg
  have ew:IntKind.u64.wrap w = w:=u64w (by omega) (by omega)
  have en:(((n + 1:Nat):Int) - 1) = n:=by omega
  have em:wrap64 ((n:Int) - 1) = (n:Int) - 1:=w64 (by omega) (by omega)
  generalize val (x.drop (n + 1)) % w = r at *
  have eu:IntKind.u64.wrap (IntKind.u64.wrap (r * 1000000000) + IntKind.u64.wrap (x.getD n 0)) = r * 1000000000 + x.getD n 0:=by
   rw [u64w (x:=r * 1000000000) (by omega) (by omega),u64w (x:=x.getD n 0) (by omega) (by omega),u64w (by omega) (by omega)]
  have ed:Int.tdiv (r * 1000000000 + x.getD n 0) w = (r * 1000000000 + x.getD n 0) / w:=Int.tdiv_eq_ediv_of_nonneg (by omega)
  have et:Int.tmod (r * 1000000000 + x.getD n 0) w = (r * 1000000000 + x.getD n 0) % w:=Int.tmod_eq_emod_of_nonneg (by omega)
  have eq:IntKind.u64.wrap ((r * 1000000000 + x.getD n 0) / w) % 4294967296 = (r * 1000000000 + x.getD n 0) / w:=by
   rw [u64w h3 (by omega),Int.emod_eq_of_lt h3 (by omega)]
  refine ⟨out',h',fun k hk=>?_,fun k hk=>?_⟩
  ·obtain ⟨k,rfl⟩:∃ m,k = m + 1:=⟨k - 1,by omega⟩
   conv=>lhs;unfold natural_num_by.l0
   rw [en,if_pos (by omega),if_pos (by omega),if_pos (by omega),if_neg (by omega),if_pos (by omega),rd_eq,eu,ed,et,eq,em,Int.toNat_natCast,h2,e1 k (by omega),show k + 1 + 1 - (n + 1) = k + 1 - n by omega]
  ·obtain ⟨k,rfl⟩:∃ m,k = m + 1:=⟨k - 1,by omega⟩
   conv=>lhs;unfold garboardref01_small.l0
   rw [en,if_pos (by omega),if_pos (by omega),if_pos (by omega),ew,if_neg (by omega),if_pos (by omega),rd_eq,eu,ed,et,eq,em,Int.toNat_natCast,h2,e2 k (by omega),show k + 1 + 1 - (n + 1) = k + 1 - n by omega]
theorem by_start (x:List Int) (w:Int):ByI x (List.replicate x.length 0) w x.length:=⟨Wd.zeros _,List.length_replicate ..,by
 rw [List.drop_of_length_le (by rw [List.length_replicate];exact Nat.le_refl _),List.drop_length]
 simp [val]⟩
theorem by_ev (a:Nat) (w:Nat) (hw:0 < w) (hw2:w≤4294967295) (ho:Ok (numOf a)):Ev (fun k=>natural_num_by.f k (numOf a) w) (numOf (a / w),numOf (a % w))∧Ev (fun k=>garboardref01_small.f k (numOf a) w) (numOf (a / w),((a % w:Nat):Int)):=by
 unfold Ok at ho
 have hx:=(num_numOf a).1
 have hv:=val_numOf a
 obtain ⟨out,h,e1,e2⟩:=by_loop (numOf a) w hx (by omega) (by omega) (by omega) (numOf a).length (Nat.le_refl _) _ (by_start _ _)
 have hl:=h.len
 have hq:trimL out = numOf (a / w):=trim_numOf h.wd (by
  have:=h.eq
  simp only [List.drop_zero] at this
  rw [this,hv,Int.natCast_ediv])
 have hm:val (numOf a) % w = ((a % w:Nat):Int):=by rw [hv,Int.natCast_emod]
 have hml:a % w < w:=Nat.mod_lt _ hw
 rw [List.drop_length,hm] at e1 e2
 have hz:val ([]:List Int) % (w:Int) = 0:=by simp [val]
 rw [hz] at e1 e2
 have t1:=trim_ev (l:=out) (by omega)
 have t2:=rtrim_ev (l:=out) (by omega)
 have t3:=of_ev (a % w) (by omega)
 rw [hq] at t1 t2
 have b1:Ev (fun k=>(natural_num_trim.f k out).bind fun t=>(natural_of.f k ((a % w:Nat):Int)).bind fun t'=>some (t,t')) (numOf (a / w),numOf (a % w)):=Ev.bind t1 (Ev.bind t3 (Ev.now _))
 have b2:Ev (fun k=>(garboardref01_trim.f k out).bind fun t=>some (t,(((a % w:Nat):Int)) % 4294967296)) (numOf (a / w),((a % w:Nat):Int)):=by
  rw [Int.emod_eq_of_lt (show (0:Int)≤((a % w:Nat):Int) by omega) (by omega)]
  exact Ev.bind t2 (Ev.now _)
 obtain ⟨K1,b1⟩:=b1
 obtain ⟨K2,b2⟩:=b2
 constructor
 ·refine ⟨K1 + (numOf a).length + 1,fun k hk=>?_⟩
  simp only [natural_num_by.f]
  rw [if_pos (by omega),if_pos (by omega),Int.toNat_natCast,w64 (by omega) (by omega)]
  obtain ⟨k,rfl⟩:∃ m,k = m + 1:=⟨k - 1,by omega⟩
  rw [e1 k (by omega)]
  obtain ⟨j,hj⟩:∃ j,k + 1 - (numOf a).length = j + 1:=⟨k - (numOf a).length,by omega⟩
  rw [hj]
  simp only [natural_num_by.l0]
  rw [if_neg (by omega)]
  exact b1 j (by omega)
 ·refine ⟨K2 + (numOf a).length + 1,fun k hk=>?_⟩
  simp only [garboardref01_small.f]
  rw [if_pos (by omega),if_pos (by omega),Int.toNat_natCast,w64 (by omega) (by omega)]
  obtain ⟨k,rfl⟩:∃ m,k = m + 1:=⟨k - 1,by omega⟩
  rw [e2 k (by omega)]
  obtain ⟨j,hj⟩:∃ j,k + 1 - (numOf a).length = j + 1:=⟨k - (numOf a).length,by omega⟩
  rw [hj]
  simp only [garboardref01_small.l0]
  rw [if_neg (by omega)]
  exact b2 j (by omega)
end Go.Proofs.YtaknchlegjcdhaaGreatDoor.Pr
namespace Go.Proofs.YtaknchlegjcdhaaGreatDoor.Pr
open Go.RowKit Go.Proofs.YtaknchlegjcdhaaGreatDoorW.PrintWords Go.Proofs.YtaknchlegjcdhaaGreatDoorW.PrintLast Go.Proofs.YtaknchlegjcdhaaGreatDoorW.PrintMore
attribute [local go_sem] max2_int min2_int max_two min_two max_three min_three max_four min_four
set_option maxHeartbeats 8000000
set_option maxRecDepth 100000
set_option linter.unusedVariables false
set_option linter.unusedSimpArgs false
mutual
def natural_num_times.l0:Nat→List Int→List Int→List Int→Int→Int→Option (List Int)
 | 0,_,_,_,_,_=>none
 | k + 1,x1,x5,x17,x18,x19=>if x19 < x18 then (if 0≤x19 then (if x19 < (x17.length:Int) then (natural_num_times.l1 k x1 x5 x19 (rd x17 x19) 0 x17 x18 x19 x1 (x1.length:Int) 0) else (none)) else (none)) else ((natural_num_trim.f k x5).bind fun t326=>(some t326))
def natural_num_times.l1:Nat→List Int→List Int→Int→Int→Int→List Int→Int→Int→List Int→Int→Int→Option (List Int)
 | 0,_,_,_,_,_,_,_,_,_,_,_=>none
 | k + 1,x1,x5,x6,x7,x8,x17,x18,x19,x24,x25,x26=>if x26 < x25 then (if 0≤x26 then (if x26 < (x24.length:Int) then (if 0≤(wrap64 (x6 + x26)) then (if (wrap64 (x6 + x26)) < (x5.length:Int) then (natural_num_times.l1 k x1 (x5.set ((wrap64 (x6 + x26)):Int).toNat ((Int.tmod (IntKind.u64.wrap (x8 + (IntKind.u64.wrap ((IntKind.u64.wrap ((IntKind.u64.wrap (x7)) * (IntKind.u64.wrap (rd x24 x26)))) + (IntKind.u64.wrap (rd x5 (wrap64 (x6 + x26)))))))) 1000000000) % 4294967296)) x6 x7 (IntKind.u64.wrap (Int.tdiv (IntKind.u64.wrap (x8 + (IntKind.u64.wrap ((IntKind.u64.wrap ((IntKind.u64.wrap (x7)) * (IntKind.u64.wrap (rd x24 x26)))) + (IntKind.u64.wrap (rd x5 (wrap64 (x6 + x26)))))))) 1000000000)) x17 x18 x19 x24 x25 (wrap64 (x26 + 1))) else (none)) else (none)) else (none)) else (none)) else (if 0≤(wrap64 (x6 + (x1.length:Int))) then (if (wrap64 (x6 + (x1.length:Int))) < (x5.length:Int) then (natural_num_times.l0 k x1 (x5.set ((wrap64 (x6 + (x1.length:Int))):Int).toNat ((x8) % 4294967296)) x17 x18 (wrap64 (x19 + 1))) else (none)) else (none))
end
def natural_num_times.f (k:Nat) (l0:List Int) (l1:List Int):Option (List Int):=if 0≤(wrap64 ((l0.length:Int) + (l1.length:Int))) then (if (wrap64 ((l0.length:Int) + (l1.length:Int)):Int).toNat≤70368744177664 then (natural_num_times.l0 k l1 (List.replicate (wrap64 ((l0.length:Int) + (l1.length:Int)):Int).toNat 0) l0 (l0.length:Int) 0) else (none)) else (none)
theorem natural_num_times.calls (k:Nat) (A0:Option Addr) (c0:Nat) (l0:List Int) (A1:Option Addr) (c1:Nat) (l1:List Int) (r:List Int) (w:World) (hr0:Kd.C (Kd.int .u32) w A0 l0.length l0) (hc0:l0.length≤c0) (hr1:Kd.C (Kd.int .u32) w A1 l1.length l1) (hc1:l1.length≤c1) (h:natural_num_times.f k l0 l1 = some r) :
  Calls Tryz.prog 96 #[.slice A0 l0.length c0,.slice A1 l1.length c1] w fun e w'=>∃ v0_:Value,e = .returned (v0_)∧Kd.V (Kd.int .u32) 95 w' w.heap.size (fun k_=>(w.heap.size≤k_)) v0_ r∧Below w.heap.size w w':=by
 have HR0:=Aside0.mk hr0
 have HC0:=Aside0.mk hc0
 clear hr0 hc0
 have HR1:=Aside0.mk hr1
 have HC1:=Aside0.mk hc1
 clear hr1 hc1
 have HB:=Aside0.mk (Below.refl w.heap.size w)
 have H:(if 0≤(wrap64 ((l0.length:Int) + (l1.length:Int))) then (if (wrap64 ((l0.length:Int) + (l1.length:Int)):Int).toNat≤70368744177664 then (natural_num_times.l0 k l1 (List.replicate (wrap64 ((l0.length:Int) + (l1.length:Int)):Int).toNat 0) l0 (l0.length:Int) 0) else (none)) else (none)) = some r:=h
 clear h
 obtain ⟨ji3,hji3⟩:∃ j_:Int,(wrap64 ((l0.length:Int) + (l1.length:Int))) = j_:=⟨_,rfl⟩
 replace H:(if 0≤(ji3) then (if (ji3:Int).toNat≤70368744177664 then (natural_num_times.l0 k l1 (List.replicate (ji3:Int).toNat 0) l0 (l0.length:Int) 0) else (none)) else (none)) = some r:=by first|(rw [hji3] at H;exact H)|(simp only [hji3] at H ⊢;exact H)
 have hji3w:(IntKind.i64.wrap ((l0.length:Int) + (l1.length:Int))) = ji3:=(i64_w _).trans hji3
 by_cases c4:0≤(ji3)
 ·rw [if_pos c4] at H
  have c4b0:=eq_true c4
  have c4b1:decide (0≤(ji3)) = true:=decide_eq_true c4
  clear c4
  by_cases c5:(ji3:Int).toNat≤70368744177664
  ·rw [if_pos c5] at H
   have c5b0:=eq_true c5
   have c5b1:decide ((ji3:Int).toNat≤70368744177664) = true:=decide_eq_true c5
   clear c5
   obtain ⟨y323,hy323⟩:∃ y_:List Int,y_ = (List.replicate (ji3:Int).toNat 0):=⟨_,rfl⟩
   replace H:(natural_num_times.l0 k l1 y323 l0 (l0.length:Int) 0) = some r:=by first|(rw [hy323];with_reducible exact H)|(have H2_:=(Option.bind_some _ _).symm.trans H;rw [hy323];with_reducible exact H2_)|(have H2_:=(Option.bind_some _ _).symm.trans H;with_reducible exact H2_)|with_reducible exact H|(rw [hy323];exact H)|exact H
   have Ny323:=Aside0.mk hy323
   clear hy323
   have H':=Aside0.mk H
   clear H
   go_enter Tryz.func96,Tryz.ntmps96
   go_wp2_with (first|((with_reducible refine gate_dst (N:=16) rfl ?_);refine Kd.R_make (Kd.int .u32) _ 95 rfl (N:=16) rfl 74 _ _ rfl ji3 rfl rfl Tryz.underlying74 (.int .u32 0) 4 info95 rfl de_ (by omega) 0 (ok:=fun _=>True) (okp:=fun _=>True) rfl (fun _ hk=>hk) trivial (of_decide_eq_true (by first|(with_reducible assumption)|assumption)) (Nat.le_trans (Nat.mul_le_mul_right _ (of_decide_eq_true (by first|(with_reducible assumption)|assumption):ji3.toNat≤70368744177664)) (by omega)) (Below.refl _ _) (Nat.le_refl _) ?_;intro v324 w6 ho7 hb hg_ hnew_;clear hg_ hnew_;(first|rw [← Ny323.out] at ho7|(simp only [Int.reduceToNat] at ho7;rw [← Ny323.out] at ho7));have HO325:=Aside0.mk (Kd.R_lower (Kd.R_newM (M:=fun k_=>(w.heap.size≤k_)) ho7 (below_size bx_) (fun k_ h_=>h_)) (below_size bx_));replace HB:=bs_ hb;clear hb ho7))
   go_loopg [19] k (fun kq v19 w'=>∃ (x5_1:List Int) (x19_1:Int),v19 = .int .i64 x19_1∧Aside0 (natural_num_times.l0 kq l1 x5_1 l0 (l0.length:Int) x19_1 = some r)∧Aside0 (kq≤k)∧Aside0 (Kd.R (Kd.int .u32) 95 w' w.heap.size (fun k_=>(w.heap.size≤k_)) v324 x5_1)∧Aside0 (Below w.heap.size w w'))
   case atStart=>exact ⟨(y323),(0),(by first|rfl|(simp;done)|(simp [*];done)),H',⟨Nat.le_refl _⟩,⟨by (with_reducible repeat (first|apply Kd.R_alloc|apply Kd.R_drewN|apply Kd.R_drew));exact Kd.R_mono HO325.out (fun _ hk=>hk.1)⟩,⟨bx_⟩⟩
   case round =>
    clear H'
    try clear c1
    try clear p2
    try clear c4
    try clear c4b0
    try clear c4b1
    try clear c5
    try clear c5b0
    try clear c5b1
    try clear p6
    obtain ⟨x5_1,x19_1,rfl,HA,HK1,HO_5,HB⟩:=hrel
    cases gk with
    | zero=>exact absurd HA.out (by simp [natural_num_times.l0])
    | succ k1 =>
     have H:=HA.out
     clear HA
     simp only [natural_num_times.l0] at H
     by_cases c8:x19_1 < (l0.length:Int)
     ·rw [if_pos c8] at H
      have c8b0:decide (x19_1 < (l0.length:Int)) = true:=decide_eq_true c8
      clear c8
      by_cases c9:0≤x19_1
      ·rw [if_pos c9] at H
       have c9b0:decide (0≤x19_1) = true:=decide_eq_true c9
       clear c9
       by_cases c10:x19_1 < (l0.length:Int)
       ·rw [if_pos c10] at H
        have c10b0:decide (x19_1 < (l0.length:Int)) = true:=decide_eq_true c10
        clear c10
        have H':=Aside0.mk H
        clear H
        have p329:0≤(x19_1:Int):=da_
        have q329:x19_1 < (l0.length:Int):=da_
        obtain ⟨ad329,e329,hx329_0⟩:=Kd.at_int HR0.out x19_1 p329 q329
        cases e329
        replace hx329_0:=(HB.out.cell (World.block_lt_of_cell? w _ hx329_0)).trans hx329_0
        replace p329:=eq_true p329
        replace q329:=eq_true q329
        go_wp2
        go_loopg [8,26] k1 (fun kq v8 v26 w'=>∃ (x5_2:List Int) (x8_2:Int) (x26_2:Int),v8 = .int .u64 x8_2∧v26 = .int .i64 x26_2∧Aside0 (natural_num_times.l1 kq l1 x5_2 x19_1 (rd l0 x19_1) x8_2 l0 (l0.length:Int) x19_1 l1 (l1.length:Int) x26_2 = some r)∧Aside0 (kq≤k1)∧Aside0 (Kd.R (Kd.int .u32) 95 w' w.heap.size (fun k_=>(w.heap.size≤k_)) v324 x5_2)∧Aside0 (Below w.heap.size w w'))
        case atStart=>exact ⟨(x5_1),(0),(0),(by first|rfl|(simp;done)|(simp [*];done)),(by first|rfl|(simp;done)|(simp [*];done)),H',⟨Nat.le_refl _⟩,⟨by (with_reducible repeat (first|apply Kd.R_alloc|apply Kd.R_drewN|apply Kd.R_drew));exact HO_5.out⟩,⟨bx_⟩⟩
        case round =>
         clear H'
         try clear c1
         try clear p2
         try clear p3
         try clear q3
         try clear hx3
         try clear c4
         try clear c4b0
         try clear c4b1
         try clear c5
         try clear c5b0
         try clear c5b1
         try clear p6
         try clear c8
         try clear c8b0
         try clear c9
         try clear c9b0
         try clear c10
         try clear c10b0
         try clear hx329_0
         try clear p2
         try clear p329
         try clear p6
         try clear q329
         obtain ⟨x5_2,x8_2,x26_2,rfl,rfl,HA,HK2,HO_5,HB⟩:=hrel
         cases gk with
         | zero=>exact absurd HA.out (by simp [natural_num_times.l1])
         | succ k2 =>
          have H:=HA.out
          clear HA
          simp only [natural_num_times.l1] at H
          by_cases c11:x26_2 < (l1.length:Int)
          ·rw [if_pos c11] at H
           have c11b0:decide (x26_2 < (l1.length:Int)) = true:=decide_eq_true c11
           clear c11
           by_cases c12:0≤x26_2
           ·rw [if_pos c12] at H
            have c12b0:decide (0≤x26_2) = true:=decide_eq_true c12
            clear c12
            by_cases c13:x26_2 < (l1.length:Int)
            ·rw [if_pos c13] at H
             have c13b0:decide (x26_2 < (l1.length:Int)) = true:=decide_eq_true c13
             clear c13
             obtain ⟨ji14,hji14⟩:∃ j_:Int,(wrap64 (x19_1 + x26_2)) = j_:=⟨_,rfl⟩
             replace H:(if 0≤(ji14) then (if (ji14) < (x5_2.length:Int) then (natural_num_times.l1 k2 l1 (x5_2.set ((ji14):Int).toNat ((Int.tmod (IntKind.u64.wrap (x8_2 + (IntKind.u64.wrap ((IntKind.u64.wrap ((IntKind.u64.wrap ((rd l0 x19_1))) * (IntKind.u64.wrap (rd l1 x26_2)))) + (IntKind.u64.wrap (rd x5_2 (ji14))))))) 1000000000) % 4294967296)) x19_1 (rd l0 x19_1) (IntKind.u64.wrap (Int.tdiv (IntKind.u64.wrap (x8_2 + (IntKind.u64.wrap ((IntKind.u64.wrap ((IntKind.u64.wrap ((rd l0 x19_1))) * (IntKind.u64.wrap (rd l1 x26_2)))) + (IntKind.u64.wrap (rd x5_2 (ji14))))))) 1000000000)) l0 (l0.length:Int) x19_1 l1 (l1.length:Int) (wrap64 (x26_2 + 1))) else (none)) else (none)) = some r:=by first|(rw [hji14] at H;exact H)|(simp only [hji14] at H ⊢;exact H)
             have hji14w:(IntKind.i64.wrap (x19_1 + x26_2)) = ji14:=(i64_w _).trans hji14
             by_cases c15:0≤(ji14)
             ·rw [if_pos c15] at H
              have c15b0:decide (0≤(ji14)) = true:=decide_eq_true c15
              clear c15
              by_cases c16:(ji14) < (x5_2.length:Int)
              ·rw [if_pos c16] at H
               have c16b0:decide ((ji14) < (x5_2.length:Int)) = true:=decide_eq_true c16
               clear c16
               obtain ⟨y332,hy332⟩:∃ y_:List Int,y_ = (x5_2.set ((ji14):Int).toNat ((Int.tmod (IntKind.u64.wrap (x8_2 + (IntKind.u64.wrap ((IntKind.u64.wrap ((IntKind.u64.wrap ((rd l0 x19_1))) * (IntKind.u64.wrap (rd l1 x26_2)))) + (IntKind.u64.wrap (rd x5_2 (ji14))))))) 1000000000) % 4294967296)):=⟨_,rfl⟩
               replace H:(natural_num_times.l1 k2 l1 y332 x19_1 (rd l0 x19_1) (IntKind.u64.wrap (Int.tdiv (IntKind.u64.wrap (x8_2 + (IntKind.u64.wrap ((IntKind.u64.wrap ((IntKind.u64.wrap ((rd l0 x19_1))) * (IntKind.u64.wrap (rd l1 x26_2)))) + (IntKind.u64.wrap (rd x5_2 (ji14))))))) 1000000000)) l0 (l0.length:Int) x19_1 l1 (l1.length:Int) (wrap64 (x26_2 + 1))) = some r:=by first|(rw [hy332];with_reducible exact H)|(have H2_:=(Option.bind_some _ _).symm.trans H;rw [hy332];with_reducible exact H2_)|(have H2_:=(Option.bind_some _ _).symm.trans H;with_reducible exact H2_)|with_reducible exact H|(rw [hy332];exact H)|exact H
               have Ny332:=Aside0.mk hy332
               clear hy332
               have H':=Aside0.mk H
               clear H
               have p330:0≤(x26_2:Int):=da_
               have q330:x26_2 < (l1.length:Int):=da_
               obtain ⟨ad330,e330,hx330_0⟩:=Kd.at_int HR1.out x26_2 p330 q330
               cases e330
               replace hx330_0:=(HB.out.cell (World.block_lt_of_cell? w _ hx330_0)).trans hx330_0
               replace p330:=eq_true p330
               replace q330:=eq_true q330
               obtain ⟨Ao18,co18,eo18⟩:=Kd.R_slice HO_5.out
               subst eo18
               have p331:0≤((ji14):Int):=da_
               have q331:(ji14) < (x5_2.length:Int):=da_
               obtain ⟨ad331,e331,hx331_0⟩:=Kd.at_int (Kd.R_reads' HO_5.out).2.2 (ji14) p331 q331
               cases e331
               replace p331:=eq_true p331
               replace q331:=eq_true q331
               have p17:0≤((ji14):Int):=da_
               have q17:((ji14):Int) < ((x5_2.length:Int):Int):=da_
               obtain ⟨go17,co17,eo17,gb17,gl17,cl17,HG17⟩:=Kd.R_form HO_5.out (by omega)
               (first|cases eo17|(injection eo17 with ea_ en_ ec_;(first|subst ea_|(injection ea_ with ea_;subst ea_));subst ec_;clear en_))
               have GB17:=Aside0.mk gb17
               have GG17:=Aside0.mk HG17
               clear gb17 gl17 HG17
               (first|simp only [add_plain] at hx331_0|skip)
               obtain ⟨hx17_0,hf17_0⟩:=Kd.R_celln 0 HO_5.out ((ji14):Int) p17 q17
               replace p17:=eq_true p17
               replace q17:=eq_true q17
               have HP19:=Kd.R_putg HO_5.out ((ji14):Int) ((Int.tmod (IntKind.u64.wrap (x8_2 + (IntKind.u64.wrap ((IntKind.u64.wrap ((IntKind.u64.wrap ((rd l0 x19_1))) * (IntKind.u64.wrap (rd l1 x26_2)))) + (IntKind.u64.wrap (rd x5_2 (ji14))))))) 1000000000) % 4294967296)
               go_wp2_with (first|((with_reducible refine gate_store (t:=95) (p:=53) rfl ?_);refine store_event (t:=95) (p:=53) (v:=?vo_w20) (w1:=(wr.setCell ⟨go17,((ji14):Int).toNat,none⟩ (.int .u32 ((Int.tmod (IntKind.u64.wrap (x8_2 + (IntKind.u64.wrap ((IntKind.u64.wrap ((IntKind.u64.wrap ((rd l0 x19_1))) * (IntKind.u64.wrap (rd l1 x26_2)))) + (IntKind.u64.wrap (rd x5_2 (ji14))))))) 1000000000) % 4294967296)))) ?hg ?ho ?hn ?hr ?_;(case ho=>rfl);(case hg=>rfl);(case hn=>rfl);(case hr=>first|(go_simp;done)|(go_simp;rfl));intro w20 hw;have hg:wr.grownBy w20 (some go17):=(by rw [hw];exact HP19.2);have hp_:Kd.R (Kd.int .u32) 95 w20 w.heap.size (fun k_=>(w.heap.size≤k_)) (.slice (some ⟨go17,0,none⟩) x5_2.length co18) y332:=(by rw [hw,Ny332.out];exact HP19.1);clear HP19;replace HO_5:=Aside0.mk hp_;replace HB:=Aside0.mk ((by rw [hw];exact below_set (HB.out) GB17.out:Below w.heap.size w w20));clear hg hw hp_))
               go_roundg k2
               case measure=>have:=HK1.out;have:=HK2.out;omega
               case rel=>exact ⟨(y332),(IntKind.u64.wrap (Int.tdiv (IntKind.u64.wrap (x8_2 + (IntKind.u64.wrap ((IntKind.u64.wrap ((IntKind.u64.wrap ((rd l0 x19_1))) * (IntKind.u64.wrap (rd l1 x26_2)))) + (IntKind.u64.wrap (rd x5_2 (ji14))))))) 1000000000)),(wrap64 (x26_2 + 1)),(by first|rfl|(simp;done)|(simp only [← hji14]<;>(first|rfl|simp))|(simp [*];done)),(by first|rfl|(simp;done)|(simp [*];done)),H',⟨by have:=HK1.out;have:=HK2.out;omega⟩,⟨by (with_reducible repeat (first|apply Kd.R_alloc|apply Kd.R_drewN|apply Kd.R_drew));first|exact HO_5.out|(rw [Ny332.out];exact (Kd.R_putg (by first|exact Kd.R_drewN HO_5.out _|(apply Kd.R_drewN;exact HO_5.out)) ((ji14):Int) ((Int.tmod (IntKind.u64.wrap (x8_2 + (IntKind.u64.wrap ((IntKind.u64.wrap ((IntKind.u64.wrap ((rd l0 x19_1))) * (IntKind.u64.wrap (rd l1 x26_2)))) + (IntKind.u64.wrap (rd x5_2 (ji14))))))) 1000000000) % 4294967296)).1)|(rw [Ny332.out];exact (Kd.R_putg HO_5.out ((ji14):Int) ((Int.tmod (IntKind.u64.wrap (x8_2 + (IntKind.u64.wrap ((IntKind.u64.wrap ((IntKind.u64.wrap ((rd l0 x19_1))) * (IntKind.u64.wrap (rd l1 x26_2)))) + (IntKind.u64.wrap (rd x5_2 (ji14))))))) 1000000000) % 4294967296)).1)⟩,⟨by first|(exact below_set bx_ GB17.out)|(repeat (first|(with_reducible first|exact HB.out|apply below_alloc|apply pw_below_drewN|apply below_drew1)|exact HB.out))⟩⟩
              ·rw [if_neg c16] at H
               exact absurd H sm_
             ·rw [if_neg c15] at H
              exact absurd H sm_
            ·rw [if_neg c13] at H
             exact absurd H sm_
           ·rw [if_neg c12] at H
            exact absurd H sm_
          ·rw [if_neg c11] at H
           have c11b0:decide (x26_2 < (l1.length:Int)) = false:=decide_eq_false c11
           clear c11
           obtain ⟨ji21,hji21⟩:∃ j_:Int,(wrap64 (x19_1 + (l1.length:Int))) = j_:=⟨_,rfl⟩
           replace H:(if 0≤(ji21) then (if (ji21) < (x5_2.length:Int) then (natural_num_times.l0 k2 l1 (x5_2.set ((ji21):Int).toNat ((x8_2) % 4294967296)) l0 (l0.length:Int) (wrap64 (x19_1 + 1))) else (none)) else (none)) = some r:=by first|(rw [hji21] at H;exact H)|(simp only [hji21] at H ⊢;exact H)
           have hji21w:(IntKind.i64.wrap (x19_1 + (l1.length:Int))) = ji21:=(i64_w _).trans hji21
           by_cases c22:0≤(ji21)
           ·rw [if_pos c22] at H
            have c22b0:decide (0≤(ji21)) = true:=decide_eq_true c22
            clear c22
            by_cases c23:(ji21) < (x5_2.length:Int)
            ·rw [if_pos c23] at H
             have c23b0:decide ((ji21) < (x5_2.length:Int)) = true:=decide_eq_true c23
             clear c23
             obtain ⟨y333,hy333⟩:∃ y_:List Int,y_ = (x5_2.set ((ji21):Int).toNat ((x8_2) % 4294967296)):=⟨_,rfl⟩
             replace H:(natural_num_times.l0 k2 l1 y333 l0 (l0.length:Int) (wrap64 (x19_1 + 1))) = some r:=by first|(rw [hy333];with_reducible exact H)|(have H2_:=(Option.bind_some _ _).symm.trans H;rw [hy333];with_reducible exact H2_)|(have H2_:=(Option.bind_some _ _).symm.trans H;with_reducible exact H2_)|with_reducible exact H|(rw [hy333];exact H)|exact H
             have Ny333:=Aside0.mk hy333
             clear hy333
             have H':=Aside0.mk H
             clear H
             have p24:0≤((ji21):Int):=da_
             have q24:((ji21):Int) < ((x5_2.length:Int):Int):=da_
             obtain ⟨go24,co24,eo24,gb24,gl24,cl24,HG24⟩:=Kd.R_form HO_5.out (by omega)
             (first|cases eo24|(injection eo24 with ea_ en_ ec_;(first|subst ea_|(injection ea_ with ea_;subst ea_));subst ec_;clear en_))
             have GB24:=Aside0.mk gb24
             have GG24:=Aside0.mk HG24
             clear gb24 gl24 HG24
             obtain ⟨hx24_0,hf24_0⟩:=Kd.R_celln 0 HO_5.out ((ji21):Int) p24 q24
             replace p24:=eq_true p24
             replace q24:=eq_true q24
             have HP25:=Kd.R_putg HO_5.out ((ji21):Int) ((x8_2) % 4294967296)
             go_wp2_with (first|((with_reducible refine gate_store (t:=95) (p:=64) rfl ?_);refine store_event (t:=95) (p:=64) (v:=?vo_w26) (w1:=(wr.setCell ⟨go24,((ji21):Int).toNat,none⟩ (.int .u32 ((x8_2) % 4294967296)))) ?hg ?ho ?hn ?hr ?_;(case ho=>rfl);(case hg=>rfl);(case hn=>rfl);(case hr=>first|(go_simp;done)|(go_simp;rfl));intro w26 hw;have hg:wr.grownBy w26 (some go24):=(by rw [hw];exact HP25.2);have hp_:Kd.R (Kd.int .u32) 95 w26 w.heap.size (fun k_=>(w.heap.size≤k_)) (.slice (some ⟨go24,0,none⟩) x5_2.length co24) y333:=(by rw [hw,Ny333.out];exact HP25.1);clear HP25;replace HO_5:=Aside0.mk hp_;replace HB:=Aside0.mk ((by rw [hw];exact below_set (HB.out) GB24.out:Below w.heap.size w w26));clear hg hw hp_))
             go_roundg k2
             case measure=>have:=HK1.out;have:=HK2.out;omega
             case rel=>exact ⟨(y333),(wrap64 (x19_1 + 1)),(by first|rfl|(simp;done)|(simp [*];done)),H',⟨by have:=HK1.out;have:=HK2.out;omega⟩,⟨by (with_reducible repeat (first|apply Kd.R_alloc|apply Kd.R_drewN|apply Kd.R_drew));first|exact HO_5.out|(rw [Ny333.out];exact (Kd.R_putg (by first|exact Kd.R_drewN HO_5.out _|(apply Kd.R_drewN;exact HO_5.out)) ((ji21):Int) ((x8_2) % 4294967296)).1)|(rw [Ny333.out];exact (Kd.R_putg HO_5.out ((ji21):Int) ((x8_2) % 4294967296)).1)⟩,⟨by first|(exact below_set bx_ GB24.out)|(repeat (first|(with_reducible first|exact HB.out|apply below_alloc|apply pw_below_drewN|apply below_drew1)|exact HB.out))⟩⟩
            ·rw [if_neg c23] at H
             exact absurd H sm_
           ·rw [if_neg c22] at H
            exact absurd H sm_
       ·rw [if_neg c10] at H
        exact absurd H sm_
      ·rw [if_neg c9] at H
       exact absurd H sm_
     ·rw [if_neg c8] at H
      have c8b0:decide (x19_1 < (l0.length:Int)) = false:=decide_eq_false c8
      clear c8
      obtain ⟨t326,A27,H⟩:=bn_ H
      obtain rfl:=Option.some.inj H
      obtain ⟨Ao28,co28,eo28⟩:=Kd.R_slice HO_5.out
      subst eo28
      go_wp2_with (first|((with_reducible refine gate_callee (f:=97) rfl ?_);refine gm_ (some 67) Tryz.func97 #[.slice Ao28 x5_1.length co28] ?_;(with_reducible refine (natural_num_trim.calls k1 (fun k_=>some k_ = (.slice Ao28 x5_1.length co28:Value).ownBlock) _ _ x5_1 t326 _ ?side1 A27.out).mono ?_);(case side1=>exact Kd.R_V (Kd.R_tight rfl (HO_5.out)));rintro e w29 ⟨v327,rfl,ho0,hb⟩;refine ⟨_,rfl,?_⟩;have HO328:=Aside0.mk (Kd.V_lower (Kd.V_mono (ok':=fun k_=>(w.heap.size≤k_)) ho0 (fun k_ hk_=>Or.elim hk_ (fun hs_=>((HO_5.out).1 k_ hs_.symm)) (fun hn_=>(Nat.le_trans (below_size bx_) hn_)))) (below_size bx_));replace HO_5:=rb_ HO_5 hb;replace HB:=bs_ hb;(try clear hb);(try clear ho0)))
      go_ret
      exact ⟨_,by first|rfl|(simp [errW_none,errW_some]<;>rfl)|(simp only [← hji3];first|rfl|(simp [errW_none,errW_some]<;>rfl))|(simp [*,errW_none,errW_some]<;>rfl),by (with_reducible repeat (first|apply Kd.V_alloc|apply Kd.V_drewN|apply Kd.V_drew));exact HO328.out,bx_⟩
  ·rw [if_neg c5] at H
   exact absurd H sm_
 ·rw [if_neg c4] at H
  exact absurd H sm_
end Go.Proofs.YtaknchlegjcdhaaGreatDoor.Pr
namespace Go.Proofs.YtaknchlegjcdhaaGreatDoor.Pr
open Go.RowKit Go.Proofs.YtaknchlegjcdhaaGreatDoorW.PrintWords Go.Proofs.YtaknchlegjcdhaaGreatDoorW.PrintLast Go.Proofs.YtaknchlegjcdhaaGreatDoorW.PrintMore
attribute [local go_sem] max2_int min2_int max_two min_two max_three min_three max_four min_four
set_option maxHeartbeats 8000000
set_option maxRecDepth 100000
set_option linter.unusedVariables false
set_option linter.unusedSimpArgs false
mutual
def garboardref01_Times.j0:Nat→List Int→List Int→Bool→Option (List Int)
 | 0,_,_,_=>none
 | k + 1,x0,x1,x17=>if x17 = true then (some ([]:List Int)) else (if 0≤(wrap64 ((x0.length:Int) + (x1.length:Int))) then (if (wrap64 ((x0.length:Int) + (x1.length:Int)):Int).toNat≤70368744177664 then (garboardref01_Times.l0 k x0 x1 (List.replicate (wrap64 ((x0.length:Int) + (x1.length:Int)):Int).toNat 0) 0) else (none)) else (none))
def garboardref01_Times.l0:Nat→List Int→List Int→List Int→Int→Option (List Int)
 | 0,_,_,_,_=>none
 | k + 1,x0,x1,x5,x6=>if x6 < (x0.length:Int) then (garboardref01_Times.l1 k x0 x1 x5 x6 0 0) else ((garboardref01_trim.f k x5).bind fun t646=>(some t646))
def garboardref01_Times.l1:Nat→List Int→List Int→List Int→Int→Int→Int→Option (List Int)
 | 0,_,_,_,_,_,_=>none
 | k + 1,x0,x1,x5,x6,x7,x8=>if x8 < (x1.length:Int) then (if 0≤(wrap64 (x6 + x8)) then (if (wrap64 (x6 + x8)) < (x5.length:Int) then (if 0≤x6 then (if x6 < (x0.length:Int) then (if 0≤x8 then (garboardref01_Times.l1 k x0 x1 (x5.set ((wrap64 (x6 + x8)):Int).toNat ((Int.tmod (IntKind.u64.wrap ((IntKind.u64.wrap ((IntKind.u64.wrap (rd x5 (wrap64 (x6 + x8)))) + (IntKind.u64.wrap ((IntKind.u64.wrap (rd x0 x6)) * (IntKind.u64.wrap (rd x1 x8)))))) + x7)) 1000000000) % 4294967296)) x6 (IntKind.u64.wrap (Int.tdiv (IntKind.u64.wrap ((IntKind.u64.wrap ((IntKind.u64.wrap (rd x5 (wrap64 (x6 + x8)))) + (IntKind.u64.wrap ((IntKind.u64.wrap (rd x0 x6)) * (IntKind.u64.wrap (rd x1 x8)))))) + x7)) 1000000000)) (wrap64 (x8 + 1))) else (none)) else (none)) else (none)) else (none)) else (none)) else (if 0≤(wrap64 (x6 + (x1.length:Int))) then (if (wrap64 (x6 + (x1.length:Int))) < (x5.length:Int) then (garboardref01_Times.l0 k x0 x1 (x5.set ((wrap64 (x6 + (x1.length:Int))):Int).toNat ((x7) % 4294967296)) (wrap64 (x6 + 1))) else (none)) else (none))
end
def garboardref01_Times.f (k:Nat) (l0:List Int) (l1:List Int):Option (List Int):=if (l0.length:Int) = 0 then (garboardref01_Times.j0 k l0 l1 true) else (garboardref01_Times.j0 k l0 l1 ((l1.length:Int) == 0))
end Go.Proofs.YtaknchlegjcdhaaGreatDoor.Pr
set_option linter.unusedVariables false
set_option linter.unusedSimpArgs false
namespace Go.Proofs.YtaknchlegjcdhaaGreatDoor.Pr
open Go.RowKit Go.Proofs.YtaknchlegjcdhaaGreatDoorW.PrintWords Go.Proofs.YtaknchlegjcdhaaGreatDoorW.PrintLast Go.Proofs.YtaknchlegjcdhaaGreatDoorW.PrintMore Go.Proofs.YtaknchlegjcdhaaGreatDoor.NatTh
theorem wi (i j:Nat) (h:i + j < 9223372036854775808):wrap64 ((i:Int) + (j:Int)) = ((i + j:Nat):Int):=by
 rw [w64 (by omega) (by omega)]
 omega
theorem wi1 (j:Nat) (h:j < 9223372036854775807):wrap64 ((j:Int) + 1) = ((j + 1:Nat):Int):=by
 rw [w64 (by omega) (by omega)]
 omega
theorem ring5 (x y c P:Int):x * c * P + (P * y) * (x * 1) = x * (c + y) * P:=by grind
theorem mul_step (o x y C:Int) (ho:0≤o∧o < B) (hx:0≤x∧x < B) (hy:0≤y∧y < B) (hC:0≤C∧C < B):0≤o + x * y + C∧o + x * y + C < 1000000000000000000:=by
 have h1:0≤x * y:=Int.mul_nonneg hx.1 hy.1
 have h2:x * y≤(B - 1) * (B - 1):=Int.mul_le_mul (by omega) (by omega) hy.1 (by decide)
 rw [BB] at *
 omega
theorem mul_u64 (o x y C:Int) (ho:0≤o∧o < 1000000000) (hx:0≤x∧x < 1000000000) (hy:0≤y∧y < 1000000000) (hC:0≤C∧C < 1000000000) :
  IntKind.u64.wrap (C + IntKind.u64.wrap (IntKind.u64.wrap (IntKind.u64.wrap x * IntKind.u64.wrap y) + IntKind.u64.wrap o)) = o + x * y + C ∧
  IntKind.u64.wrap (IntKind.u64.wrap (IntKind.u64.wrap o + IntKind.u64.wrap (IntKind.u64.wrap x * IntKind.u64.wrap y)) + C) = o + x * y + C:=by
 have hm:=mul_step o x y C ho hx hy hC
 have hxy:0≤x * y:=Int.mul_nonneg hx.1 hy.1
 rw [u64w (x:=x) (by omega) (by omega),u64w (x:=y) (by omega) (by omega),u64w (x:=o) (by omega) (by omega)]
 generalize x * y = p at *
 rw [u64w (x:=p) (by omega) (by omega),u64w (x:=p + o) (by omega) (by omega),u64w (x:=o + p) (by omega) (by omega),u64w (x:=C + (p + o)) (by omega) (by omega),u64w (x:=o + p + C) (by omega) (by omega)]
 exact ⟨by omega,rfl⟩
theorem mul_take (x P:Int) (b:List Int) (j i:Nat):x * val (b.take j) * B ^ i + B ^ (i + j) * (x * b.getD j 0) = x * val (b.take (j + 1)) * B ^ i:=by
 rw [val_take_more,Bpow_add]
 generalize val (b.take j) = c
 generalize B ^ i = P1
 generalize B ^ j = P2
 generalize b.getD j 0 = y
 grind
theorem nat_inner (a b u:List Int) (x:Int) (i:Nat) (hb:Wd b) (hx:0≤x∧x < B) (hl:u.length = a.length + b.length) (hi:i < a.length) (hs:u.length < 1152921504606846976):∀ (n j:Nat),j + n = b.length→∀ (u':List Int) (C:Int),Run u u' (i + j) (x * val (b.take j) * B ^ i) C→0≤C∧C < B →
  ∃ u'' C',Run u u'' (i + b.length) (x * val b * B ^ i) C'∧(0≤C'∧C' < B) ∧
   (∀ k,n≤k→natural_num_times.l1 (k + 1) b u' i x C a a.length i b b.length j = natural_num_times.l1 (k + 1 - n) b u'' i x C' a a.length i b b.length b.length) ∧
   (x = a.getD i 0→∀ k,n≤k→garboardref01_Times.l1 (k + 1) a b u' i C j = garboardref01_Times.l1 (k + 1 - n) a b u'' i C' b.length):=by
 intro n
 induction n with
 | zero =>
  intro j hj u' C R hC
  obtain rfl:j = b.length:=by omega
  rw [List.take_of_length_le (Nat.le_refl _)] at R
  exact ⟨u',C,R,hC,fun k _=>by rw [Nat.sub_zero],fun _ k _=>by rw [Nat.sub_zero]⟩
 | succ n ih =>
  intro j hj u' C R hC
  have hlen:=R.len
  have q3:i + j < 9223372036854775808:=by omega
  have q4:j < 9223372036854775807:=by omega
  have g1:(j:Int) < (b.length:Int):=by omega
  have g2:(0:Int)≤(j:Int):=by omega
  have g3:(0:Int)≤((i + j:Nat):Int):=by omega
  have g4:((i + j:Nat):Int) < (u'.length:Int):=by omega
  have g5:(0:Int)≤(i:Int):=by omega
  have g6:(i:Int) < (a.length:Int):=by omega
  have g7:i + j < u.length:=by omega
  have hget:=R.get
  have ho:=R.wd.getD (i + j)
  have hy:=hb.getD j
  have hm:=mul_step _ _ _ _ ho hx hy hC
  have hxy:0≤x * b.getD j 0:=Int.mul_nonneg hx.1 hy.1
  rw [BB] at ho hy hx hC
  have e1:Int.tmod (u'.getD (i + j) 0 + x * b.getD j 0 + C) 1000000000 = (u'.getD (i + j) 0 + x * b.getD j 0 + C) % 1000000000:=Int.tmod_eq_emod_of_nonneg hm.1
  have e2:Int.tdiv (u'.getD (i + j) 0 + x * b.getD j 0 + C) 1000000000 = (u'.getD (i + j) 0 + x * b.getD j 0 + C) / 1000000000:=Int.tdiv_eq_ediv_of_nonneg hm.1
  have hd:0≤(u'.getD (i + j) 0 + x * b.getD j 0 + C) % 1000000000∧(u'.getD (i + j) 0 + x * b.getD j 0 + C) % 1000000000 < 1000000000:=⟨Int.emod_nonneg _ (by decide),Int.emod_lt_of_pos _ (by decide)⟩
  have hc:0≤(u'.getD (i + j) 0 + x * b.getD j 0 + C) / 1000000000∧(u'.getD (i + j) 0 + x * b.getD j 0 + C) / 1000000000 < 1000000000:=by
   generalize u'.getD (i + j) 0 + x * b.getD j 0 + C = s at hm
   omega
  have hde:(u'.getD (i + j) 0 + x * b.getD j 0 + C) % 1000000000 + B * ((u'.getD (i + j) 0 + x * b.getD j 0 + C) / 1000000000) = u.getD (i + j) 0 + C + x * b.getD j 0:=by
   rw [BB,← hget]
   generalize u'.getD (i + j) 0 = o
   generalize x * b.getD j 0 = p
   omega
  have hdB:0≤(u'.getD (i + j) 0 + x * b.getD j 0 + C) % 1000000000∧(u'.getD (i + j) 0 + x * b.getD j 0 + C) % 1000000000 < B:=by rw [BB];exact hd
  have hcB:0≤(u'.getD (i + j) 0 + x * b.getD j 0 + C) / 1000000000∧(u'.getD (i + j) 0 + x * b.getD j 0 + C) / 1000000000 < B:=by rw [BB];exact hc
  have R':=R.step g7 hdB hde
  rw [mul_take x 0 b j i] at R'
  obtain ⟨u'',C',R'',hC',f1,f2⟩:=ih (j + 1) (by omega) _ _ R' hcB
  refine ⟨u'',C',R'',hC',fun k hk=>?_,fun hxa k hk=>?_⟩
  ·obtain ⟨k,rfl⟩:∃ m,k = m + 1:=⟨k - 1,by omega⟩
   conv=>lhs;unfold natural_num_times.l1
   have eu:=(mul_u64 _ _ _ _ ho hx hy hC).1
   rw [if_pos g1,if_pos g2,if_pos g1,wi i j q3,if_pos g3,if_pos g4,rd_eq,rd_eq,eu,e1,e2,Int.toNat_natCast,u64w hc.1 (Int.lt_trans hc.2 (by decide)),Int.emod_eq_of_lt (b:=4294967296) hd.1 (Int.lt_trans hd.2 (by decide)),wi1 j q4,f1 k (by omega),show k + 1 + 1 - (n + 1) = k + 1 - n by omega]
  ·obtain ⟨k,rfl⟩:∃ m,k = m + 1:=⟨k - 1,by omega⟩
   conv=>lhs;unfold garboardref01_Times.l1
   have eu:=(mul_u64 _ _ _ _ ho hx hy hC).2
   rw [if_pos g1,wi i j q3,if_pos g3,if_pos g4,if_pos g5,if_pos g6,if_pos g2,rd_eq,rd_eq,rd_eq,← hxa,eu,e1,e2,Int.toNat_natCast,u64w hc.1 (Int.lt_trans hc.2 (by decide)),Int.emod_eq_of_lt (b:=4294967296) hd.1 (Int.lt_trans hd.2 (by decide)),wi1 j q4,f2 hxa k (by omega),show k + 1 + 1 - (n + 1) = k + 1 - n by omega]
theorem getD_high {l:List Int} (h:Wd l) (n:Nat) (hn:n < l.length) (hv:val l < B ^ n):l.getD n 0 = 0:=by
 have h1:=(val_high h n (by omega) hv).1
 rw [val_drop_succ l n hn] at h1
 have h2:=h.getD n
 have h3:=Int.mul_nonneg (Int.le_of_lt B_pos) (val_drop_nn h (n + 1))
 omega
structure MulI (a b out:List Int) (i:Nat):Prop where
 wd:Wd out
 len:out.length = a.length + b.length
 eq:val out = val (a.take i) * val b
theorem MulI.row {a b out u'':List Int} {i:Nat} {C:Int} (h:MulI a b out i) (ha:Wd a) (hb:Wd b) (hi:i < a.length) (R:Run out u'' (i + b.length) (a.getD i 0 * val b * B ^ i) C) (hC:0≤C∧C < B):MulI a b (u''.set (i + b.length) C) (i + 1):=by
 have hl:=R.len
 have hl2:=h.len
 have hlt:val out < B ^ (i + b.length):=by
  rw [h.eq,Bpow_add]
  have h1:=val_take_le ha i
  have h2:=val_lt hb
  have h3:=val_nonneg hb
  exact Int.mul_lt_mul' (Int.le_of_lt h1) h2 h3 (Bpow_pos i)
 have h0:=getD_high h.wd (i + b.length) (by omega) hlt
 refine ⟨R.wd.set _ hC,by rw [List.length_set,hl,hl2],?_⟩
 rw [val_set _ _ _ (by omega),R.get,h0,val_take_more]
 have h1:=R.value (by omega)
 rw [h.eq] at h1
 generalize val u'' = U at *
 generalize B ^ (i + b.length) = P1 at *
 generalize B ^ i = P2 at *
 generalize val (a.take i) = A at *
 generalize val b = V at *
 generalize a.getD i 0 = x at *
 grind
theorem mul_outer (a b:List Int) (ha:Wd a) (hb:Wd b) (hs:a.length + b.length < 1152921504606846976):∀ (n i:Nat),i + n = a.length→∀ out,MulI a b out i→∃ out',MulI a b out' a.length ∧
  (∃ c,∀ k,c≤k→∃ j,k≤j + c∧natural_num_times.l0 k b out a a.length i = natural_num_times.l0 (j + 1) b out' a a.length a.length) ∧
  (∃ c,∀ k,c≤k→∃ j,k≤j + c∧garboardref01_Times.l0 k a b out i = garboardref01_Times.l0 (j + 1) a b out' a.length):=by
 intro n
 induction n with
 | zero =>
  intro i hi out h
  obtain rfl:i = a.length:=by omega
  exact ⟨out,h,⟨1,fun k hk=>⟨k - 1,by omega,by rw [show k - 1 + 1 = k by omega]⟩⟩,⟨1,fun k hk=>⟨k - 1,by omega,by rw [show k - 1 + 1 = k by omega]⟩⟩⟩
 | succ n ih =>
  intro i hi out h
  have hl:=h.len
  have R0:Run out out (i + 0) (a.getD i 0 * val (b.take 0) * B ^ i) 0:=by
   have:=Run.start h.wd i
   simpa [val] using this
  obtain ⟨u'',C',R,hC,f1,f2⟩:=nat_inner a b out (a.getD i 0) i hb (ha.getD i) hl (by omega) (by omega) b.length 0 (by omega) out 0 R0 ⟨Int.le_refl _,B_pos⟩
  have hM:=h.row ha hb (by omega) R hC
  obtain ⟨out',h',⟨c1,g1⟩,⟨c2,g2⟩⟩:=ih (i + 1) (by omega) _ hM
  have hul:=R.len
  rw [BB] at hC
  have q1:i + b.length < 9223372036854775808:=by omega
  have q2:i < 9223372036854775807:=by omega
  refine ⟨out',h',⟨c1 + b.length + 2,fun k hk=>?_⟩,⟨c2 + b.length + 2,fun k hk=>?_⟩⟩
  ·obtain ⟨k,rfl⟩:∃ m,k = m + 2:=⟨k - 2,by omega⟩
   obtain ⟨j,hj,e⟩:=g1 (k - b.length) (by omega)
   refine ⟨j,by omega,?_⟩
   conv=>lhs;unfold natural_num_times.l0
   rw [if_pos (by omega),if_pos (by omega),if_pos (by omega),rd_eq]
   have:=f1 k (by omega)
   rw [show ((0:Nat):Int) = 0 from rfl] at this
   rw [this,show k + 1 - b.length = k - b.length + 1 by omega]
   conv=>lhs;unfold natural_num_times.l1
   rw [if_neg (by omega),wi i b.length q1,if_pos (by omega),if_pos (by omega),Int.toNat_natCast,Int.emod_eq_of_lt (b:=4294967296) hC.1 (by omega),wi1 i q2,e]
  ·obtain ⟨k,rfl⟩:∃ m,k = m + 2:=⟨k - 2,by omega⟩
   obtain ⟨j,hj,e⟩:=g2 (k - b.length) (by omega)
   refine ⟨j,by omega,?_⟩
   conv=>lhs;unfold garboardref01_Times.l0
   rw [if_pos (by omega)]
   have:=f2 rfl k (by omega)
   rw [show ((0:Nat):Int) = 0 from rfl] at this
   rw [this,show k + 1 - b.length = k - b.length + 1 by omega]
   conv=>lhs;unfold garboardref01_Times.l1
   rw [if_neg (by omega),wi i b.length q1,if_pos (by omega),if_pos (by omega),Int.toNat_natCast,Int.emod_eq_of_lt (b:=4294967296) hC.1 (by omega),wi1 i q2,e]
theorem times_ev (a b:Nat) (ha:Ok (numOf a)) (hb:Ok (numOf b)):Ev (fun k=>natural_num_times.f k (numOf a) (numOf b)) (numOf (a * b))∧Ev (fun k=>garboardref01_Times.f k (numOf a) (numOf b)) (numOf (a * b)):=by
 unfold Ok at ha hb
 have hM:MulI (numOf a) (numOf b) (List.replicate ((numOf a).length + (numOf b).length) 0) 0:=⟨Wd.zeros _,List.length_replicate ..,by rw [val_zeros];simp [val]⟩
 obtain ⟨out,h,⟨c1,g1⟩,⟨c2,g2⟩⟩:=mul_outer (numOf a) (numOf b) (num_numOf a).1 (num_numOf b).1 (by omega) (numOf a).length 0 (by omega) _ hM
 have hl:=h.len
 have ht:trimL out = numOf (a * b):=trim_numOf h.wd (by rw [h.eq,List.take_of_length_le (Nat.le_refl _),val_numOf,val_numOf,Int.natCast_mul])
 obtain ⟨K1,t1⟩:=trim_ev (l:=out) (by omega)
 obtain ⟨K2,t2⟩:=rtrim_ev (l:=out) (by omega)
 rw [ht] at t1 t2
 have e1:=wi (numOf a).length (numOf b).length (by omega)
 have hz:((0:Nat):Int) = 0:=rfl
 rw [hz] at g1 g2
 constructor
 ·refine ⟨K1 + c1 + 2,fun k hk=>?_⟩
  simp only [natural_num_times.f]
  rw [e1,if_pos (by omega),Int.toNat_natCast,if_pos (by omega)]
  obtain ⟨j,hj,e⟩:=g1 k (by omega)
  rw [e]
  simp only [natural_num_times.l0]
  rw [if_neg (by omega)]
  have:=t1 j (by omega)
  simp only at this
  rw [this]
  rfl
 ·by_cases e0:(numOf a).length = 0
  ·have:a = 0:=numOf_nil.1 (List.eq_nil_of_length_eq_zero e0)
   refine ⟨1,fun k hk=>?_⟩
   obtain ⟨k,rfl⟩:∃ m,k = m + 1:=⟨k - 1,by omega⟩
   simp only [garboardref01_Times.f]
   rw [if_pos (by omega)]
   simp only [garboardref01_Times.j0]
   rw [if_pos trivial,this,Nat.zero_mul,numOf_zero]
  ·by_cases e1':(numOf b).length = 0
   ·have:b = 0:=numOf_nil.1 (List.eq_nil_of_length_eq_zero e1')
    refine ⟨1,fun k hk=>?_⟩
    obtain ⟨k,rfl⟩:∃ m,k = m + 1:=⟨k - 1,by omega⟩
    simp only [garboardref01_Times.f]
    rw [if_neg (by omega)]
    simp only [garboardref01_Times.j0]
    rw [if_pos (by rw [e1'];rfl),this,Nat.mul_zero,numOf_zero]
   ·refine ⟨K2 + c2 + 3,fun k hk=>?_⟩
    obtain ⟨k,rfl⟩:∃ m,k = m + 1:=⟨k - 1,by omega⟩
    simp only [garboardref01_Times.f]
    rw [if_neg (by omega)]
    simp only [garboardref01_Times.j0]
    rw [if_neg (by intro h;rw [beq_iff_eq] at h;omega),e1,if_pos (by omega),Int.toNat_natCast,if_pos (by omega)]
    obtain ⟨j,hj,e⟩:=g2 k (by omega)
    rw [e]
    simp only [garboardref01_Times.l0]
    rw [if_neg (by omega)]
    have:=t2 j (by omega)
    simp only at this
    rw [this]
    rfl
end Go.Proofs.YtaknchlegjcdhaaGreatDoor.Pr
namespace Go.Proofs.YtaknchlegjcdhaaGreatDoor.Pm
open Go.RowKit Go.Proofs.YtaknchlegjcdhaaGreatDoorW.PrintWords Go.Proofs.YtaknchlegjcdhaaGreatDoorW.PrintLast Go.Proofs.YtaknchlegjcdhaaGreatDoorW.PrintMore
attribute [local go_sem] max2_int min2_int max_two min_two max_three min_three max_four min_four
set_option linter.unusedVariables false
set_option linter.unusedSimpArgs false
def errW:Option Int→Value
 | none=>.nilIface
 | some c=>.iface 0 (.int .i64 c)
theorem errW_none:errW none = .nilIface:=rfl
theorem errW_some (c:Int):errW (some c) = .iface 0 (.int .i64 c):=rfl
theorem info95:(Tryz.prog.info? 95).map (fun i=>(i.zero,i.size,i.bytes)) = some (some (.int .u32 0),1,4):=by kernel_rfl
end Go.Proofs.YtaknchlegjcdhaaGreatDoor.Pm
namespace Go.Proofs.YtaknchlegjcdhaaGreatDoor.Pm
open Go.RowKit Go.Proofs.YtaknchlegjcdhaaGreatDoorW.PrintWords Go.Proofs.YtaknchlegjcdhaaGreatDoorW.PrintLast Go.Proofs.YtaknchlegjcdhaaGreatDoorW.PrintMore
attribute [local go_sem] max2_int min2_int max_two min_two max_three min_three max_four min_four
set_option maxHeartbeats 8000000
set_option maxRecDepth 100000
set_option linter.unusedVariables false
set_option linter.unusedSimpArgs false
mutual
def natural_num.l0:Nat→List Int→List Int→Int→List Int→Int→Int→Int→Option (List Int)
 | 0,_,_,_,_,_,_,_=>none
 | k + 1,x0,x1,x2,x7,x8,x19,x20=>if x20 < x19 then (if x20 < (x0.length:Int) then (if 0≤x20 then (natural_num.j1 k x0 x1 x2 x7 (wrap64 (x8 + (wrap64 (rd x0 x20)))) x20 x19 x20) else (none)) else (natural_num.j1 k x0 x1 x2 x7 x8 x20 x19 x20)) else (if x8 > 0 then (if x7.length < 35184372088832 then (some (x7 ++ [(x8) % 4294967296])) else (none)) else (some x7))
def natural_num.j1:Nat→List Int→List Int→Int→List Int→Int→Int→Int→Int→Option (List Int)
 | 0,_,_,_,_,_,_,_,_=>none
 | k + 1,x0,x1,x2,x7,x8,x9,x19,x20=>if x9 < (x1.length:Int) then (if 0≤x9 then (if (Int.tmod (wrap64 (x8 + (wrap64 (x2 * (wrap64 (rd x1 x9)))))) 1000000000) < 0 then (if x7.length < 35184372088832 then (natural_num.l0 k x0 x1 x2 (x7 ++ [(wrap64 ((Int.tmod (wrap64 (x8 + (wrap64 (x2 * (wrap64 (rd x1 x9)))))) 1000000000) + 1000000000)) % 4294967296]) (wrap64 ((wrap64 (Int.tdiv (wrap64 (x8 + (wrap64 (x2 * (wrap64 (rd x1 x9)))))) 1000000000)) - 1)) x19 (wrap64 (x20 + 1))) else (none)) else (if x7.length < 35184372088832 then (natural_num.l0 k x0 x1 x2 (x7 ++ [(Int.tmod (wrap64 (x8 + (wrap64 (x2 * (wrap64 (rd x1 x9)))))) 1000000000) % 4294967296]) (wrap64 (Int.tdiv (wrap64 (x8 + (wrap64 (x2 * (wrap64 (rd x1 x9)))))) 1000000000)) x19 (wrap64 (x20 + 1))) else (none))) else (none)) else (if (Int.tmod x8 1000000000) < 0 then (if x7.length < 35184372088832 then (natural_num.l0 k x0 x1 x2 (x7 ++ [(wrap64 ((Int.tmod x8 1000000000) + 1000000000)) % 4294967296]) (wrap64 ((wrap64 (Int.tdiv x8 1000000000)) - 1)) x19 (wrap64 (x20 + 1))) else (none)) else (if x7.length < 35184372088832 then (natural_num.l0 k x0 x1 x2 (x7 ++ [(Int.tmod x8 1000000000) % 4294967296]) (wrap64 (Int.tdiv x8 1000000000)) x19 (wrap64 (x20 + 1))) else (none)))
end
def natural_num.f (k:Nat) (l0:List Int) (l1:List Int) (a2:Int):Option (List Int):=if 0≤70368744177664 then (natural_num.l0 k l0 l1 a2 (List.replicate 0 0) 0 (mx (l0.length:Int) (l1.length:Int)) 0) else (none)
theorem R_makeCap {P:Program} {ops:Array Oper} {o:Oper} {rest:List Oper} {a:Act} {Q:Exit→Act→World→Prop} {w0 W:World} (base e:Nat) (hgd:o.guard = none) {N:Tmp} (hd:o.dst = some N) (t:TypeId) (x y:Operand) (ho:o.op = .makeSlice t x y) (n:Int) (hx:a.eval x = .int .i64 0) (hy:a.eval y = .int .i64 n)
  (ht:P.underlying t = some (.slice e)) (z:Value) (bytes:Nat) (hinfo:(P.info? e).map (fun i=>(i.zero,i.size,i.bytes)) = some (some z,1,bytes)) (hz:z.cells.size = 1)
  {ok:Nat→Prop} (hfresh:ok W.heap.size) (h0:0≤n) (hl:(bytes:Int) * n≤281474976710656∧n≤140737488355328) (HB:Below base w0 W) (hbase:base≤W.heap.size)
  (h:∀ v1 w1,(Kd.int .u32).R e w1 base ok v1 []→Below base w0 w1→W.grownBy w1 none→True→wpList P ops Q rest (a.put o.dst v1) w1):wpList P ops Q (o :: rest) a W:=by
 obtain ⟨i0,hi,hzz⟩:=Option.map_eq_some_iff.1 hinfo
 simp only [Prod.mk.injEq] at hzz
 obtain ⟨hz0,hz1,hz2⟩:=hzz
 have hr:=run_make (P:=P) W t e i0 z ht hi hz0 .i64 .i64 0 n (by omega) h0 (by rw [hz2];exact hl.1) (by omega)
 rw [hz1,Nat.mul_one] at hr
 refine Kd.event_run hgd (v:=.slice (some ⟨W.heap.size,0,none⟩) 0 n.toNat) (w1:=W.alloc (.cells (madeCells z.cells n.toNat) e)) ?_ (h _ _ ⟨fun k hk=>?_,[],⟨by simp,.inr ⟨W.heap.size,n.toNat,madeCells z.cells n.toNat,rfl,hbase,heap_alloc_new W (.cells (madeCells z.cells n.toNat) e),Nat.zero_le _,?_,?_,by simp⟩⟩,Reps.none _ _⟩ (HB.alloc hbase _) (World.grownBy_alloc W _ none) trivial)
 ·simp [execOp,ho,hx,hy,hr]
 ·have:W.heap.size = k:=by simpa [Value.ownBlock] using hk
  subst this
  exact hfresh
 ·simp only [maxLen];omega
 ·rw [size_madeCells];show _ = _ * 1;omega
theorem natural_num.calls (k:Nat) (A0:Option Addr) (c0:Nat) (l0:List Int) (A1:Option Addr) (c1:Nat) (l1:List Int) (a2:Int) (r:List Int) (w:World) (hr0:Kd.C (Kd.int .u32) w A0 l0.length l0) (hc0:l0.length≤c0) (hr1:Kd.C (Kd.int .u32) w A1 l1.length l1) (hc1:l1.length≤c1) (h:natural_num.f k l0 l1 a2 = some r) (hcap:l0.length≤1099511627776) :
  Calls Tryz.prog 129 #[.slice A0 l0.length c0,.slice A1 l1.length c1,.int .i64 a2] w fun e w'=>∃ v0_:Value,e = .returned (v0_)∧Kd.R (Kd.int .u32) 95 w' w.heap.size (fun _=>True) v0_ r∧Below w.heap.size w w':=by
 have hcap0:=Aside0.mk (show 0≤(l0.length:Int) + 1 by omega)
 have hcap1:=Aside0.mk (show ((4:Nat):Int) * ((l0.length:Int) + 1)≤281474976710656∧(l0.length:Int) + 1≤140737488355328 by omega)
 have HR0:=Aside0.mk hr0
 have HC0:=Aside0.mk hc0
 clear hr0 hc0
 have HR1:=Aside0.mk hr1
 have HC1:=Aside0.mk hc1
 clear hr1 hc1
 have HB:=Aside0.mk (Below.refl w.heap.size w)
 have H:(if 0≤70368744177664 then (natural_num.l0 k l0 l1 a2 (List.replicate 0 0) 0 (mx (l0.length:Int) (l1.length:Int)) 0) else (none)) = some r:=h
 clear h
 by_cases c4:0≤70368744177664
 ·rw [if_pos c4] at H
  have c4b0:=eq_true c4
  have c4b1:decide (0≤70368744177664) = true:=decide_eq_true c4
  clear c4
  obtain ⟨y101,hy101⟩:∃ y_:List Int,y_ = (List.replicate 0 0):=⟨_,rfl⟩
  replace H:(natural_num.l0 k l0 l1 a2 y101 0 (mx (l0.length:Int) (l1.length:Int)) 0) = some r:=by first|(rw [hy101];with_reducible exact H)|(have H2_:=(Option.bind_some _ _).symm.trans H;rw [hy101];with_reducible exact H2_)|(have H2_:=(Option.bind_some _ _).symm.trans H;with_reducible exact H2_)|with_reducible exact H|(rw [hy101];exact H)|exact H
  have Ny101:=Aside0.mk hy101
  clear hy101
  obtain ⟨ji5,hji5⟩:∃ j_:Int,(mx (l0.length:Int) (l1.length:Int)) = j_:=⟨_,rfl⟩
  replace H:(natural_num.l0 k l0 l1 a2 y101 0 ji5 0) = some r:=by first|(rw [hji5] at H;exact H)|(simp only [hji5] at H ⊢;exact H)
  (try (have hji5l:0≤ji5:=by (rw [← hji5];unfold mx;(repeat' split)<;>omega)))
  (try (have hji5m:0≤ji5:=by omega))
  have hji5_:(if (l0.length:Int) < (l1.length:Int) then (l1.length:Int) else (l0.length:Int)) = ji5:=hji5
  have hji5n:(if l0.length < l1.length then (l1.length:Int) else (l0.length:Int)) = ji5:=by rw [← hji5_];by_cases hq:l0.length < l1.length<;>simp [hq]
  have hji5v:(if l0.length < l1.length then Value.int .i64 (l1.length:Int) else Value.int .i64 (l0.length:Int)) = Value.int .i64 ji5:=by rw [← hji5_];by_cases hq:l0.length < l1.length<;>simp [hq]
  have H':=Aside0.mk H
  clear H
  go_enter Tryz.func129,Tryz.ntmps129
  go_wp2_with (first|((with_reducible refine gate_dst (N:=14) rfl ?_);refine R_makeCap _ 95 rfl (N:=14) rfl 74 _ _ rfl ((l0.length:Int) + 1) rfl rfl Tryz.underlying74 (.int .u32 0) 4 info95 rfl (ok:=fun _=>True) trivial hcap0.out hcap1.out (Below.refl _ _) (Nat.le_refl _) ?_;intro v102 w6 ho7 hb hg_ hnew_;clear hg_ hnew_;(have e_:y101 = []:=Ny101.out;rw [← e_] at ho7);have HO103:=Aside0.mk (Kd.R_lower ho7 (below_size bx_));replace HB:=bs_ hb;clear hb ho7))
  go_loopg [7,8,20] k (fun kq v7 v8 v20 w'=>∃ (x7_1:List Int) (x8_1:Int) (x20_1:Int),v8 = .int .i64 x8_1∧v20 = .int .i64 x20_1∧Aside0 (natural_num.l0 kq l0 l1 a2 x7_1 x8_1 ji5 x20_1 = some r)∧Aside0 (kq≤k)∧Aside0 (Kd.R (Kd.int .u32) 95 w' w.heap.size (fun _=>True) v7 x7_1)∧Aside0 (Below w.heap.size w w'))
  case atStart=>exact ⟨(y101),(0),(0),(by first|rfl|(simp;done)|(simp [*];done)),(by first|rfl|(simp;done)|(simp [*];done)),H',⟨Nat.le_refl _⟩,⟨by (with_reducible repeat (first|apply Kd.R_alloc|apply Kd.R_drewN|apply Kd.R_drew));exact HO103.out⟩,⟨bx_⟩⟩
  case round =>
   clear H'
   try clear c1
   try clear p2
   try clear c4
   try clear c4b0
   try clear c4b1
   try clear c5
   obtain ⟨x7_1,x8_1,x20_1,rfl,rfl,HA,HK1,HO_7,HB⟩:=hrel
   cases gk with
   | zero=>exact absurd HA.out (by simp [natural_num.l0])
   | succ k1 =>
    have H:=HA.out
    clear HA
    simp only [natural_num.l0] at H
    by_cases c8:x20_1 < ji5
    ·rw [if_pos c8] at H
     have c8b0:decide (x20_1 < ji5) = true:=decide_eq_true c8
     clear c8
     have HC9:=Aside0.mk H
     clear H
     go_upto_if 26 with (fail)
     go_cut [8] (fun v8 wc=>∃ (kq:Nat) (x8_8:Int),v8 = .int .i64 x8_8∧Aside0 (natural_num.j1 kq l0 l1 a2 x7_1 x8_8 x20_1 ji5 x20_1 = some r)∧Aside0 (kq≤k1)∧Aside0 (Kd.R (Kd.int .u32) 95 wc w.heap.size (fun _=>True) u7 x7_1)∧Aside0 (Below w.heap.size w wc))
     case first =>
      have H:=HC9.out
      clear HC9
      by_cases c10:x20_1 < (l0.length:Int)
      ·rw [if_pos c10] at H
       have c10b0:decide (x20_1 < (l0.length:Int)) = true:=decide_eq_true c10
       clear c10
       (first|rw [c10b0]|(simp only [i64_w,i32_w];rw [c10b0])|skip)
       by_cases c11:0≤x20_1
       ·rw [if_pos c11] at H
        have c11b0:decide (0≤x20_1) = true:=decide_eq_true c11
        clear c11
        have H':=Aside0.mk H
        clear H
        have p107:0≤(x20_1:Int):=da_
        have q107:x20_1 < (l0.length:Int):=da_
        obtain ⟨ad107,e107,hx107_0⟩:=Kd.at_int HR0.out x20_1 p107 q107
        cases e107
        replace hx107_0:=(HB.out.cell (World.block_lt_of_cell? w _ hx107_0)).trans hx107_0
        replace p107:=eq_true p107
        replace q107:=eq_true q107
        go_wp2
        go_meet
        case rel=>exact ⟨_,(wrap64 (x8_1 + (wrap64 (rd l0 x20_1)))),(by first|rfl|(simp;done)|(simp [*];done)),H',⟨by have:=HK1.out;first|omega|exact Nat.le_refl _⟩,⟨by (with_reducible repeat (first|apply Kd.R_alloc|apply Kd.R_drewN|apply Kd.R_drew));exact HO_7.out⟩,⟨bx_⟩⟩
       ·rw [if_neg c11] at H
        exact absurd H sm_
      ·rw [if_neg c10] at H
       have c10b0:decide (x20_1 < (l0.length:Int)) = false:=decide_eq_false c10
       clear c10
       (first|rw [c10b0]|(simp only [i64_w,i32_w];rw [c10b0])|skip)
       have H':=Aside0.mk H
       clear H
       go_wp2
       go_meet
       case rel=>exact ⟨_,(x8_1),(by first|rfl|(simp;done)|(simp [*];done)),H',⟨by have:=HK1.out;first|omega|exact Nat.le_refl _⟩,⟨by (with_reducible repeat (first|apply Kd.R_alloc|apply Kd.R_drewN|apply Kd.R_drew));exact HO_7.out⟩,⟨bx_⟩⟩
     case rest =>
      clear HC9
      try clear c1
      try clear p1
      try clear q1
      try clear hx1
      try clear p2
      try clear c4
      try clear c4b0
      try clear c4b1
      try clear c5
      try clear p6
      try clear c8
      try clear c8b0
      try clear c10
      try clear c10b0
      try clear p10
      try clear q10
      try clear hx10
      try clear c11
      try clear c11b0
      try clear hx107_0
      try clear p107
      try clear p2
      try clear q107
      obtain ⟨kq,x8_8,rfl,HA,HJ8,HO_7,HB⟩:=hcut
      cases kq with
      | zero=>exact absurd HA.out (by simp [natural_num.j1])
      | succ kj8 =>
       have H:=HA.out
       clear HA
       simp only [natural_num.j1] at H
       by_cases c12:x20_1 < (l1.length:Int)
       ·rw [if_pos c12] at H
        have c12b0:decide (x20_1 < (l1.length:Int)) = true:=decide_eq_true c12
        clear c12
        by_cases c13:0≤x20_1
        ·rw [if_pos c13] at H
         have c13b0:decide (0≤x20_1) = true:=decide_eq_true c13
         clear c13
         by_cases c14:(Int.tmod (wrap64 (x8_8 + (wrap64 (a2 * (wrap64 (rd l1 x20_1)))))) 1000000000) < 0
         ·rw [if_pos c14] at H
          have c14b0:decide ((Int.tmod (wrap64 (x8_8 + (wrap64 (a2 * (wrap64 (rd l1 x20_1)))))) 1000000000) < 0) = true:=decide_eq_true c14
          clear c14
          by_cases c15:x7_1.length < 35184372088832
          ·rw [if_pos c15] at H
           have LMc15:=Aside0.mk c15
           clear c15
           obtain ⟨y109,hy109⟩:∃ y_:List Int,y_ = (x7_1 ++ [(wrap64 ((Int.tmod (wrap64 (x8_8 + (wrap64 (a2 * (wrap64 (rd l1 x20_1)))))) 1000000000) + 1000000000)) % 4294967296]):=⟨_,rfl⟩
           replace H:(natural_num.l0 kj8 l0 l1 a2 y109 (wrap64 ((wrap64 (Int.tdiv (wrap64 (x8_8 + (wrap64 (a2 * (wrap64 (rd l1 x20_1)))))) 1000000000)) - 1)) ji5 (wrap64 (x20_1 + 1))) = some r:=by first|(rw [hy109];with_reducible exact H)|(have H2_:=(Option.bind_some _ _).symm.trans H;rw [hy109];with_reducible exact H2_)|(have H2_:=(Option.bind_some _ _).symm.trans H;with_reducible exact H2_)|with_reducible exact H|(rw [hy109];exact H)|exact H
           have Ny109:=Aside0.mk hy109
           clear hy109
           have H':=Aside0.mk H
           clear H
           have p108:0≤(x20_1:Int):=da_
           have q108:x20_1 < (l1.length:Int):=da_
           obtain ⟨ad108,e108,hx108_0⟩:=Kd.at_int HR1.out x20_1 p108 q108
           cases e108
           replace hx108_0:=(HB.out.cell (World.block_lt_of_cell? w _ hx108_0)).trans hx108_0
           replace p108:=eq_true p108
           replace q108:=eq_true q108
           go_wp2_with (first|((with_reducible refine gate_builtin (b:=.append) (xs:=#[.tmp 57,.tmp 60]) rfl ?_);at_builtin;refine Kd.R_append (Kd.int .u32) (w0:=w) w.heap.size rfl (.tmp 57) (.tmp 60) 74 95 (.int .u32 0) 4 rfl Tryz.underlying74 info95 rfl de_ (by omega) u7 x7_1 ((wrap64 ((Int.tmod (wrap64 (x8_8 + (wrap64 (a2 * (wrap64 (rd l1 x20_1)))))) 1000000000) + 1000000000)) % 4294967296) [.int .u32 ((wrap64 ((Int.tmod (wrap64 (x8_8 + (wrap64 (a2 * (wrap64 (rd l1 x20_1)))))) 1000000000) + 1000000000)) % 4294967296)] (fun _=>True) (fun _=>False) rfl rfl ?aP (fun _ hk=>hk.elim) ?aF ?aO ?aB ?aS ?aL ?_;(case aP=>exact rfl);(case aB=>exact bx_);(case aF=>exact (fun _ _=>trivial));(case aO=>exact (by (with_reducible repeat (first|apply Kd.R_alloc|apply Kd.R_drewN|apply Kd.R_drew));exact HO_7.out));(case aS=>exact (below_size bx_));(case aL=>have:=LMc15.out;omega);intro v110 w16 ho hb hg hat;rw [← Ny109.out] at ho;have HO111:=Aside0.mk ho;replace HB:=Aside0.mk hb;clear HO_7;clear ho hb hg hat))
           go_roundg kj8
           case measure=>have:=HK1.out;have:=HJ8.out;omega
           case rel=>exact ⟨(y109),(wrap64 ((wrap64 (Int.tdiv (wrap64 (x8_8 + (wrap64 (a2 * (wrap64 (rd l1 x20_1)))))) 1000000000)) - 1)),(wrap64 (x20_1 + 1)),(by first|rfl|(simp;done)|(simp [*];done)),(by first|rfl|(simp;done)|(simp [*];done)),H',⟨by have:=HK1.out;have:=HJ8.out;omega⟩,⟨by (with_reducible repeat (first|apply Kd.R_alloc|apply Kd.R_drewN|apply Kd.R_drew));exact HO111.out⟩,⟨bx_⟩⟩
          ·rw [if_neg c15] at H
           exact absurd H sm_
         ·rw [if_neg c14] at H
          have c14b0:decide ((Int.tmod (wrap64 (x8_8 + (wrap64 (a2 * (wrap64 (rd l1 x20_1)))))) 1000000000) < 0) = false:=decide_eq_false c14
          clear c14
          by_cases c17:x7_1.length < 35184372088832
          ·rw [if_pos c17] at H
           have LMc17:=Aside0.mk c17
           clear c17
           obtain ⟨y112,hy112⟩:∃ y_:List Int,y_ = (x7_1 ++ [(Int.tmod (wrap64 (x8_8 + (wrap64 (a2 * (wrap64 (rd l1 x20_1)))))) 1000000000) % 4294967296]):=⟨_,rfl⟩
           replace H:(natural_num.l0 kj8 l0 l1 a2 y112 (wrap64 (Int.tdiv (wrap64 (x8_8 + (wrap64 (a2 * (wrap64 (rd l1 x20_1)))))) 1000000000)) ji5 (wrap64 (x20_1 + 1))) = some r:=by first|(rw [hy112];with_reducible exact H)|(have H2_:=(Option.bind_some _ _).symm.trans H;rw [hy112];with_reducible exact H2_)|(have H2_:=(Option.bind_some _ _).symm.trans H;with_reducible exact H2_)|with_reducible exact H|(rw [hy112];exact H)|exact H
           have Ny112:=Aside0.mk hy112
           clear hy112
           have H':=Aside0.mk H
           clear H
           have p108:0≤(x20_1:Int):=da_
           have q108:x20_1 < (l1.length:Int):=da_
           obtain ⟨ad108,e108,hx108_0⟩:=Kd.at_int HR1.out x20_1 p108 q108
           cases e108
           replace hx108_0:=(HB.out.cell (World.block_lt_of_cell? w _ hx108_0)).trans hx108_0
           replace p108:=eq_true p108
           replace q108:=eq_true q108
           go_wp2_with (first|((with_reducible refine gate_builtin (b:=.append) (xs:=#[.tmp 57,.tmp 60]) rfl ?_);at_builtin;refine Kd.R_append (Kd.int .u32) (w0:=w) w.heap.size rfl (.tmp 57) (.tmp 60) 74 95 (.int .u32 0) 4 rfl Tryz.underlying74 info95 rfl de_ (by omega) u7 x7_1 ((Int.tmod (wrap64 (x8_8 + (wrap64 (a2 * (wrap64 (rd l1 x20_1)))))) 1000000000) % 4294967296) [.int .u32 ((Int.tmod (wrap64 (x8_8 + (wrap64 (a2 * (wrap64 (rd l1 x20_1)))))) 1000000000) % 4294967296)] (fun _=>True) (fun _=>False) rfl rfl ?aP (fun _ hk=>hk.elim) ?aF ?aO ?aB ?aS ?aL ?_;(case aP=>exact rfl);(case aB=>exact bx_);(case aF=>exact (fun _ _=>trivial));(case aO=>exact (by (with_reducible repeat (first|apply Kd.R_alloc|apply Kd.R_drewN|apply Kd.R_drew));exact HO_7.out));(case aS=>exact (below_size bx_));(case aL=>have:=LMc17.out;omega);intro v113 w18 ho hb hg hat;rw [← Ny112.out] at ho;have HO114:=Aside0.mk ho;replace HB:=Aside0.mk hb;clear HO_7;clear ho hb hg hat))
           go_roundg kj8
           case measure=>have:=HK1.out;have:=HJ8.out;omega
           case rel=>exact ⟨(y112),(wrap64 (Int.tdiv (wrap64 (x8_8 + (wrap64 (a2 * (wrap64 (rd l1 x20_1)))))) 1000000000)),(wrap64 (x20_1 + 1)),(by first|rfl|(simp;done)|(simp [*];done)),(by first|rfl|(simp;done)|(simp [*];done)),H',⟨by have:=HK1.out;have:=HJ8.out;omega⟩,⟨by (with_reducible repeat (first|apply Kd.R_alloc|apply Kd.R_drewN|apply Kd.R_drew));exact HO114.out⟩,⟨bx_⟩⟩
          ·rw [if_neg c17] at H
           exact absurd H sm_
        ·rw [if_neg c13] at H
         exact absurd H sm_
       ·rw [if_neg c12] at H
        have c12b0:decide (x20_1 < (l1.length:Int)) = false:=decide_eq_false c12
        clear c12
        by_cases c19:(Int.tmod x8_8 1000000000) < 0
        ·rw [if_pos c19] at H
         have c19b0:decide ((Int.tmod x8_8 1000000000) < 0) = true:=decide_eq_true c19
         clear c19
         by_cases c20:x7_1.length < 35184372088832
         ·rw [if_pos c20] at H
          have LMc20:=Aside0.mk c20
          clear c20
          obtain ⟨y115,hy115⟩:∃ y_:List Int,y_ = (x7_1 ++ [(wrap64 ((Int.tmod x8_8 1000000000) + 1000000000)) % 4294967296]):=⟨_,rfl⟩
          replace H:(natural_num.l0 kj8 l0 l1 a2 y115 (wrap64 ((wrap64 (Int.tdiv x8_8 1000000000)) - 1)) ji5 (wrap64 (x20_1 + 1))) = some r:=by first|(rw [hy115];with_reducible exact H)|(have H2_:=(Option.bind_some _ _).symm.trans H;rw [hy115];with_reducible exact H2_)|(have H2_:=(Option.bind_some _ _).symm.trans H;with_reducible exact H2_)|with_reducible exact H|(rw [hy115];exact H)|exact H
          have Ny115:=Aside0.mk hy115
          clear hy115
          have H':=Aside0.mk H
          clear H
          go_wp2_with (first|((with_reducible refine gate_builtin (b:=.append) (xs:=#[.tmp 57,.tmp 60]) rfl ?_);at_builtin;refine Kd.R_append (Kd.int .u32) (w0:=w) w.heap.size rfl (.tmp 57) (.tmp 60) 74 95 (.int .u32 0) 4 rfl Tryz.underlying74 info95 rfl de_ (by omega) u7 x7_1 ((wrap64 ((Int.tmod x8_8 1000000000) + 1000000000)) % 4294967296) [.int .u32 ((wrap64 ((Int.tmod x8_8 1000000000) + 1000000000)) % 4294967296)] (fun _=>True) (fun _=>False) rfl rfl ?aP (fun _ hk=>hk.elim) ?aF ?aO ?aB ?aS ?aL ?_;(case aP=>exact rfl);(case aB=>exact bx_);(case aF=>exact (fun _ _=>trivial));(case aO=>exact (by (with_reducible repeat (first|apply Kd.R_alloc|apply Kd.R_drewN|apply Kd.R_drew));exact HO_7.out));(case aS=>exact (below_size bx_));(case aL=>have:=LMc20.out;omega);intro v116 w21 ho hb hg hat;rw [← Ny115.out] at ho;have HO117:=Aside0.mk ho;replace HB:=Aside0.mk hb;clear HO_7;clear ho hb hg hat))
          go_roundg kj8
          case measure=>have:=HK1.out;have:=HJ8.out;omega
          case rel=>exact ⟨(y115),(wrap64 ((wrap64 (Int.tdiv x8_8 1000000000)) - 1)),(wrap64 (x20_1 + 1)),(by first|rfl|(simp;done)|(simp [*];done)),(by first|rfl|(simp;done)|(simp [*];done)),H',⟨by have:=HK1.out;have:=HJ8.out;omega⟩,⟨by (with_reducible repeat (first|apply Kd.R_alloc|apply Kd.R_drewN|apply Kd.R_drew));exact HO117.out⟩,⟨bx_⟩⟩
         ·rw [if_neg c20] at H
          exact absurd H sm_
        ·rw [if_neg c19] at H
         have c19b0:decide ((Int.tmod x8_8 1000000000) < 0) = false:=decide_eq_false c19
         clear c19
         by_cases c22:x7_1.length < 35184372088832
         ·rw [if_pos c22] at H
          have LMc22:=Aside0.mk c22
          clear c22
          obtain ⟨y118,hy118⟩:∃ y_:List Int,y_ = (x7_1 ++ [(Int.tmod x8_8 1000000000) % 4294967296]):=⟨_,rfl⟩
          replace H:(natural_num.l0 kj8 l0 l1 a2 y118 (wrap64 (Int.tdiv x8_8 1000000000)) ji5 (wrap64 (x20_1 + 1))) = some r:=by first|(rw [hy118];with_reducible exact H)|(have H2_:=(Option.bind_some _ _).symm.trans H;rw [hy118];with_reducible exact H2_)|(have H2_:=(Option.bind_some _ _).symm.trans H;with_reducible exact H2_)|with_reducible exact H|(rw [hy118];exact H)|exact H
          have Ny118:=Aside0.mk hy118
          clear hy118
          have H':=Aside0.mk H
          clear H
          go_wp2_with (first|((with_reducible refine gate_builtin (b:=.append) (xs:=#[.tmp 57,.tmp 60]) rfl ?_);at_builtin;refine Kd.R_append (Kd.int .u32) (w0:=w) w.heap.size rfl (.tmp 57) (.tmp 60) 74 95 (.int .u32 0) 4 rfl Tryz.underlying74 info95 rfl de_ (by omega) u7 x7_1 ((Int.tmod x8_8 1000000000) % 4294967296) [.int .u32 ((Int.tmod x8_8 1000000000) % 4294967296)] (fun _=>True) (fun _=>False) rfl rfl ?aP (fun _ hk=>hk.elim) ?aF ?aO ?aB ?aS ?aL ?_;(case aP=>exact rfl);(case aB=>exact bx_);(case aF=>exact (fun _ _=>trivial));(case aO=>exact (by (with_reducible repeat (first|apply Kd.R_alloc|apply Kd.R_drewN|apply Kd.R_drew));exact HO_7.out));(case aS=>exact (below_size bx_));(case aL=>have:=LMc22.out;omega);intro v119 w23 ho hb hg hat;rw [← Ny118.out] at ho;have HO120:=Aside0.mk ho;replace HB:=Aside0.mk hb;clear HO_7;clear ho hb hg hat))
          go_roundg kj8
          case measure=>have:=HK1.out;have:=HJ8.out;omega
          case rel=>exact ⟨(y118),(wrap64 (Int.tdiv x8_8 1000000000)),(wrap64 (x20_1 + 1)),(by first|rfl|(simp;done)|(simp [*];done)),(by first|rfl|(simp;done)|(simp [*];done)),H',⟨by have:=HK1.out;have:=HJ8.out;omega⟩,⟨by (with_reducible repeat (first|apply Kd.R_alloc|apply Kd.R_drewN|apply Kd.R_drew));exact HO120.out⟩,⟨bx_⟩⟩
         ·rw [if_neg c22] at H
          exact absurd H sm_
    ·rw [if_neg c8] at H
     have c8b0:decide (x20_1 < ji5) = false:=decide_eq_false c8
     clear c8
     by_cases c24:x8_1 > 0
     ·rw [if_pos c24] at H
      have c24b0:decide (0 < x8_1) = true:=decide_eq_true c24
      clear c24
      by_cases c25:x7_1.length < 35184372088832
      ·rw [if_pos c25] at H
       have LMc25:=Aside0.mk c25
       clear c25
       obtain ⟨y104,hy104⟩:∃ y_:List Int,y_ = (x7_1 ++ [(x8_1) % 4294967296]):=⟨_,rfl⟩
       replace H:(some y104) = some r:=by first|(rw [hy104];with_reducible exact H)|(have H2_:=(Option.bind_some _ _).symm.trans H;rw [hy104];with_reducible exact H2_)|(have H2_:=(Option.bind_some _ _).symm.trans H;with_reducible exact H2_)|with_reducible exact H|(rw [hy104];exact H)|exact H
       have Ny104:=Aside0.mk hy104
       clear hy104
       obtain rfl:=Option.some.inj H
       go_wp2_with (first|((with_reducible refine gate_builtin (b:=.append) (xs:=#[.tmp 65,.tmp 68]) rfl ?_);at_builtin;refine Kd.R_append (Kd.int .u32) (w0:=w) w.heap.size rfl (.tmp 65) (.tmp 68) 74 95 (.int .u32 0) 4 rfl Tryz.underlying74 info95 rfl de_ (by omega) u7 x7_1 ((x8_1) % 4294967296) [.int .u32 ((x8_1) % 4294967296)] (fun _=>True) (fun _=>False) rfl rfl ?aP (fun _ hk=>hk.elim) ?aF ?aO ?aB ?aS ?aL ?_;(case aP=>exact rfl);(case aB=>exact bx_);(case aF=>exact (fun _ _=>trivial));(case aO=>exact (by (with_reducible repeat (first|apply Kd.R_alloc|apply Kd.R_drewN|apply Kd.R_drew));exact HO_7.out));(case aS=>exact (below_size bx_));(case aL=>have:=LMc25.out;omega);intro v105 w26 ho hb hg hat;rw [← Ny104.out] at ho;have HO106:=Aside0.mk ho;replace HB:=Aside0.mk hb;clear HO_7;clear ho hb hg hat))
       go_ret
       exact ⟨_,by first|rfl|(simp [errW_none,errW_some]<;>rfl)|(simp only [← hji5];first|rfl|(simp [errW_none,errW_some]<;>rfl))|(simp [*,errW_none,errW_some]<;>rfl),by (with_reducible repeat (first|apply Kd.R_alloc|apply Kd.R_drewN|apply Kd.R_drew));exact HO106.out,bx_⟩
      ·rw [if_neg c25] at H
       exact absurd H sm_
     ·rw [if_neg c24] at H
      have c24b0:decide (0 < x8_1) = false:=decide_eq_false c24
      clear c24
      obtain rfl:=Option.some.inj H
      go_wp2
      go_ret
      exact ⟨_,by first|rfl|(simp [errW_none,errW_some]<;>rfl)|(simp only [← hji5];first|rfl|(simp [errW_none,errW_some]<;>rfl))|(simp [*,errW_none,errW_some]<;>rfl),by (with_reducible repeat (first|apply Kd.R_alloc|apply Kd.R_drewN|apply Kd.R_drew));exact HO_7.out,bx_⟩
 ·rw [if_neg c4] at H
  exact absurd H sm_
end Go.Proofs.YtaknchlegjcdhaaGreatDoor.Pm
namespace Go.Proofs.YtaknchlegjcdhaaGreatDoor.Pr
open Go.RowKit Go.Proofs.YtaknchlegjcdhaaGreatDoorW.PrintWords Go.Proofs.YtaknchlegjcdhaaGreatDoorW.PrintLast Go.Proofs.YtaknchlegjcdhaaGreatDoorW.PrintMore
def natural_num.f (l0 l1:List Int) (a2:Int):Option (List Int) :=
 if l0.length≤1099511627776 then Pm.natural_num.f (2 * (l0.length + l1.length) + 10) l0 l1 a2 else none
theorem natural_num.calls (A0:Option Addr) (c0:Nat) (l0:List Int) (A1:Option Addr) (c1:Nat) (l1:List Int) (a2:Int) (r:List Int) (w:World) (hr0:Kd.C (Kd.int .u32) w A0 l0.length l0) (hc0:l0.length≤c0) (hr1:Kd.C (Kd.int .u32) w A1 l1.length l1) (hc1:l1.length≤c1) (h:natural_num.f l0 l1 a2 = some r) :
  Calls Tryz.prog 129 #[.slice A0 l0.length c0,.slice A1 l1.length c1,.int .i64 a2] w fun e w'=>∃ v0_:Value,e = .returned (v0_)∧Kd.R (Kd.int .u32) 95 w' w.heap.size (fun _=>True) v0_ r∧Below w.heap.size w w':=by
 unfold natural_num.f at h
 by_cases hc:l0.length≤1099511627776
 ·rw [if_pos hc] at h
  exact Pm.natural_num.calls _ A0 c0 l0 A1 c1 l1 a2 r w hr0 hc0 hr1 hc1 h hc
 ·rw [if_neg hc] at h
  cases h
end Go.Proofs.YtaknchlegjcdhaaGreatDoor.Pr
