/- Part 2 of 6: walks and laws of functions that the last part joins. The words of the print (W..) are the kit's, cut down by program to what is used here. -/
import Derived.Test.YtcmbggahndfnnaaGreatDoorProg
import Derived.Below
import Derived.Deep.Draws
import Derived.Deep.AppendLies
import Derived.Maps.AppendAt
import Derived.OwnWalk
import Derived.Laws.BytesArg
import Derived.Laws.MakeOwn
import Derived.Laws.OwnMore
import Derived.Deep.OwnRows
import Derived.Tactics
import Derived.Lib.ConvBytes
import Derived.Laws.Slices
import Derived.WalkKit
import Derived.KernelRfl
import Derived.RowKit3
import Derived.Deep.LoopGhost
import Derived.Deep.QuietTactic
import Derived.BigQuiet
import Derived.WideLaws
import Derived.Deep.DeepCutAuto
import Derived.Deep.CutBlock
import Derived.Deep.RegionHeld3
import Derived.Laws.Rows
import Derived.Lib.AppendStr
import Derived.ArgAppend
import Derived.Laws.IdiomCopy
import Derived.OrdersHeld
import Derived.Laws.BitsLemmas
import Derived.RowKit
import Derived.Lib.AppendIntMem
import Derived.Shelf.LaysM
import Derived.Shelf.Strconv.Itoa3
import Derived.Lib.SmallJoins
import Derived.LaidMore
import Derived.ProofKit
import Derived.Stop.Joined
import Derived.SizedLaws
import Derived.DataShut
import Derived.Shelf.Abstract
import Derived.Shelf.Strings.Builder1
import Derived.Shelf.Strings.Builder2
import Derived.Shelf.Small.Wraps
import Derived.Shelf.Strings.BuilderF
import Derived.Shelf.Strings.BuilderK
import Derived.Shelf.Strings.Builder2Cap
import Derived.Shelf.Strconv.Itoa0
import Derived.Shelf.Strconv.Itoa1
import Derived.Shelf.Strconv.Itoa2
import Derived.Shelf.Strconv.Clone
import Derived.Shelf.Strconv.SyntaxError
import Derived.Shelf.Strconv.Lower
import Derived.Shelf.Strconv.ParseUint10
import Derived.Shelf.Strconv.ParseUint10Empty
import Derived.Shelf.Strconv.RangeError
import Derived.Shelf.Strconv.ParseUintEmpty
import Derived.Shelf.Strconv.ParseUint10b64
import Derived.Shelf.Strconv.ParseUint10b32
import Derived.Shelf.Strconv.ParseUint10b16
import Derived.Shelf.Strconv.ParseUint10b8
import Derived.Ground.MpProg
import Derived.Shelf.Pu.ParseUintPublic10
import Derived.Shelf.Strings.Prefix
import Derived.Shelf.Bits.Mul64
import Derived.Shelf.Strings.Repeat
import Derived.Ground.Names2Prog
import Derived.Shelf.Slices.SearchI
import Derived.Lib.AtoiErrMem
import Derived.Lib.ItoaNum
import Derived.Lib.ParseIntB
import Derived.RangeFuncFrom
import Derived.RangeFuncBox
import Derived.RangeFuncLeaves
import Derived.RangeFuncCalls
import Derived.RangeFuncBound
import Derived.OwnWalkIn
import Derived.TacticsInMore
import Derived.LoopNIn
import Derived.LoopIn
import Derived.Lib.Hide
import Derived.Lib.FrozenHead
import Derived.Lib.Walk
import Derived.Lib.ItoaMem
import Derived.BigCall
import Derived.BigGuard
import Derived.Test.YtcmbggahndfnnaaGreatDoorEa1
import Derived.Test.YtcmbggahndfnnaaGreatDoorCards
import Derived.Test.YtcmbggahndfnnaaGreatDoorTie
namespace Go.Proofs.YtcmbggahndfnnaaGreatDoor.Pr
open Go.RowKit Go.Proofs.YtcmbggahndfnnaaGreatDoorW.PrintWords Go.Proofs.YtcmbggahndfnnaaGreatDoorW.PrintLast Go.Proofs.YtcmbggahndfnnaaGreatDoorW.PrintMore
attribute [local go_sem] max2_int min2_int max_two min_two max_three min_three max_four min_four
set_option linter.unusedVariables false
set_option linter.unusedSimpArgs false
def errW:Option Int→Value
 | none=>.nilIface
 | some c=>.iface 200 (.int .i64 c)
theorem errW_none:errW none = .nilIface:=rfl
theorem errW_some (c:Int):errW (some c) = .iface 200 (.int .i64 c):=rfl
theorem info3:(Tryz.prog.info? 3).map (fun i=>(i.zero,i.size,i.bytes)) = some (some (.int .i64 0),1,8):=by kernel_rfl
theorem info5:(Tryz.prog.info? 5).map (fun i=>(i.zero,i.size,i.bytes)) = some (some (.int .u8 0),1,1):=by kernel_rfl
theorem info9:(Tryz.prog.info? 9).map (fun i=>(i.zero,i.size,i.bytes)) = some (some (.string ⟨#[]⟩),1,16):=by kernel_rfl
theorem info26:(Tryz.prog.info? 26).map (fun i=>(i.zero,i.size,i.bytes)) = some (some (.agg #[(.int .i64 0),(.int .i64 0),(.int .i64 0),(.slice none 0 0),(.slice none 0 0),(.slice none 0 0)]),6,96):=by kernel_rfl
theorem info52:(Tryz.prog.info? 52).map (fun i=>(i.zero,i.size,i.bytes)) = some (some (.agg #[(.int .i64 0),(.int .i64 0),(.int .i64 0),(.slice none 0 0),(.slice none 0 0),(.slice none 0 0),(.string ⟨#[]⟩)]),7,112):=by kernel_rfl
theorem info65:(Tryz.prog.info? 65).map (fun i=>(i.zero,i.size,i.bytes)) = some (some (.string ⟨#[]⟩),1,16):=by kernel_rfl
theorem info101:(Tryz.prog.info? 101).map (fun i=>(i.zero,i.size,i.bytes)) = some (some (.int .u32 0),1,4):=by kernel_rfl
structure S26 where
 f0:Int
 f1:Int
 f2:Int
 f3:(List Int)
 f4:(List ByteArray)
 f5:(List ByteArray)
def z26:S26:=⟨(0:Int),(0:Int),(0:Int),([]:List Int),([]:List ByteArray),([]:List ByteArray)⟩
def k26:Kd S26:=Kd.iso (Kd.pair (Kd.int .i64) (Kd.pair (Kd.int .i64) (Kd.pair (Kd.int .i64) (Kd.pair (Kd.slice 3 (Kd.int .i64)) (Kd.pair (Kd.slice 65 Kd.string) (Kd.slice 9 Kd.string)))))) (fun x:S26=>(x.f0,x.f1,x.f2,x.f3,x.f4,x.f5))
theorem k26_open {w:World} {x:S26} {cs:List Value} (h:k26.K w x cs):∃ A3 c3 A4 c4 A5 c5,cs = [.int .i64 x.f0,.int .i64 x.f1,.int .i64 x.f2,.slice A3 x.f3.length c3,.slice A4 x.f4.length c4,.slice A5 x.f5.length c5]∧x.f3.length≤c3∧(Kd.int .i64).C w A3 x.f3.length x.f3∧x.f4.length≤c4∧Kd.string.C w A4 x.f4.length x.f4∧x.f5.length≤c5∧Kd.string.C w A5 x.f5.length x.f5:=by
 obtain ⟨_,_,rfl,rfl,⟨_,_,rfl,rfl,⟨_,_,rfl,rfl,⟨_,_,rfl,⟨A3,c3,rfl,l3,g3⟩,⟨_,_,rfl,⟨A4,c4,rfl,l4,g4⟩,⟨A5,c5,rfl,l5,g5⟩⟩⟩⟩⟩⟩:=h
 exact ⟨A3,c3,A4,c4,A5,c5,rfl,l3,g3,l4,g4,l5,g5⟩
theorem k26_openM {w:World} {base:Nat} {ok:Nat→Prop} {x:S26} {cs:List Value} (h:k26.M w base ok x cs):∃ v3 v4 v5,cs = [.int .i64 x.f0,.int .i64 x.f1,.int .i64 x.f2,v3,v4,v5]∧(Kd.int .i64).R 3 w base ok v3 x.f3∧Kd.string.R 65 w base ok v4 x.f4∧Kd.string.R 9 w base ok v5 x.f5:=by
 obtain ⟨_,_,rfl,rfl,⟨_,_,rfl,rfl,⟨_,_,rfl,rfl,⟨_,_,rfl,⟨v3,rfl,g3⟩,⟨_,_,rfl,⟨v4,rfl,g4⟩,⟨v5,rfl,g5⟩⟩⟩⟩⟩⟩:=h
 exact ⟨v3,v4,v5,rfl,g3,g4,g5⟩
theorem k26_mkM (w:World) (base:Nat) (ok:Nat→Prop) (x:S26) {v3:Value} (g3:(Kd.int .i64).R 3 w base ok v3 x.f3) {v4:Value} (g4:Kd.string.R 65 w base ok v4 x.f4) {v5:Value} (g5:Kd.string.R 9 w base ok v5 x.f5):k26.M w base ok x [.int .i64 x.f0,.int .i64 x.f1,.int .i64 x.f2,v3,v4,v5]:=⟨[.int .i64 x.f0],[.int .i64 x.f1,.int .i64 x.f2,v3,v4,v5],rfl,rfl,⟨[.int .i64 x.f1],[.int .i64 x.f2,v3,v4,v5],rfl,rfl,⟨[.int .i64 x.f2],[v3,v4,v5],rfl,rfl,⟨[v3],[v4,v5],rfl,⟨v3,rfl,g3⟩,⟨[v4],[v5],rfl,⟨v4,rfl,g4⟩,⟨v5,rfl,g5⟩⟩⟩⟩⟩⟩
structure S52 where
 f0:S26
 f1:ByteArray
def z52:S52:=⟨z26,(⟨#[]⟩:ByteArray)⟩
def k52:Kd S52:=Kd.iso (Kd.pair k26 Kd.string) (fun x:S52=>(x.f0,x.f1))
theorem k52_open {w:World} {x:S52} {cs:List Value} (h:k52.K w x cs):∃ A3 c3 A4 c4 A5 c5,cs = [.int .i64 x.f0.f0,.int .i64 x.f0.f1,.int .i64 x.f0.f2,.slice A3 x.f0.f3.length c3,.slice A4 x.f0.f4.length c4,.slice A5 x.f0.f5.length c5,.string x.f1]∧x.f0.f3.length≤c3∧(Kd.int .i64).C w A3 x.f0.f3.length x.f0.f3∧x.f0.f4.length≤c4∧Kd.string.C w A4 x.f0.f4.length x.f0.f4∧x.f0.f5.length≤c5∧Kd.string.C w A5 x.f0.f5.length x.f0.f5:=by
 obtain ⟨_,_,rfl,s0,rfl⟩:=h
 obtain ⟨A3,c3,A4,c4,A5,c5,rfl,l3,g3,l4,g4,l5,g5⟩:=k26_open s0
 exact ⟨A3,c3,A4,c4,A5,c5,rfl,l3,g3,l4,g4,l5,g5⟩
theorem k52_openM {w:World} {base:Nat} {ok:Nat→Prop} {x:S52} {cs:List Value} (h:k52.M w base ok x cs):∃ v3 v4 v5,cs = [.int .i64 x.f0.f0,.int .i64 x.f0.f1,.int .i64 x.f0.f2,v3,v4,v5,.string x.f1]∧(Kd.int .i64).R 3 w base ok v3 x.f0.f3∧Kd.string.R 65 w base ok v4 x.f0.f4∧Kd.string.R 9 w base ok v5 x.f0.f5:=by
 obtain ⟨_,_,rfl,s0,rfl⟩:=h
 obtain ⟨v3,v4,v5,rfl,g3,g4,g5⟩:=k26_openM s0
 exact ⟨v3,v4,v5,rfl,g3,g4,g5⟩
theorem k52_mkM (w:World) (base:Nat) (ok:Nat→Prop) (x:S52) {v3:Value} (g3:(Kd.int .i64).R 3 w base ok v3 x.f0.f3) {v4:Value} (g4:Kd.string.R 65 w base ok v4 x.f0.f4) {v5:Value} (g5:Kd.string.R 9 w base ok v5 x.f0.f5):k52.M w base ok x [.int .i64 x.f0.f0,.int .i64 x.f0.f1,.int .i64 x.f0.f2,v3,v4,v5,.string x.f1]:=⟨[.int .i64 x.f0.f0,.int .i64 x.f0.f1,.int .i64 x.f0.f2,v3,v4,v5],[.string x.f1],rfl,(k26_mkM w base ok x.f0 g3 g4 g5),rfl⟩
def rd_T52 (xs:List S52) (i:Int):S52:=xs.getD i.toNat z52
theorem at_T52 {w:World} {A:Option Addr} {n:Nat} {xs:List S52} (h:Kd.C k52 w A n xs) (i:Int) (h0:0≤i) (h1:i < n):∃ ad A3 c3 A4 c4 A5 c5,A = some ad∧w.cell? (ad.add (i.toNat * 7)) = some (.int .i64 (rd_T52 xs i).f0.f0)∧w.cell? ⟨(ad.add (i.toNat * 7)).block,(ad.add (i.toNat * 7)).off + 1,none⟩ = some (.int .i64 (rd_T52 xs i).f0.f1)∧w.cell? ⟨(ad.add (i.toNat * 7)).block,(ad.add (i.toNat * 7)).off + 2,none⟩ = some (.int .i64 (rd_T52 xs i).f0.f2)∧w.cell? ⟨(ad.add (i.toNat * 7)).block,(ad.add (i.toNat * 7)).off + 3,none⟩ = some (.slice A3 (rd_T52 xs i).f0.f3.length c3)∧w.cell? ⟨(ad.add (i.toNat * 7)).block,(ad.add (i.toNat * 7)).off + 4,none⟩ = some (.slice A4 (rd_T52 xs i).f0.f4.length c4)∧w.cell? ⟨(ad.add (i.toNat * 7)).block,(ad.add (i.toNat * 7)).off + 5,none⟩ = some (.slice A5 (rd_T52 xs i).f0.f5.length c5)∧w.cell? ⟨(ad.add (i.toNat * 7)).block,(ad.add (i.toNat * 7)).off + 6,none⟩ = some (.string (rd_T52 xs i).f1)∧(rd_T52 xs i).f0.f3.length≤c3∧(Kd.int .i64).C w A3 (rd_T52 xs i).f0.f3.length (rd_T52 xs i).f0.f3∧(rd_T52 xs i).f0.f4.length≤c4∧Kd.string.C w A4 (rd_T52 xs i).f0.f4.length (rd_T52 xs i).f0.f4∧(rd_T52 xs i).f0.f5.length≤c5∧Kd.string.C w A5 (rd_T52 xs i).f0.f5.length (rd_T52 xs i).f0.f5:=by
 obtain ⟨ad,c,e,_,hK,hc0⟩:=Kd.C_get h z52 i h0 h1
 have hc:∀ j u,c[j]? = some u→w.cell? (ad.add (i.toNat * 7 + j)) = some u:=hc0
 obtain ⟨A3,c3,A4,c4,A5,c5,rfl,l3,g3,l4,g4,l5,g5⟩:=k52_open hK
 exact ⟨ad,A3,c3,A4,c4,A5,c5,e,hc 0 _ rfl,by rw [← add_field _ _ 1 (by omega)];exact hc 1 _ rfl,by rw [← add_field _ _ 2 (by omega)];exact hc 2 _ rfl,by rw [← add_field _ _ 3 (by omega)];exact hc 3 _ rfl,by rw [← add_field _ _ 4 (by omega)];exact hc 4 _ rfl,by rw [← add_field _ _ 5 (by omega)];exact hc 5 _ rfl,by rw [← add_field _ _ 6 (by omega)];exact hc 6 _ rfl,l3,g3,l4,g4,l5,g5⟩
end Go.Proofs.YtcmbggahndfnnaaGreatDoor.Pr
namespace Go.Proofs.YtcmbggahndfnnaaGreatDoor.Pr
set_option linter.unusedVariables false
set_option linter.unusedSimpArgs false
open Go.RowKit Go.Lib
def LaidW (w:World):Prop:=Lib.TabIs Tryz.prog w "internal/strconv.uint64pow10" .u64 Lib.pow10Tab
theorem LaidW.below {w w':World} (h:LaidW w) (hb:Below w.heap.size w w'):LaidW w':=by
 unfold LaidW Lib.TabIs World.var? at h ⊢
 cases hg:Tryz.prog.globalNamed "internal/strconv.uint64pow10" with
 | none=>rw [hg] at h;simp at h
 | some g =>
  rw [hg] at h
  simp only [Option.bind_some] at h ⊢
  have hlt:g < w.heap.size:=by
   rcases Nat.lt_or_ge g w.heap.size with h'|h'
   ·exact h'
   ·rw [Array.getElem?_eq_none h'] at h;cases h
  rw [hb.block g hlt]
  exact h
end Go.Proofs.YtcmbggahndfnnaaGreatDoor.Pr
namespace Go.Proofs.YtcmbggahndfnnaaGreatDoor.Pr
set_option linter.unusedVariables false
set_option linter.unusedSimpArgs false
open Go.ChangeShapes Go.WideShapes Go.ChangeAt Go.Deep Go.Joins Go.RowKit Go.Proofs.YtcmbggahndfnnaaGreatDoorW.PrintWords
theorem own:ownKnob Tryz.prog.godebug = none:=by kernel_rfl
theorem laidOut:laidOutB Tryz.prog = true:=by kernel_rfl
set_option maxRecDepth 100000 in
theorem openS {H:Type} {enc:TypeId × Value→H} {W:World} {r:Reach} {b0:Nat} {v:Value} {d:DataW H} {p:List MemPlace} (hv:Value.okWide Tryz.prog W r b0 9 v) (h:DataW.Trod enc Tryz.prog W 0 (fun _=>true) true 9 v d p):∃ s,v = .string s:=by
 obtain ⟨s,e,_⟩:=Go.ChangeMaps.open_string Tryz.underlying9 hv h
 exact ⟨s,e⟩
def laid5:List (String × DataW Unit):=[("math/bits.deBruijn32tab",Rows.laid_math_bits_deBruijn32tab),("math/bits.deBruijn64tab",Rows.laid_math_bits_deBruijn64tab),("internal/strconv.uint64pow10",Rows.laid_internal_strconv_uint64pow10),("strconv.ErrRange",Rows.laid_strconv_ErrRange),("strconv.ErrSyntax",Rows.laid_strconv_ErrSyntax)]
theorem gPow:Tryz.prog.globalNamed "internal/strconv.uint64pow10" = some 3:=by kernel_rfl
theorem gPowType:(Tryz.prog.globals[3]?).map (·.type) = some 218:=by kernel_rfl
theorem laid_tab {W:World} (h:laidMetH Tryz.prog laid5 W):LaidW W:=by
 rw [MakeChecks.laidMetH_plain _ _ _ (by kernel_rfl)] at h
 obtain ⟨ps,⟨g0,t0,cs0,f0,p0,q0,hg0,ht0,hv0,hd0,⟨g1,t1,cs1,f1,p1,q1,hg1,ht1,hv1,hd1,⟨g2,t2,cs2,f2,p2,q2,hg2,ht2,hv2,hd2,_,_⟩,_⟩,_⟩,_⟩:=h
 obtain rfl:=Option.some.inj (gPow.symm.trans hg2)
 obtain rfl:=Option.some.inj (gPowType.symm.trans ht2)
 have e:(Rows.laid_internal_strconv_uint64pow10:DataW Unit) = Lib.tabData .u64 Lib.pow10Tab:=rfl
 rw [e] at hd2
 unfold LaidW Lib.TabIs
 rw [hv2,← Lib.cells_of_tab Tryz.underlying218 Tryz.underlying104 (by kernel_rfl) (by kernel_rfl) hd2]
theorem door_met (os:Os) (args:Array Value):laidMetH Tryz.prog laid5 ((World.doorLaid Tryz.prog 400 os).forCall (fun _ _=>0) ⟨#[],args,[]⟩).memory :=
 laidMetH_of_parts3 (fuel:=8) (laidMet_of_run' 8 (by kernel_rfl) (by kernel_rfl)) (by kernel_rfl) (by kernel_rfl)
end Go.Proofs.YtcmbggahndfnnaaGreatDoor.Pr
namespace Go.Proofs.YtcmbggahndfnnaaGreatDoor.Pr
open Go.RowKit Go.Proofs.YtcmbggahndfnnaaGreatDoorW.PrintWords Go.Proofs.YtcmbggahndfnnaaGreatDoorW.PrintLast Go.Proofs.YtcmbggahndfnnaaGreatDoorW.PrintMore
def fidx {α:Type} (p:α→Bool):List α→Nat→Int
 | [],_=>-1
 | x :: xs,i=>if p x then (i:Int) else fidx p xs (i + 1)
theorem fidx_miss {α:Type} (p:α→Bool) (xs:List α) (i:Nat) (h:∀ x ∈ xs,p x = false):fidx p xs i = -1:=by
 induction xs generalizing i with
 | nil=>rfl
 | cons x xs ih =>
  unfold fidx
  rw [if_neg (by rw [h x (by simp)];simp)]
  exact ih (i + 1) (fun y hy=>h y (by simp [hy]))
theorem fidx_hit {α:Type} (p:α→Bool) (xs:List α) (i k:Nat) (y:α) (hy:xs[k]? = some y) (hp:p y = true) (h:∀ j z,j < k→xs[j]? = some z→p z = false):fidx p xs i = ((i + k:Nat):Int):=by
 induction xs generalizing i k with
 | nil=>simp at hy
 | cons x xs ih =>
  unfold fidx
  cases k with
  | zero =>
   have:x = y:=by simpa using hy
   subst this
   rw [if_pos hp]
   rfl
  | succ k =>
   rw [if_neg (by rw [h 0 x (by omega) (by simp)];simp)]
   rw [ih (i + 1) k (by simpa using hy) (fun j z hj hz=>h (j + 1) z (by omega) (by simpa using hz))]
   congr 1
   omega
theorem fidx_any {α:Type} (p:α→Bool) (xs:List α) (i:Nat):xs.any p = decide (0≤fidx p xs i):=by
 induction xs generalizing i with
 | nil=>rfl
 | cons x xs ih =>
  unfold fidx
  by_cases hx:p x = true
  ·rw [if_pos hx,List.any_cons,hx]
   simp
  ·rw [if_neg hx,List.any_cons,← ih (i + 1)]
   simp [hx]
end Go.Proofs.YtcmbggahndfnnaaGreatDoor.Pr
namespace Go.Proofs.YtcmbggahndfnnaaGreatDoor
open Go.RowKit Go.Proofs.YtcmbggahndfnnaaGreatDoorW.PrintWords Go.Proofs.YtcmbggahndfnnaaGreatDoorW.PrintLast Go.Proofs.YtcmbggahndfnnaaGreatDoorW.PrintMore
set_option linter.unusedVariables false
set_option linter.unusedSimpArgs false
theorem far_ {w:World} {g:Nat} {t:TypeId} {cs:Array Value} {p:Addr} (u:Value) (hp:g≠p.block) (h:w.heap[g]? = some (.cells cs t (0,0))):(w.setCell p u).heap[g]? = some (.cells cs t (0,0)):=blk_far h hp u
theorem bx_ {p:Prop} (h:p:=by repeat (first|(with_reducible first|exact Aside0.out (by assumption)|apply below_alloc|apply pw_below_drewN|apply below_drew1|refine below_set ?_ (Aside0.out (by assumption)))|exact Aside0.out (by assumption))):p:=h
theorem bk_ {p:Prop} (h:p:=by (repeat (first|(with_reducible first|refine blk_drewN ?_ _|refine blk_drew ?_|refine blk_alloc ?_ _)|(apply far_;exact Aside0.out (by assumption))|apply blk_put));exact Aside0.out (by assumption);all_goals rfl):p:=h
theorem rf_ {p:Prop} (h:p:=by first|rfl|(simp [errW_none,errW_some]<;>rfl)|(simp [*,errW_none,errW_some]<;>rfl)):p:=h
theorem hc_ {p:Prop} (h:p:=by first|exact trivial|((repeat' (first|refine And.intro ?_ ?_|exact (blk_cell (Aside0.out (by assumption)) _).trans rfl)))):p:=h
theorem bb_ {w W w2:World} {g:Nat} {o:Obj} (B:Aside0 (w.heap[g]? = some o)) (hb:Below W.heap.size W w2) (h:W.heap[g]? = some o:=by (with_reducible repeat (first|refine blk_drewN ?_ _|refine blk_drew ?_|refine blk_alloc ?_ _));exact Aside0.out (by assumption)):Aside0 (w2.heap[g]? = some o):=⟨blk_below h hb⟩
theorem bs_ {w W w2:World} (hb:Below W.heap.size W w2) (h:Below w.heap.size w W:=by repeat (first|(with_reducible first|exact Aside0.out (by assumption)|apply below_alloc|apply pw_below_drewN|apply below_drew1|refine below_set ?_ (Aside0.out (by assumption)))|exact Aside0.out (by assumption))):Aside0 (Below w.heap.size w w2):=⟨below_step h hb⟩
theorem nl_ {w W:World} {g g':Nat} {o:Obj} (B:Aside0 (w.heap[g]? = some o)) (hg:g' = W.heap.size) (h:W.heap[g]? = some o:=by (with_reducible repeat (first|refine blk_drewN ?_ _|refine blk_drew ?_|refine blk_alloc ?_ _));exact Aside0.out (by assumption)):Aside0 (g≠g'):=⟨by rw [hg];exact Nat.ne_of_lt (blk_lt h)⟩
theorem ng_ {w W:World} {g g':Nat} {o:Obj} (B:Aside0 (w.heap[g]? = some o)) (hg:g' = W.heap.size) (h:W.heap[g]? = some o:=by (with_reducible repeat (first|refine blk_drewN ?_ _|refine blk_drew ?_|refine blk_alloc ?_ _));exact Aside0.out (by assumption)):Aside0 (g'≠g):=⟨by rw [hg];exact Nat.ne_of_gt (blk_lt h)⟩
theorem ol_ {w W w2:World} {g g':Nat} {o:Obj} (B:Aside0 (w.heap[g]? = some o)) (hg:g' = W.heap.size) (hb:Below W.heap.size W w2) (h:W.heap[g]? = some o:=by (with_reducible repeat (first|refine blk_drewN ?_ _|refine blk_drew ?_|refine blk_alloc ?_ _));exact Aside0.out (by assumption)):Aside0 (w2.heap[g]? = some o)∧Aside0 (g≠g')∧Aside0 (g'≠g):=⟨⟨blk_below h hb⟩,nl_ ⟨h⟩ hg h,ng_ ⟨h⟩ hg h⟩
theorem dr_ {w:World} {g:Nat} {o:Obj} (B:Aside0 (w.heap[g]? = some o)):Aside0 (w.drew.heap[g]? = some o):=⟨blk_drew B.out⟩
theorem db_ {w W:World} (B:Aside0 (Below w.heap.size w W)):Aside0 (Below w.heap.size w W.drew):=⟨below_drew1 B.out⟩
theorem gk_ {W W2:World} {g:Nat} {o:Obj} (hw:W = W2) (h:W.heap[g]? = some o:=by (repeat (first|(with_reducible first|refine blk_drewN ?_ _|refine blk_drew ?_|refine blk_alloc ?_ _)|(apply far_;exact Aside0.out (by assumption))|apply blk_put));exact Aside0.out (by assumption);all_goals rfl):Aside0 (W2.heap[g]? = some o):=hw ▸ ⟨h⟩
theorem gb_ {w W W2:World} (hw:W = W2) (h:Below w.heap.size w W:=by repeat (first|(with_reducible first|exact Aside0.out (by assumption)|apply below_alloc|apply pw_below_drewN|apply below_drew1|refine below_set ?_ (Aside0.out (by assumption)))|exact Aside0.out (by assumption))):Aside0 (Below w.heap.size w W2):=hw ▸ ⟨h⟩
theorem kr_ {p:Prop} (h:p:=by kernel_rfl):p:=h
theorem de_ {p:Prop} (h:p:=by decide):p:=h
theorem sm_ {p:Prop} (h:p:=by simp):p:=h
theorem ne_nil_b (l:List UInt8):(l != []) = !l.isEmpty:=by cases l<;>rfl
theorem rg_ {p:Prop} (h:p:=by first|rfl|(simp;done)|(simp [*];done)|(simp [ne_nil_b];done)):p:=h
theorem kx_ {p:Prop} (h:p:=by repeat (first|(with_reducible first|exact Aside0.out (by assumption)|apply KeepBut.set_|apply keep_drewN|apply keep_drew|apply keep_alloc)|exact Aside0.out (by assumption))):p:=h
theorem da_ {p:Prop} [Decidable p] (h:decide p = true:=by first|(with_reducible assumption)|assumption):p:=of_decide_eq_true h
theorem mn_ {p:Prop} (h:p:=by repeat' first|(with_reducible exact LeO.refl _)|(with_reducible exact LeO.none _)|(with_reducible apply_assumption)|(with_reducible refine LeO.ite ?_ ?_)|(with_reducible refine LeO.bind ?_ (fun _=>?_))|exact LeO.none _|apply_assumption|refine LeO.ite ?_ ?_|refine LeO.bind ?_ (fun _=>?_)):p:=h
theorem cx_ {p q:Prop} (t:p) (h:p→q:=by intro t_;repeat (first|exact t_|(with_reducible refine Kd.C_alloc ?_ _)|(with_reducible refine Kd.C_drewN ?_ _)|(with_reducible refine Kd.C_drew ?_))):q:=h t
theorem vb_ {α:Type} {d:Kd α} {e:TypeId} {w W w2:World} {base:Nat} {ok:Nat→Prop} {v:Value} {xs:List α} (B:Aside0 (d.V e w base ok v xs)) (hb:Below W.heap.size W w2) (h:d.V e W base ok v xs:=by (with_reducible repeat (first|apply Kd.V_alloc|apply Kd.V_drewN|apply Kd.V_drew));exact Aside0.out (by assumption)):Aside0 (d.V e w2 base ok v xs):=⟨Kd.V_below h hb⟩
theorem rb_ {α:Type} {d:Kd α} {e:TypeId} {w W w2:World} {base:Nat} {ok:Nat→Prop} {v:Value} {xs:List α} (B:Aside0 (d.R e w base ok v xs)) (hb:Below W.heap.size W w2) (h:d.R e W base ok v xs:=by (with_reducible repeat (first|apply Kd.R_alloc|apply Kd.R_drewN|apply Kd.R_drew));exact Aside0.out (by assumption)):Aside0 (d.R e w2 base ok v xs):=⟨Kd.R_below h hb⟩
theorem c2_ {w:World} {g:Nat} {a b:Value} {t:TypeId} (B:Aside0 (w.heap[g]? = some (.cells #[a,b] t (0,0)))):w.cell? ⟨g,0,none⟩ = some a∧w.cell? ⟨g,1,none⟩ = some b∧w.frozen? ⟨g,0,none⟩ = false∧w.frozen? ⟨g,1,none⟩ = false:=⟨(blk_cell B.out 0).trans rfl,(blk_cell B.out 1).trans rfl,blk_frozen B.out 0,blk_frozen B.out 1⟩
theorem c6_ {w:World} {g:Nat} {a b c d e f:Value} {t:TypeId} (B:Aside0 (w.heap[g]? = some (.cells #[a,b,c,d,e,f] t (0,0)))):w.cell? ⟨g,0,none⟩ = some a∧w.cell? ⟨g,1,none⟩ = some b∧w.cell? ⟨g,2,none⟩ = some c∧w.cell? ⟨g,3,none⟩ = some d∧w.cell? ⟨g,4,none⟩ = some e∧w.cell? ⟨g,5,none⟩ = some f∧w.frozen? ⟨g,0,none⟩ = false∧w.frozen? ⟨g,1,none⟩ = false∧w.frozen? ⟨g,2,none⟩ = false∧w.frozen? ⟨g,3,none⟩ = false∧w.frozen? ⟨g,4,none⟩ = false∧w.frozen? ⟨g,5,none⟩ = false:=⟨(blk_cell B.out 0).trans rfl,(blk_cell B.out 1).trans rfl,(blk_cell B.out 2).trans rfl,(blk_cell B.out 3).trans rfl,(blk_cell B.out 4).trans rfl,(blk_cell B.out 5).trans rfl,blk_frozen B.out 0,blk_frozen B.out 1,blk_frozen B.out 2,blk_frozen B.out 3,blk_frozen B.out 4,blk_frozen B.out 5⟩
theorem c7_ {w:World} {g:Nat} {a b c d e f p:Value} {t:TypeId} (B:Aside0 (w.heap[g]? = some (.cells #[a,b,c,d,e,f,p] t (0,0)))):w.cell? ⟨g,0,none⟩ = some a∧w.cell? ⟨g,1,none⟩ = some b∧w.cell? ⟨g,2,none⟩ = some c∧w.cell? ⟨g,3,none⟩ = some d∧w.cell? ⟨g,4,none⟩ = some e∧w.cell? ⟨g,5,none⟩ = some f∧w.cell? ⟨g,6,none⟩ = some p∧w.frozen? ⟨g,0,none⟩ = false∧w.frozen? ⟨g,1,none⟩ = false∧w.frozen? ⟨g,2,none⟩ = false∧w.frozen? ⟨g,3,none⟩ = false∧w.frozen? ⟨g,4,none⟩ = false∧w.frozen? ⟨g,5,none⟩ = false∧w.frozen? ⟨g,6,none⟩ = false:=⟨(blk_cell B.out 0).trans rfl,(blk_cell B.out 1).trans rfl,(blk_cell B.out 2).trans rfl,(blk_cell B.out 3).trans rfl,(blk_cell B.out 4).trans rfl,(blk_cell B.out 5).trans rfl,(blk_cell B.out 6).trans rfl,blk_frozen B.out 0,blk_frozen B.out 1,blk_frozen B.out 2,blk_frozen B.out 3,blk_frozen B.out 4,blk_frozen B.out 5,blk_frozen B.out 6⟩
theorem bn_ {α β:Type} {x:Option α} {f:α→Option β} {b:β} (h:x.bind f = some b):∃ a,Aside0 (x = some a)∧f a = some b:=by
 obtain ⟨a,ha,hb⟩:=Option.bind_eq_some_iff.mp h
 exact ⟨a,⟨ha⟩,hb⟩
section
variable {P : Program} {ops : Array Oper} {rest : List Oper} {o : Oper} {a : Act} {Q : Exit → Act → World → Prop}
theorem bv_ {w W:World} (cs:Array Value) (t:TypeId) {N:Tmp}
  (h:∀ g,g = W.heap.size→∀ w1,Aside0 (w1.heap[g]? = some (.cells cs t (0,0)))→Aside0 (w.heap.size≤g)→Below W.heap.size W w1→Aside0 (Below w.heap.size w w1)→wpList P ops Q rest (a.put o.dst (.pointer (some ⟨g,0,none⟩))) w1)
  (hd:o.dst = some N:=by rfl) (hgd:o.guard = none:=by rfl)
  (hrun:(execOp a.eval o).run P W = .ok (.value (.pointer (some ⟨W.heap.size,0,none⟩))) (W.alloc (.cells cs t (0,0))):=by first|(go_simp;done)|(go_simp;rfl))
  (hb:Below w.heap.size w W:=by repeat (first|(with_reducible first|exact Aside0.out (by assumption)|apply below_alloc|apply pw_below_drewN|apply below_drew1|refine below_set ?_ (Aside0.out (by assumption)))|exact Aside0.out (by assumption))):wpList P ops Q (o :: rest) a W :=
 box_event hgd hd hrun fun g hg w1 hbox k=>h g hg w1 ⟨hbox⟩ ⟨by rw [hg];exact below_size hb⟩ k ⟨below_step hb k⟩
theorem gm_ {w:World} (N:Option Tmp) {f:FuncId} {fn:Func} {as_:Array Operand} {ts:Array TypeId} (hf:P.funcs[f]? = some fn) (args:Array Value)
  (h:Calls P f args w fun e w'=>∃ v,e = .returned v∧wpList P ops Q rest (a.put N v) w')
  (hd:o.dst = N:=by rfl) (hg:o.guard = none:=by rfl) (hname:(fn.name == "runtime.NumGoroutine") = false:=by kernel_rfl) (hb:fn.body.isSome = true:=by rfl)
  (hop:o.op = .call { callee:=.value (.func f),args:=as_,argTypes:=ts }:=by rfl)
  (hargs:as_.map a.eval = args:=by (try simp only [List.map_toArray,List.map_cons,List.map_nil]);first|done|rfl|(simp only [List.length_drop,List.length_take];rfl)):wpList P ops Q (o :: rest) a w :=
 goesL_ N hd hg hf hname hb args hop hargs h
theorem gl_ {w W:World} (N:Option Tmp) {f:FuncId} {fn:Func} {as_:Array Operand} {ts:Array TypeId} (hf:P.funcs[f]? = some fn) (args:Array Value) {v:Value}
  (C:Calls P f args W fun e w'=>e = .returned v∧Below W.heap.size W w')
  (h:∀ w',Below W.heap.size W w'→Aside0 (Below w.heap.size w w')→wpList P ops Q rest (a.put N v) w')
  (hd:o.dst = N:=by rfl) (hg:o.guard = none:=by rfl) (hname:(fn.name == "runtime.NumGoroutine") = false:=by kernel_rfl) (hb:fn.body.isSome = true:=by rfl)
  (hop:o.op = .call { callee:=.value (.func f),args:=as_,argTypes:=ts }:=by rfl)
  (hargs:as_.map a.eval = args:=by (try simp only [List.map_toArray,List.map_cons,List.map_nil]);first|done|rfl|(simp only [List.length_drop,List.length_take];rfl))
  (k:Below w.heap.size w W:=by repeat (first|(with_reducible first|exact Aside0.out (by assumption)|apply below_alloc|apply pw_below_drewN|apply below_drew1|refine below_set ?_ (Aside0.out (by assumption)))|exact Aside0.out (by assumption))):wpList P ops Q (o :: rest) a W :=
 goesL_ N hd hg hf hname hb args hop hargs (C.mono fun _ w' hw=>⟨v,hw.1,h w' hw.2 ⟨below_step k hw.2⟩⟩)
end
section
variable {P : Program} {ops : Array Oper} {Q : Exit → Act → World → Prop} {md : Region.Mode} {S : World → Prop} {ds : List Nat}
theorem pu_ {oi:Oper} {v:Value} {fuel:Nat} {l:Array Bool} {a a':Act} {w:World} (i:Nat) (N:Option Tmp) (l':Array Bool) (h:wpAnyLast P md ops Q S ds fuel l' a' w)
  (hi:ops[i]? = some oi:=by rfl) (hN:oi.dst = N:=by rfl) (hc:anyB md ops l l' i = true:=by first|exact any_of (Aside0.out (by assumption)) (by kernel_rfl)|kernel_rfl)
  (hy:Yields P ops oi v a:=by exact Or.inl ⟨by rfl,by intro w';go_simp;with_reducible rfl⟩)
  (hQ:∀ c a w,Q (.panic c) (a.put oi.dst v) w→Q (.panic c) a w:=by exact fun _ _ _ h=>h)
  (ha:a.put N v = a':=by simp only [Act.put,List.setIfInBounds_toArray,List.set_cons_zero,List.set_cons_succ,i64_w,i32_w];rfl):wpAnyLast P md ops Q S ds (fuel + 1) l a w :=
 pure_ l' hi hN hc hQ hy ha h
theorem tk_ {oi:Oper} {v:Value} {fuel:Nat} {l:Array Bool} {a a':Act} {w:World} (i:Nat) (N:Option Tmp) (l':Array Bool) (hS:S w) (h:wpAnyLast P md ops Q S ds fuel l' a' w)
  (hi:ops[i]? = some oi:=by rfl) (hN:oi.dst = N:=by rfl) (hc:takeB md ops ds l l' i = true:=by first|exact take_ofW (Aside0.out (by assumption)) (Aside0.out (by assumption)) (by kernel_rfl)|exact take_of (Aside0.out (by assumption)) (by kernel_rfl)|kernel_rfl)
  (hy:YieldsIf P ops S oi v a:=by exact Or.inl ⟨by rfl,by intro w' hs_;(iterate 40 (try (obtain ⟨_,hs_⟩:=hs_)));go_simp;with_reducible rfl⟩)
  (hQ:∀ c a w,Q (.panic c) (a.put oi.dst v) w→Q (.panic c) a w:=by exact fun _ _ _ h=>h)
  (ha:a.put N v = a':=by simp only [Act.put,List.setIfInBounds_toArray,List.set_cons_zero,List.set_cons_succ,i64_w,i32_w];rfl):wpAnyLast P md ops Q S ds (fuel + 1) l a w :=
 take_ l' hi hN hc hQ hy hS ha h
theorem oc_ {oi:Oper} {fuel:Nat} {l:Array Bool} {a:Act} {w:World} (i:Nat) (N:Option Tmp) (l':Array Bool) {f:FuncId} {fn:Func} {as_:Array Operand} {ts:Array TypeId} (hf:P.funcs[f]? = some fn) (args:Array Value)
  (h:∀ K:Act→World→Prop,Shut (∀ a' w',S w'→(S w'→wpAnyLast P md ops Q S ds fuel l' a' w')→K a' w')→Calls P f args w fun e w'=>∃ v,e = .returned v∧K (a.put N v) w')
  (hi:ops[i]? = some oi:=by rfl) (hN:oi.dst = N:=by rfl) (hc:readyB md ops l l' i = true:=by first|exact one_of (Aside0.out (by assumption)) (by kernel_rfl)|kernel_rfl) (hd:i ∉ ds:=by decide)
  (hname:(fn.name == "runtime.NumGoroutine") = false:=by kernel_rfl) (hb:fn.body.isSome = true:=by rfl) (hw:Region.wanted oi (yielded ops a.tmps) = true:=by rfl)
  (hop:oi.op = .call { callee:=.value (.func f),args:=as_,argTypes:=ts }:=by rfl)
  (hargs:as_.map a.eval = args:=by (try simp only [List.map_toArray,List.map_cons,List.map_nil]);first|done|rfl|(simp only [List.length_drop,List.length_take];rfl)):wpAnyLast P md ops Q S ds (fuel + 1) l a w :=
 one_ l' hi hN hc hd fun K hK=>goes_ hf hname hb args hw hN hop hargs (h K hK)
theorem hk_ {fuel:Nat} {l:Array Bool} {a a':Act} {w:World} {K:Act→World→Prop} (hK:Shut (∀ a' w',S w'→(S w'→wpAnyLast P md ops Q S ds fuel l a' w')→K a' w')) (h:S w→wpAnyLast P md ops Q S ds fuel l a' w)
  (hS:S w:=by first|exact trivial|((repeat' (first|refine And.intro ?_ ?_|exact (blk_cell (Aside0.out (by assumption)) _).trans rfl))))
  (ha:a = a':=by show Act.put _ _ _ = _;simp only [Act.put,List.setIfInBounds_toArray,List.set_cons_zero,List.set_cons_succ,i64_w,i32_w];rfl):K a w :=
 hK.out _ _ hS fun hs=>norm_ ha (h hs)
end
end Go.Proofs.YtcmbggahndfnnaaGreatDoor
namespace Go.Proofs.YtcmbggahndfnnaaGreatDoor.Pr
open Go.RowKit Go.Proofs.YtcmbggahndfnnaaGreatDoorW.PrintWords Go.Proofs.YtcmbggahndfnnaaGreatDoorW.PrintLast Go.Proofs.YtcmbggahndfnnaaGreatDoorW.PrintMore
attribute [local go_sem] max2_int min2_int max_two min_two max_three min_three max_four min_four
set_option maxHeartbeats 8000000
set_option maxRecDepth 100000
set_option linter.unusedVariables false
set_option linter.unusedSimpArgs false
mutual
def natural_Valid.j0:Nat→ByteArray→Bool→Option (Bool)
 | 0,_,_=>none
 | k + 1,x0,x15=>if x15 = true then (some false) else (natural_Valid.l0 k x0 (x0.size:Int) 0)
def natural_Valid.l0:Nat→ByteArray→Int→Int→Option (Bool)
 | 0,_,_,_=>none
 | k + 1,x0,x17,x18=>if x18 < x17 then (if 0≤x18 then (if x18 < (x0.size:Int) then (if (bt x0 x18) < 48 then (some false) else (if (bt x0 x18) > 57 then (some false) else (natural_Valid.l0 k x0 x17 (wrap64 (x18 + 1))))) else (none)) else (none)) else (some true)
end
def natural_Valid.f (k:Nat) (a0:ByteArray):Option (Bool):=if a0.toList = ([]:List UInt8) then (natural_Valid.j0 k a0 true) else (if (a0.size:Int) > 1 then (if 0 < (a0.size:Int) then (natural_Valid.j0 k a0 ((bt a0 0) == 48)) else (none)) else (natural_Valid.j0 k a0 false))
theorem natural_Valid.mono_l:∀ k,(∀ y0 y1,LeO (natural_Valid.j0 k y0 y1) (natural_Valid.j0 (k + 1) y0 y1))∧(∀ y0 y1 y2,LeO (natural_Valid.l0 k y0 y1 y2) (natural_Valid.l0 (k + 1) y0 y1 y2))
 | 0=>⟨fun _ _ r h=>by simp [natural_Valid.j0] at h,fun _ _ _ r h=>by simp [natural_Valid.l0] at h⟩
 | k + 1=>by
  obtain ⟨ih0,ih1⟩:=natural_Valid.mono_l k
  refine ⟨?_,?_⟩
  ·intro y0 y1
   unfold natural_Valid.j0
   repeat' first
   | (with_reducible exact ih0 _ _)
   | (with_reducible exact ih1 _ _ _)
   | (with_reducible exact LeO.refl _)
   | (with_reducible exact LeO.none _)
   | (with_reducible refine LeO.ite ?_ ?_)
   | (with_reducible refine LeO.bind ?_ (fun _=>?_))
   | exact ih0 _ _
   | exact ih1 _ _ _
   | exact LeO.none _
   | refine LeO.ite ?_ ?_
   | refine LeO.bind ?_ (fun _=>?_)
  ·intro y0 y1 y2
   unfold natural_Valid.l0
   repeat' first
   | (with_reducible exact ih0 _ _)
   | (with_reducible exact ih1 _ _ _)
   | (with_reducible exact LeO.refl _)
   | (with_reducible exact LeO.none _)
   | (with_reducible refine LeO.ite ?_ ?_)
   | (with_reducible refine LeO.bind ?_ (fun _=>?_))
   | exact ih0 _ _
   | exact ih1 _ _ _
   | exact LeO.none _
   | refine LeO.ite ?_ ?_
   | refine LeO.bind ?_ (fun _=>?_)
theorem natural_Valid.mono:∀ a0 k,LeO (natural_Valid.f k a0) (natural_Valid.f (k + 1) a0):=by
 intro a0 k
 obtain ⟨ih0,ih1⟩:=natural_Valid.mono_l k
 unfold natural_Valid.f
 repeat' first
   | (with_reducible exact ih0 _ _)
   | (with_reducible exact ih1 _ _ _)
   | (with_reducible exact LeO.refl _)
   | (with_reducible exact LeO.none _)
   | (with_reducible refine LeO.ite ?_ ?_)
   | (with_reducible refine LeO.bind ?_ (fun _=>?_))
   | exact ih0 _ _
   | exact ih1 _ _ _
   | exact LeO.none _
   | refine LeO.ite ?_ ?_
   | refine LeO.bind ?_ (fun _=>?_)
theorem natural_Valid.calls (k:Nat) (a0:ByteArray) (r:Bool) (w:World) (h:natural_Valid.f k a0 = some r) :
  Calls Tryz.prog 86 #[.string a0] w fun e w'=>e = .returned (.bool r)∧Drawn0 w w':=by
 have H:=h;clear h;unfold natural_Valid.f at H
 have HC2:=Aside0.mk H
 clear H
 go_enter Tryz.func86,Tryz.ntmps86
 go_upto_region 1 with (fail)
 go_cut [15] (fun v15 wc=>∃ (kq:Nat) (x15_1:Bool),v15 = .bool x15_1∧Aside0 (natural_Valid.j0 kq a0 x15_1 = some r)∧Aside0 (kq≤k)∧Drawn0 w wc)
 case first =>
  have H:=HC2.out
  clear HC2
  by_cases c3:a0.toList = ([]:List UInt8)
  ·rw [if_pos c3] at H
   have c3b0:(a0.toList == ([]:List UInt8)) = true:=beq_iff_eq.mpr c3
   have c3b1:(a0.toList != ([]:List UInt8)) = false:=bne_eq_false_iff_eq.mpr c3
   clear c3
   (first|rw [c3b0]|(simp only [i64_w,i32_w];rw [c3b0])|skip)
   have H':=Aside0.mk H
   clear H
   go_wp2
   go_meet
   case rel=>exact ⟨_,(true),rg_,H',⟨by first|omega|exact Nat.le_refl _⟩,by repeat (first|exact Drawn0.refl _|apply Drawn0.step)⟩
  ·rw [if_neg c3] at H
   have c3b0:(a0.toList == ([]:List UInt8)) = false:=beq_eq_false_iff_ne.mpr c3
   have c3b1:(a0.toList != ([]:List UInt8)) = true:=bne_iff_ne.mpr c3
   (first|rw [c3b0]|(simp only [i64_w,i32_w];rw [c3b0])|skip)
   by_cases c4:(a0.size:Int) > 1
   ·rw [if_pos c4] at H
    have c4b0:decide (1 < (a0.size:Int)) = true:=decide_eq_true c4
    have c4b1:decide (1 < a0.size) = true:=decide_eq_true (by omega)
    clear c4
    by_cases c5:0 < (a0.size:Int)
    ·rw [if_pos c5] at H
     have c5b0:decide (0 < (a0.size:Int)) = true:=decide_eq_true c5
     have c5b1:decide (0 < a0.size) = true:=decide_eq_true (by omega)
     clear c5
     have H':=Aside0.mk H
     clear H
     have p6:0≤(0:Int):=(by omega)
     have q6:0 < a0.size:=(by have:(0:Int) < (a0.size:Int):=da_;omega)
     have hx6:∀ h:0 < a0.size,((a0[0]'h).toNat:Int) = bt a0 0:=bt_at a0 0
     clear p6
     have qi6:(0 < (a0.size:Int)) = True:=eq_true (of_decide_eq_true (by first|(with_reducible assumption)|assumption))
     replace q6:=eq_true q6
     go_wp2
     go_meet
     case rel=>exact ⟨_,(((bt a0 0) == 48)),rg_,H',⟨by first|omega|exact Nat.le_refl _⟩,by repeat (first|exact Drawn0.refl _|apply Drawn0.step)⟩
    ·rw [if_neg c5] at H
     exact absurd H sm_
   ·rw [if_neg c4] at H
    have c4b0:decide (1 < (a0.size:Int)) = false:=decide_eq_false c4
    have c4b1:decide (1 < a0.size) = false:=decide_eq_false (by omega)
    clear c4
    have H':=Aside0.mk H
    clear H
    go_wp2
    go_meet
    case rel=>exact ⟨_,(false),rg_,H',⟨by first|omega|exact Nat.le_refl _⟩,by repeat (first|exact Drawn0.refl _|apply Drawn0.step)⟩
 case rest =>
  clear HC2
  obtain ⟨kq,x15_1,rfl,HA,HJ1,⟨mc1,rfl⟩⟩:=hcut
  cases kq with
  | zero=>exact absurd HA.out (by simp [natural_Valid.j0])
  | succ kj1 =>
   have H:=HA.out
   clear HA
   simp only [natural_Valid.j0] at H
   by_cases c7:x15_1 = true
   ·subst c7
    have H1:(some false) = some r:=by rw [if_pos rfl] at H;exact H
    clear H
    have H:=H1
    clear H1
    obtain rfl:=Option.some.inj H
    go_wp2
    go_ret
    exact ⟨by first|rfl|(simp;done)|(simp [*];done),by repeat (first|exact Drawn0.refl _|apply Drawn0.step)⟩
   ·replace c7:=Bool.eq_false_iff.mpr c7
    subst c7
    have H1:(natural_Valid.l0 kj1 a0 (a0.size:Int) 0) = some r:=by rw [if_neg (show ¬ (false = true) by decide)] at H;exact H
    clear H
    have H:=H1
    clear H1
    have H':=Aside0.mk H
    clear H
    go_wp2
    go_loopg [18] kj1 (fun kq v18 w'=>∃ (x18_2:Int),v18 = .int .i64 x18_2∧Aside0 (natural_Valid.l0 kq a0 (a0.size:Int) x18_2 = some r)∧Aside0 (kq≤kj1)∧Drawn0 w w')
    case atStart=>exact ⟨(0),rg_,H',⟨Nat.le_refl _⟩,by repeat (first|exact Drawn0.refl _|apply Drawn0.step)⟩
    case round =>
     clear H'
     try clear c7
     obtain ⟨x18_2,rfl,HA,HK2,⟨m2,rfl⟩⟩:=hrel
     cases gk with
     | zero=>exact absurd HA.out (by simp [natural_Valid.l0])
     | succ k2 =>
      have H:=HA.out
      clear HA
      simp only [natural_Valid.l0] at H
      by_cases c8:x18_2 < (a0.size:Int)
      ·rw [if_pos c8] at H
       have c8b0:decide (x18_2 < (a0.size:Int)) = true:=decide_eq_true c8
       clear c8
       by_cases c9:0≤x18_2
       ·rw [if_pos c9] at H
        have c9b0:decide (0≤x18_2) = true:=decide_eq_true c9
        clear c9
        by_cases c10:x18_2 < (a0.size:Int)
        ·rw [if_pos c10] at H
         have c10b0:decide (x18_2 < (a0.size:Int)) = true:=decide_eq_true c10
         clear c10
         by_cases c12:(bt a0 x18_2) < 48
         ·rw [if_pos c12] at H
          have c12b0:decide ((bt a0 x18_2) < 48) = true:=decide_eq_true c12
          clear c12
          obtain rfl:=Option.some.inj H
          have p11:0≤(x18_2:Int):=da_
          have q11:x18_2 < (a0.size:Int):=da_
          have hx11:=bt_at a0 x18_2
          replace p11:=eq_true p11
          replace q11:=eq_true q11
          go_wp2
          go_ret
          exact ⟨by first|rfl|(simp;done)|(simp [*];done),by repeat (first|exact Drawn0.refl _|apply Drawn0.step)⟩
         ·rw [if_neg c12] at H
          have c12b0:decide ((bt a0 x18_2) < 48) = false:=decide_eq_false c12
          clear c12
          by_cases c14:(bt a0 x18_2) > 57
          ·rw [if_pos c14] at H
           have c14b0:decide (57 < (bt a0 x18_2)) = true:=decide_eq_true c14
           clear c14
           obtain rfl:=Option.some.inj H
           have p11:0≤(x18_2:Int):=da_
           have q11:x18_2 < (a0.size:Int):=da_
           have hx11:=bt_at a0 x18_2
           replace p11:=eq_true p11
           replace q11:=eq_true q11
           have p13:0≤(x18_2:Int):=da_
           have q13:x18_2 < (a0.size:Int):=da_
           have hx13:=bt_at a0 x18_2
           replace p13:=eq_true p13
           replace q13:=eq_true q13
           go_wp2
           go_ret
           exact ⟨by first|rfl|(simp;done)|(simp [*];done),by repeat (first|exact Drawn0.refl _|apply Drawn0.step)⟩
          ·rw [if_neg c14] at H
           have c14b0:decide (57 < (bt a0 x18_2)) = false:=decide_eq_false c14
           clear c14
           have H':=Aside0.mk H
           clear H
           have p11:0≤(x18_2:Int):=da_
           have q11:x18_2 < (a0.size:Int):=da_
           have hx11:=bt_at a0 x18_2
           replace p11:=eq_true p11
           replace q11:=eq_true q11
           have p13:0≤(x18_2:Int):=da_
           have q13:x18_2 < (a0.size:Int):=da_
           have hx13:=bt_at a0 x18_2
           replace p13:=eq_true p13
           replace q13:=eq_true q13
           go_wp2
           go_roundg k2
           case measure=>have:=HJ1.out;have:=HK2.out;omega
           case rel=>exact ⟨(wrap64 (x18_2 + 1)),rg_,H',⟨by have:=HJ1.out;have:=HK2.out;omega⟩,by repeat (first|exact Drawn0.refl _|apply Drawn0.step)⟩
        ·rw [if_neg c10] at H
         exact absurd H sm_
       ·rw [if_neg c9] at H
        exact absurd H sm_
      ·rw [if_neg c8] at H
       have c8b0:decide (x18_2 < (a0.size:Int)) = false:=decide_eq_false c8
       clear c8
       obtain rfl:=Option.some.inj H
       go_wp2
       go_ret
       exact ⟨by first|rfl|(simp;done)|(simp [*];done),by repeat (first|exact Drawn0.refl _|apply Drawn0.step)⟩
end Go.Proofs.YtcmbggahndfnnaaGreatDoor.Pr
namespace Go.Proofs.YtcmbggahndfnnaaGreatDoor.Pr
open Go.RowKit Go.Proofs.YtcmbggahndfnnaaGreatDoorW.PrintWords Go.Proofs.YtcmbggahndfnnaaGreatDoorW.PrintLast Go.Proofs.YtcmbggahndfnnaaGreatDoorW.PrintMore
attribute [local go_sem] max2_int min2_int max_two min_two max_three min_three max_four min_four
set_option linter.unusedVariables false
set_option linter.unusedSimpArgs false
theorem eqA145 (d:Nat) (w:World) (x0 y0:Bool) (x1 y1:ByteArray) :
  (Op.equalIn (d + 2) 145 (.agg #[.bool x0,.string x1]) (.agg #[.bool y0,.string y1])).run Tryz.prog w = .ok (x0 == y0 && (x1.toList == y1.toList)) w:=by
 refine eqA_of Tryz.underlying145 (by kernel_rfl) ?_
 refine eqf_cons (by rfl) (by go_simp;rfl) (by go_simp;rfl) (by go_simp) ?_
 exact eqf_last (by rfl) (by go_simp;rfl) (by go_simp;rfl) (by go_simp)
end Go.Proofs.YtcmbggahndfnnaaGreatDoor.Pr
namespace Go.Proofs.YtcmbggahndfnnaaGreatDoor.Pr
open Go.RowKit Go.Proofs.YtcmbggahndfnnaaGreatDoorW.PrintWords Go.Proofs.YtcmbggahndfnnaaGreatDoorW.PrintLast Go.Proofs.YtcmbggahndfnnaaGreatDoorW.PrintMore
attribute [local go_sem] max2_int min2_int max_two min_two max_three min_three max_four min_four
set_option maxHeartbeats 8000000
set_option maxRecDepth 100000
set_option linter.unusedVariables false
set_option linter.unusedSimpArgs false
def stringslite_HasPrefix.f (a0:ByteArray) (a1:ByteArray):Option (Bool):=if (a0.size:Int) ≥ (a1.size:Int) then (if 0≤(a1.size:Int) then (if (a1.size:Int)≤(a0.size:Int) then (some ((a0.extract 0 ((a1.size:Int):Int).toNat).toList == a1.toList)) else (none)) else (none)) else (some false)
theorem stringslite_HasPrefix.calls (a0:ByteArray) (a1:ByteArray) (r:Bool) (w:World) (h:stringslite_HasPrefix.f a0 a1 = some r) :
  Calls Tryz.prog 135 #[.string a0,.string a1] w fun e w'=>e = .returned (.bool r)∧Drawn0 w w':=by
 have H:=h;clear h;unfold stringslite_HasPrefix.f at H
 by_cases c3:(a0.size:Int) ≥ (a1.size:Int)
 ·rw [if_pos c3] at H
  have c3b0:decide ((a1.size:Int)≤(a0.size:Int)) = true:=decide_eq_true c3
  have c3b1:decide (a1.size≤a0.size) = true:=decide_eq_true (Int.ofNat_le.mp c3)
  clear c3
  by_cases c4:0≤(a1.size:Int)
  ·rw [if_pos c4] at H
   have c4b0:=eq_true c4
   have c4b1:decide (0≤(a1.size:Int)) = true:=decide_eq_true c4
   clear c4
   by_cases c5:(a1.size:Int)≤(a0.size:Int)
   ·rw [if_pos c5] at H
    have c5b0:=eq_true c5
    have c5b1:decide ((a1.size:Int)≤(a0.size:Int)) = true:=decide_eq_true c5
    clear c5
    obtain rfl:=Option.some.inj H
    go_enter Tryz.func135,Tryz.ntmps135
    go_wp2
    go_ret
    exact ⟨by first|rfl|(simp;done)|(simp [*];done),by repeat (first|exact Drawn0.refl _|apply Drawn0.step)⟩
   ·rw [if_neg c5] at H
    exact absurd H sm_
  ·rw [if_neg c4] at H
   exact absurd H sm_
 ·rw [if_neg c3] at H
  have c3b0:decide ((a1.size:Int)≤(a0.size:Int)) = false:=decide_eq_false c3
  have c3b1:decide (a1.size≤a0.size) = false:=decide_eq_false (fun h=>c3 (Int.ofNat_le.mpr h))
  clear c3
  obtain rfl:=Option.some.inj H
  go_enter Tryz.func135,Tryz.ntmps135
  go_wp2
  go_ret
  exact ⟨by first|rfl|(simp;done)|(simp [*];done),by repeat (first|exact Drawn0.refl _|apply Drawn0.step)⟩
end Go.Proofs.YtcmbggahndfnnaaGreatDoor.Pr
namespace Go.Proofs.YtcmbggahndfnnaaGreatDoor.Pr
open Go.RowKit Go.Proofs.YtcmbggahndfnnaaGreatDoorW.PrintWords Go.Proofs.YtcmbggahndfnnaaGreatDoorW.PrintLast Go.Proofs.YtcmbggahndfnnaaGreatDoorW.PrintMore
attribute [local go_sem] max2_int min2_int max_two min_two max_three min_three max_four min_four
set_option maxHeartbeats 8000000
set_option maxRecDepth 100000
set_option linter.unusedVariables false
set_option linter.unusedSimpArgs false
def stringslite_CutPrefix.f (a0:ByteArray) (a1:ByteArray):Option (ByteArray × Bool):=(stringslite_HasPrefix.f a0 a1).bind fun t103=>(if t103 = true then (if 0≤(a1.size:Int) then (if (a1.size:Int)≤(a0.size:Int) then (some (a0.extract ((a1.size:Int):Int).toNat a0.size,true)) else (none)) else (none)) else (some (a0,false)))
theorem stringslite_CutPrefix.calls (a0:ByteArray) (a1:ByteArray) (r1:ByteArray) (r2:Bool) (w:World) (h:stringslite_CutPrefix.f a0 a1 = some (r1,r2)) :
  Calls Tryz.prog 126 #[.string a0,.string a1] w fun e w'=>e = .returned (.tuple #[.string r1,.bool r2])∧Drawn0 w w':=by
 have H:=h;clear h;unfold stringslite_CutPrefix.f at H
 obtain ⟨t103,A3,H⟩:=bn_ H
 by_cases c4:t103 = true
 ·subst c4
  have H1:(if 0≤(a1.size:Int) then (if (a1.size:Int)≤(a0.size:Int) then (some (a0.extract ((a1.size:Int):Int).toNat a0.size,true)) else (none)) else (none)) = some (r1,r2):=by rw [if_pos rfl] at H;exact H
  clear H
  have H:=H1
  clear H1
  by_cases c5:0≤(a1.size:Int)
  ·rw [if_pos c5] at H
   have c5b0:=eq_true c5
   have c5b1:decide (0≤(a1.size:Int)) = true:=decide_eq_true c5
   clear c5
   by_cases c6:(a1.size:Int)≤(a0.size:Int)
   ·rw [if_pos c6] at H
    have c6b0:=eq_true c6
    have c6b1:decide ((a1.size:Int)≤(a0.size:Int)) = true:=decide_eq_true c6
    clear c6
    simp only [Option.some.injEq,Prod.mk.injEq] at H
    obtain ⟨rfl,rfl⟩:=H
    go_enter Tryz.func126,Tryz.ntmps126
    go_wp2_with (first|((with_reducible refine gate_callee (f:=135) rfl ?_);refine gm_ (some 8) Tryz.func135 #[.string a0,.string a1] ?_;(with_reducible refine (stringslite_HasPrefix.calls a0 a1 true _ A3.out).mono ?_);rintro e w' ⟨rfl,⟨nd,rfl⟩⟩;refine ⟨_,rfl,?_⟩))
    go_ret2
    exact ⟨by first|rfl|(simp;done)|(simp [*];done),by repeat (first|exact Drawn0.refl _|apply Drawn0.step)⟩
   ·rw [if_neg c6] at H
    exact absurd H sm_
  ·rw [if_neg c5] at H
   exact absurd H sm_
 ·replace c4:=Bool.eq_false_iff.mpr c4
  subst c4
  have H1:(some (a0,false)) = some (r1,r2):=by rw [if_neg (show ¬ (false = true) by decide)] at H;exact H
  clear H
  have H:=H1
  clear H1
  simp only [Option.some.injEq,Prod.mk.injEq] at H
  obtain ⟨rfl,rfl⟩:=H
  go_enter Tryz.func126,Tryz.ntmps126
  go_wp2_with (first|((with_reducible refine gate_callee (f:=135) rfl ?_);refine gm_ (some 8) Tryz.func135 #[.string a0,.string a1] ?_;(with_reducible refine (stringslite_HasPrefix.calls a0 a1 false _ A3.out).mono ?_);rintro e w' ⟨rfl,⟨nd,rfl⟩⟩;refine ⟨_,rfl,?_⟩))
  go_ret2
  exact ⟨by first|rfl|(simp;done)|(simp [*];done),by repeat (first|exact Drawn0.refl _|apply Drawn0.step)⟩
end Go.Proofs.YtcmbggahndfnnaaGreatDoor.Pr
namespace Go.Proofs.YtcmbggahndfnnaaGreatDoor.Pr
open Go.RowKit Go.Proofs.YtcmbggahndfnnaaGreatDoorW.PrintWords Go.Proofs.YtcmbggahndfnnaaGreatDoorW.PrintLast Go.Proofs.YtcmbggahndfnnaaGreatDoorW.PrintMore
attribute [local go_sem] max2_int min2_int max_two min_two max_three min_three max_four min_four
set_option maxHeartbeats 8000000
set_option maxRecDepth 100000
set_option linter.unusedVariables false
set_option linter.unusedSimpArgs false
def strings_CutPrefix.f (a0:ByteArray) (a1:ByteArray):Option (ByteArray × Bool):=(stringslite_CutPrefix.f a0 a1).bind fun bt104=>(some (bt104.1,bt104.2))
theorem strings_CutPrefix.calls (a0:ByteArray) (a1:ByteArray) (r1:ByteArray) (r2:Bool) (w:World) (h:strings_CutPrefix.f a0 a1 = some (r1,r2)) :
  Calls Tryz.prog 113 #[.string a0,.string a1] w fun e w'=>e = .returned (.tuple #[.string r1,.bool r2])∧Drawn0 w w':=by
 have H:=h;clear h;unfold strings_CutPrefix.f at H
 obtain ⟨⟨t104,t105⟩,A3,H⟩:=bn_ H
 dsimp only at H
 simp only [Option.some.injEq,Prod.mk.injEq] at H
 obtain ⟨rfl,rfl⟩:=H
 go_enter Tryz.func113,Tryz.ntmps113
 go_wp2_with (first|((with_reducible refine gate_callee (f:=126) rfl ?_);refine gm_ (some 8) Tryz.func126 #[.string a0,.string a1] ?_;(with_reducible refine (stringslite_CutPrefix.calls a0 a1 t104 t105 _ A3.out).mono ?_);rintro e w' ⟨rfl,⟨nd,rfl⟩⟩;refine ⟨_,rfl,?_⟩))
 go_ret2
 exact ⟨by first|rfl|(simp;done)|(simp [*];done),by repeat (first|exact Drawn0.refl _|apply Drawn0.step)⟩
end Go.Proofs.YtcmbggahndfnnaaGreatDoor.Pr
namespace Go.Proofs.YtcmbggahndfnnaaGreatDoor.Pr
open Go.RowKit Go.Proofs.YtcmbggahndfnnaaGreatDoorW.PrintWords Go.Proofs.YtcmbggahndfnnaaGreatDoorW.PrintLast Go.Proofs.YtcmbggahndfnnaaGreatDoorW.PrintMore
attribute [local go_sem] max2_int min2_int max_two min_two max_three min_three max_four min_four
set_option maxHeartbeats 8000000
set_option maxRecDepth 100000
set_option linter.unusedVariables false
set_option linter.unusedSimpArgs false
attribute [local go_sem high] eqA145
def integer_read.f (k:Nat) (a0:ByteArray):Option (Bool × ByteArray × Bool):=(strings_CutPrefix.f a0 (⟨#[45]⟩:ByteArray)).bind fun bt107=>((natural_Valid.f k bt107.1).bind fun t110=>(if t110 = true then (some (bt107.2,bt107.1,(!bt107.2 || (!(bt107.1.toList == ([48]:List UInt8)))))) else (some (bt107.2,bt107.1,false))))
theorem integer_read.mono:∀ a0 k,LeO (integer_read.f k a0) (integer_read.f (k + 1) a0):=by intro a0 k;unfold integer_read.f;have:=@natural_Valid.mono;exact mn_
def integer_read.T3:Bool × List (List Nat × List Nat):=(true,[([],[]),([],[]),([1],[1]),([2,2],[2]),([3],[3]),([3],[3]),([4,5,3],[3,4,5]),([3,6],[3,6]),([0,3,0],[0]),([7,8,0,1,2,3,4,5,6,7,8],[7])])
def integer_read.B3:List Nat:=[0,0,2,6,14,14,62,126,15,511]
theorem integer_read.tab3:rtab .any (opsOf Tryz.f104 3) = integer_read.T3:=by kernel_rfl
theorem integer_read.bits3:waitsOk integer_read.T3.2 integer_read.B3 = true:=by kernel_rfl
theorem integer_read.calls (k:Nat) (a0:ByteArray) (r1:Bool) (r2:ByteArray) (r3:Bool) (w:World) (h:integer_read.f k a0 = some (r1,r2,r3)) :
  Calls Tryz.prog 104 #[.string a0] w fun e w'=>e = .returned (.tuple #[.agg #[.bool r1,.string r2],.bool r3])∧Below w.heap.size w w':=by
 have hu145:=Tryz.underlying145
 have HB:=Aside0.mk (Below.refl w.heap.size w)
 have H:=h;clear h;unfold integer_read.f at H
 obtain ⟨⟨t107,t108⟩,A2,H⟩:=bn_ H
 dsimp only at H
 obtain ⟨t110,A3,H⟩:=bn_ H
 by_cases c4:t110 = true
 ·subst c4
  have H1:(some (t108,t107,(!t108 || (!(t107.toList == ([48]:List UInt8)))))) = some (r1,r2,r3):=by rw [if_pos rfl] at H;exact H
  clear H
  have H:=H1
  clear H1
  simp only [Option.some.injEq,Prod.mk.injEq] at H
  obtain ⟨rfl,rfl,rfl⟩:=H
  go_enter Tryz.func104,Tryz.ntmps104
  try go_wp2_with (first|((with_reducible refine gate_dst (N:=2) rfl ?_);refine bv_ #[.bool false,.string (⟨#[]⟩:ByteArray)] 145 ?_;clear HB;intro gb106 hg w5 BK106 GE106 hb HB;clear hb hg)|((with_reducible refine gate_callee (f:=113) rfl ?_);refine gm_ (some 9) Tryz.func113 #[.string a0,.string (⟨#[45]⟩:ByteArray)] ?_;(with_reducible refine (strings_CutPrefix.calls a0 (⟨#[45]⟩:ByteArray) t107 t108 _ A2.out).mono ?_);rintro e w' ⟨rfl,⟨nd,rfl⟩⟩;refine ⟨_,rfl,?_⟩;(try (rw [drewN_self w5];generalize hq_:World.drewN w5 _ = w5;have n0_:Aside0 (w5.heap[gb106]? = some (.cells #[.bool false,.string (⟨#[]⟩:ByteArray)] 145 (0,0))):=⟨by rw [← hq_];exact bk_⟩;have n1_:Aside0 (Below w.heap.size w w5):=⟨by rw [← hq_];exact bx_⟩;clear BK106 HB hq_;have BK106:=n0_;have HB:=n1_;clear n0_ n1_)))|((with_reducible refine gate_dst (N:=6) rfl ?_);refine bv_ #[.bool false,.string (⟨#[]⟩:ByteArray)] 145 ?_;clear HB;intro gb109 hg w6 BK109 GE109 hb HB;have x_:=ol_ BK106 hg hb;clear BK106;obtain ⟨BK106,NB106_109,NB109_106⟩:=x_;clear hb hg;have hnb7:=NB109_106.out;have hnc7:=NB106_109.out;obtain ⟨hcz8_0,hcz8_1,hfz8_0,hfz8_1⟩:=c2_ BK109))
  generalize hw_:((w6.setCell ⟨gb109,0,none⟩ (.bool t108)).setCell ⟨gb109,1,none⟩ (.string t107)) = w9
  replace BK106:Aside0 (w9.heap[gb106]? = some (.cells #[.bool false,.string (⟨#[]⟩:ByteArray)] 145 (0,0))):=gk_ hw_
  replace BK109:Aside0 (w9.heap[gb109]? = some (.cells #[.bool t108,.string t107] 145 (0,0))):=gk_ hw_
  replace HB:=gb_ hw_
  clear hw_
  replace BK106:=dr_ BK106
  replace BK109:=dr_ BK109
  replace HB:=db_ HB
  refine start_ (n:=10) (S:=fun w'=>w'.cell? ⟨gb109,0,none⟩ = some (.bool t108)∧w'.cell? ⟨gb109,1,none⟩ = some (.string t107)) (ds:=[]) #[false,false,false,false,false,false,false,false,false,false] kr_ rfl rfl hc_ (fun hHeld=>?_);refine with_tabW integer_read.tab3 integer_read.bits3 (fun HT_ HW_=>?_)
  generalize w9.drew = w10 at BK106 BK109 HB hHeld ⊢
  refine pu_ 1 (some 16) #[false,true,false,false,false,false,false,false,false,false] ?_
  refine tk_ 0 (some 15) #[true,true,false,false,false,false,false,false,false,false] hHeld ?_
  refine oc_ 2 (some 17) #[true,true,true,false,false,false,false,false,false,false] Tryz.func86 #[.string t107] (fun K hK=>?_)
  with_reducible refine (natural_Valid.calls k t107 true _ A3.out).mono ?_
  rintro e w' ⟨rfl,⟨nd,rfl⟩⟩
  refine ⟨_,rfl,?_⟩
  refine hk_ hK (fun hHeld=>?_);clear hK K
  refine pu_ 3 (some 18) #[true,true,true,true,false,false,false,false,false,false] ?_
  refine pu_ 5 (some 20) #[true,true,true,true,false,true,false,false,false,false] ?_
  refine tk_ 4 (some 19) #[true,true,true,true,true,true,false,false,false,false] hHeld ?_
  refine pu_ 6 (some 21) #[true,true,true,true,true,true,true,false,false,false] ?_
  refine pu_ 7 (some 22) #[true,true,true,true,true,true,true,true,false,false] ?_
  refine one_ (i:=8) (N:=none) #[true,true,true,true,true,true,true,true,true,false] rfl rfl (one_of HT_.out kr_) de_ (fun K hK=>?_)
  have hs11:w10.cell? ⟨gb106,0,none⟩ = some (.bool false):=(blk_cell BK106.out 0).trans rfl
  have hfs11:=blk_frozen BK106.out 0
  have hns11_1:=NB109_106.out
  have hms11_1:=NB106_109.out
  have hs12:w10.cell? ⟨gb106,1,none⟩ = some (.string (⟨#[]⟩:ByteArray)):=(blk_cell BK106.out 1).trans rfl
  have hfs12:=blk_frozen BK106.out 1
  have hns12_1:=NB109_106.out
  have hms12_1:=NB106_109.out
  refine skip_ (w1:=?_) (by rfl) rfl ?_ ?_
  rotate_left
  ·go_simp
   rfl
  refine hK.out _ _ ⟨((cell_far (p:=⟨gb106,_,none⟩) NB109_106.out _).trans (((cell_far (p:=⟨gb106,_,none⟩) NB109_106.out _).trans (hHeld.1)))),((cell_far (p:=⟨gb106,_,none⟩) NB109_106.out _).trans (((cell_far (p:=⟨gb106,_,none⟩) NB109_106.out _).trans (hHeld.2))))⟩ (fun hHeld=>?_)
  clear hK K
  refine pu_ 9 (some 3) #[true,true,true,true,true,true,true,true,true,true] ?_
  refine done_ (done_of HT_.out kr_) ?_
  try go_wp2
  refine bodyPost_ret (results_ct rfl _ _ gb106 145 #[.bool t108,.string t107] (0,0) _ rfl bk_ Tryz.underlying145 rfl kr_) rfl ?_
  exact ⟨rf_,bx_⟩
 ·replace c4:=Bool.eq_false_iff.mpr c4
  subst c4
  have H1:(some (t108,t107,false)) = some (r1,r2,r3):=by rw [if_neg (show ¬ (false = true) by decide)] at H;exact H
  clear H
  have H:=H1
  clear H1
  simp only [Option.some.injEq,Prod.mk.injEq] at H
  obtain ⟨rfl,rfl,rfl⟩:=H
  go_enter Tryz.func104,Tryz.ntmps104
  try go_wp2_with (first|((with_reducible refine gate_dst (N:=2) rfl ?_);refine bv_ #[.bool false,.string (⟨#[]⟩:ByteArray)] 145 ?_;clear HB;intro gb106 hg w13 BK106 GE106 hb HB;clear hb hg)|((with_reducible refine gate_callee (f:=113) rfl ?_);refine gm_ (some 9) Tryz.func113 #[.string a0,.string (⟨#[45]⟩:ByteArray)] ?_;(with_reducible refine (strings_CutPrefix.calls a0 (⟨#[45]⟩:ByteArray) t107 t108 _ A2.out).mono ?_);rintro e w' ⟨rfl,⟨nd,rfl⟩⟩;refine ⟨_,rfl,?_⟩;(try (rw [drewN_self w13];generalize hq_:World.drewN w13 _ = w13;have n0_:Aside0 (w13.heap[gb106]? = some (.cells #[.bool false,.string (⟨#[]⟩:ByteArray)] 145 (0,0))):=⟨by rw [← hq_];exact bk_⟩;have n1_:Aside0 (Below w.heap.size w w13):=⟨by rw [← hq_];exact bx_⟩;clear BK106 HB hq_;have BK106:=n0_;have HB:=n1_;clear n0_ n1_)))|((with_reducible refine gate_dst (N:=6) rfl ?_);refine bv_ #[.bool false,.string (⟨#[]⟩:ByteArray)] 145 ?_;clear HB;intro gb109 hg w14 BK109 GE109 hb HB;have x_:=ol_ BK106 hg hb;clear BK106;obtain ⟨BK106,NB106_109,NB109_106⟩:=x_;clear hb hg;have hnb15:=NB109_106.out;have hnc15:=NB106_109.out;obtain ⟨hcz16_0,hcz16_1,hfz16_0,hfz16_1⟩:=c2_ BK109))
  generalize hw_:((w14.setCell ⟨gb109,0,none⟩ (.bool t108)).setCell ⟨gb109,1,none⟩ (.string t107)) = w17
  replace BK106:Aside0 (w17.heap[gb106]? = some (.cells #[.bool false,.string (⟨#[]⟩:ByteArray)] 145 (0,0))):=gk_ hw_
  replace BK109:Aside0 (w17.heap[gb109]? = some (.cells #[.bool t108,.string t107] 145 (0,0))):=gk_ hw_
  replace HB:=gb_ hw_
  clear hw_
  replace BK106:=dr_ BK106
  replace BK109:=dr_ BK109
  replace HB:=db_ HB
  refine start_ (n:=10) (S:=fun w'=>w'.cell? ⟨gb109,0,none⟩ = some (.bool t108)∧w'.cell? ⟨gb109,1,none⟩ = some (.string t107)) (ds:=[]) #[false,false,false,false,false,false,false,false,false,false] kr_ rfl rfl hc_ (fun hHeld=>?_);refine with_tabW integer_read.tab3 integer_read.bits3 (fun HT_ HW_=>?_)
  generalize w17.drew = w18 at BK106 BK109 HB hHeld ⊢
  refine pu_ 1 (some 16) #[false,true,false,false,false,false,false,false,false,false] ?_
  refine tk_ 0 (some 15) #[true,true,false,false,false,false,false,false,false,false] hHeld ?_
  refine oc_ 2 (some 17) #[true,true,true,false,false,false,false,false,false,false] Tryz.func86 #[.string t107] (fun K hK=>?_)
  with_reducible refine (natural_Valid.calls k t107 false _ A3.out).mono ?_
  rintro e w' ⟨rfl,⟨nd,rfl⟩⟩
  refine ⟨_,rfl,?_⟩
  refine hk_ hK (fun hHeld=>?_);clear hK K
  refine pu_ 3 (some 18) #[true,true,true,true,false,false,false,false,false,false] ?_
  refine pure_ (i:=4) (N:=some 19) (v:=undef) (a':=?_) #[true,true,true,true,true,false,false,false,false,false] rfl rfl (any_of HT_.out kr_) (fun _ _ _ h=>h) (Or.inr ⟨by rfl,rfl⟩) ?_ ?_
  rotate_left
  ·simp only [Act.put,List.setIfInBounds_toArray,List.set_cons_zero,List.set_cons_succ,i64_w,i32_w]
   rfl
  refine pure_ (i:=5) (N:=some 20) (v:=undef) (a':=?_) #[true,true,true,true,true,true,false,false,false,false] rfl rfl (any_of HT_.out kr_) (fun _ _ _ h=>h) (Or.inr ⟨by rfl,rfl⟩) ?_ ?_
  rotate_left
  ·simp only [Act.put,List.setIfInBounds_toArray,List.set_cons_zero,List.set_cons_succ,i64_w,i32_w]
   rfl
  refine pure_ (i:=6) (N:=some 21) (v:=undef) (a':=?_) #[true,true,true,true,true,true,true,false,false,false] rfl rfl (any_of HT_.out kr_) (fun _ _ _ h=>h) (Or.inr ⟨by rfl,rfl⟩) ?_ ?_
  rotate_left
  ·simp only [Act.put,List.setIfInBounds_toArray,List.set_cons_zero,List.set_cons_succ,i64_w,i32_w]
   rfl
  refine pu_ 7 (some 22) #[true,true,true,true,true,true,true,true,false,false] ?_
  refine one_ (i:=8) (N:=none) #[true,true,true,true,true,true,true,true,true,false] rfl rfl (one_of HT_.out kr_) de_ (fun K hK=>?_)
  have hs19:w18.cell? ⟨gb106,0,none⟩ = some (.bool false):=(blk_cell BK106.out 0).trans rfl
  have hfs19:=blk_frozen BK106.out 0
  have hns19_1:=NB109_106.out
  have hms19_1:=NB106_109.out
  have hs20:w18.cell? ⟨gb106,1,none⟩ = some (.string (⟨#[]⟩:ByteArray)):=(blk_cell BK106.out 1).trans rfl
  have hfs20:=blk_frozen BK106.out 1
  have hns20_1:=NB109_106.out
  have hms20_1:=NB106_109.out
  refine skip_ (w1:=?_) (by rfl) rfl ?_ ?_
  rotate_left
  ·go_simp
   rfl
  refine hK.out _ _ ⟨((cell_far (p:=⟨gb106,_,none⟩) NB109_106.out _).trans (((cell_far (p:=⟨gb106,_,none⟩) NB109_106.out _).trans (hHeld.1)))),((cell_far (p:=⟨gb106,_,none⟩) NB109_106.out _).trans (((cell_far (p:=⟨gb106,_,none⟩) NB109_106.out _).trans (hHeld.2))))⟩ (fun hHeld=>?_)
  clear hK K
  refine pu_ 9 (some 3) #[true,true,true,true,true,true,true,true,true,true] ?_
  refine done_ (done_of HT_.out kr_) ?_
  try go_wp2
  refine bodyPost_ret (results_ct rfl _ _ gb106 145 #[.bool t108,.string t107] (0,0) _ rfl bk_ Tryz.underlying145 rfl kr_) rfl ?_
  exact ⟨rf_,bx_⟩
end Go.Proofs.YtcmbggahndfnnaaGreatDoor.Pr
namespace Go.Proofs.YtcmbggahndfnnaaGreatDoor.Pr
open Go.RowKit Go.Proofs.YtcmbggahndfnnaaGreatDoorW.PrintWords Go.Proofs.YtcmbggahndfnnaaGreatDoorW.PrintLast Go.Proofs.YtcmbggahndfnnaaGreatDoorW.PrintMore
attribute [local go_sem] max2_int min2_int max_two min_two max_three min_three max_four min_four
set_option maxHeartbeats 8000000
set_option maxRecDepth 100000
set_option linter.unusedVariables false
set_option linter.unusedSimpArgs false
def integer_Valid.f (k:Nat) (a0:ByteArray):Option (Bool):=(integer_read.f k a0).bind fun bt111=>(some bt111.2.2)
theorem integer_Valid.mono:∀ a0 k,LeO (integer_Valid.f k a0) (integer_Valid.f (k + 1) a0):=by intro a0 k;unfold integer_Valid.f;have:=@integer_read.mono;exact mn_
theorem integer_Valid.calls (k:Nat) (a0:ByteArray) (r:Bool) (w:World) (h:integer_Valid.f k a0 = some r) :
  Calls Tryz.prog 85 #[.string a0] w fun e w'=>e = .returned (.bool r)∧Below w.heap.size w w':=by
 have hu145:=Tryz.underlying145
 have HB:=Aside0.mk (Below.refl w.heap.size w)
 have H:=h;clear h;unfold integer_Valid.f at H
 obtain ⟨⟨t111,t112,t113⟩,A2,H⟩:=bn_ H
 dsimp only at H
 obtain rfl:=Option.some.inj H
 go_enter Tryz.func85,Tryz.ntmps85
 go_wp2_with (first|((with_reducible refine gate_callee (f:=104) rfl ?_);refine gl_ (some 7) Tryz.func104 #[.string a0] (integer_read.calls k a0 t111 t112 t113 _ A2.out) ?_;clear HB;intro w3 hb HB;clear hb)|((with_reducible refine gate_dst (N:=3) rfl ?_);refine bv_ #[.bool false,.string (⟨#[]⟩:ByteArray)] 145 ?_;clear HB;intro gb114 hg w4 BK114 GE114 hb HB;clear hb hg;obtain ⟨hcz5_0,hcz5_1,hfz5_0,hfz5_1⟩:=c2_ BK114))
 go_ret
 exact ⟨rf_,bx_⟩
end Go.Proofs.YtcmbggahndfnnaaGreatDoor.Pr
namespace Go.Proofs.YtcmbggahndfnnaaGreatDoor.Pr
open Go.RowKit Go.Proofs.YtcmbggahndfnnaaGreatDoorW.PrintWords Go.Proofs.YtcmbggahndfnnaaGreatDoorW.PrintLast Go.Proofs.YtcmbggahndfnnaaGreatDoorW.PrintMore
attribute [local go_sem] max2_int min2_int max_two min_two max_three min_three max_four min_four
set_option maxHeartbeats 8000000
set_option maxRecDepth 100000
set_option linter.unusedVariables false
set_option linter.unusedSimpArgs false
def integer_zero.f :Option (Bool × ByteArray):=some (false,(⟨#[48]⟩:ByteArray))
theorem integer_zero.calls  (r1:Bool) (r2:ByteArray) (w:World) (h:integer_zero.f  = some (r1,r2)) :
  Calls Tryz.prog 136 #[] w fun e w'=>e = .returned (.agg #[.bool r1,.string r2])∧Below w.heap.size w w':=by
 have hu145:=Tryz.underlying145
 have HB:=Aside0.mk (Below.refl w.heap.size w)
 have H:=h;clear h;unfold integer_zero.f at H
 simp only [Option.some.injEq,Prod.mk.injEq] at H
 obtain ⟨rfl,rfl⟩:=H
 go_enter Tryz.func136,Tryz.ntmps136
 go_wp2_with (first|((with_reducible refine gate_dst (N:=0) rfl ?_);refine bv_ #[.bool false,.string (⟨#[]⟩:ByteArray)] 145 ?_;clear HB;intro gb115 hg w1 BK115 GE115 hb HB;clear hb hg;obtain ⟨hcz2_0,hcz2_1,hfz2_0,hfz2_1⟩:=c2_ BK115))
 refine bodyPost_ret (results_cell_row rfl _ _ gb115 145 #[.bool false,.string (⟨#[48]⟩:ByteArray)] (0,0) _ rfl bk_ Tryz.underlying145 rfl kr_) rfl ?_
 exact ⟨rf_,bx_⟩
end Go.Proofs.YtcmbggahndfnnaaGreatDoor.Pr
namespace Go.Proofs.YtcmbggahndfnnaaGreatDoor.Pr
open Go.RowKit Go.Proofs.YtcmbggahndfnnaaGreatDoorW.PrintWords Go.Proofs.YtcmbggahndfnnaaGreatDoorW.PrintLast Go.Proofs.YtcmbggahndfnnaaGreatDoorW.PrintMore
attribute [local go_sem] max2_int min2_int max_two min_two max_three min_three max_four min_four
set_option maxHeartbeats 8000000
set_option maxRecDepth 100000
set_option linter.unusedVariables false
set_option linter.unusedSimpArgs false
def integer_both.j0:Nat→Bool→Bool→ByteArray→Bool→ByteArray→Option (Bool × ByteArray × Bool × ByteArray × Int)
 | 0,_,_,_,_,_=>none
 | k + 1,x26,x122000,x122001,x126000,x126001=>if x26 = true then ((integer_zero.f).bind fun bt126=>((integer_zero.f).bind fun bt128=>(some (bt126.1,bt126.2,bt128.1,bt128.2,1)))) else (some (x122000,x122001,x126000,x126001,0))
def integer_both.f (k:Nat) (a0:ByteArray) (a1:ByteArray):Option (Bool × ByteArray × Bool × ByteArray × Int):=(integer_read.f k a0).bind fun bt118=>((integer_read.f k a1).bind fun bt122=>(if bt118.2.2 = true then (integer_both.j0 k (!bt122.2.2) bt118.1 bt118.2.1 bt122.1 bt122.2.1) else (integer_both.j0 k true bt118.1 bt118.2.1 bt122.1 bt122.2.1)))
theorem integer_both.mono_l:∀ k,(∀ y0 y1 y2 y3 y4,LeO (integer_both.j0 k y0 y1 y2 y3 y4) (integer_both.j0 (k + 1) y0 y1 y2 y3 y4))
 | 0=>fun _ _ _ _ _ r h=>by simp [integer_both.j0] at h
 | k + 1=>by
  have ih0:=integer_both.mono_l k
  ·intro y0 y1 y2 y3 y4
   unfold integer_both.j0
   repeat' first
   | (with_reducible exact ih0 _ _ _ _ _)
   | (with_reducible exact integer_read.mono _ _)
   | (with_reducible exact LeO.refl _)
   | (with_reducible exact LeO.none _)
   | (with_reducible refine LeO.ite ?_ ?_)
   | (with_reducible refine LeO.bind ?_ (fun _=>?_))
   | exact ih0 _ _ _ _ _
   | exact integer_read.mono _ _
   | exact LeO.none _
   | refine LeO.ite ?_ ?_
   | refine LeO.bind ?_ (fun _=>?_)
theorem integer_both.mono:∀ a0 a1 k,LeO (integer_both.f k a0 a1) (integer_both.f (k + 1) a0 a1):=by
 intro a0 a1 k
 have ih0:=integer_both.mono_l k
 unfold integer_both.f
 repeat' first
   | (with_reducible exact ih0 _ _ _ _ _)
   | (with_reducible exact integer_read.mono _ _)
   | (with_reducible exact LeO.refl _)
   | (with_reducible exact LeO.none _)
   | (with_reducible refine LeO.ite ?_ ?_)
   | (with_reducible refine LeO.bind ?_ (fun _=>?_))
   | exact ih0 _ _ _ _ _
   | exact integer_read.mono _ _
   | exact LeO.none _
   | refine LeO.ite ?_ ?_
   | refine LeO.bind ?_ (fun _=>?_)
theorem integer_both.calls (k:Nat) (a0:ByteArray) (a1:ByteArray) (r1:Bool) (r2:ByteArray) (r3:Bool) (r4:ByteArray) (r5:Int) (w:World) (h:integer_both.f k a0 a1 = some (r1,r2,r3,r4,r5)) :
  Calls Tryz.prog 127 #[.string a0,.string a1] w fun e w'=>e = .returned (.tuple #[.agg #[.bool r1,.string r2],.agg #[.bool r3,.string r4],.int .i64 r5])∧Below w.heap.size w w':=by
 have hu145:=Tryz.underlying145
 have HB:=Aside0.mk (Below.refl w.heap.size w)
 have H:=h;clear h;unfold integer_both.f at H
 obtain ⟨⟨t118,t119,t120⟩,A3,H⟩:=bn_ H
 dsimp only at H
 obtain ⟨⟨t122,t123,t124⟩,A4,H⟩:=bn_ H
 dsimp only at H
 have HC5:=Aside0.mk H
 clear H
 go_enter Tryz.func127,Tryz.ntmps127
 go_upto_region 3 with (first|((with_reducible refine gate_dst (N:=4) rfl ?_);refine bv_ #[.bool false,.string (⟨#[]⟩:ByteArray)] 145 ?_;clear HB;intro gb116 hg w6 BK116 GE116 hb HB;clear hb hg)|((with_reducible refine gate_dst (N:=5) rfl ?_);refine bv_ #[.bool false,.string (⟨#[]⟩:ByteArray)] 145 ?_;clear HB;intro gb117 hg w7 BK117 GE117 hb HB;have x_:=ol_ BK116 hg hb;clear BK116;obtain ⟨BK116,NB116_117,NB117_116⟩:=x_;clear hb hg)|((with_reducible refine gate_callee (f:=104) rfl ?_);refine gl_ (some 13) Tryz.func104 #[.string a0] (integer_read.calls k a0 t118 t119 t120 _ A3.out) ?_;clear HB;intro w8 hb HB;replace BK116:=bb_ BK116 hb;replace BK117:=bb_ BK117 hb;clear hb)|((with_reducible refine gate_dst (N:=7) rfl ?_);refine bv_ #[.bool false,.string (⟨#[]⟩:ByteArray)] 145 ?_;clear HB;intro gb121 hg w9 BK121 GE121 hb HB;have x_:=ol_ BK116 hg hb;clear BK116;obtain ⟨BK116,NB116_121,NB121_116⟩:=x_;have x_:=ol_ BK117 hg hb;clear BK117;obtain ⟨BK117,NB117_121,NB121_117⟩:=x_;clear hb hg;have hnb10:=NB121_116.out;have hnc10:=NB116_121.out;have hnb11:=NB121_117.out;have hnc11:=NB117_121.out;obtain ⟨hcz12_0,hcz12_1,hfz12_0,hfz12_1⟩:=c2_ BK121)|((with_reducible refine gate_callee (f:=104) rfl ?_);refine gm_ (some 18) Tryz.func104 #[.string a1] ?_;(with_reducible refine (integer_read.calls k a1 t122 t123 t124 _ A4.out).mono ?_);rintro e w13 ⟨rfl,hb⟩;refine ⟨_,rfl,?_⟩;replace BK116:=Aside0.mk (blk_below (g:=gb116) (o:=.cells #[.bool false,.string (⟨#[]⟩:ByteArray)] 145 (0,0)) bk_ hb);replace BK117:=Aside0.mk (blk_below (g:=gb117) (o:=.cells #[.bool false,.string (⟨#[]⟩:ByteArray)] 145 (0,0)) bk_ hb);replace BK121:=Aside0.mk (blk_below (g:=gb121) (o:=.cells #[.bool t118,.string t119] 145 (0,0)) bk_ hb);replace HB:=bs_ hb;(try clear hb))|((with_reducible refine gate_dst (N:=9) rfl ?_);refine bv_ #[.bool false,.string (⟨#[]⟩:ByteArray)] 145 ?_;clear HB;intro gb125 hg w14 BK125 GE125 hb HB;have x_:=ol_ BK116 hg hb;clear BK116;obtain ⟨BK116,NB116_125,NB125_116⟩:=x_;have x_:=ol_ BK117 hg hb;clear BK117;obtain ⟨BK117,NB117_125,NB125_117⟩:=x_;have x_:=ol_ BK121 hg hb;clear BK121;obtain ⟨BK121,NB121_125,NB125_121⟩:=x_;clear hb hg;have hnb15:=NB125_116.out;have hnc15:=NB116_125.out;have hnb16:=NB125_117.out;have hnc16:=NB117_125.out;have hnb17:=NB125_121.out;have hnc17:=NB121_125.out;obtain ⟨hcz18_0,hcz18_1,hfz18_0,hfz18_1⟩:=c2_ BK125))
 (try simp only [Act.put,List.setIfInBounds_toArray,List.set_cons_zero,List.set_cons_succ])
 go_cut [26] (fun v26 wc=>∃ (kq:Nat) (x26_4:Bool),v26 = .bool x26_4∧Aside0 (integer_both.j0 kq x26_4 t118 t119 t122 t123 = some (r1,r2,r3,r4,r5))∧Aside0 (kq≤k)∧Aside0 (wc.heap[gb116]? = some (.cells #[.bool false,.string (⟨#[]⟩:ByteArray)] 145 (0,0)))∧Aside0 (wc.heap[gb117]? = some (.cells #[.bool false,.string (⟨#[]⟩:ByteArray)] 145 (0,0)))∧Aside0 (wc.heap[gb121]? = some (.cells #[.bool t118,.string t119] 145 (0,0)))∧Aside0 (wc.heap[gb125]? = some (.cells #[.bool t122,.string t123] 145 (0,0)))∧Aside0 (Below w.heap.size w wc))
 case first =>
  have H:=HC5.out
  clear HC5
  by_cases c19:t120 = true
  ·subst c19
   have H1:(integer_both.j0 k (!t124) t118 t119 t122 t123) = some (r1,r2,r3,r4,r5):=by rw [if_pos rfl] at H;exact H
   clear H
   have H:=H1
   clear H1
   have H':=Aside0.mk H
   clear H
   go_wp2
   go_meet
   case rel=>exact ⟨_,(!t124),rg_,H',⟨by first|omega|exact Nat.le_refl _⟩,⟨bk_⟩,⟨bk_⟩,⟨bk_⟩,⟨bk_⟩,⟨bx_⟩⟩
  ·replace c19:=Bool.eq_false_iff.mpr c19
   subst c19
   have H1:(integer_both.j0 k true t118 t119 t122 t123) = some (r1,r2,r3,r4,r5):=by rw [if_neg (show ¬ (false = true) by decide)] at H;exact H
   clear H
   have H:=H1
   clear H1
   have H':=Aside0.mk H
   clear H
   go_wp2
   go_meet
   case rel=>exact ⟨_,(true),rg_,H',⟨by first|omega|exact Nat.le_refl _⟩,⟨bk_⟩,⟨bk_⟩,⟨bk_⟩,⟨bk_⟩,⟨bx_⟩⟩
 case rest =>
  clear HC5
  try clear hcz12_0
  try clear hcz12_1
  try clear hcz18_0
  try clear hcz18_1
  try clear hfz12_0
  try clear hfz12_1
  try clear hfz18_0
  try clear hfz18_1
  obtain ⟨kq,x26_4,rfl,HA,HJ4,BK116,BK117,BK121,BK125,HB⟩:=hcut
  cases kq with
  | zero=>exact absurd HA.out (by simp [integer_both.j0])
  | succ kj4 =>
   have H:=HA.out
   clear HA
   simp only [integer_both.j0] at H
   by_cases c20:x26_4 = true
   ·subst c20
    have H1:((integer_zero.f).bind fun bt126=>((integer_zero.f).bind fun bt128=>(some (bt126.1,bt126.2,bt128.1,bt128.2,1)))) = some (r1,r2,r3,r4,r5):=by rw [if_pos rfl] at H;exact H
    clear H
    have H:=H1
    clear H1
    obtain ⟨⟨t126,t127⟩,A21,H⟩:=bn_ H
    dsimp only at H
    obtain ⟨⟨t128,t129⟩,A22,H⟩:=bn_ H
    dsimp only at H
    simp only [Option.some.injEq,Prod.mk.injEq] at H
    obtain ⟨rfl,rfl,rfl,rfl,rfl⟩:=H
    go_wp2_with (first|((with_reducible refine gate_callee (f:=136) rfl ?_);refine gl_ (some 27) Tryz.func136 #[] (integer_zero.calls  t126 t127 _ A21.out) ?_;clear HB;intro w23 hb HB;replace BK116:=bb_ BK116 hb;replace BK117:=bb_ BK117 hb;replace BK121:=bb_ BK121 hb;replace BK125:=bb_ BK125 hb;clear hb)|((with_reducible refine gate_callee (f:=136) rfl ?_);refine gl_ (some 28) Tryz.func136 #[] (integer_zero.calls  t128 t129 _ A22.out) ?_;clear HB;intro w24 hb HB;replace BK116:=bb_ BK116 hb;replace BK117:=bb_ BK117 hb;replace BK121:=bb_ BK121 hb;replace BK125:=bb_ BK125 hb;clear hb;have hnb25:=NB116_117.out;have hnc25:=NB117_116.out;have hnb26:=NB116_121.out;have hnc26:=NB121_116.out;have hnb27:=NB116_125.out;have hnc27:=NB125_116.out;obtain ⟨hcz28_0,hcz28_1,hfz28_0,hfz28_1⟩:=c2_ BK116;have hnb29:=NB117_121.out;have hnc29:=NB121_117.out;have hnb30:=NB117_125.out;have hnc30:=NB125_117.out;obtain ⟨hcz31_0,hcz31_1,hfz31_0,hfz31_1⟩:=c2_ BK117))
    refine bodyPost_ret (results_list (rs:=[.cell 4 145,.cell 5 145,.tmp 6]) rfl sm_ (.cell gb116 145 #[.bool t126,.string t127] (0,0) _ rfl bk_ Tryz.underlying145 rfl kr_ (.cell gb117 145 #[.bool t128,.string t129] (0,0) _ rfl bk_ Tryz.underlying145 rfl kr_ (.tmp .nil)))) rfl ?_
    exact ⟨rf_,bx_⟩
   ·replace c20:=Bool.eq_false_iff.mpr c20
    subst c20
    have H1:(some (t118,t119,t122,t123,0)) = some (r1,r2,r3,r4,r5):=by rw [if_neg (show ¬ (false = true) by decide)] at H;exact H
    clear H
    have H:=H1
    clear H1
    simp only [Option.some.injEq,Prod.mk.injEq] at H
    obtain ⟨rfl,rfl,rfl,rfl,rfl⟩:=H
    try go_wp2
    replace BK116:=dr_ BK116
    replace BK117:=dr_ BK117
    replace BK121:=dr_ BK121
    replace BK125:=dr_ BK125
    replace HB:=db_ HB
    refine start_ (n:=5) (S:=fun w'=>w'.cell? ⟨gb121,0,none⟩ = some (.bool t118)∧w'.cell? ⟨gb121,1,none⟩ = some (.string t119)∧w'.cell? ⟨gb125,0,none⟩ = some (.bool t122)∧w'.cell? ⟨gb125,1,none⟩ = some (.string t123)) (ds:=[]) #[false,false,false,false,false] kr_ rfl rfl hc_ (fun hHeld=>?_)
    generalize wc.drew = w32 at BK116 BK117 BK121 BK125 HB hHeld ⊢
    refine tk_ 0 (some 29) #[true,false,false,false,false] hHeld ?_
    refine tk_ 1 (some 30) #[true,true,false,false,false] hHeld ?_
    refine one_ (i:=2) (N:=none) #[true,true,true,false,false] rfl rfl kr_ de_ (fun K hK=>?_)
    have hs33:w32.cell? ⟨gb116,0,none⟩ = some (.bool false):=(blk_cell BK116.out 0).trans rfl
    have hfs33:=blk_frozen BK116.out 0
    have hns33_1:=NB117_116.out
    have hns33_2:=NB121_116.out
    have hns33_3:=NB125_116.out
    have hms33_1:=NB116_117.out
    have hms33_2:=NB116_121.out
    have hms33_3:=NB116_125.out
    have hs34:w32.cell? ⟨gb116,1,none⟩ = some (.string (⟨#[]⟩:ByteArray)):=(blk_cell BK116.out 1).trans rfl
    have hfs34:=blk_frozen BK116.out 1
    have hns34_1:=NB117_116.out
    have hns34_2:=NB121_116.out
    have hns34_3:=NB125_116.out
    have hms34_1:=NB116_117.out
    have hms34_2:=NB116_121.out
    have hms34_3:=NB116_125.out
    refine skip_ (w1:=?_) (by rfl) rfl ?_ ?_
    rotate_left
    ·go_simp
     rfl
    refine hK.out _ _ ⟨((cell_far (p:=⟨gb116,_,none⟩) NB121_116.out _).trans (((cell_far (p:=⟨gb116,_,none⟩) NB121_116.out _).trans (hHeld.1)))),((cell_far (p:=⟨gb116,_,none⟩) NB121_116.out _).trans (((cell_far (p:=⟨gb116,_,none⟩) NB121_116.out _).trans (hHeld.2.1)))),((cell_far (p:=⟨gb116,_,none⟩) NB125_116.out _).trans (((cell_far (p:=⟨gb116,_,none⟩) NB125_116.out _).trans (hHeld.2.2.1)))),((cell_far (p:=⟨gb116,_,none⟩) NB125_116.out _).trans (((cell_far (p:=⟨gb116,_,none⟩) NB125_116.out _).trans (hHeld.2.2.2))))⟩ (fun hHeld=>?_)
    clear hK K
    refine one_ (i:=3) (N:=none) #[true,true,true,true,false] rfl rfl kr_ de_ (fun K hK=>?_)
    have hs35:w32.cell? ⟨gb117,0,none⟩ = some (.bool false):=(blk_cell BK117.out 0).trans rfl
    have hfs35:=blk_frozen BK117.out 0
    have hns35_0:=NB116_117.out
    have hns35_2:=NB121_117.out
    have hns35_3:=NB125_117.out
    have hms35_0:=NB117_116.out
    have hms35_2:=NB117_121.out
    have hms35_3:=NB117_125.out
    have hs36:w32.cell? ⟨gb117,1,none⟩ = some (.string (⟨#[]⟩:ByteArray)):=(blk_cell BK117.out 1).trans rfl
    have hfs36:=blk_frozen BK117.out 1
    have hns36_0:=NB116_117.out
    have hns36_2:=NB121_117.out
    have hns36_3:=NB125_117.out
    have hms36_0:=NB117_116.out
    have hms36_2:=NB117_121.out
    have hms36_3:=NB117_125.out
    refine skip_ (w1:=?_) (by rfl) rfl ?_ ?_
    rotate_left
    ·go_simp
     rfl
    refine hK.out _ _ ⟨((cell_far (p:=⟨gb117,_,none⟩) NB121_117.out _).trans (((cell_far (p:=⟨gb117,_,none⟩) NB121_117.out _).trans (hHeld.1)))),((cell_far (p:=⟨gb117,_,none⟩) NB121_117.out _).trans (((cell_far (p:=⟨gb117,_,none⟩) NB121_117.out _).trans (hHeld.2.1)))),((cell_far (p:=⟨gb117,_,none⟩) NB125_117.out _).trans (((cell_far (p:=⟨gb117,_,none⟩) NB125_117.out _).trans (hHeld.2.2.1)))),((cell_far (p:=⟨gb117,_,none⟩) NB125_117.out _).trans (((cell_far (p:=⟨gb117,_,none⟩) NB125_117.out _).trans (hHeld.2.2.2))))⟩ (fun hHeld=>?_)
    clear hK K
    refine pu_ 4 (some 6) #[true,true,true,true,true] ?_
    refine done_ kr_ ?_
    try go_wp2
    refine bodyPost_ret (results_list (rs:=[.cell 4 145,.cell 5 145,.tmp 6]) rfl sm_ (.cell gb116 145 #[.bool t118,.string t119] (0,0) _ rfl bk_ Tryz.underlying145 rfl kr_ (.cell gb117 145 #[.bool t122,.string t123] (0,0) _ rfl bk_ Tryz.underlying145 rfl kr_ (.tmp .nil)))) rfl ?_
    exact ⟨rf_,bx_⟩
end Go.Proofs.YtcmbggahndfnnaaGreatDoor.Pr
namespace Go.Proofs.YtcmbggahndfnnaaGreatDoor.Pr
open Go.RowKit Go.Proofs.YtcmbggahndfnnaaGreatDoorW.PrintWords Go.Proofs.YtcmbggahndfnnaaGreatDoorW.PrintLast Go.Proofs.YtcmbggahndfnnaaGreatDoorW.PrintMore
attribute [local go_sem] max2_int min2_int max_two min_two max_three min_three max_four min_four
set_option maxHeartbeats 8000000
set_option maxRecDepth 100000
set_option linter.unusedVariables false
set_option linter.unusedSimpArgs false
def integer_one.f (k:Nat) (a0:ByteArray):Option (Bool × ByteArray × Int):=(integer_both.f k a0 (⟨#[48]⟩:ByteArray)).bind fun bt131=>(some (bt131.1,bt131.2.1,bt131.2.2.2.2))
theorem integer_one.mono:∀ a0 k,LeO (integer_one.f k a0) (integer_one.f (k + 1) a0):=by intro a0 k;unfold integer_one.f;have:=@integer_both.mono;exact mn_
theorem integer_one.calls (k:Nat) (a0:ByteArray) (r1:Bool) (r2:ByteArray) (r3:Int) (w:World) (h:integer_one.f k a0 = some (r1,r2,r3)) :
  Calls Tryz.prog 114 #[.string a0] w fun e w'=>e = .returned (.tuple #[.agg #[.bool r1,.string r2],.int .i64 r3])∧Below w.heap.size w w':=by
 have hu145:=Tryz.underlying145
 have HB:=Aside0.mk (Below.refl w.heap.size w)
 have H:=h;clear h;unfold integer_one.f at H
 obtain ⟨⟨t131,t132,t133,t134,t135⟩,A2,H⟩:=bn_ H
 dsimp only at H
 simp only [Option.some.injEq,Prod.mk.injEq] at H
 obtain ⟨rfl,rfl,rfl⟩:=H
 go_enter Tryz.func114,Tryz.ntmps114
 go_wp2_with (first|((with_reducible refine gate_dst (N:=2) rfl ?_);refine bv_ #[.bool false,.string (⟨#[]⟩:ByteArray)] 145 ?_;clear HB;intro gb130 hg w3 BK130 GE130 hb HB;clear hb hg)|((with_reducible refine gate_callee (f:=127) rfl ?_);refine gl_ (some 9) Tryz.func127 #[.string a0,.string (⟨#[48]⟩:ByteArray)] (integer_both.calls k a0 (⟨#[48]⟩:ByteArray) t131 t132 t133 t134 t135 _ A2.out) ?_;clear HB;intro w4 hb HB;replace BK130:=bb_ BK130 hb;clear hb)|((with_reducible refine gate_dst (N:=4) rfl ?_);refine bv_ #[.bool false,.string (⟨#[]⟩:ByteArray)] 145 ?_;clear HB;intro gb136 hg w5 BK136 GE136 hb HB;have x_:=ol_ BK130 hg hb;clear BK130;obtain ⟨BK130,NB130_136,NB136_130⟩:=x_;clear hb hg)|((with_reducible refine gate_dst (N:=5) rfl ?_);refine bv_ #[.bool false,.string (⟨#[]⟩:ByteArray)] 145 ?_;clear HB;intro gb137 hg w6 BK137 GE137 hb HB;have x_:=ol_ BK130 hg hb;clear BK130;obtain ⟨BK130,NB130_137,NB137_130⟩:=x_;have x_:=ol_ BK136 hg hb;clear BK136;obtain ⟨BK136,NB136_137,NB137_136⟩:=x_;clear hb hg;have hnb7:=NB136_130.out;have hnc7:=NB130_136.out;have hnb8:=NB136_137.out;have hnc8:=NB137_136.out;obtain ⟨hcz9_0,hcz9_1,hfz9_0,hfz9_1⟩:=c2_ BK136;have hnb10:=NB137_130.out;have hnc10:=NB130_137.out;obtain ⟨hcz11_0,hcz11_1,hfz11_0,hfz11_1⟩:=c2_ BK137;obtain ⟨hcz12_0,hcz12_1,hfz12_0,hfz12_1⟩:=c2_ BK130))
 refine bodyPost_ret (results_ct rfl _ _ gb130 145 #[.bool t131,.string t132] (0,0) _ rfl bk_ Tryz.underlying145 rfl kr_) rfl ?_
 exact ⟨rf_,bx_⟩
end Go.Proofs.YtcmbggahndfnnaaGreatDoor.Pr
namespace Go.Proofs.YtcmbggahndfnnaaGreatDoor.Pr
open Go.RowKit Go.Proofs.YtcmbggahndfnnaaGreatDoorW.PrintWords Go.Proofs.YtcmbggahndfnnaaGreatDoorW.PrintLast Go.Proofs.YtcmbggahndfnnaaGreatDoorW.PrintMore
attribute [local go_sem] max2_int min2_int max_two min_two max_three min_three max_four min_four
set_option maxHeartbeats 8000000
set_option maxRecDepth 100000
set_option linter.unusedVariables false
set_option linter.unusedSimpArgs false
def integer_Abs.f (k:Nat) (a0:ByteArray):Option (ByteArray × Int):=(integer_one.f k a0).bind fun bt138=>(if bt138.2.2 = 0 then (some (bt138.2.1,0)) else (some ((⟨#[]⟩:ByteArray),bt138.2.2)))
theorem integer_Abs.mono:∀ a0 k,LeO (integer_Abs.f k a0) (integer_Abs.f (k + 1) a0):=by intro a0 k;unfold integer_Abs.f;have:=@integer_one.mono;exact mn_
theorem integer_Abs.calls (k:Nat) (a0:ByteArray) (r1:ByteArray) (r2:Int) (w:World) (h:integer_Abs.f k a0 = some (r1,r2)) :
  Calls Tryz.prog 105 #[.string a0] w fun e w'=>e = .returned (.tuple #[.string r1,.int .i64 r2])∧Below w.heap.size w w':=by
 have hu145:=Tryz.underlying145
 have HB:=Aside0.mk (Below.refl w.heap.size w)
 have H:=h;clear h;unfold integer_Abs.f at H
 obtain ⟨⟨t138,t139,t140⟩,A2,H⟩:=bn_ H
 dsimp only at H
 by_cases c3:t140 = 0
 ·rw [if_pos c3] at H
  have c3b0:(t140 == 0) = true:=beq_iff_eq.mpr c3
  have c3b1:(t140 != 0) = false:=bne_eq_false_iff_eq.mpr c3
  clear c3
  simp only [Option.some.injEq,Prod.mk.injEq] at H
  obtain ⟨rfl,rfl⟩:=H
  go_enter Tryz.func105,Tryz.ntmps105
  go_wp2_with (first|((with_reducible refine gate_callee (f:=114) rfl ?_);refine gl_ (some 8) Tryz.func114 #[.string a0] (integer_one.calls k a0 t138 t139 t140 _ A2.out) ?_;clear HB;intro w4 hb HB;clear hb)|((with_reducible refine gate_dst (N:=4) rfl ?_);refine bv_ #[.bool false,.string (⟨#[]⟩:ByteArray)] 145 ?_;clear HB;intro gb141 hg w5 BK141 GE141 hb HB;clear hb hg;obtain ⟨hcz6_0,hcz6_1,hfz6_0,hfz6_1⟩:=c2_ BK141))
  go_ret2
  exact ⟨rf_,bx_⟩
 ·rw [if_neg c3] at H
  have c3b0:(t140 == 0) = false:=beq_eq_false_iff_ne.mpr c3
  have c3b1:(t140 != 0) = true:=bne_iff_ne.mpr c3
  simp only [Option.some.injEq,Prod.mk.injEq] at H
  obtain ⟨rfl,rfl⟩:=H
  go_enter Tryz.func105,Tryz.ntmps105
  go_wp2_with (first|((with_reducible refine gate_callee (f:=114) rfl ?_);refine gl_ (some 8) Tryz.func114 #[.string a0] (integer_one.calls k a0 t138 t139 t140 _ A2.out) ?_;clear HB;intro w7 hb HB;clear hb)|((with_reducible refine gate_dst (N:=4) rfl ?_);refine bv_ #[.bool false,.string (⟨#[]⟩:ByteArray)] 145 ?_;clear HB;intro gb141 hg w8 BK141 GE141 hb HB;clear hb hg;obtain ⟨hcz9_0,hcz9_1,hfz9_0,hfz9_1⟩:=c2_ BK141))
  go_ret2
  exact ⟨rf_,bx_⟩
end Go.Proofs.YtcmbggahndfnnaaGreatDoor.Pr
set_option linter.unusedVariables false
namespace Go.Proofs.YtcmbggahndfnnaaGreatDoor.NatTh
def B:Int:=1000000000
theorem B_pos:0 < B:=by decide
def val:List Int→Int
 | []=>0
 | w :: ws=>w + B * val ws
def Wd (l:List Int):Prop:=∀ w ∈ l,0≤w∧w < B
theorem Wd.nil:Wd []:=fun w h=>by simp at h
theorem Wd.cons {w:Int} {l:List Int} (hw:0≤w∧w < B) (h:Wd l):Wd (w :: l):=fun x hx=>by
 rcases List.mem_cons.1 hx with rfl|hx
 ·exact hw
 ·exact h x hx
theorem Wd.tail {w:Int} {l:List Int} (h:Wd (w :: l)):Wd l:=fun x hx=>h x (by simp [hx])
theorem Wd.append {a b:List Int} (ha:Wd a) (hb:Wd b):Wd (a ++ b):=fun x hx=>by
 rcases List.mem_append.1 hx with h|h
 ·exact ha x h
 ·exact hb x h
theorem Wd.take {a:List Int} (h:Wd a) (n:Nat):Wd (a.take n):=fun x hx=>h x (List.mem_of_mem_take hx)
theorem Wd.drop {a:List Int} (h:Wd a) (n:Nat):Wd (a.drop n):=fun x hx=>h x (List.mem_of_mem_drop hx)
theorem Wd.set {a:List Int} (h:Wd a) (n:Nat) {w:Int} (hw:0≤w∧w < B):Wd (a.set n w):=fun x hx=>by
 rcases List.mem_or_eq_of_mem_set hx with h2|rfl
 ·exact h x h2
 ·exact hw
theorem Wd.get {a:List Int} (h:Wd a) (i:Nat) (hi:i < a.length):0≤a[i]∧a[i] < B:=h _ (List.getElem_mem hi)
theorem Wd.zeros (n:Nat):Wd (List.replicate n 0):=fun x hx=>by
 rw [List.eq_of_mem_replicate hx]
 exact ⟨by omega,B_pos⟩
theorem Bpow_pos (n:Nat):0 < B ^ n:=Int.pow_pos B_pos
theorem Bpow_succ (n:Nat):B ^ (n + 1) = B * B ^ n:=by rw [Int.pow_succ,Int.mul_comm]
theorem val_append (a b:List Int):val (a ++ b) = val a + B ^ a.length * val b:=by
 induction a with
 | nil=>simp [val]
 | cons w a ih =>
  rw [List.cons_append,val,val,ih,List.length_cons,Bpow_succ,Int.mul_add,Int.add_assoc,Int.mul_assoc]
theorem val_snoc (a:List Int) (w:Int):val (a ++ [w]) = val a + B ^ a.length * w:=by
 rw [val_append]
 simp [val]
theorem val_zeros (n:Nat):val (List.replicate n 0) = 0:=by
 induction n with
 | zero=>rfl
 | succ n ih=>rw [List.replicate_succ,val,ih];simp
theorem val_nonneg {l:List Int} (h:Wd l):0≤val l:=by
 induction l with
 | nil=>simp [val]
 | cons w l ih =>
  have h1:=ih h.tail
  have h2:=h w (by simp)
  have h3:=Int.mul_nonneg (Int.le_of_lt B_pos) h1
  unfold val
  omega
theorem val_lt {l:List Int} (h:Wd l):val l < B ^ l.length:=by
 induction l with
 | nil=>simp [val]
 | cons w l ih =>
  have h1:=ih h.tail
  have h2:=h w (by simp)
  have h3:B * (val l + 1)≤B * B ^ l.length:=Int.mul_le_mul_of_nonneg_left (by omega) (Int.le_of_lt B_pos)
  rw [Int.mul_add] at h3
  rw [List.length_cons,Bpow_succ]
  unfold val
  omega
theorem val_take_succ (a:List Int) (i:Nat) (hi:i < a.length):val (a.take (i + 1)) = val (a.take i) + B ^ i * a[i]:=by
 rw [List.take_add_one,List.getElem?_eq_getElem hi,Option.toList_some,val_snoc,List.length_take,Nat.min_eq_left (by omega)]
theorem val_take_drop (a:List Int) (i:Nat) (hi:i≤a.length):val a = val (a.take i) + B ^ i * val (a.drop i):=by
 conv=>lhs;rw [← List.take_append_drop i a]
 rw [val_append,List.length_take,Nat.min_eq_left hi]
def Trim (l:List Int):Prop:=∀ w,l.getLast? = some w→w≠0
def Num (l:List Int):Prop:=Wd l∧Trim l
theorem Num.nil:Num []:=⟨Wd.nil,fun w h=>by simp at h⟩
theorem Num.tail {w:Int} {l:List Int} (h:Num (w :: l)):Num l:=⟨h.1.tail,fun x hx=>h.2 x (by
 cases l with
 | nil=>simp at hx
 | cons y l=>simpa [List.getLast?_cons_cons] using hx)⟩
theorem Num.pos {l:List Int} (h:Num l) (hn:l≠[]):0 < val l:=by
 induction l with
 | nil=>exact absurd rfl hn
 | cons w l ih =>
  have hw:=h.1 w (by simp)
  have h1:=val_nonneg h.1.tail
  have h2:=Int.mul_nonneg (Int.le_of_lt B_pos) h1
  unfold val
  by_cases hl:l = []
  ·subst hl
   have:=h.2 w (by simp)
   omega
  ·have h3:=Int.mul_pos B_pos (ih h.tail hl)
   omega
theorem Num.eq {a b:List Int} (ha:Num a) (hb:Num b) (h:val a = val b):a = b:=by
 induction a generalizing b with
 | nil =>
  cases b with
  | nil=>rfl
  | cons y b =>
   have:=hb.pos (by simp)
   rw [← h] at this
   exact absurd this (by simp [val])
 | cons x a ih =>
  cases b with
  | nil =>
   have:=ha.pos (by simp)
   rw [h] at this
   exact absurd this (by simp [val])
  | cons y b =>
   have hx:=ha.1 x (by simp)
   have hy:=hb.1 y (by simp)
   unfold val at h
   have e:x = y∧val a = val b:=by
    have h1:(x + B * val a) % B = x:=by rw [Int.add_mul_emod_self_left];exact Int.emod_eq_of_lt hx.1 hx.2
    have h2:(y + B * val b) % B = y:=by rw [Int.add_mul_emod_self_left];exact Int.emod_eq_of_lt hy.1 hy.2
    rw [h] at h1
    have e1:x = y:=h1.symm.trans h2
    subst e1
    refine ⟨rfl,?_⟩
    exact Int.eq_of_mul_eq_mul_left (Int.ne_of_gt B_pos) (by omega)
   rw [e.1,ih ha.tail hb.tail e.2]
theorem Num.len_le {a:List Int} (ha:Num a) {n:Nat} (h:val a < B ^ n):a.length≤n:=by
 by_cases e:a.length≤n
 ·exact e
 ·exfalso
  obtain ⟨m,hm⟩:∃ m,a.length = m + 1:=⟨a.length - 1,by omega⟩
  have h1:=val_take_drop a m (by omega)
  have h2:=val_nonneg (ha.1.take m)
  have h3:a.drop m = [a[m]]:=by
   rw [List.drop_eq_getElem_cons (by omega),List.drop_of_length_le (by omega)]
  have h4:a[m]≠0:=ha.2 _ (by rw [List.getLast?_eq_getElem?,show a.length - 1 = m by omega,List.getElem?_eq_getElem])
  have h5:=ha.1.get m (by omega)
  rw [h3] at h1
  have h6:B ^ n≤B ^ m:=by
   obtain ⟨d,rfl⟩:∃ d,m = n + d:=⟨m - n,by omega⟩
   rw [Int.pow_add]
   have:=Bpow_pos n
   have h8:=Bpow_pos d
   have:B ^ n * 1≤B ^ n * B ^ d:=Int.mul_le_mul_of_nonneg_left (by omega) (Int.le_of_lt (Bpow_pos n))
   omega
  have h7:B ^ m * 1≤B ^ m * a[m]:=Int.mul_le_mul_of_nonneg_left (by omega) (Int.le_of_lt (Bpow_pos m))
  simp only [val,Int.mul_zero,Int.add_zero] at h1
  omega
def trimL (l:List Int):List Int:=(l.reverse.dropWhile (· == 0)).reverse
theorem trimL_snoc_zero (l:List Int):trimL (l ++ [0]) = trimL l:=by simp [trimL]
theorem trimL_snoc (l:List Int) (w:Int) (hw:w≠0):trimL (l ++ [w]) = l ++ [w]:=by simp [trimL,hw]
theorem snoc_cases (l:List Int):l = [] ∨ ∃ a w,l = a ++ [w]:=by
 rcases List.eq_nil_or_concat l with h|⟨a,w,h⟩
 ·exact .inl h
 ·exact .inr ⟨a,w,by simpa using h⟩
theorem trimL_spec:∀ (n:Nat) (l:List Int),l.length = n→val (trimL l) = val l∧(Wd l→Num (trimL l))∧(trimL l).length≤l.length
 | 0,l,h=>by
  have:l = []:=List.eq_nil_of_length_eq_zero h
  subst this
  exact ⟨rfl,fun _=>Num.nil,Nat.le_refl _⟩
 | n + 1,l,h=>by
  rcases snoc_cases l with rfl|⟨a,w,rfl⟩
  ·simp at h
  ·by_cases e:w = 0
   ·subst e
    rw [trimL_snoc_zero]
    obtain ⟨h1,h2,h3⟩:=trimL_spec n a (by simpa using h)
    refine ⟨by rw [h1,val_snoc];simp,fun hw=>h2 (fun x hx=>hw x (by simp [hx])),by rw [List.length_append];omega⟩
   ·rw [trimL_snoc a w e]
    exact ⟨rfl,fun hw=>⟨hw,fun x hx=>by simp at hx;rw [← hx];exact e⟩,Nat.le_refl _⟩
theorem val_trimL (l:List Int):val (trimL l) = val l:=(trimL_spec _ l rfl).1
theorem num_trimL {l:List Int} (h:Wd l):Num (trimL l):=(trimL_spec _ l rfl).2.1 h
theorem len_trimL (l:List Int):(trimL l).length≤l.length:=(trimL_spec _ l rfl).2.2
def numOf (n:Nat):List Int:=if h:n = 0 then [] else ((n % 1000000000:Nat):Int) :: numOf (n / 1000000000)
 termination_by n
 decreasing_by exact Nat.div_lt_self (by omega) (by omega)
theorem numOf_zero:numOf 0 = []:=by rw [numOf];simp
theorem numOf_spec (n:Nat):Num (numOf n)∧val (numOf n) = n:=by
 induction n using Nat.strongRecOn with
 | ind n ih =>
  by_cases h:n = 0
  ·subst h
   rw [numOf_zero]
   exact ⟨Num.nil,rfl⟩
  ·rw [numOf,dif_neg h]
   obtain ⟨h1,h2⟩:=ih (n / 1000000000) (Nat.div_lt_self (by omega) (by omega))
   refine ⟨⟨Wd.cons ⟨by omega,by unfold B;omega⟩ h1.1,fun w hw=>?_⟩,?_⟩
   ·by_cases e:n / 1000000000 = 0
    ·rw [e,numOf_zero] at hw
     simp at hw
     omega
    ·have hne:numOf (n / 1000000000)≠[]:=fun h0=>by
      rw [h0] at h2
      simp [val] at h2
      omega
     obtain ⟨y,l,hl⟩:=List.exists_cons_of_ne_nil hne
     rw [hl,List.getLast?_cons_cons] at hw
     rw [hl] at h1
     exact h1.2 w hw
   ·rw [val,h2]
    unfold B
    omega
theorem num_numOf (n:Nat):Num (numOf n):=(numOf_spec n).1
theorem val_numOf (n:Nat):val (numOf n) = n:=(numOf_spec n).2
theorem Num.numOf {l:List Int} (h:Num l):l = numOf (val l).toNat:=h.eq (num_numOf _) (by
 rw [val_numOf]
 have:=val_nonneg h.1
 omega)
theorem guess_low (top v1 V X q:Int) (hX:0 < X) (hv:0 < v1) (hV:v1 * (B * X)≤V) (hq:q * V < (top + 1) * (B * X)) (hq0:0≤q):q≤top / v1:=by
 have hBX:0 < B * X:=Int.mul_pos B_pos hX
 have h1:q * (v1 * (B * X))≤q * V:=Int.mul_le_mul_of_nonneg_left hV hq0
 have h2:(q * v1) * (B * X) < (top + 1) * (B * X):=by rw [Int.mul_assoc];omega
 have h3:q * v1 < top + 1:=Int.lt_of_mul_lt_mul_right h2 (Int.le_of_lt hBX)
 exact (Int.le_ediv_iff_mul_le hv).2 (by omega)
theorem guess_too (g r top v1 v2 u2 V U X U' V':Int) (hX:0 < X) (hg:0≤g) (ht:g * v1 + r = top) (hV:V = (v1 * B + v2) * X + V') (hV':0≤V') (hU:U = (top * B + u2) * X + U') (hU':U' < X) (h:r * B + u2 < g * v2):U < g * V:=by
 have h1:g * V = (g * v1 * B + g * v2) * X + g * V':=by
  rw [hV,Int.mul_add,← Int.mul_assoc,Int.mul_add,← Int.mul_assoc]
 have h2:0≤g * V':=Int.mul_nonneg hg hV'
 have h3:top * B + u2 + 1≤g * v1 * B + g * v2:=by
  have:top * B = g * v1 * B + r * B:=by rw [← ht,Int.add_mul]
  omega
 have h4:(top * B + u2 + 1) * X≤(g * v1 * B + g * v2) * X:=Int.mul_le_mul_of_nonneg_right h3 (Int.le_of_lt hX)
 rw [Int.add_mul,Int.one_mul] at h4
 omega
theorem guess_high1 (g r top v1 v2 u2 V U X U' V':Int) (hX:0 < X) (hg:0≤g) (hgB:g < B) (hv1:1≤v1) (hv2:0≤v2) (ht:g * v1 + r = top) (hV:V = (v1 * B + v2) * X + V') (hV0:0≤V') (hV':V' < X) (hU:U = (top * B + u2) * X + U') (hU':0≤U') (h:g * v2≤r * B + u2):(g - 1) * V≤U:=by
 have h1:g * V = (g * v1 * B + g * v2) * X + g * V':=by
  rw [hV,Int.mul_add,← Int.mul_assoc,Int.mul_add,← Int.mul_assoc]
 have h3:g * v1 * B + g * v2≤top * B + u2:=by
  have:top * B = g * v1 * B + r * B:=by rw [← ht,Int.add_mul]
  omega
 have h4:(g * v1 * B + g * v2) * X≤(top * B + u2) * X:=Int.mul_le_mul_of_nonneg_right h3 (Int.le_of_lt hX)
 have h5:g * V'≤B * X:=Int.mul_le_mul (by omega) (by omega) hV0 (by decide)
 have h6:B * X≤(v1 * B + v2) * X:=Int.mul_le_mul_of_nonneg_right (by
  have:1 * B≤v1 * B:=Int.mul_le_mul_of_nonneg_right hv1 (by decide)
  omega) (Int.le_of_lt hX)
 rw [Int.sub_mul,Int.one_mul]
 omega
theorem guess_high2 (g r top v1 V U Y:Int) (hY:0 < Y) (hg:1≤g) (hgB:g≤B + v1 + 1) (ht:g * v1 + r = top) (hr:B≤r) (hV:V≤(v1 + 1) * Y) (hU:top * Y≤U):(g - 1) * V≤U:=by
 have h1:(g - 1) * V≤(g - 1) * ((v1 + 1) * Y):=Int.mul_le_mul_of_nonneg_left hV (by omega)
 have h2:(g - 1) * (v1 + 1)≤top:=by
  rw [Int.sub_mul,Int.mul_add]
  omega
 have h3:(g - 1) * (v1 + 1) * Y≤top * Y:=Int.mul_le_mul_of_nonneg_right h2 (Int.le_of_lt hY)
 rw [Int.mul_assoc] at h3
 omega
end Go.Proofs.YtcmbggahndfnnaaGreatDoor.NatTh
namespace Go.Proofs.YtcmbggahndfnnaaGreatDoor.NatTh
end Go.Proofs.YtcmbggahndfnnaaGreatDoor.NatTh
set_option linter.unusedVariables false
namespace Go.Proofs.YtcmbggahndfnnaaGreatDoor.NatTh
theorem take_set_succ (l:List Int) (n:Nat) (w:Int) (h:n < l.length):(l.set n w).take (n + 1) = l.take n ++ [w]:=by
 rw [List.take_set]
 rw [List.take_add_one,List.getElem?_eq_getElem h,Option.toList_some]
 have:(l.take n).length = n:=by rw [List.length_take];omega
 rw [List.set_append_right _ _ (by omega),this,Nat.sub_self]
 rfl
theorem drop_set_succ (l:List Int) (n:Nat) (w:Int):(l.set n w).drop (n + 1) = l.drop (n + 1):=by
 rw [List.drop_set_of_lt (by omega)]
theorem drop_succ_of {a b:List Int} {n:Nat} (h:a.drop n = b.drop n):a.drop (n + 1) = b.drop (n + 1):=by
 rw [← List.drop_drop,h,List.drop_drop]
theorem getD_drop {a b:List Int} {n i:Nat} (h:a.drop n = b.drop n) (hi:n≤i):a.getD i 0 = b.getD i 0:=by
 have e:(a.drop n)[i - n]? = (b.drop n)[i - n]?:=by rw [h]
 rw [List.getElem?_drop,List.getElem?_drop,show n + (i - n) = i by omega] at e
 rw [List.getD_eq_getElem?_getD,List.getD_eq_getElem?_getD,e]
theorem val_take_set (l:List Int) (n:Nat) (w:Int) (h:n < l.length):val ((l.set n w).take (n + 1)) = val (l.take n) + B ^ n * w:=by
 rw [take_set_succ l n w h,val_snoc,List.length_take,Nat.min_eq_left (by omega)]
theorem val_take_succD (a:List Int) (i:Nat) (hi:i < a.length):val (a.take (i + 1)) = val (a.take i) + B ^ i * a.getD i 0:=by
 rw [val_take_succ a i hi,List.getD_eq_getElem?_getD,List.getElem?_eq_getElem hi]
 rfl
theorem Wd.getD {a:List Int} (h:Wd a) (i:Nat):0≤a.getD i 0∧a.getD i 0 < B:=by
 rw [List.getD_eq_getElem?_getD]
 by_cases hi:i < a.length
 ·rw [List.getElem?_eq_getElem hi]
  exact h.get i hi
 ·rw [List.getElem?_eq_none (by omega)]
  exact ⟨Int.le_refl _,B_pos⟩
theorem val_take_more (a:List Int) (i:Nat):val (a.take (i + 1)) = val (a.take i) + B ^ i * a.getD i 0:=by
 by_cases hi:i < a.length
 ·exact val_take_succD a i hi
 ·rw [List.take_of_length_le (by omega),List.take_of_length_le (by omega),List.getD_eq_getElem?_getD,List.getElem?_eq_none (by omega)]
  simp
theorem val_split (a:List Int) (i:Nat) (hi:i≤a.length):val a = val (a.take i) + B ^ i * val (a.drop i):=val_take_drop a i hi
theorem val_drop_succ (a:List Int) (i:Nat) (hi:i < a.length):val (a.drop i) = a.getD i 0 + B * val (a.drop (i + 1)):=by
 rw [List.drop_eq_getElem_cons hi,val,List.getD_eq_getElem?_getD,List.getElem?_eq_getElem hi]
 rfl
structure Run (u u':List Int) (at':Nat) (T C:Int):Prop where
 wd:Wd u'
 len:u'.length = u.length
 rest:u'.drop at' = u.drop at'
 eq:val (u'.take at') + B ^ at' * C = val (u.take at') + T
theorem Run.start {u:List Int} (h:Wd u) (n:Nat):Run u u n 0 0:=⟨h,rfl,rfl,by simp⟩
theorem Run.get {u u':List Int} {n:Nat} {T C:Int} (h:Run u u' n T C):u'.getD n 0 = u.getD n 0:=getD_drop h.rest (Nat.le_refl _)
theorem Run.step {u u':List Int} {n:Nat} {T C d C' x:Int} (h:Run u u' n T C) (hn:n < u.length) (hd:0≤d∧d < B) (e:d + B * C' = u.getD n 0 + C + x) :
  Run u (u'.set n d) (n + 1) (T + B ^ n * x) C':=by
 have hl:=h.len
 refine ⟨h.wd.set n hd,by rw [List.length_set,hl],by rw [drop_set_succ];exact drop_succ_of h.rest,?_⟩
 rw [val_take_set _ _ _ (by omega),val_take_succD _ _ hn,Bpow_succ]
 have h1:=h.eq
 generalize val (u'.take n) = X at *
 generalize val (u.take n) = Y at *
 generalize B ^ n = P at *
 generalize u.getD n 0 = w at *
 grind
theorem Run.value {u u':List Int} {n:Nat} {T C:Int} (h:Run u u' n T C) (hn:n≤u.length):val u' + B ^ n * C = val u + T:=by
 rw [val_split u' n (by rw [h.len];exact hn),val_split u n hn,h.rest]
 have h1:=h.eq
 generalize val (u'.take n) = X at *
 generalize val (u.take n) = Y at *
 generalize B ^ n = P at *
 generalize val (u.drop n) = Z at *
 grind
end Go.Proofs.YtcmbggahndfnnaaGreatDoor.NatTh
set_option linter.unusedVariables false
namespace Go.Proofs.YtcmbggahndfnnaaGreatDoor.NatTh
theorem val_set (l:List Int) (n:Nat) (w:Int) (h:n < l.length):val (l.set n w) = val l + B ^ n * (w - l.getD n 0):=by
 rw [val_split (l.set n w) (n + 1) (by rw [List.length_set];omega),val_split l (n + 1) (by omega),val_take_set _ _ _ h,val_take_succD _ _ h,drop_set_succ]
 generalize val (l.take n) = X
 generalize B ^ n = P
 generalize B ^ (n + 1) * val (l.drop (n + 1)) = Y
 generalize l.getD n 0 = w0
 grind
theorem val_take_le {l:List Int} (h:Wd l) (n:Nat):val (l.take n) < B ^ n:=by
 have h1:=val_lt (h.take n)
 have h2:B ^ (l.take n).length≤B ^ n:=by
  obtain ⟨d,hd⟩:∃ d,n = (l.take n).length + d:=⟨n - (l.take n).length,by rw [List.length_take];omega⟩
  have h3:=Bpow_pos (l.take n).length
  have h4:=Bpow_pos d
  have:B ^ (l.take n).length * 1≤B ^ (l.take n).length * B ^ d:=Int.mul_le_mul_of_nonneg_left (by omega) (Int.le_of_lt h3)
  rw [← Int.pow_add,← hd] at this
  omega
 omega
theorem val_take_nn {l:List Int} (h:Wd l) (n:Nat):0≤val (l.take n):=val_nonneg (h.take n)
theorem val_drop_nn {l:List Int} (h:Wd l) (n:Nat):0≤val (l.drop n):=val_nonneg (h.drop n)
theorem Bpow_add (m n:Nat):B ^ (m + n) = B ^ m * B ^ n:=Int.pow_add _ _ _
theorem val_high {l:List Int} (h:Wd l) (n:Nat) (hn:n≤l.length) (hv:val l < B ^ n):val (l.drop n) = 0∧val l = val (l.take n):=by
 have h1:=val_split l n hn
 have h2:=val_take_nn h n
 have h3:=val_drop_nn h n
 have h4:val (l.drop n) = 0:=by
  by_cases e:val (l.drop n) = 0
  ·exact e
  ·have:B ^ n * 1≤B ^ n * val (l.drop n):=Int.mul_le_mul_of_nonneg_left (by omega) (Int.le_of_lt (Bpow_pos n))
   omega
 refine ⟨h4,?_⟩
 rw [h4] at h1
 simpa using h1
theorem ring1 (B t X c b a:Int):t + X * c + B * X * b + B * (B * X) * a = ((a * B + b) * B + c) * X + t:=by grind
theorem ring3 (B X a b c U':Int):((a * B + b) * B + c) * X + U' = (a * B + b + 1) * (B * X) - B * X + c * X + U':=by grind
theorem ring4 (B d:Int):(2 * B + 1) * d = d * B + d * B + d:=by grind
theorem ring2 (B t Y X c b:Int):(t + Y * c + B * Y * b) * X = (b * B + c) * (X * Y) + t * X:=by grind
structure Place (u v:List Int) (j:Nat):Prop where
 wu:Wd u
 wv:Wd v
 k2:2≤v.length
 fit:j + v.length < u.length
 top:0 < v.getD (v.length - 1) 0
 low:val u < val v * B ^ (j + 1)
def qw (u v:List Int) (j:Nat):Int:=val u / (val v * B ^ j)
namespace Place
variable {u v : List Int} {j : Nat}
theorem V_pos (h:Place u v j):0 < val v:=by
 have h1:=val_split v (v.length - 1) (by omega)
 have hk:=h.k2
 have h2:=val_drop_succ v (v.length - 1) (by omega)
 have h3:=val_take_nn h.wv (v.length - 1)
 have h4:=val_drop_nn h.wv (v.length - 1 + 1)
 have h5:=Int.mul_nonneg (Int.le_of_lt B_pos) h4
 have h6:=h.top
 have h7:0 < B ^ (v.length - 1) * val (v.drop (v.length - 1)):=Int.mul_pos (Bpow_pos _) (by omega)
 omega
theorem VB_pos (h:Place u v j):0 < val v * B ^ j:=Int.mul_pos h.V_pos (Bpow_pos j)
theorem qw_nonneg (h:Place u v j):0≤qw u v j:=Int.ediv_nonneg (val_nonneg h.wu) (Int.le_of_lt h.VB_pos)
theorem qw_lt (h:Place u v j):qw u v j < B:=by
 refine Int.ediv_lt_of_lt_mul h.VB_pos ?_
 have:=h.low
 rw [Bpow_succ] at this
 rw [show B * (val v * B ^ j) = val v * (B * B ^ j) by grind]
 exact this
theorem qw_le (h:Place u v j):qw u v j * (val v * B ^ j)≤val u:=Int.ediv_mul_le _ (Int.ne_of_gt h.VB_pos)
theorem qw_gt (h:Place u v j):val u < (qw u v j + 1) * (val v * B ^ j):=Int.lt_ediv_add_one_mul_self _ h.VB_pos
theorem le_qw (h:Place u v j) {g:Int} (hg:g * (val v * B ^ j)≤val u):g≤qw u v j:=(Int.le_ediv_iff_mul_le h.VB_pos).2 hg
theorem qw_of_lt (h:Place u v j) {g:Int} (hg:val u < g * (val v * B ^ j)):qw u v j < g:=(Int.ediv_lt_iff_lt_mul h.VB_pos).2 hg
theorem parts (h:Place u v j):∃ X U' V',0 < X∧0≤U'∧U' < X∧0≤V'∧V' < X ∧
  val u = ((u.getD (j + v.length) 0 * B + u.getD (j + v.length - 1) 0) * B + u.getD (j + v.length - 2) 0) * X + U' ∧
  val v * B ^ j = (v.getD (v.length - 1) 0 * B + v.getD (v.length - 2) 0) * X + V':=by
 have hk:=h.k2
 have hf:=h.fit
 obtain ⟨k,hk'⟩:∃ k,v.length = k + 2:=⟨v.length - 2,by omega⟩
 have hV:=val_lt h.wv
 have hb:val u < B ^ (j + v.length + 1):=by
  have h1:=h.low
  have h2:val v * B ^ (j + 1)≤B ^ v.length * B ^ (j + 1):=Int.mul_le_mul_of_nonneg_right (Int.le_of_lt hV) (Int.le_of_lt (Bpow_pos _))
  rw [← Bpow_add,show v.length + (j + 1) = j + v.length + 1 by omega] at h2
  omega
 have e1:=(val_high h.wu (j + v.length + 1) (by omega) hb).2
 rw [val_take_more,hk',show j + (k + 2) = j + k + 1 + 1 by omega,val_take_more,val_take_more] at e1
 have e2:val v = val (v.take (k + 1 + 1)):=by rw [List.take_of_length_le (by omega)]
 rw [val_take_more,val_take_more] at e2
 rw [hk',show j + (k + 2) = j + k + 1 + 1 by omega,show j + k + 1 + 1 - 1 = j + k + 1 by omega,show j + k + 1 + 1 - 2 = j + k by omega,show k + 2 - 1 = k + 1 by omega,show k + 2 - 2 = k by omega]
 refine ⟨B ^ (j + k),val (u.take (j + k)),val (v.take k) * B ^ j,Bpow_pos _,val_take_nn h.wu _,val_take_le h.wu _,Int.mul_nonneg (val_take_nn h.wv _) (Int.le_of_lt (Bpow_pos _)),?_,?_,?_⟩
 ·rw [Int.add_comm] at *
  have h1:=val_take_le h.wv k
  have h2:=Int.mul_lt_mul_of_pos_right h1 (Bpow_pos j)
  rw [← Bpow_add,Nat.add_comm k j] at h2
  exact h2
 ·rw [Bpow_succ (j + k + 1),Bpow_succ (j + k)] at e1
  rw [e1,ring1]
 ·rw [Bpow_succ] at e2
  rw [Bpow_add,e2,ring2]
end Place
structure Guess (u v:List Int) (j:Nat) (g r:Int):Prop where
 g0:0≤g
 r0:0≤r
 eq:g * v.getD (v.length - 1) 0 + r = u.getD (j + v.length) 0 * B + u.getD (j + v.length - 1) 0
 up:qw u v j≤g
 hi:g≤2 * B
namespace Guess
variable {u v : List Int} {j : Nat} {g r : Int}
theorem head_le (h:Place u v j):u.getD (j + v.length) 0≤v.getD (v.length - 1) 0:=by
 obtain ⟨X,U',V',hX,hU,hU',hV,hV',e1,e2⟩:=h.parts
 have h1:=h.low
 have h2:val v * B ^ (j + 1) = (val v * B ^ j) * B:=by rw [Bpow_succ];grind
 rw [h2,e2,e1] at h1
 have hu1:=h.wu.getD (j + v.length - 1)
 have hu2:=h.wu.getD (j + v.length - 2)
 have hv2:=h.wv.getD (v.length - 2)
 by_cases e:u.getD (j + v.length) 0≤v.getD (v.length - 1) 0
 ·exact e
 ·exfalso
  generalize u.getD (j + v.length) 0 = a at *
  generalize u.getD (j + v.length - 1) 0 = b at *
  generalize u.getD (j + v.length - 2) 0 = c at *
  generalize v.getD (v.length - 1) 0 = d at *
  generalize v.getD (v.length - 2) 0 = f at *
  have h3:((d * B + f) * X + V') * B≤(d + 1) * (B * B * X):=by
   have h4:(f * X + V')≤B * X:=by
    have:f * X + X≤B * X:=by
     have:=Int.mul_le_mul_of_nonneg_right (show f + 1≤B by omega) (Int.le_of_lt hX)
     rw [Int.add_mul,Int.one_mul] at this
     exact this
    omega
   have h5:=Int.mul_le_mul_of_nonneg_right h4 (Int.le_of_lt B_pos)
   grind
  have h4:(d + 1) * (B * B * X)≤a * (B * B * X):=Int.mul_le_mul_of_nonneg_right (by omega) (Int.mul_nonneg (by decide) (Int.le_of_lt hX))
  have h5:a * (B * B * X)≤((a * B + b) * B + c) * X:=by
   have h6:0≤(b * B + c) * X:=Int.mul_nonneg (by have:=Int.mul_nonneg hu1.1 (Int.le_of_lt B_pos);omega) (Int.le_of_lt hX)
   grind
  omega
theorem start (h:Place u v j):Guess u v j ((u.getD (j + v.length) 0 * B + u.getD (j + v.length - 1) 0) / v.getD (v.length - 1) 0) ((u.getD (j + v.length) 0 * B + u.getD (j + v.length - 1) 0) % v.getD (v.length - 1) 0):=by
 have hv:=h.top
 have hl:=head_le h
 obtain ⟨X,U',V',hX,hU,hU',hV,hV',e1,e2⟩:=h.parts
 have hu0:=h.wu.getD (j + v.length)
 have hu1:=h.wu.getD (j + v.length - 1)
 have hu2:=h.wu.getD (j + v.length - 2)
 have hv2:=h.wv.getD (v.length - 2)
 have hq:=h.qw_le
 have hq0:=h.qw_nonneg
 rw [e1,e2] at hq
 have h0:0≤u.getD (j + v.length) 0 * B + u.getD (j + v.length - 1) 0:=by
  have:=Int.mul_nonneg hu0.1 (Int.le_of_lt B_pos)
  omega
 refine ⟨Int.ediv_nonneg h0 (Int.le_of_lt hv),Int.emod_nonneg _ (Int.ne_of_gt hv),by rw [Int.mul_comm];exact Int.mul_ediv_add_emod _ _,?_,?_⟩
 ·generalize qw u v j = q at *
  generalize u.getD (j + v.length) 0 = a at *
  generalize u.getD (j + v.length - 1) 0 = b at *
  generalize u.getD (j + v.length - 2) 0 = c at *
  generalize v.getD (v.length - 1) 0 = d at *
  generalize v.getD (v.length - 2) 0 = f at *
  refine guess_low (a * B + b) d ((d * B + f) * X + V') X q hX hv ?_ ?_ hq0
  ·have:=Int.mul_nonneg hv2.1 (Int.le_of_lt hX)
   rw [Int.add_mul,Int.mul_assoc]
   omega
  ·refine Int.lt_of_le_of_lt hq ?_
   have:c * X + X≤B * X:=by
    have:=Int.mul_le_mul_of_nonneg_right (show c + 1≤B by omega) (Int.le_of_lt hX)
    rw [Int.add_mul,Int.one_mul] at this
    exact this
   rw [ring3]
   omega
 ·generalize u.getD (j + v.length) 0 = a at *
  generalize u.getD (j + v.length - 1) 0 = b at *
  generalize v.getD (v.length - 1) 0 = d at *
  refine Int.le_of_lt_add_one (Int.ediv_lt_of_lt_mul hv ?_)
  have h1:a * B≤d * B:=Int.mul_le_mul_of_nonneg_right hl (Int.le_of_lt B_pos)
  have h2:1 * B≤d * B:=Int.mul_le_mul_of_nonneg_right hv (Int.le_of_lt B_pos)
  rw [ring4]
  omega
theorem step (h:Place u v j) (G:Guess u v j g r) (hc:B≤g ∨ r * B + u.getD (j + v.length - 2) 0 < g * v.getD (v.length - 2) 0) :
  Guess u v j (g - 1) (r + v.getD (v.length - 1) 0)∧1≤g:=by
 have hv:=h.top
 obtain ⟨X,U',V',hX,hU,hU',hV,hV',e1,e2⟩:=h.parts
 have hq:qw u v j < g:=by
  rcases hc with hc|hc
  ·have:=h.qw_lt
   omega
  ·refine h.qw_of_lt ?_
   exact guess_too g r _ _ _ _ (val v * B ^ j) (val u) X U' V' hX G.g0 G.eq e2 hV e1 hU' hc
 have hq0:=h.qw_nonneg
 have h1:=G.r0
 have h2:=G.hi
 refine ⟨⟨by omega,by omega,?_,by omega,by omega⟩,by omega⟩
 rw [← G.eq,Int.sub_mul]
 omega
theorem done (h:Place u v j) (G:Guess u v j g r) (hc:B≤r ∨ (g < B∧g * v.getD (v.length - 2) 0≤r * B + u.getD (j + v.length - 2) 0)):g = qw u v j ∨ g = qw u v j + 1:=by
 have hv:=h.top
 obtain ⟨X,U',V',hX,hU,hU',hV,hV',e1,e2⟩:=h.parts
 have hq0:=h.qw_nonneg
 have hup:=G.up
 have hv2:=h.wv.getD (v.length - 2)
 have hu2:=h.wu.getD (j + v.length - 2)
 by_cases e:g = 0
 ·omega
 ·have hg:=G.g0
  have key:(g - 1) * (val v * B ^ j)≤val u:=by
   rcases hc with hc|⟨hc1,hc2⟩
   ·have hu0:=h.wu.getD (j + v.length)
    have hu1:=h.wu.getD (j + v.length - 1)
    have hl:=head_le h
    have heq:=G.eq
    refine guess_high2 g r _ (v.getD (v.length - 1) 0) (val v * B ^ j) (val u) (B * X) (Int.mul_pos B_pos hX) (by omega) ?_ G.eq hc ?_ ?_
    ·generalize u.getD (j + v.length) 0 = a at *
     generalize u.getD (j + v.length - 1) 0 = b at *
     generalize v.getD (v.length - 1) 0 = d at *
     have h1:a * B≤d * B:=Int.mul_le_mul_of_nonneg_right hl (Int.le_of_lt B_pos)
     by_cases h2:g≤B + d + 1
     ·exact h2
     ·have h3:(B + 1) * d≤g * d:=Int.mul_le_mul_of_nonneg_right (by omega) (Int.le_of_lt hv)
      grind
    ·rw [e2]
     have:v.getD (v.length - 2) 0 * X + X≤B * X:=by
      have:=Int.mul_le_mul_of_nonneg_right (show v.getD (v.length - 2) 0 + 1≤B by omega) (Int.le_of_lt hX)
      rw [Int.add_mul,Int.one_mul] at this
      exact this
     grind
    ·rw [e1]
     have:=Int.mul_nonneg hu2.1 (Int.le_of_lt hX)
     grind
   ·exact guess_high1 g r _ (v.getD (v.length - 1) 0) _ _ (val v * B ^ j) (val u) X U' V' hX hg hc1 hv hv2.1 G.eq e2 hV hV' e1 hU hc2
  have:=h.le_qw key
  omega
end Guess
theorem sub_done {u v u':List Int} {j:Nat} {g c:Int} (h:Place u v j) (hg:g = qw u v j ∨ g = qw u v j + 1) (R:Run u u' (j + v.length) (-(g * (val v * B ^ j))) (-c)) :
  (u.getD (j + v.length) 0 - c = 0∧g = qw u v j∧val (u'.set (j + v.length) 0) = val u - qw u v j * (val v * B ^ j)) ∨
  (u.getD (j + v.length) 0 - c = -1∧g = qw u v j + 1∧∀ u'' up,Run u' u'' (j + v.length) (val v * B ^ j) up→up = 1∧val (u''.set (j + v.length) 0) = val u - qw u v j * (val v * B ^ j)):=by
 have hf:=h.fit
 have hl:=R.len
 have hV:=val_lt h.wv
 have hVB:val v * B ^ j < B ^ (j + v.length):=by
  have:=Int.mul_lt_mul_of_pos_right hV (Bpow_pos j)
  rw [← Bpow_add,Nat.add_comm] at this
  exact this
 have h1:=R.value (by omega)
 have h2:=val_split u' (j + v.length) (by omega)
 have h3:=val_take_nn R.wd (j + v.length)
 have h4:=val_take_le R.wd (j + v.length)
 have hP:=Bpow_pos (j + v.length)
 have hdrop:val (u'.drop (j + v.length)) = u.getD (j + v.length) 0:=by
  rw [R.rest,val_drop_succ _ _ (by omega)]
  have hb:val u < B ^ (j + v.length + 1):=by
   have h1:=h.low
   have h2:val v * B ^ (j + 1)≤B ^ v.length * B ^ (j + 1):=Int.mul_le_mul_of_nonneg_right (Int.le_of_lt hV) (Int.le_of_lt (Bpow_pos _))
   rw [← Bpow_add,show v.length + (j + 1) = j + v.length + 1 by omega] at h2
   omega
  rw [(val_high h.wu _ (by omega) hb).1]
  simp
 have hget:u'.getD (j + v.length) 0 = u.getD (j + v.length) 0:=R.get
 have hq1:=h.qw_le
 have hq2:=h.qw_gt
 have hs:=val_set u' (j + v.length) 0 (by omega)
 rw [hdrop] at h2
 rw [hget] at hs
 rw [hs]
 have h5:val (u'.take (j + v.length)) + B ^ (j + v.length) * (u.getD (j + v.length) 0 - c) = val u - g * (val v * B ^ j):=by
  rw [Int.mul_sub]
  rw [Int.mul_neg] at h1
  omega
 rcases hg with hg|hg
 ·left
  rw [← hg] at hq1 hq2 ⊢
  rw [Int.add_mul,Int.one_mul] at hq2
  have h6:u.getD (j + v.length) 0 - c = 0:=by
   have ha:0≤val u - g * (val v * B ^ j):=by omega
   have hb:val u - g * (val v * B ^ j) < B ^ (j + v.length):=by omega
   rw [← h5] at ha hb
   generalize u.getD (j + v.length) 0 - c = t at *
   generalize B ^ (j + v.length) = P at *
   generalize val (u'.take (j + v.length)) = X at *
   by_cases e1:1≤t
   ·have:P * 1≤P * t:=Int.mul_le_mul_of_nonneg_left e1 (by omega)
    omega
   ·by_cases e2:t≤-1
    ·have:P * t≤P * (-1):=Int.mul_le_mul_of_nonneg_left e2 (by omega)
     omega
    ·omega
  refine ⟨h6,rfl,?_⟩
  rw [h6] at h5
  generalize B ^ (j + v.length) = P at *
  rw [h2]
  grind
 ·right
  have hq1':(g - 1) * (val v * B ^ j)≤val u:=by rw [hg,Int.add_sub_cancel];exact hq1
  have hq2':val u < g * (val v * B ^ j):=by rw [hg];exact hq2
  rw [Int.sub_mul,Int.one_mul] at hq1'
  have h6:u.getD (j + v.length) 0 - c = -1:=by
   have ha:-(B ^ (j + v.length)) < val u - g * (val v * B ^ j):=by omega
   have hb:val u - g * (val v * B ^ j) < 0:=by omega
   rw [← h5] at ha hb
   generalize u.getD (j + v.length) 0 - c = t at *
   generalize B ^ (j + v.length) = P at *
   generalize val (u'.take (j + v.length)) = X at *
   by_cases e1:0≤t
   ·have:0≤P * t:=Int.mul_nonneg (by omega) e1
    omega
   ·by_cases e2:t≤-2
    ·have:P * t≤P * (-2):=Int.mul_le_mul_of_nonneg_left e2 (by omega)
     omega
    ·omega
  refine ⟨h6,hg,fun u'' up R2=>?_⟩
  have hl2:=R2.len
  have k1:=R2.eq
  have k2:=val_split u'' (j + v.length) (by omega)
  rw [R2.rest,hdrop] at k2
  have k3:=val_take_nn R2.wd (j + v.length)
  have k4:=val_take_le R2.wd (j + v.length)
  have k5:u''.getD (j + v.length) 0 = u.getD (j + v.length) 0:=by rw [R2.get,hget]
  rw [val_set _ _ _ (by omega),k5]
  rw [h6] at h5
  have e9:qw u v j * (val v * B ^ j) = g * (val v * B ^ j) - val v * B ^ j:=by rw [hg];grind
  rw [e9]
  have hup:up = 1:=by
   generalize B ^ (j + v.length) = P at *
   generalize val (u'.take (j + v.length)) = X at *
   generalize val (u''.take (j + v.length)) = Y at *
   by_cases e1:2≤up
   ·have:P * 2≤P * up:=Int.mul_le_mul_of_nonneg_left e1 (by omega)
    omega
   ·by_cases e2:up≤0
    ·have:P * up≤P * 0:=Int.mul_le_mul_of_nonneg_left e2 (by omega)
     omega
    ·omega
  refine ⟨hup,?_⟩
  rw [hup] at k1
  generalize B ^ (j + v.length) = P at *
  generalize val (u'.take (j + v.length)) = X at *
  generalize val (u''.take (j + v.length)) = Y at *
  rw [k2]
  grind
end Go.Proofs.YtcmbggahndfnnaaGreatDoor.NatTh
set_option linter.unusedVariables false
namespace Go.Proofs.YtcmbggahndfnnaaGreatDoor.NatTh
theorem len_le {a n:Nat} (h:(a:Int) < B ^ n):(numOf a).length≤n:=(num_numOf a).len_le (by rw [val_numOf];exact h)
theorem lt_len (a:Nat):(a:Int) < B ^ (numOf a).length:=by
 have:=val_lt (num_numOf a).1
 rwa [val_numOf] at this
theorem Bpow_le {m n:Nat} (h:m≤n):B ^ m≤B ^ n:=by
 obtain ⟨d,rfl⟩:∃ d,n = m + d:=⟨n - m,by omega⟩
 have h3:=Bpow_pos m
 have h4:=Bpow_pos d
 have:B ^ m * 1≤B ^ m * B ^ d:=Int.mul_le_mul_of_nonneg_left (by omega) (Int.le_of_lt h3)
 rw [← Bpow_add] at this
 omega
theorem len_mono {a b:Nat} (h:a≤b):(numOf a).length≤(numOf b).length:=len_le (by have:=lt_len b;omega)
theorem len_mul (a b:Nat):(numOf (a * b)).length≤(numOf a).length + (numOf b).length:=by
 refine len_le ?_
 have h1:=lt_len a
 have h2:=lt_len b
 rw [Bpow_add,Int.natCast_mul]
 exact Int.mul_lt_mul' (Int.le_of_lt h1) h2 (by omega) (Bpow_pos _)
theorem numOf_nil {a:Nat}:numOf a = [] ↔ a = 0:=by
 constructor
 ·intro h
  have:=val_numOf a
  rw [h] at this
  simp [val] at this
  omega
 ·rintro rfl
  exact numOf_zero
theorem len_pos {a:Nat} (h:0 < a):0 < (numOf a).length:=by
 rw [List.length_pos_iff]
 intro e
 rw [numOf_nil] at e
 omega
theorem trim_numOf {l:List Int} (h:Wd l) {n:Nat} (e:val l = n):trimL l = numOf n:=by
 rw [(num_trimL h).numOf,val_trimL,e]
 rfl
theorem Num.ge {l:List Int} (h:Num l) (hn:l≠[]):B ^ (l.length - 1)≤val l:=by
 have hl:0 < l.length:=List.length_pos_iff.2 hn
 have h1:=val_split l (l.length - 1) (by omega)
 have h2:=val_take_nn h.1 (l.length - 1)
 have h3:=val_drop_succ l (l.length - 1) (by omega)
 rw [List.drop_of_length_le (show l.length≤l.length - 1 + 1 by omega)] at h3
 have h4:l.getD (l.length - 1) 0≠0:=by
  have:=h.2 (l.getD (l.length - 1) 0) (by rw [List.getLast?_eq_getElem?,List.getD_eq_getElem?_getD,List.getElem?_eq_getElem (by omega)];rfl)
  exact this
 have h5:=h.1.getD (l.length - 1)
 have h6:B ^ (l.length - 1) * 1≤B ^ (l.length - 1) * val (l.drop (l.length - 1)):=Int.mul_le_mul_of_nonneg_left (by rw [h3,show val ([]:List Int) = 0 from rfl];omega) (Int.le_of_lt (Bpow_pos _))
 omega
theorem top_pos (a:Nat) (h:0 < a):0 < (numOf a).getD ((numOf a).length - 1) 0:=by
 have hl:=len_pos h
 have h5:=(num_numOf a).1.getD ((numOf a).length - 1)
 have:=(num_numOf a).2 ((numOf a).getD ((numOf a).length - 1) 0) (by rw [List.getLast?_eq_getElem?,List.getD_eq_getElem?_getD,List.getElem?_eq_getElem (by omega)];rfl)
 omega
theorem lt_of_len {a b:Nat} (h:(numOf a).length < (numOf b).length):a < b:=by
 have h1:=lt_len a
 have h2:=(num_numOf b).ge (by intro e;rw [e] at h;simp at h)
 rw [val_numOf] at h2
 have h3:=Bpow_le (show (numOf a).length≤(numOf b).length - 1 by omega)
 omega
theorem lt_of_word {x y:List Int} (hx:Wd x) (hy:Wd y) (hl:x.length = y.length) {i:Nat} (hi:i < x.length) (hd:x.drop (i + 1) = y.drop (i + 1)) (h:x.getD i 0 < y.getD i 0):val x < val y:=by
 have h1:=val_split x i (by omega)
 have h2:=val_split y i (by omega)
 have h3:=val_drop_succ x i hi
 have h4:=val_drop_succ y i (by omega)
 have h5:=val_take_le hx i
 have h6:=val_take_nn hy i
 have h7:B ^ i * (val (x.drop i) + 1)≤B ^ i * val (y.drop i):=Int.mul_le_mul_of_nonneg_left (by rw [h3,h4,hd];omega) (Int.le_of_lt (Bpow_pos i))
 rw [Int.mul_add] at h7
 omega
theorem drop_eq_of {x y:List Int} (hl:x.length = y.length) {i:Nat} (hi:i < x.length) (hd:x.drop (i + 1) = y.drop (i + 1)) (h:x.getD i 0 = y.getD i 0):x.drop i = y.drop i:=by
 rw [List.drop_eq_getElem_cons hi,List.drop_eq_getElem_cons (show i < y.length by omega),hd]
 rw [List.getD_eq_getElem?_getD,List.getD_eq_getElem?_getD,List.getElem?_eq_getElem hi,List.getElem?_eq_getElem (show i < y.length by omega)] at h
 simp only [Option.getD_some] at h
 rw [h]
def ord (a b:Nat):Int:=if a < b then -1 else if b < a then 1 else 0
theorem numOf_one {a:Nat} (h:a < 1000000000) (h0:0 < a):numOf a = [(a:Int)]:=by
 rw [numOf,dif_neg (by omega),Nat.mod_eq_of_lt h,Nat.div_eq_of_lt h,numOf_zero]
theorem val_two (l:List Int) (h:l.length = 2):val l = l.getD 0 0 + B * l.getD 1 0:=by
 match l,h with
 | [a,b],_=>simp [val]
theorem val_one (l:List Int) (h:l.length = 1):val l = l.getD 0 0:=by
 match l,h with
 | [a],_=>simp [val]
end Go.Proofs.YtcmbggahndfnnaaGreatDoor.NatTh
namespace Go.Proofs.YtcmbggahndfnnaaGreatDoor.Pr
open Go.RowKit Go.Proofs.YtcmbggahndfnnaaGreatDoorW.PrintWords Go.Proofs.YtcmbggahndfnnaaGreatDoorW.PrintLast Go.Proofs.YtcmbggahndfnnaaGreatDoorW.PrintMore
attribute [local go_sem] max2_int min2_int max_two min_two max_three min_three max_four min_four
set_option maxHeartbeats 8000000
set_option maxRecDepth 100000
set_option linter.unusedVariables false
set_option linter.unusedSimpArgs false
def natural_num_trim.l0:Nat→List Int→Option (List Int)
 | 0,_=>none
 | k + 1,x0=>if (x0.length:Int) > 0 then (if 0≤(wrap64 ((x0.length:Int) - 1)) then (if (wrap64 ((x0.length:Int) - 1)) < (x0.length:Int) then (if (rd x0 (wrap64 ((x0.length:Int) - 1))) = 0 then (if (wrap64 ((x0.length:Int) - 1))≤(x0.length:Int) then (natural_num_trim.l0 k (x0.take ((wrap64 ((x0.length:Int) - 1)):Int).toNat)) else (none)) else (some x0)) else (none)) else (none)) else (some x0)
def natural_num_trim.f (k:Nat) (l0:List Int):Option (List Int):=natural_num_trim.l0 k l0
theorem natural_num_trim.calls (k:Nat) (P0_:Nat→Prop) (A0:Option Addr) (c0:Nat) (l0:List Int) (r:List Int) (w:World) (hs0:Kd.V (Kd.int .u32) 101 w w.heap.size (fun k_=>P0_ k_) (.slice A0 l0.length c0) l0) (h:natural_num_trim.f k l0 = some r) :
  Calls Tryz.prog 138 #[.slice A0 l0.length c0] w fun e w'=>∃ v0_:Value,e = .returned (v0_)∧Kd.V (Kd.int .u32) 101 w' w.heap.size (fun k_=>(P0_ k_ ∨ w.heap.size≤k_)) v0_ r∧Below w.heap.size w w':=by
 have HO0:=Aside0.mk (show Kd.V (Kd.int .u32) 101 w w.heap.size (fun k_=>(P0_ k_ ∨ w.heap.size≤k_)) (.slice A0 l0.length c0) l0 from Kd.V_mono hs0 (fun k_ hk=>.inl hk))
 have HB:=Aside0.mk (Below.refl w.heap.size w)
 have H:=h;clear h;unfold natural_num_trim.f at H
 have H':=Aside0.mk H
 clear H
 go_enter Tryz.func138,Tryz.ntmps138
 go_wp2
 go_loopg [0] k (fun kq v0 w'=>∃ (x0_1:List Int),Aside0 (natural_num_trim.l0 kq x0_1 = some r)∧Aside0 (kq≤k)∧Aside0 (Kd.V (Kd.int .u32) 101 w' w.heap.size (fun k_=>(P0_ k_ ∨ w.heap.size≤k_)) v0 x0_1)∧Aside0 (Below w.heap.size w w'))
 case atStart=>exact ⟨(l0),H',⟨Nat.le_refl _⟩,⟨by (with_reducible repeat (first|apply Kd.V_alloc|apply Kd.V_drewN|apply Kd.V_drew));exact HO0.out⟩,⟨bx_⟩⟩
 case round =>
  clear H'
  obtain ⟨x0_1,HA,HK1,HO_0,HB⟩:=hrel
  cases gk with
  | zero=>exact absurd HA.out (by simp [natural_num_trim.l0])
  | succ k1 =>
   have H:=HA.out
   clear HA
   simp only [natural_num_trim.l0] at H
   by_cases c2:(x0_1.length:Int) > 0
   ·rw [if_pos c2] at H
    have c2b0:decide (0 < (x0_1.length:Int)) = true:=decide_eq_true c2
    have c2b1:decide (0 < x0_1.length) = true:=decide_eq_true (by omega)
    clear c2
    obtain ⟨ji3,hji3⟩:∃ j_:Int,(wrap64 ((x0_1.length:Int) - 1)) = j_:=⟨_,rfl⟩
    replace H:(if 0≤(ji3) then (if (ji3) < (x0_1.length:Int) then (if (rd x0_1 (ji3)) = 0 then (if (ji3)≤(x0_1.length:Int) then (natural_num_trim.l0 k1 (x0_1.take ((ji3):Int).toNat)) else (none)) else (some x0_1)) else (none)) else (none)) = some r:=by first|(rw [hji3] at H;exact H)|(simp only [hji3] at H ⊢;exact H)
    have hji3w:(IntKind.i64.wrap ((x0_1.length:Int) - 1)) = ji3:=(i64_w _).trans hji3
    by_cases c4:0≤(ji3)
    ·rw [if_pos c4] at H
     have c4b0:decide (0≤(ji3)) = true:=decide_eq_true c4
     clear c4
     by_cases c5:(ji3) < (x0_1.length:Int)
     ·rw [if_pos c5] at H
      have c5b0:decide ((ji3) < (x0_1.length:Int)) = true:=decide_eq_true c5
      clear c5
      by_cases c6:(rd x0_1 (ji3)) = 0
      ·rw [if_pos c6] at H
       have c6b0:((rd x0_1 (ji3)) == 0) = true:=beq_iff_eq.mpr c6
       have c6b1:((rd x0_1 (ji3)) != 0) = false:=bne_eq_false_iff_eq.mpr c6
       clear c6
       have c7b0:=eq_true (of_decide_eq_true (by first|(with_reducible assumption)|assumption):0≤(ji3))
       by_cases c8:(ji3)≤(x0_1.length:Int)
       ·rw [if_pos c8] at H
        have c8b0:=eq_true c8
        have c8b1:decide ((ji3)≤(x0_1.length:Int)) = true:=decide_eq_true c8
        clear c8
        obtain ⟨y177,hy177⟩:∃ y_:List Int,y_ = (x0_1.take ((ji3):Int).toNat):=⟨_,rfl⟩
        replace H:(natural_num_trim.l0 k1 y177) = some r:=by first|(rw [hy177];with_reducible exact H)|(have H2_:=(Option.bind_some _ _).symm.trans H;rw [hy177];with_reducible exact H2_)|(have H2_:=(Option.bind_some _ _).symm.trans H;with_reducible exact H2_)|with_reducible exact H|(rw [hy177];exact H)|exact H
        have Ny177:=Aside0.mk hy177
        clear hy177
        have H':=Aside0.mk H
        clear H
        obtain ⟨Ao9,co9,eo9⟩:=Kd.V_slice HO_0.out
        subst eo9
        have p176:0≤((ji3):Int):=da_
        have q176:(ji3) < (x0_1.length:Int):=da_
        obtain ⟨ad176,e176,hx176_0⟩:=Kd.at_int (Kd.V_reads' HO_0.out).2.2 (ji3) p176 q176
        cases e176
        replace p176:=eq_true p176
        replace q176:=eq_true q176
        have q10:((ji3):Int)≤((x0_1.length:Int):Int):=da_
        obtain ⟨i010,hi010,_,hsz10,_⟩:=info_parts info101
        have hroom10:x0_1.length≤co9:=(Kd.V_reads' HO_0.out).2.1
        have hC10:Kd.F (Kd.int .u32) _ _ (some ad176) x0_1.length x0_1:=(Kd.V_at (base:=w.heap.size) HO_0.out).2.2
        have hcut10:=cut_to (P:=Tryz.prog) 161 101 .i64 Tryz.underlying161 hi010 (some ad176) x0_1.length co9 (ji3) (of_decide_eq_true (by first|(with_reducible assumption)|assumption)) q10 hroom10
        have hr10:=Kd.F_take (m:=((ji3):Int).toNat) hC10 (by omega)
        have hy10:y177.length = ((ji3):Int).toNat:=(by rw [Ny177.out,List.length_take];omega)
        rw [← Ny177.out] at hr10
        rw [← hy10] at hcut10
        have HO181:=Aside0.mk (show Kd.V (Kd.int .u32) 101 _ w.heap.size _ (.slice (some ad176) y177.length co9) y177 from Kd.V_mk (by omega) hr10)
        have HC181:=Aside0.mk (show y177.length≤co9 from by omega)
        clear hr10 hC10 hroom10 hi010 hsz10
        have KY10:=Aside0.mk hy10
        clear hy10
        replace q10:=eq_true q10
        go_wp2
        go_roundg k1
        case measure=>have:=HK1.out;omega
        case rel=>exact ⟨(y177),H',⟨by have:=HK1.out;omega⟩,⟨by (with_reducible repeat (first|apply Kd.V_alloc|apply Kd.V_drewN|apply Kd.V_drew));exact HO181.out⟩,⟨bx_⟩⟩
       ·rw [if_neg c8] at H
        exact absurd H sm_
      ·rw [if_neg c6] at H
       have c6b0:((rd x0_1 (ji3)) == 0) = false:=beq_eq_false_iff_ne.mpr c6
       have c6b1:((rd x0_1 (ji3)) != 0) = true:=bne_iff_ne.mpr c6
       obtain rfl:=Option.some.inj H
       obtain ⟨Ao11,co11,eo11⟩:=Kd.V_slice HO_0.out
       subst eo11
       have p176:0≤((ji3):Int):=da_
       have q176:(ji3) < (x0_1.length:Int):=da_
       obtain ⟨ad176,e176,hx176_0⟩:=Kd.at_int (Kd.V_reads' HO_0.out).2.2 (ji3) p176 q176
       cases e176
       replace p176:=eq_true p176
       replace q176:=eq_true q176
       go_wp2
       go_ret
       exact ⟨_,by first|rfl|(simp [errW_none,errW_some]<;>rfl)|(simp only [← hji3];first|rfl|(simp [errW_none,errW_some]<;>rfl))|(simp [*,errW_none,errW_some]<;>rfl),by (with_reducible repeat (first|apply Kd.V_alloc|apply Kd.V_drewN|apply Kd.V_drew));exact HO_0.out,bx_⟩
     ·rw [if_neg c5] at H
      exact absurd H sm_
    ·rw [if_neg c4] at H
     exact absurd H sm_
   ·rw [if_neg c2] at H
    have c2b0:decide (0 < (x0_1.length:Int)) = false:=decide_eq_false c2
    have c2b1:decide (0 < x0_1.length) = false:=decide_eq_false (by omega)
    clear c2
    obtain rfl:=Option.some.inj H
    obtain ⟨Ao12,co12,eo12⟩:=Kd.V_slice HO_0.out
    subst eo12
    go_wp2
    go_ret
    exact ⟨_,rf_,by (with_reducible repeat (first|apply Kd.V_alloc|apply Kd.V_drewN|apply Kd.V_drew));exact HO_0.out,bx_⟩
end Go.Proofs.YtcmbggahndfnnaaGreatDoor.Pr
namespace Go.Proofs.YtcmbggahndfnnaaGreatDoor.Pr
open Go.RowKit Go.Proofs.YtcmbggahndfnnaaGreatDoorW.PrintWords Go.Proofs.YtcmbggahndfnnaaGreatDoorW.PrintLast Go.Proofs.YtcmbggahndfnnaaGreatDoorW.PrintMore
attribute [local go_sem] max2_int min2_int max_two min_two max_three min_three max_four min_four
set_option maxHeartbeats 8000000
set_option maxRecDepth 100000
set_option linter.unusedVariables false
set_option linter.unusedSimpArgs false
def garboardref01_trim.l0:Nat→List Int→Option (List Int)
 | 0,_=>none
 | k + 1,x0=>if (x0.length:Int) > 0 then (if 0≤(wrap64 ((x0.length:Int) - 1)) then (if (wrap64 ((x0.length:Int) - 1)) < (x0.length:Int) then (if (rd x0 (wrap64 ((x0.length:Int) - 1))) = 0 then (if (wrap64 ((x0.length:Int) - 1))≤(x0.length:Int) then (garboardref01_trim.l0 k (x0.take ((wrap64 ((x0.length:Int) - 1)):Int).toNat)) else (none)) else (some x0)) else (none)) else (none)) else (some x0)
def garboardref01_trim.f (k:Nat) (l0:List Int):Option (List Int):=garboardref01_trim.l0 k l0
end Go.Proofs.YtcmbggahndfnnaaGreatDoor.Pr
namespace Go.Proofs.YtcmbggahndfnnaaGreatDoor.Pr
open Go.RowKit Go.Proofs.YtcmbggahndfnnaaGreatDoorW.PrintWords Go.Proofs.YtcmbggahndfnnaaGreatDoorW.PrintLast Go.Proofs.YtcmbggahndfnnaaGreatDoorW.PrintMore
attribute [local go_sem] max2_int min2_int max_two min_two max_three min_three max_four min_four
set_option maxHeartbeats 8000000
set_option maxRecDepth 100000
set_option linter.unusedVariables false
set_option linter.unusedSimpArgs false
def cmp_isNaN_int.f (a0:Int):Option (Bool):=some (a0 != a0)
theorem cmp_isNaN_int.calls (a0:Int) (r:Bool) (w:World) (h:cmp_isNaN_int.f a0 = some r) :
  Calls Tryz.prog 168 #[.int .i64 a0] w fun e w'=>e = .returned (.bool r)∧Drawn0 w w':=by
 have H:=h;clear h;unfold cmp_isNaN_int.f at H
 obtain rfl:=Option.some.inj H
 go_enter Tryz.func168,Tryz.ntmps168
 go_wp2
 go_ret
 exact ⟨by first|rfl|(simp;done)|(simp [*];done),by repeat (first|exact Drawn0.refl _|apply Drawn0.step)⟩
end Go.Proofs.YtcmbggahndfnnaaGreatDoor.Pr
namespace Go.Proofs.YtcmbggahndfnnaaGreatDoor.Pr
open Go.RowKit Go.Proofs.YtcmbggahndfnnaaGreatDoorW.PrintWords Go.Proofs.YtcmbggahndfnnaaGreatDoorW.PrintLast Go.Proofs.YtcmbggahndfnnaaGreatDoorW.PrintMore
attribute [local go_sem] max2_int min2_int max_two min_two max_three min_three max_four min_four
set_option maxHeartbeats 8000000
set_option maxRecDepth 100000
set_option linter.unusedVariables false
set_option linter.unusedSimpArgs false
def cmp_Compare_int.f (a0:Int) (a1:Int):Option (Int):=(cmp_isNaN_int.f a0).bind fun t1035=>((cmp_isNaN_int.f a1).bind fun t1036=>(if t1035 = true then (if t1036 = true then (some 0) else (some (-1))) else (if t1036 = true then (some 1) else (if a0 < a1 then (some (-1)) else (if a0 > a1 then (some 1) else (some 0))))))
theorem cmp_Compare_int.calls (a0:Int) (a1:Int) (r:Int) (w:World) (h:cmp_Compare_int.f a0 a1 = some r) :
  Calls Tryz.prog 153 #[.int .i64 a0,.int .i64 a1] w fun e w'=>e = .returned (.int .i64 r)∧Drawn0 w w':=by
 have H:=h;clear h;unfold cmp_Compare_int.f at H
 obtain ⟨t1035,A3,H⟩:=bn_ H
 obtain ⟨t1036,A4,H⟩:=bn_ H
 by_cases c5:t1035 = true
 ·subst c5
  have H1:(if t1036 = true then (some 0) else (some (-1))) = some r:=by rw [if_pos rfl] at H;exact H
  clear H
  have H:=H1
  clear H1
  by_cases c6:t1036 = true
  ·subst c6
   have H1:(some 0) = some r:=by rw [if_pos rfl] at H;exact H
   clear H
   have H:=H1
   clear H1
   obtain rfl:=Option.some.inj H
   go_enter Tryz.func153,Tryz.ntmps153
   go_wp2_with (first|((with_reducible refine gate_callee (f:=168) rfl ?_);refine gm_ (some 8) Tryz.func168 #[.int .i64 a0] ?_;(with_reducible refine (cmp_isNaN_int.calls a0 true _ A3.out).mono ?_);rintro e w' ⟨rfl,⟨nd,rfl⟩⟩;refine ⟨_,rfl,?_⟩)|((with_reducible refine gate_callee (f:=168) rfl ?_);refine gm_ (some 10) Tryz.func168 #[.int .i64 a1] ?_;(with_reducible refine (cmp_isNaN_int.calls a1 true _ A4.out).mono ?_);rintro e w' ⟨rfl,⟨nd,rfl⟩⟩;refine ⟨_,rfl,?_⟩))
   go_ret
   exact ⟨by first|rfl|(simp;done)|(simp [*];done),by repeat (first|exact Drawn0.refl _|apply Drawn0.step)⟩
  ·replace c6:=Bool.eq_false_iff.mpr c6
   subst c6
   have H1:(some (-1)) = some r:=by rw [if_neg (show ¬ (false = true) by decide)] at H;exact H
   clear H
   have H:=H1
   clear H1
   obtain rfl:=Option.some.inj H
   go_enter Tryz.func153,Tryz.ntmps153
   go_wp2_with (first|((with_reducible refine gate_callee (f:=168) rfl ?_);refine gm_ (some 8) Tryz.func168 #[.int .i64 a0] ?_;(with_reducible refine (cmp_isNaN_int.calls a0 true _ A3.out).mono ?_);rintro e w' ⟨rfl,⟨nd,rfl⟩⟩;refine ⟨_,rfl,?_⟩)|((with_reducible refine gate_callee (f:=168) rfl ?_);refine gm_ (some 10) Tryz.func168 #[.int .i64 a1] ?_;(with_reducible refine (cmp_isNaN_int.calls a1 false _ A4.out).mono ?_);rintro e w' ⟨rfl,⟨nd,rfl⟩⟩;refine ⟨_,rfl,?_⟩))
   go_ret
   exact ⟨by first|rfl|(simp;done)|(simp [*];done),by repeat (first|exact Drawn0.refl _|apply Drawn0.step)⟩
 ·replace c5:=Bool.eq_false_iff.mpr c5
  subst c5
  have H1:(if t1036 = true then (some 1) else (if a0 < a1 then (some (-1)) else (if a0 > a1 then (some 1) else (some 0)))) = some r:=by rw [if_neg (show ¬ (false = true) by decide)] at H;exact H
  clear H
  have H:=H1
  clear H1
  by_cases c7:t1036 = true
  ·subst c7
   have H1:(some 1) = some r:=by rw [if_pos rfl] at H;exact H
   clear H
   have H:=H1
   clear H1
   obtain rfl:=Option.some.inj H
   go_enter Tryz.func153,Tryz.ntmps153
   go_wp2_with (first|((with_reducible refine gate_callee (f:=168) rfl ?_);refine gm_ (some 8) Tryz.func168 #[.int .i64 a0] ?_;(with_reducible refine (cmp_isNaN_int.calls a0 false _ A3.out).mono ?_);rintro e w' ⟨rfl,⟨nd,rfl⟩⟩;refine ⟨_,rfl,?_⟩)|((with_reducible refine gate_callee (f:=168) rfl ?_);refine gm_ (some 10) Tryz.func168 #[.int .i64 a1] ?_;(with_reducible refine (cmp_isNaN_int.calls a1 true _ A4.out).mono ?_);rintro e w' ⟨rfl,⟨nd,rfl⟩⟩;refine ⟨_,rfl,?_⟩))
   go_ret
   exact ⟨by first|rfl|(simp;done)|(simp [*];done),by repeat (first|exact Drawn0.refl _|apply Drawn0.step)⟩
  ·replace c7:=Bool.eq_false_iff.mpr c7
   subst c7
   have H1:(if a0 < a1 then (some (-1)) else (if a0 > a1 then (some 1) else (some 0))) = some r:=by rw [if_neg (show ¬ (false = true) by decide)] at H;exact H
   clear H
   have H:=H1
   clear H1
   by_cases c8:a0 < a1
   ·rw [if_pos c8] at H
    have c8b0:decide (a0 < a1) = true:=decide_eq_true c8
    clear c8
    obtain rfl:=Option.some.inj H
    go_enter Tryz.func153,Tryz.ntmps153
    go_wp2_with (first|((with_reducible refine gate_callee (f:=168) rfl ?_);refine gm_ (some 8) Tryz.func168 #[.int .i64 a0] ?_;(with_reducible refine (cmp_isNaN_int.calls a0 false _ A3.out).mono ?_);rintro e w' ⟨rfl,⟨nd,rfl⟩⟩;refine ⟨_,rfl,?_⟩)|((with_reducible refine gate_callee (f:=168) rfl ?_);refine gm_ (some 10) Tryz.func168 #[.int .i64 a1] ?_;(with_reducible refine (cmp_isNaN_int.calls a1 false _ A4.out).mono ?_);rintro e w' ⟨rfl,⟨nd,rfl⟩⟩;refine ⟨_,rfl,?_⟩))
    go_ret
    exact ⟨by first|rfl|(simp;done)|(simp [*];done),by repeat (first|exact Drawn0.refl _|apply Drawn0.step)⟩
   ·rw [if_neg c8] at H
    have c8b0:decide (a0 < a1) = false:=decide_eq_false c8
    clear c8
    by_cases c9:a0 > a1
    ·rw [if_pos c9] at H
     have c9b0:decide (a1 < a0) = true:=decide_eq_true c9
     clear c9
     obtain rfl:=Option.some.inj H
     go_enter Tryz.func153,Tryz.ntmps153
     go_wp2_with (first|((with_reducible refine gate_callee (f:=168) rfl ?_);refine gm_ (some 8) Tryz.func168 #[.int .i64 a0] ?_;(with_reducible refine (cmp_isNaN_int.calls a0 false _ A3.out).mono ?_);rintro e w' ⟨rfl,⟨nd,rfl⟩⟩;refine ⟨_,rfl,?_⟩)|((with_reducible refine gate_callee (f:=168) rfl ?_);refine gm_ (some 10) Tryz.func168 #[.int .i64 a1] ?_;(with_reducible refine (cmp_isNaN_int.calls a1 false _ A4.out).mono ?_);rintro e w' ⟨rfl,⟨nd,rfl⟩⟩;refine ⟨_,rfl,?_⟩))
     go_ret
     exact ⟨by first|rfl|(simp;done)|(simp [*];done),by repeat (first|exact Drawn0.refl _|apply Drawn0.step)⟩
    ·rw [if_neg c9] at H
     have c9b0:decide (a1 < a0) = false:=decide_eq_false c9
     clear c9
     obtain rfl:=Option.some.inj H
     go_enter Tryz.func153,Tryz.ntmps153
     go_wp2_with (first|((with_reducible refine gate_callee (f:=168) rfl ?_);refine gm_ (some 8) Tryz.func168 #[.int .i64 a0] ?_;(with_reducible refine (cmp_isNaN_int.calls a0 false _ A3.out).mono ?_);rintro e w' ⟨rfl,⟨nd,rfl⟩⟩;refine ⟨_,rfl,?_⟩)|((with_reducible refine gate_callee (f:=168) rfl ?_);refine gm_ (some 10) Tryz.func168 #[.int .i64 a1] ?_;(with_reducible refine (cmp_isNaN_int.calls a1 false _ A4.out).mono ?_);rintro e w' ⟨rfl,⟨nd,rfl⟩⟩;refine ⟨_,rfl,?_⟩))
     go_ret
     exact ⟨by first|rfl|(simp;done)|(simp [*];done),by repeat (first|exact Drawn0.refl _|apply Drawn0.step)⟩
end Go.Proofs.YtcmbggahndfnnaaGreatDoor.Pr
namespace Go.Proofs.YtcmbggahndfnnaaGreatDoor.Pr
open Go.RowKit Go.Proofs.YtcmbggahndfnnaaGreatDoorW.PrintWords Go.Proofs.YtcmbggahndfnnaaGreatDoorW.PrintLast Go.Proofs.YtcmbggahndfnnaaGreatDoorW.PrintMore
attribute [local go_sem] max2_int min2_int max_two min_two max_three min_three max_four min_four
set_option maxHeartbeats 8000000
set_option maxRecDepth 100000
set_option linter.unusedVariables false
set_option linter.unusedSimpArgs false
def cmp_isNaN_uint32.f (a0:Int):Option (Bool):=some (a0 != a0)
theorem cmp_isNaN_uint32.calls (a0:Int) (r:Bool) (w:World) (h:cmp_isNaN_uint32.f a0 = some r) :
  Calls Tryz.prog 169 #[.int .u32 a0] w fun e w'=>e = .returned (.bool r)∧Drawn0 w w':=by
 have H:=h;clear h;unfold cmp_isNaN_uint32.f at H
 obtain rfl:=Option.some.inj H
 go_enter Tryz.func169,Tryz.ntmps169
 go_wp2
 go_ret
 exact ⟨by first|rfl|(simp;done)|(simp [*];done),by repeat (first|exact Drawn0.refl _|apply Drawn0.step)⟩
end Go.Proofs.YtcmbggahndfnnaaGreatDoor.Pr
namespace Go.Proofs.YtcmbggahndfnnaaGreatDoor.Pr
open Go.RowKit Go.Proofs.YtcmbggahndfnnaaGreatDoorW.PrintWords Go.Proofs.YtcmbggahndfnnaaGreatDoorW.PrintLast Go.Proofs.YtcmbggahndfnnaaGreatDoorW.PrintMore
attribute [local go_sem] max2_int min2_int max_two min_two max_three min_three max_four min_four
set_option maxHeartbeats 8000000
set_option maxRecDepth 100000
set_option linter.unusedVariables false
set_option linter.unusedSimpArgs false
def cmp_Compare_uint32.f (a0:Int) (a1:Int):Option (Int):=(cmp_isNaN_uint32.f a0).bind fun t1037=>((cmp_isNaN_uint32.f a1).bind fun t1038=>(if t1037 = true then (if t1038 = true then (some 0) else (some (-1))) else (if t1038 = true then (some 1) else (if a0 < a1 then (some (-1)) else (if a0 > a1 then (some 1) else (some 0))))))
theorem cmp_Compare_uint32.calls (a0:Int) (a1:Int) (r:Int) (w:World) (h:cmp_Compare_uint32.f a0 a1 = some r) :
  Calls Tryz.prog 154 #[.int .u32 a0,.int .u32 a1] w fun e w'=>e = .returned (.int .i64 r)∧Drawn0 w w':=by
 have H:=h;clear h;unfold cmp_Compare_uint32.f at H
 obtain ⟨t1037,A3,H⟩:=bn_ H
 obtain ⟨t1038,A4,H⟩:=bn_ H
 by_cases c5:t1037 = true
 ·subst c5
  have H1:(if t1038 = true then (some 0) else (some (-1))) = some r:=by rw [if_pos rfl] at H;exact H
  clear H
  have H:=H1
  clear H1
  by_cases c6:t1038 = true
  ·subst c6
   have H1:(some 0) = some r:=by rw [if_pos rfl] at H;exact H
   clear H
   have H:=H1
   clear H1
   obtain rfl:=Option.some.inj H
   go_enter Tryz.func154,Tryz.ntmps154
   go_wp2_with (first|((with_reducible refine gate_callee (f:=169) rfl ?_);refine gm_ (some 8) Tryz.func169 #[.int .u32 a0] ?_;(with_reducible refine (cmp_isNaN_uint32.calls a0 true _ A3.out).mono ?_);rintro e w' ⟨rfl,⟨nd,rfl⟩⟩;refine ⟨_,rfl,?_⟩)|((with_reducible refine gate_callee (f:=169) rfl ?_);refine gm_ (some 10) Tryz.func169 #[.int .u32 a1] ?_;(with_reducible refine (cmp_isNaN_uint32.calls a1 true _ A4.out).mono ?_);rintro e w' ⟨rfl,⟨nd,rfl⟩⟩;refine ⟨_,rfl,?_⟩))
   go_ret
   exact ⟨by first|rfl|(simp;done)|(simp [*];done),by repeat (first|exact Drawn0.refl _|apply Drawn0.step)⟩
  ·replace c6:=Bool.eq_false_iff.mpr c6
   subst c6
   have H1:(some (-1)) = some r:=by rw [if_neg (show ¬ (false = true) by decide)] at H;exact H
   clear H
   have H:=H1
   clear H1
   obtain rfl:=Option.some.inj H
   go_enter Tryz.func154,Tryz.ntmps154
   go_wp2_with (first|((with_reducible refine gate_callee (f:=169) rfl ?_);refine gm_ (some 8) Tryz.func169 #[.int .u32 a0] ?_;(with_reducible refine (cmp_isNaN_uint32.calls a0 true _ A3.out).mono ?_);rintro e w' ⟨rfl,⟨nd,rfl⟩⟩;refine ⟨_,rfl,?_⟩)|((with_reducible refine gate_callee (f:=169) rfl ?_);refine gm_ (some 10) Tryz.func169 #[.int .u32 a1] ?_;(with_reducible refine (cmp_isNaN_uint32.calls a1 false _ A4.out).mono ?_);rintro e w' ⟨rfl,⟨nd,rfl⟩⟩;refine ⟨_,rfl,?_⟩))
   go_ret
   exact ⟨by first|rfl|(simp;done)|(simp [*];done),by repeat (first|exact Drawn0.refl _|apply Drawn0.step)⟩
 ·replace c5:=Bool.eq_false_iff.mpr c5
  subst c5
  have H1:(if t1038 = true then (some 1) else (if a0 < a1 then (some (-1)) else (if a0 > a1 then (some 1) else (some 0)))) = some r:=by rw [if_neg (show ¬ (false = true) by decide)] at H;exact H
  clear H
  have H:=H1
  clear H1
  by_cases c7:t1038 = true
  ·subst c7
   have H1:(some 1) = some r:=by rw [if_pos rfl] at H;exact H
   clear H
   have H:=H1
   clear H1
   obtain rfl:=Option.some.inj H
   go_enter Tryz.func154,Tryz.ntmps154
   go_wp2_with (first|((with_reducible refine gate_callee (f:=169) rfl ?_);refine gm_ (some 8) Tryz.func169 #[.int .u32 a0] ?_;(with_reducible refine (cmp_isNaN_uint32.calls a0 false _ A3.out).mono ?_);rintro e w' ⟨rfl,⟨nd,rfl⟩⟩;refine ⟨_,rfl,?_⟩)|((with_reducible refine gate_callee (f:=169) rfl ?_);refine gm_ (some 10) Tryz.func169 #[.int .u32 a1] ?_;(with_reducible refine (cmp_isNaN_uint32.calls a1 true _ A4.out).mono ?_);rintro e w' ⟨rfl,⟨nd,rfl⟩⟩;refine ⟨_,rfl,?_⟩))
   go_ret
   exact ⟨by first|rfl|(simp;done)|(simp [*];done),by repeat (first|exact Drawn0.refl _|apply Drawn0.step)⟩
  ·replace c7:=Bool.eq_false_iff.mpr c7
   subst c7
   have H1:(if a0 < a1 then (some (-1)) else (if a0 > a1 then (some 1) else (some 0))) = some r:=by rw [if_neg (show ¬ (false = true) by decide)] at H;exact H
   clear H
   have H:=H1
   clear H1
   by_cases c8:a0 < a1
   ·rw [if_pos c8] at H
    have c8b0:decide (a0 < a1) = true:=decide_eq_true c8
    clear c8
    obtain rfl:=Option.some.inj H
    go_enter Tryz.func154,Tryz.ntmps154
    go_wp2_with (first|((with_reducible refine gate_callee (f:=169) rfl ?_);refine gm_ (some 8) Tryz.func169 #[.int .u32 a0] ?_;(with_reducible refine (cmp_isNaN_uint32.calls a0 false _ A3.out).mono ?_);rintro e w' ⟨rfl,⟨nd,rfl⟩⟩;refine ⟨_,rfl,?_⟩)|((with_reducible refine gate_callee (f:=169) rfl ?_);refine gm_ (some 10) Tryz.func169 #[.int .u32 a1] ?_;(with_reducible refine (cmp_isNaN_uint32.calls a1 false _ A4.out).mono ?_);rintro e w' ⟨rfl,⟨nd,rfl⟩⟩;refine ⟨_,rfl,?_⟩))
    go_ret
    exact ⟨by first|rfl|(simp;done)|(simp [*];done),by repeat (first|exact Drawn0.refl _|apply Drawn0.step)⟩
   ·rw [if_neg c8] at H
    have c8b0:decide (a0 < a1) = false:=decide_eq_false c8
    clear c8
    by_cases c9:a0 > a1
    ·rw [if_pos c9] at H
     have c9b0:decide (a1 < a0) = true:=decide_eq_true c9
     clear c9
     obtain rfl:=Option.some.inj H
     go_enter Tryz.func154,Tryz.ntmps154
     go_wp2_with (first|((with_reducible refine gate_callee (f:=169) rfl ?_);refine gm_ (some 8) Tryz.func169 #[.int .u32 a0] ?_;(with_reducible refine (cmp_isNaN_uint32.calls a0 false _ A3.out).mono ?_);rintro e w' ⟨rfl,⟨nd,rfl⟩⟩;refine ⟨_,rfl,?_⟩)|((with_reducible refine gate_callee (f:=169) rfl ?_);refine gm_ (some 10) Tryz.func169 #[.int .u32 a1] ?_;(with_reducible refine (cmp_isNaN_uint32.calls a1 false _ A4.out).mono ?_);rintro e w' ⟨rfl,⟨nd,rfl⟩⟩;refine ⟨_,rfl,?_⟩))
     go_ret
     exact ⟨by first|rfl|(simp;done)|(simp [*];done),by repeat (first|exact Drawn0.refl _|apply Drawn0.step)⟩
    ·rw [if_neg c9] at H
     have c9b0:decide (a1 < a0) = false:=decide_eq_false c9
     clear c9
     obtain rfl:=Option.some.inj H
     go_enter Tryz.func154,Tryz.ntmps154
     go_wp2_with (first|((with_reducible refine gate_callee (f:=169) rfl ?_);refine gm_ (some 8) Tryz.func169 #[.int .u32 a0] ?_;(with_reducible refine (cmp_isNaN_uint32.calls a0 false _ A3.out).mono ?_);rintro e w' ⟨rfl,⟨nd,rfl⟩⟩;refine ⟨_,rfl,?_⟩)|((with_reducible refine gate_callee (f:=169) rfl ?_);refine gm_ (some 10) Tryz.func169 #[.int .u32 a1] ?_;(with_reducible refine (cmp_isNaN_uint32.calls a1 false _ A4.out).mono ?_);rintro e w' ⟨rfl,⟨nd,rfl⟩⟩;refine ⟨_,rfl,?_⟩))
     go_ret
     exact ⟨by first|rfl|(simp;done)|(simp [*];done),by repeat (first|exact Drawn0.refl _|apply Drawn0.step)⟩
end Go.Proofs.YtcmbggahndfnnaaGreatDoor.Pr
namespace Go.Proofs.YtcmbggahndfnnaaGreatDoor.Pr
open Go.RowKit Go.Proofs.YtcmbggahndfnnaaGreatDoorW.PrintWords Go.Proofs.YtcmbggahndfnnaaGreatDoorW.PrintLast Go.Proofs.YtcmbggahndfnnaaGreatDoorW.PrintMore
attribute [local go_sem] max2_int min2_int max_two min_two max_three min_three max_four min_four
set_option maxHeartbeats 8000000
set_option maxRecDepth 100000
set_option linter.unusedVariables false
set_option linter.unusedSimpArgs false
def natural_num_compare.l0:Nat→List Int→List Int→Int→Option (Int)
 | 0,_,_,_=>none
 | k + 1,x0,x1,x5=>if x5 ≥ 0 then (if 0≤x5 then (if x5 < (x0.length:Int) then (if x5 < (x1.length:Int) then (if (rd x0 x5) = (rd x1 x5) then (natural_num_compare.l0 k x0 x1 (wrap64 (x5 - 1))) else ((cmp_Compare_uint32.f (rd x0 x5) (rd x1 x5)).bind fun t1044=>(some t1044))) else (none)) else (none)) else (none)) else (some 0)
def natural_num_compare.f (k:Nat) (l0:List Int) (l1:List Int):Option (Int):=if (l0.length:Int) = (l1.length:Int) then (natural_num_compare.l0 k l0 l1 (wrap64 ((l0.length:Int) - 1))) else ((cmp_Compare_int.f (l0.length:Int) (l1.length:Int)).bind fun t1039=>(some t1039))
theorem natural_num_compare.calls (k:Nat) (A0:Option Addr) (c0:Nat) (l0:List Int) (A1:Option Addr) (c1:Nat) (l1:List Int) (r:Int) (w:World) (hr0:Kd.C (Kd.int .u32) w A0 l0.length l0) (hc0:l0.length≤c0) (hr1:Kd.C (Kd.int .u32) w A1 l1.length l1) (hc1:l1.length≤c1) (h:natural_num_compare.f k l0 l1 = some r) :
  Calls Tryz.prog 142 #[.slice A0 l0.length c0,.slice A1 l1.length c1] w fun e w'=>e = .returned (.int .i64 r)∧Drawn0 w w':=by
 have HR0:=Aside0.mk hr0
 have HC0:=Aside0.mk hc0
 clear hr0 hc0
 have HR1:=Aside0.mk hr1
 have HC1:=Aside0.mk hc1
 clear hr1 hc1
 have H:=h;clear h;unfold natural_num_compare.f at H
 by_cases c3:(l0.length:Int) = (l1.length:Int)
 ·rw [if_pos c3] at H
  have c3b0:((l0.length:Int) == (l1.length:Int)) = true:=beq_iff_eq.mpr c3
  have c3b1:((l0.length:Int) != (l1.length:Int)) = false:=bne_eq_false_iff_eq.mpr c3
  have c3b2:(l0.length == l1.length) = true:=by first|simpa using c3|(simp at c3 ⊢;omega)
  clear c3
  have H':=Aside0.mk H
  clear H
  go_enter Tryz.func142,Tryz.ntmps142
  go_wp2
  repeat (go_quiet (fail);try go_wp2)
  go_loopg [5] k (fun kq v5 w'=>∃ (x5_1:Int),v5 = .int .i64 x5_1∧Aside0 (natural_num_compare.l0 kq l0 l1 x5_1 = some r)∧Aside0 (kq≤k)∧Drawn0 w w')
  case atStart=>exact ⟨(wrap64 ((l0.length:Int) - 1)),rg_,H',⟨Nat.le_refl _⟩,by repeat (first|exact Drawn0.refl _|apply Drawn0.step)⟩
  case round =>
   clear H'
   try clear c1
   try clear c3
   try clear c3b0
   try clear c3b1
   try clear c3b2
   obtain ⟨x5_1,rfl,HA,HK1,⟨m1,rfl⟩⟩:=hrel
   cases gk with
   | zero=>exact absurd HA.out (by simp [natural_num_compare.l0])
   | succ k1 =>
    have H:=HA.out
    clear HA
    simp only [natural_num_compare.l0] at H
    by_cases c4:x5_1 ≥ 0
    ·rw [if_pos c4] at H
     have c4b0:decide (0≤x5_1) = true:=decide_eq_true c4
     clear c4
     by_cases c5:0≤x5_1
     ·rw [if_pos c5] at H
      have c5b0:decide (0≤x5_1) = true:=decide_eq_true c5
      clear c5
      by_cases c6:x5_1 < (l0.length:Int)
      ·rw [if_pos c6] at H
       have c6b0:decide (x5_1 < (l0.length:Int)) = true:=decide_eq_true c6
       clear c6
       by_cases c7:x5_1 < (l1.length:Int)
       ·rw [if_pos c7] at H
        have c7b0:decide (x5_1 < (l1.length:Int)) = true:=decide_eq_true c7
        clear c7
        by_cases c8:(rd l0 x5_1) = (rd l1 x5_1)
        ·rw [if_pos c8] at H
         have c8b0:((rd l0 x5_1) == (rd l1 x5_1)) = true:=beq_iff_eq.mpr c8
         have c8b1:((rd l0 x5_1) != (rd l1 x5_1)) = false:=bne_eq_false_iff_eq.mpr c8
         clear c8
         have H':=Aside0.mk H
         clear H
         have p1040:0≤(x5_1:Int):=da_
         have q1040:x5_1 < (l0.length:Int):=da_
         obtain ⟨ad1040,e1040,hx1040_0⟩:=Kd.at_int HR0.out x5_1 p1040 q1040
         cases e1040
         replace p1040:=eq_true p1040
         replace q1040:=eq_true q1040
         have p1041:0≤(x5_1:Int):=da_
         have q1041:x5_1 < (l1.length:Int):=da_
         obtain ⟨ad1041,e1041,hx1041_0⟩:=Kd.at_int HR1.out x5_1 p1041 q1041
         cases e1041
         replace p1041:=eq_true p1041
         replace q1041:=eq_true q1041
         go_wp2
         repeat (go_quiet (fail);try go_wp2)
         go_roundg k1
         case measure=>have:=HK1.out;omega
         case rel=>exact ⟨(wrap64 (x5_1 - 1)),rg_,H',⟨by have:=HK1.out;omega⟩,by repeat (first|exact Drawn0.refl _|apply Drawn0.step)⟩
        ·rw [if_neg c8] at H
         have c8b0:((rd l0 x5_1) == (rd l1 x5_1)) = false:=beq_eq_false_iff_ne.mpr c8
         have c8b1:((rd l0 x5_1) != (rd l1 x5_1)) = true:=bne_iff_ne.mpr c8
         obtain ⟨t1044,A9,H⟩:=bn_ H
         obtain rfl:=Option.some.inj H
         have p1040:0≤(x5_1:Int):=da_
         have q1040:x5_1 < (l0.length:Int):=da_
         obtain ⟨ad1040,e1040,hx1040_0⟩:=Kd.at_int HR0.out x5_1 p1040 q1040
         cases e1040
         replace p1040:=eq_true p1040
         replace q1040:=eq_true q1040
         have p1041:0≤(x5_1:Int):=da_
         have q1041:x5_1 < (l1.length:Int):=da_
         obtain ⟨ad1041,e1041,hx1041_0⟩:=Kd.at_int HR1.out x5_1 p1041 q1041
         cases e1041
         replace p1041:=eq_true p1041
         replace q1041:=eq_true q1041
         have p1042:0≤(x5_1:Int):=da_
         have q1042:x5_1 < (l0.length:Int):=da_
         obtain ⟨ad1042,e1042,hx1042_0⟩:=Kd.at_int HR0.out x5_1 p1042 q1042
         obtain rfl:ad1040 = ad1042:=(by injection e1042)
         replace p1042:=eq_true p1042
         replace q1042:=eq_true q1042
         have p1043:0≤(x5_1:Int):=da_
         have q1043:x5_1 < (l1.length:Int):=da_
         obtain ⟨ad1043,e1043,hx1043_0⟩:=Kd.at_int HR1.out x5_1 p1043 q1043
         obtain rfl:ad1041 = ad1043:=(by injection e1043)
         replace p1043:=eq_true p1043
         replace q1043:=eq_true q1043
         go_wp2_with (first|(go_at_call 154;(with_reducible refine (cmp_Compare_uint32.calls (rd l0 x5_1) (rd l1 x5_1) t1044 _ A9.out).mono ?_);rintro e w' ⟨rfl,⟨nd,rfl⟩⟩;(try first|exact ⟨rfl,_,World.drewN_drewN _ _ _⟩|exact ⟨rfl,_,Eq.trans (World.drewN_drewN _ _ _) (congrArg (World.drewN _) (Nat.add_assoc _ _ _))⟩)))
         repeat (go_quiet (first|(go_at_call 154;(with_reducible refine (cmp_Compare_uint32.calls (rd l0 x5_1) (rd l1 x5_1) t1044 _ A9.out).mono ?_);rintro e w' ⟨rfl,⟨nd,rfl⟩⟩;(try first|exact ⟨rfl,_,World.drewN_drewN _ _ _⟩|exact ⟨rfl,_,Eq.trans (World.drewN_drewN _ _ _) (congrArg (World.drewN _) (Nat.add_assoc _ _ _))⟩)));try go_wp2_with (first|(go_at_call 154;(with_reducible refine (cmp_Compare_uint32.calls (rd l0 x5_1) (rd l1 x5_1) t1044 _ A9.out).mono ?_);rintro e w' ⟨rfl,⟨nd,rfl⟩⟩;(try first|exact ⟨rfl,_,World.drewN_drewN _ _ _⟩|exact ⟨rfl,_,Eq.trans (World.drewN_drewN _ _ _) (congrArg (World.drewN _) (Nat.add_assoc _ _ _))⟩))))
         go_ret
         exact ⟨by first|rfl|(simp;done)|(simp [*];done),by repeat (first|exact Drawn0.refl _|apply Drawn0.step)⟩
       ·rw [if_neg c7] at H
        exact absurd H sm_
      ·rw [if_neg c6] at H
       exact absurd H sm_
     ·rw [if_neg c5] at H
      exact absurd H sm_
    ·rw [if_neg c4] at H
     have c4b0:decide (0≤x5_1) = false:=decide_eq_false c4
     clear c4
     obtain rfl:=Option.some.inj H
     go_wp2
     repeat (go_quiet (fail);try go_wp2)
     go_ret
     exact ⟨by first|rfl|(simp;done)|(simp [*];done),by repeat (first|exact Drawn0.refl _|apply Drawn0.step)⟩
 ·rw [if_neg c3] at H
  have c3b0:((l0.length:Int) == (l1.length:Int)) = false:=beq_eq_false_iff_ne.mpr c3
  have c3b1:((l0.length:Int) != (l1.length:Int)) = true:=bne_iff_ne.mpr c3
  have c3b2:(l0.length == l1.length) = false:=by first|simpa using c3|(simp at c3 ⊢;omega)
  obtain ⟨t1039,A10,H⟩:=bn_ H
  obtain rfl:=Option.some.inj H
  go_enter Tryz.func142,Tryz.ntmps142
  go_wp2_with (first|(go_at_call 153;(with_reducible refine (cmp_Compare_int.calls (l0.length:Int) (l1.length:Int) t1039 _ A10.out).mono ?_);rintro e w' ⟨rfl,⟨nd,rfl⟩⟩;(try first|exact ⟨rfl,_,World.drewN_drewN _ _ _⟩|exact ⟨rfl,_,Eq.trans (World.drewN_drewN _ _ _) (congrArg (World.drewN _) (Nat.add_assoc _ _ _))⟩)))
  repeat (go_quiet (first|(go_at_call 153;(with_reducible refine (cmp_Compare_int.calls (l0.length:Int) (l1.length:Int) t1039 _ A10.out).mono ?_);rintro e w' ⟨rfl,⟨nd,rfl⟩⟩;(try first|exact ⟨rfl,_,World.drewN_drewN _ _ _⟩|exact ⟨rfl,_,Eq.trans (World.drewN_drewN _ _ _) (congrArg (World.drewN _) (Nat.add_assoc _ _ _))⟩)));try go_wp2_with (first|(go_at_call 153;(with_reducible refine (cmp_Compare_int.calls (l0.length:Int) (l1.length:Int) t1039 _ A10.out).mono ?_);rintro e w' ⟨rfl,⟨nd,rfl⟩⟩;(try first|exact ⟨rfl,_,World.drewN_drewN _ _ _⟩|exact ⟨rfl,_,Eq.trans (World.drewN_drewN _ _ _) (congrArg (World.drewN _) (Nat.add_assoc _ _ _))⟩))))
  go_ret
  exact ⟨by first|rfl|(simp;done)|(simp [*];done),by repeat (first|exact Drawn0.refl _|apply Drawn0.step)⟩
end Go.Proofs.YtcmbggahndfnnaaGreatDoor.Pr
namespace Go.Proofs.YtcmbggahndfnnaaGreatDoor.Pr
open Go.RowKit Go.Proofs.YtcmbggahndfnnaaGreatDoorW.PrintWords Go.Proofs.YtcmbggahndfnnaaGreatDoorW.PrintLast Go.Proofs.YtcmbggahndfnnaaGreatDoorW.PrintMore
attribute [local go_sem] max2_int min2_int max_two min_two max_three min_three max_four min_four
set_option maxHeartbeats 8000000
set_option maxRecDepth 100000
set_option linter.unusedVariables false
set_option linter.unusedSimpArgs false
def garboardref01_Cmp.l0:Nat→List Int→List Int→Int→Option (Int)
 | 0,_,_,_=>none
 | k + 1,x0,x1,x5=>if x5 ≥ 0 then (if 0≤x5 then (if x5 < (x0.length:Int) then (if x5 < (x1.length:Int) then (if (rd x0 x5) < (rd x1 x5) then (some (-1)) else (if (rd x0 x5) > (rd x1 x5) then (some 1) else (garboardref01_Cmp.l0 k x0 x1 (wrap64 (x5 - 1))))) else (none)) else (none)) else (none)) else (some 0)
def garboardref01_Cmp.f (k:Nat) (l0:List Int) (l1:List Int):Option (Int):=if (l0.length:Int) = (l1.length:Int) then (garboardref01_Cmp.l0 k l0 l1 (wrap64 ((l0.length:Int) - 1))) else (if (l0.length:Int) < (l1.length:Int) then (some (-1)) else (some 1))
end Go.Proofs.YtcmbggahndfnnaaGreatDoor.Pr
namespace Go.Proofs.YtcmbggahndfnnaaGreatDoor.Pr
open Go.RowKit Go.Proofs.YtcmbggahndfnnaaGreatDoorW.PrintWords Go.Proofs.YtcmbggahndfnnaaGreatDoorW.PrintLast Go.Proofs.YtcmbggahndfnnaaGreatDoorW.PrintMore
attribute [local go_sem] max2_int min2_int max_two min_two max_three min_three max_four min_four
set_option maxHeartbeats 8000000
set_option maxRecDepth 100000
set_option linter.unusedVariables false
set_option linter.unusedSimpArgs false
def natural_num_small.f (l0:List Int):Option (Int × Bool):=if (l0.length:Int) = 0 then (some (0,true)) else (if (l0.length:Int) = 1 then (if 0 < (l0.length:Int) then (some (IntKind.u64.wrap (rd l0 0),true)) else (none)) else (if (l0.length:Int) = 2 then (if 0 < (l0.length:Int) then (if 1 < (l0.length:Int) then (some (IntKind.u64.wrap ((IntKind.u64.wrap (rd l0 0)) + (IntKind.u64.wrap (1000000000 * (IntKind.u64.wrap (rd l0 1))))),true)) else (none)) else (none)) else (some (0,false))))
theorem natural_num_small.calls (A0:Option Addr) (c0:Nat) (l0:List Int) (r1:Int) (r2:Bool) (w:World) (hr0:Kd.C (Kd.int .u32) w A0 l0.length l0) (hc0:l0.length≤c0) (h:natural_num_small.f l0 = some (r1,r2)) :
  Calls Tryz.prog 130 #[.slice A0 l0.length c0] w fun e w'=>e = .returned (.tuple #[.int .u64 r1,.bool r2])∧Drawn0 w w':=by
 have HR0:=Aside0.mk hr0
 have HC0:=Aside0.mk hc0
 clear hr0 hc0
 have H:=h;clear h;unfold natural_num_small.f at H
 by_cases c2:(l0.length:Int) = 0
 ·rw [if_pos c2] at H
  have c2b0:((l0.length:Int) == 0) = true:=beq_iff_eq.mpr c2
  have c2b1:((l0.length:Int) != 0) = false:=bne_eq_false_iff_eq.mpr c2
  clear c2
  simp only [Option.some.injEq,Prod.mk.injEq] at H
  obtain ⟨rfl,rfl⟩:=H
  go_enter Tryz.func130,Tryz.ntmps130
  go_wp2
  repeat (go_quiet (fail);try go_wp2)
  go_ret2
  exact ⟨by first|rfl|(simp;done)|(simp [*];done),by repeat (first|exact Drawn0.refl _|apply Drawn0.step)⟩
 ·rw [if_neg c2] at H
  have c2b0:((l0.length:Int) == 0) = false:=beq_eq_false_iff_ne.mpr c2
  have c2b1:((l0.length:Int) != 0) = true:=bne_iff_ne.mpr c2
  have c2b2:¬ (l0 = []):=fun h_=>c2 (by rw [h_];rfl)
  by_cases c3:(l0.length:Int) = 1
  ·rw [if_pos c3] at H
   have c3b0:((l0.length:Int) == 1) = true:=beq_iff_eq.mpr c3
   have c3b1:((l0.length:Int) != 1) = false:=bne_eq_false_iff_eq.mpr c3
   clear c3
   by_cases c4:0 < (l0.length:Int)
   ·rw [if_pos c4] at H
    have c4b0:decide (0 < (l0.length:Int)) = true:=decide_eq_true c4
    have c4b1:decide (0 < l0.length) = true:=decide_eq_true (by omega)
    clear c4
    simp only [Option.some.injEq,Prod.mk.injEq] at H
    obtain ⟨rfl,rfl⟩:=H
    have p1026:0≤(0:Int):=(by omega)
    have q1026:0 < (l0.length:Int):=da_
    obtain ⟨ad1026,e1026,hx1026_0⟩:=Kd.at_int HR0.out 0 p1026 q1026
    cases e1026
    have qi1026:(0 < l0.length) = True:=eq_true (by omega)
    (try rw [show ((0:Int)).toNat = 0 from rfl] at hx1026_0)
    (try rw [Addr.add_zero'] at hx1026_0)
    replace p1026:=eq_true p1026
    replace q1026:=eq_true q1026
    go_enter Tryz.func130,Tryz.ntmps130
    go_wp2
    repeat (go_quiet (fail);try go_wp2)
    go_ret2
    exact ⟨by first|rfl|(simp;done)|(simp [*];done),by repeat (first|exact Drawn0.refl _|apply Drawn0.step)⟩
   ·rw [if_neg c4] at H
    exact absurd H sm_
  ·rw [if_neg c3] at H
   have c3b0:((l0.length:Int) == 1) = false:=beq_eq_false_iff_ne.mpr c3
   have c3b1:((l0.length:Int) != 1) = true:=bne_iff_ne.mpr c3
   by_cases c5:(l0.length:Int) = 2
   ·rw [if_pos c5] at H
    have c5b0:((l0.length:Int) == 2) = true:=beq_iff_eq.mpr c5
    have c5b1:((l0.length:Int) != 2) = false:=bne_eq_false_iff_eq.mpr c5
    clear c5
    by_cases c6:0 < (l0.length:Int)
    ·rw [if_pos c6] at H
     have c6b0:decide (0 < (l0.length:Int)) = true:=decide_eq_true c6
     have c6b1:decide (0 < l0.length) = true:=decide_eq_true (by omega)
     clear c6
     by_cases c7:1 < (l0.length:Int)
     ·rw [if_pos c7] at H
      have c7b0:decide (1 < (l0.length:Int)) = true:=decide_eq_true c7
      have c7b1:decide (1 < l0.length) = true:=decide_eq_true (by omega)
      clear c7
      simp only [Option.some.injEq,Prod.mk.injEq] at H
      obtain ⟨rfl,rfl⟩:=H
      have p1027:0≤(0:Int):=(by omega)
      have q1027:0 < (l0.length:Int):=da_
      obtain ⟨ad1027,e1027,hx1027_0⟩:=Kd.at_int HR0.out 0 p1027 q1027
      cases e1027
      have qi1027:(0 < l0.length) = True:=eq_true (by omega)
      (try rw [show ((0:Int)).toNat = 0 from rfl] at hx1027_0)
      (try rw [Addr.add_zero'] at hx1027_0)
      replace p1027:=eq_true p1027
      replace q1027:=eq_true q1027
      have p1028:0≤(1:Int):=(by omega)
      have q1028:1 < (l0.length:Int):=da_
      obtain ⟨ad1028,e1028,hx1028_0⟩:=Kd.at_int HR0.out 1 p1028 q1028
      obtain rfl:ad1027 = ad1028:=(by injection e1028)
      (try simp only [show (1:Int).toNat = 1 from rfl,Nat.reduceMul,Nat.reduceEqDiff,Go.Addr.add,↓reduceIte] at hx1028_0)
      have qi1028:(1 < l0.length) = True:=eq_true (by omega)
      (try rw [show ((1:Int)).toNat = 1 from rfl] at hx1028_0)
      replace p1028:=eq_true p1028
      replace q1028:=eq_true q1028
      go_enter Tryz.func130,Tryz.ntmps130
      go_wp2
      repeat (go_quiet (fail);try go_wp2)
      go_ret2
      exact ⟨by first|rfl|(simp;done)|(simp [*];done),by repeat (first|exact Drawn0.refl _|apply Drawn0.step)⟩
     ·rw [if_neg c7] at H
      exact absurd H sm_
    ·rw [if_neg c6] at H
     exact absurd H sm_
   ·rw [if_neg c5] at H
    have c5b0:((l0.length:Int) == 2) = false:=beq_eq_false_iff_ne.mpr c5
    have c5b1:((l0.length:Int) != 2) = true:=bne_iff_ne.mpr c5
    simp only [Option.some.injEq,Prod.mk.injEq] at H
    obtain ⟨rfl,rfl⟩:=H
    go_enter Tryz.func130,Tryz.ntmps130
    go_wp2
    repeat (go_quiet (fail);try go_wp2)
    go_ret2
    exact ⟨by first|rfl|(simp;done)|(simp [*];done),by repeat (first|exact Drawn0.refl _|apply Drawn0.step)⟩
end Go.Proofs.YtcmbggahndfnnaaGreatDoor.Pr
namespace Go.Proofs.YtcmbggahndfnnaaGreatDoor.Pr
open Go.RowKit Go.Proofs.YtcmbggahndfnnaaGreatDoorW.PrintWords Go.Proofs.YtcmbggahndfnnaaGreatDoorW.PrintLast Go.Proofs.YtcmbggahndfnnaaGreatDoorW.PrintMore
attribute [local go_sem] max2_int min2_int max_two min_two max_three min_three max_four min_four
set_option maxHeartbeats 8000000
set_option maxRecDepth 100000
set_option linter.unusedVariables false
set_option linter.unusedSimpArgs false
def natural_of.f (k:Nat) (a0:Int):Option (List Int):=(natural_num_trim.f k (([(Int.tmod a0 1000000000) % 4294967296,(IntKind.u64.wrap (Int.tdiv a0 1000000000)) % 4294967296]:List Int))).bind fun t1032=>(some t1032)
theorem natural_of.calls (k:Nat) (a0:Int) (r:List Int) (w:World) (h:natural_of.f k a0 = some r) :
  Calls Tryz.prog 131 #[.int .u64 a0] w fun e w'=>∃ v0_:Value,e = .returned (v0_)∧Kd.V (Kd.int .u32) 101 w' w.heap.size (fun k_=>(w.heap.size≤k_)) v0_ r∧Below w.heap.size w w':=by
 have HB:=Aside0.mk (Below.refl w.heap.size w)
 have H:=h;clear h;unfold natural_of.f at H
 obtain ⟨y1029,hy1029⟩:∃ y_:List Int,y_ = (([(Int.tmod a0 1000000000) % 4294967296,(IntKind.u64.wrap (Int.tdiv a0 1000000000)) % 4294967296]:List Int)):=⟨_,rfl⟩
 replace H:((natural_num_trim.f k y1029).bind fun t1032=>(some t1032)) = some r:=by first|(rw [hy1029];with_reducible exact H)|(have H2_:=(Option.bind_some _ _).symm.trans H;rw [hy1029];with_reducible exact H2_)|(have H2_:=(Option.bind_some _ _).symm.trans H;with_reducible exact H2_)|with_reducible exact H|(rw [hy1029];exact H)|exact H
 have Ny1029:=Aside0.mk hy1029
 clear hy1029
 obtain ⟨t1032,A2,H⟩:=bn_ H
 obtain rfl:=Option.some.inj H
 go_enter Tryz.func131,Tryz.ntmps131
 go_wp2_with (first|((with_reducible refine gate_dst (N:=9) rfl ?_);refine Kd.R_lit (Kd.int .u32) _ 101 ?hg (N:=9) ?hd (xs:=([(Int.tmod a0 1000000000) % 4294967296,(IntKind.u64.wrap (Int.tdiv a0 1000000000)) % 4294967296]:List Int)) (inner:=[.int .u32 ((Int.tmod a0 1000000000) % 4294967296),.int .u32 ((IntKind.u64.wrap (Int.tdiv a0 1000000000)) % 4294967296)]) (ok:=fun _=>True) (okp:=fun _=>True) ?hr ?hp (fun _ hk=>hk) trivial (Below.refl _ _) (Nat.le_refl _) sm_ ?_;(case hd=>rfl);(case hg=>rfl);(case hr=>first|(go_simp;done)|(go_simp;rfl));(case hp=>exact (Reps.one (show Kd.M (Kd.int .u32) _ _ _ ((Int.tmod a0 1000000000) % 4294967296) [.int .u32 ((Int.tmod a0 1000000000) % 4294967296)] from rfl) (Reps.one (show Kd.M (Kd.int .u32) _ _ _ ((IntKind.u64.wrap (Int.tdiv a0 1000000000)) % 4294967296) [.int .u32 ((IntKind.u64.wrap (Int.tdiv a0 1000000000)) % 4294967296)] from rfl) (Reps.none _ _))));intro v1030 w3 ho4 hb hg_ hnew_;clear hg_ hnew_;(first|rw [← Ny1029.out] at ho4|(simp only [Int.reduceToNat] at ho4;rw [← Ny1029.out] at ho4));have HO1031:=Aside0.mk (Kd.R_lower (Kd.R_newM (M:=fun k_=>(w.heap.size≤k_)) ho4 (below_size bx_) (fun k_ h_=>h_)) (below_size bx_));replace HB:=bs_ hb;clear hb ho4;obtain ⟨Ao5,co5,eo5⟩:=Kd.R_slice HO1031.out;subst eo5)|((with_reducible refine gate_callee (f:=138) rfl ?_);refine gm_ (some 10) Tryz.func138 #[.slice Ao5 y1029.length co5] ?_;(with_reducible refine (natural_num_trim.calls k (fun k_=>some k_ = (.slice Ao5 y1029.length co5:Value).ownBlock) _ _ y1029 t1032 _ ?side1 A2.out).mono ?_);(case side1=>exact Kd.R_V (Kd.R_tight rfl (HO1031.out)));rintro e w6 ⟨v1033,rfl,ho0,hb⟩;refine ⟨_,rfl,?_⟩;have HO1034:=Aside0.mk (Kd.V_lower (Kd.V_mono (ok':=fun k_=>(w.heap.size≤k_)) ho0 (fun k_ hk_=>Or.elim hk_ (fun hs_=>((HO1031.out).1 k_ hs_.symm).1) (fun hn_=>(Nat.le_trans (below_size bx_) hn_)))) (below_size bx_));replace HO1031:=rb_ HO1031 hb;replace HB:=bs_ hb;(try clear hb);(try clear ho0)))
 go_ret
 exact ⟨_,rf_,by (with_reducible repeat (first|apply Kd.V_alloc|apply Kd.V_drewN|apply Kd.V_drew));exact HO1034.out,bx_⟩
end Go.Proofs.YtcmbggahndfnnaaGreatDoor.Pr
namespace Go.Proofs.YtcmbggahndfnnaaGreatDoor.Pr
open Go.RowKit Go.Proofs.YtcmbggahndfnnaaGreatDoorW.PrintWords Go.Proofs.YtcmbggahndfnnaaGreatDoorW.PrintLast Go.Proofs.YtcmbggahndfnnaaGreatDoorW.PrintMore
attribute [local go_sem] max2_int min2_int max_two min_two max_three min_three max_four min_four
set_option maxHeartbeats 8000000
set_option maxRecDepth 100000
set_option linter.unusedVariables false
set_option linter.unusedSimpArgs false
def natural_num_by.l0:Nat→List Int→Int→List Int→Int→Int→Option (List Int × List Int)
 | 0,_,_,_,_,_=>none
 | k + 1,x0,x1,x6,x7,x8=>if x8 ≥ 0 then (if 0≤x8 then (if x8 < (x0.length:Int) then (if x1 = 0 then (none) else (if x8 < (x6.length:Int) then (natural_num_by.l0 k x0 x1 (x6.set (x8:Int).toNat ((IntKind.u64.wrap (Int.tdiv (IntKind.u64.wrap ((IntKind.u64.wrap (x7 * 1000000000)) + (IntKind.u64.wrap (rd x0 x8)))) x1)) % 4294967296)) (Int.tmod (IntKind.u64.wrap ((IntKind.u64.wrap (x7 * 1000000000)) + (IntKind.u64.wrap (rd x0 x8)))) x1) (wrap64 (x8 - 1))) else (none))) else (none)) else (none)) else ((natural_num_trim.f k x6).bind fun t1050=>((natural_of.f k x7).bind fun t1053=>(some (t1050,t1053))))
def natural_num_by.f (k:Nat) (l0:List Int) (a1:Int):Option (List Int × List Int):=if 0≤(l0.length:Int) then (if ((l0.length:Int):Int).toNat≤70368744177664 then (natural_num_by.l0 k l0 a1 (List.replicate ((l0.length:Int):Int).toNat 0) 0 (wrap64 ((l0.length:Int) - 1))) else (none)) else (none)
theorem natural_num_by.calls (k:Nat) (A0:Option Addr) (c0:Nat) (l0:List Int) (a1:Int) (r1:List Int) (r2:List Int) (w:World) (hr0:Kd.C (Kd.int .u32) w A0 l0.length l0) (hc0:l0.length≤c0) (h:natural_num_by.f k l0 a1 = some (r1,r2)) :
  Calls Tryz.prog 143 #[.slice A0 l0.length c0,.int .u64 a1] w fun e w'=>∃ v0_ v1_:Value,e = .returned (.tuple #[v0_,v1_])∧Kd.V (Kd.int .u32) 101 w' w.heap.size (fun k_=>(w.heap.size≤k_)) v0_ r1∧Kd.V (Kd.int .u32) 101 w' w.heap.size (fun k_=>(w.heap.size≤k_)) v1_ r2∧Below w.heap.size w w':=by
 have HR0:=Aside0.mk hr0
 have HC0:=Aside0.mk hc0
 clear hr0 hc0
 have HB:=Aside0.mk (Below.refl w.heap.size w)
 have H:=h;clear h;unfold natural_num_by.f at H
 by_cases c3:0≤(l0.length:Int)
 ·rw [if_pos c3] at H
  have c3b0:=eq_true c3
  have c3b1:decide (0≤(l0.length:Int)) = true:=decide_eq_true c3
  clear c3
  by_cases c4:((l0.length:Int):Int).toNat≤70368744177664
  ·rw [if_pos c4] at H
   have c4b0:=eq_true c4
   have c4b1:decide (((l0.length:Int):Int).toNat≤70368744177664) = true:=decide_eq_true c4
   clear c4
   obtain ⟨y1045,hy1045⟩:∃ y_:List Int,y_ = (List.replicate ((l0.length:Int):Int).toNat 0):=⟨_,rfl⟩
   replace H:(natural_num_by.l0 k l0 a1 y1045 0 (wrap64 ((l0.length:Int) - 1))) = some (r1,r2):=by first|(rw [hy1045];with_reducible exact H)|(have H2_:=(Option.bind_some _ _).symm.trans H;rw [hy1045];with_reducible exact H2_)|(have H2_:=(Option.bind_some _ _).symm.trans H;with_reducible exact H2_)|with_reducible exact H|(rw [hy1045];exact H)|exact H
   have Ny1045:=Aside0.mk hy1045
   clear hy1045
   have H':=Aside0.mk H
   clear H
   go_enter Tryz.func143,Tryz.ntmps143
   go_wp2_with (first|((with_reducible refine gate_dst (N:=11) rfl ?_);refine Kd.R_make (Kd.int .u32) _ 101 rfl (N:=11) rfl 161 _ _ rfl (l0.length:Int) rfl rfl Tryz.underlying161 (.int .u32 0) 4 info101 rfl de_ (by omega) 0 (ok:=fun _=>True) (okp:=fun _=>True) rfl (fun _ hk=>hk) trivial (of_decide_eq_true (by first|(with_reducible assumption)|assumption)) (Nat.le_trans (Nat.mul_le_mul_right _ (of_decide_eq_true (by first|(with_reducible assumption)|assumption):(l0.length:Int).toNat≤70368744177664)) (by omega)) (Below.refl _ _) (Nat.le_refl _) ?_;intro v1046 w5 ho6 hb hg_ hnew_;clear hg_ hnew_;(first|rw [← Ny1045.out] at ho6|(simp only [Int.reduceToNat] at ho6;rw [← Ny1045.out] at ho6));have HO1047:=Aside0.mk (Kd.R_lower (Kd.R_newM (M:=fun k_=>(w.heap.size≤k_)) ho6 (below_size bx_) (fun k_ h_=>h_)) (below_size bx_));replace HB:=bs_ hb;clear hb ho6))
   go_loopg [7,8] k (fun kq v7 v8 w'=>∃ (x6_1:List Int) (x7_1:Int) (x8_1:Int),v7 = .int .u64 x7_1∧v8 = .int .i64 x8_1∧Aside0 (natural_num_by.l0 kq l0 a1 x6_1 x7_1 x8_1 = some (r1,r2))∧Aside0 (kq≤k)∧Aside0 (Kd.R (Kd.int .u32) 101 w' w.heap.size (fun k_=>(w.heap.size≤k_)) v1046 x6_1)∧Aside0 (Below w.heap.size w w'))
   case atStart=>exact ⟨(y1045),(0),(wrap64 ((l0.length:Int) - 1)),rg_,rg_,H',⟨Nat.le_refl _⟩,⟨by (with_reducible repeat (first|apply Kd.R_alloc|apply Kd.R_drewN|apply Kd.R_drew));exact Kd.R_mono HO1047.out (fun _ hk=>hk.1)⟩,⟨bx_⟩⟩
   case round =>
    clear H'
    try clear c3
    try clear c3b0
    try clear c3b1
    try clear c4
    try clear c4b0
    try clear c4b1
    obtain ⟨x6_1,x7_1,x8_1,rfl,rfl,HA,HK1,HO_6,HB⟩:=hrel
    cases gk with
    | zero=>exact absurd HA.out (by simp [natural_num_by.l0])
    | succ k1 =>
     have H:=HA.out
     clear HA
     simp only [natural_num_by.l0] at H
     by_cases c7:x8_1 ≥ 0
     ·rw [if_pos c7] at H
      have c7b0:decide (0≤x8_1) = true:=decide_eq_true c7
      clear c7
      by_cases c8:0≤x8_1
      ·rw [if_pos c8] at H
       have c8b0:decide (0≤x8_1) = true:=decide_eq_true c8
       clear c8
       by_cases c9:x8_1 < (l0.length:Int)
       ·rw [if_pos c9] at H
        have c9b0:decide (x8_1 < (l0.length:Int)) = true:=decide_eq_true c9
        clear c9
        by_cases c10:a1 = 0
        ·rw [if_pos c10] at H
         exact absurd H sm_
        ·rw [if_neg c10] at H
         have c10b0:(a1 == 0) = false:=beq_eq_false_iff_ne.mpr c10
         have c10b1:(a1 != 0) = true:=bne_iff_ne.mpr c10
         by_cases c11:x8_1 < (x6_1.length:Int)
         ·rw [if_pos c11] at H
          have c11b0:decide (x8_1 < (x6_1.length:Int)) = true:=decide_eq_true c11
          clear c11
          obtain ⟨y1049,hy1049⟩:∃ y_:List Int,y_ = (x6_1.set (x8_1:Int).toNat ((IntKind.u64.wrap (Int.tdiv (IntKind.u64.wrap ((IntKind.u64.wrap (x7_1 * 1000000000)) + (IntKind.u64.wrap (rd l0 x8_1)))) a1)) % 4294967296)):=⟨_,rfl⟩
          replace H:(natural_num_by.l0 k1 l0 a1 y1049 (Int.tmod (IntKind.u64.wrap ((IntKind.u64.wrap (x7_1 * 1000000000)) + (IntKind.u64.wrap (rd l0 x8_1)))) a1) (wrap64 (x8_1 - 1))) = some (r1,r2):=by first|(rw [hy1049];with_reducible exact H)|(have H2_:=(Option.bind_some _ _).symm.trans H;rw [hy1049];with_reducible exact H2_)|(have H2_:=(Option.bind_some _ _).symm.trans H;with_reducible exact H2_)|with_reducible exact H|(rw [hy1049];exact H)|exact H
          have Ny1049:=Aside0.mk hy1049
          clear hy1049
          have H':=Aside0.mk H
          clear H
          have p1048:0≤(x8_1:Int):=da_
          have q1048:x8_1 < (l0.length:Int):=da_
          obtain ⟨ad1048,e1048,hx1048_0⟩:=Kd.at_int HR0.out x8_1 p1048 q1048
          cases e1048
          replace hx1048_0:=(HB.out.cell (World.block_lt_of_cell? w _ hx1048_0)).trans hx1048_0
          replace p1048:=eq_true p1048
          replace q1048:=eq_true q1048
          have p12:0≤(x8_1:Int):=da_
          have q12:(x8_1:Int) < ((x6_1.length:Int):Int):=da_
          obtain ⟨go12,co12,eo12,gb12,gl12,cl12,HG12⟩:=Kd.R_form HO_6.out (by omega)
          (first|cases eo12|(injection eo12 with ea_ en_ ec_;(first|subst ea_|(injection ea_ with ea_;subst ea_));subst ec_;clear en_))
          have GB12:=Aside0.mk gb12
          have GG12:=Aside0.mk HG12
          clear gb12 gl12 HG12
          obtain ⟨hx12_0,hf12_0⟩:=Kd.R_celln 0 HO_6.out (x8_1:Int) p12 q12
          replace p12:=eq_true p12
          replace q12:=eq_true q12
          have HP13:=Kd.R_putg HO_6.out (x8_1:Int) ((IntKind.u64.wrap (Int.tdiv (IntKind.u64.wrap ((IntKind.u64.wrap (x7_1 * 1000000000)) + (IntKind.u64.wrap (rd l0 x8_1)))) a1)) % 4294967296)
          go_wp2_with (first|((with_reducible refine gate_store (t:=101) (p:=33) rfl ?_);refine store_event (t:=101) (p:=33) (v:=?vo_w14) (w1:=(wr.setCell ⟨go12,(x8_1:Int).toNat,none⟩ (.int .u32 ((IntKind.u64.wrap (Int.tdiv (IntKind.u64.wrap ((IntKind.u64.wrap (x7_1 * 1000000000)) + (IntKind.u64.wrap (rd l0 x8_1)))) a1)) % 4294967296)))) ?hg ?ho ?hn ?hr ?_;(case ho=>rfl);(case hg=>rfl);(case hn=>rfl);(case hr=>first|(go_simp;done)|(go_simp;rfl));intro w14 hw;have hg:wr.grownBy w14 (some go12):=(by rw [hw];exact HP13.2);have hp_:Kd.R (Kd.int .u32) 101 w14 w.heap.size (fun k_=>(w.heap.size≤k_)) (.slice (some ⟨go12,0,none⟩) x6_1.length co12) y1049:=(by rw [hw,Ny1049.out];exact HP13.1);clear HP13;replace HO_6:=Aside0.mk hp_;replace HB:=Aside0.mk ((by rw [hw];exact below_set (HB.out) GB12.out:Below w.heap.size w w14));clear hg hw hp_))
          go_roundg k1
          case measure=>have:=HK1.out;omega
          case rel=>exact ⟨(y1049),(Int.tmod (IntKind.u64.wrap ((IntKind.u64.wrap (x7_1 * 1000000000)) + (IntKind.u64.wrap (rd l0 x8_1)))) a1),(wrap64 (x8_1 - 1)),rg_,rg_,H',⟨by have:=HK1.out;omega⟩,⟨by (with_reducible repeat (first|apply Kd.R_alloc|apply Kd.R_drewN|apply Kd.R_drew));first|exact HO_6.out|(rw [Ny1049.out];exact (Kd.R_putg (by first|exact Kd.R_drewN HO_6.out _|(apply Kd.R_drewN;exact HO_6.out)) (x8_1:Int) ((IntKind.u64.wrap (Int.tdiv (IntKind.u64.wrap ((IntKind.u64.wrap (x7_1 * 1000000000)) + (IntKind.u64.wrap (rd l0 x8_1)))) a1)) % 4294967296)).1)|(rw [Ny1049.out];exact (Kd.R_putg HO_6.out (x8_1:Int) ((IntKind.u64.wrap (Int.tdiv (IntKind.u64.wrap ((IntKind.u64.wrap (x7_1 * 1000000000)) + (IntKind.u64.wrap (rd l0 x8_1)))) a1)) % 4294967296)).1)⟩,⟨by first|(exact below_set bx_ GB12.out)|(repeat (first|(with_reducible first|exact HB.out|apply below_alloc|apply pw_below_drewN|apply below_drew1)|exact HB.out))⟩⟩
         ·rw [if_neg c11] at H
          exact absurd H sm_
       ·rw [if_neg c9] at H
        exact absurd H sm_
      ·rw [if_neg c8] at H
       exact absurd H sm_
     ·rw [if_neg c7] at H
      have c7b0:decide (0≤x8_1) = false:=decide_eq_false c7
      clear c7
      obtain ⟨t1050,A15,H⟩:=bn_ H
      obtain ⟨t1053,A16,H⟩:=bn_ H
      simp only [Option.some.injEq,Prod.mk.injEq] at H
      obtain ⟨rfl,rfl⟩:=H
      obtain ⟨Ao17,co17,eo17⟩:=Kd.R_slice HO_6.out
      subst eo17
      go_wp2_with (first|((with_reducible refine gate_callee (f:=138) rfl ?_);refine gm_ (some 38) Tryz.func138 #[.slice Ao17 x6_1.length co17] ?_;(with_reducible refine (natural_num_trim.calls k1 (fun k_=>some k_ = (.slice Ao17 x6_1.length co17:Value).ownBlock) _ _ x6_1 t1050 _ ?side1 A15.out).mono ?_);(case side1=>exact Kd.R_V (Kd.R_tight rfl (HO_6.out)));rintro e w18 ⟨v1051,rfl,ho0,hb⟩;refine ⟨_,rfl,?_⟩;have HO1052:=Aside0.mk (Kd.V_lower (Kd.V_mono (ok':=fun k_=>(w.heap.size≤k_)) ho0 (fun k_ hk_=>Or.elim hk_ (fun hs_=>((HO_6.out).1 k_ hs_.symm)) (fun hn_=>(Nat.le_trans (below_size bx_) hn_)))) (below_size bx_));replace HO_6:=rb_ HO_6 hb;replace HB:=bs_ hb;(try clear hb);(try clear ho0))|((with_reducible refine gate_callee (f:=131) rfl ?_);refine gm_ (some 40) Tryz.func131 #[.int .u64 x7_1] ?_;(with_reducible refine (natural_of.calls k1 x7_1 t1053 _ A16.out).mono ?_);rintro e w19 ⟨v1054,rfl,ho0,hb⟩;refine ⟨_,rfl,?_⟩;have HO1055:=Aside0.mk (Kd.V_lower (Kd.V_mono (ok':=fun k_=>(w.heap.size≤k_)∧some k_≠(.slice Ao17 x6_1.length co17:Value).ownBlock) ho0 (fun k_ hk_=>⟨(Nat.le_trans (below_size bx_) hk_),(Kd.fresh' (Kd.R_lt (by (with_reducible repeat (first|apply Kd.R_alloc|apply Kd.R_drewN|apply Kd.R_drew));exact HO_6.out)) k_ hk_)⟩)) (below_size bx_));replace HO_6:=rb_ HO_6 hb;replace HO1052:=vb_ HO1052 hb;replace HB:=bs_ hb;(try clear hb);(try clear ho0)))
      go_ret2
      exact ⟨_,_,rf_,by (with_reducible repeat (first|apply Kd.V_alloc|apply Kd.V_drewN|apply Kd.V_drew));exact HO1052.out,by (with_reducible repeat (first|apply Kd.V_alloc|apply Kd.V_drewN|apply Kd.V_drew));exact Kd.V_mono HO1055.out (fun _ hk=>hk.1),bx_⟩
  ·rw [if_neg c4] at H
   exact absurd H sm_
 ·rw [if_neg c3] at H
  exact absurd H sm_
end Go.Proofs.YtcmbggahndfnnaaGreatDoor.Pr
namespace Go.Proofs.YtcmbggahndfnnaaGreatDoor.Pr
open Go.RowKit Go.Proofs.YtcmbggahndfnnaaGreatDoorW.PrintWords Go.Proofs.YtcmbggahndfnnaaGreatDoorW.PrintLast Go.Proofs.YtcmbggahndfnnaaGreatDoorW.PrintMore
attribute [local go_sem] max2_int min2_int max_two min_two max_three min_three max_four min_four
set_option maxHeartbeats 8000000
set_option maxRecDepth 100000
set_option linter.unusedVariables false
set_option linter.unusedSimpArgs false
def garboardref01_small.l0:Nat→List Int→Int→List Int→Int→Int→Option (List Int × Int)
 | 0,_,_,_,_,_=>none
 | k + 1,x0,x1,x6,x7,x8=>if x8 ≥ 0 then (if 0≤x8 then (if x8 < (x0.length:Int) then (if (IntKind.u64.wrap (x1)) = 0 then (none) else (if x8 < (x6.length:Int) then (garboardref01_small.l0 k x0 x1 (x6.set (x8:Int).toNat ((IntKind.u64.wrap (Int.tdiv (IntKind.u64.wrap ((IntKind.u64.wrap (x7 * 1000000000)) + (IntKind.u64.wrap (rd x0 x8)))) (IntKind.u64.wrap (x1)))) % 4294967296)) (Int.tmod (IntKind.u64.wrap ((IntKind.u64.wrap (x7 * 1000000000)) + (IntKind.u64.wrap (rd x0 x8)))) (IntKind.u64.wrap (x1))) (wrap64 (x8 - 1))) else (none))) else (none)) else (none)) else ((garboardref01_trim.f k x6).bind fun t525=>(some (t525,(x7) % 4294967296)))
def garboardref01_small.f (k:Nat) (l0:List Int) (a1:Int):Option (List Int × Int):=if 0≤(l0.length:Int) then (if ((l0.length:Int):Int).toNat≤70368744177664 then (garboardref01_small.l0 k l0 a1 (List.replicate ((l0.length:Int):Int).toNat 0) 0 (wrap64 ((l0.length:Int) - 1))) else (none)) else (none)
end Go.Proofs.YtcmbggahndfnnaaGreatDoor.Pr
namespace Go.Proofs.YtcmbggahndfnnaaGreatDoor.Pr
open Go.RowKit Go.Proofs.YtcmbggahndfnnaaGreatDoorW.PrintWords Go.Proofs.YtcmbggahndfnnaaGreatDoorW.PrintLast Go.Proofs.YtcmbggahndfnnaaGreatDoorW.PrintMore
attribute [local go_sem] max2_int min2_int max_two min_two max_three min_three max_four min_four
set_option maxHeartbeats 8000000
set_option maxRecDepth 100000
set_option linter.unusedVariables false
set_option linter.unusedSimpArgs false
def garboardref01_word.l0:Nat→List Int→Int→Int→Option (Int)
 | 0,_,_,_=>none
 | k + 1,x0,x3,x4=>if x4 ≥ 0 then (if 0≤x4 then (if x4 < (x0.length:Int) then (garboardref01_word.l0 k x0 (IntKind.u64.wrap ((IntKind.u64.wrap (x3 * 1000000000)) + (IntKind.u64.wrap (rd x0 x4)))) (wrap64 (x4 - 1))) else (none)) else (none)) else (some x3)
def garboardref01_word.f (k:Nat) (l0:List Int):Option (Int):=garboardref01_word.l0 k l0 0 (wrap64 ((l0.length:Int) - 1))
end Go.Proofs.YtcmbggahndfnnaaGreatDoor.Pr
namespace Go.Proofs.YtcmbggahndfnnaaGreatDoor.Pr
open Go.RowKit Go.Proofs.YtcmbggahndfnnaaGreatDoorW.PrintWords Go.Proofs.YtcmbggahndfnnaaGreatDoorW.PrintLast Go.Proofs.YtcmbggahndfnnaaGreatDoorW.PrintMore
attribute [local go_sem] max2_int min2_int max_two min_two max_three min_three max_four min_four
set_option maxHeartbeats 8000000
set_option maxRecDepth 100000
set_option linter.unusedVariables false
set_option linter.unusedSimpArgs false
def garboardref01_wide.f (k:Nat) (a0:Int):Option (List Int):=(garboardref01_trim.f k (([(Int.tmod a0 1000000000) % 4294967296,(Int.tmod (IntKind.u64.wrap (Int.tdiv a0 1000000000)) 1000000000) % 4294967296,(IntKind.u64.wrap (Int.tdiv (IntKind.u64.wrap (Int.tdiv a0 1000000000)) 1000000000)) % 4294967296]:List Int))).bind fun t517=>(some t517)
end Go.Proofs.YtcmbggahndfnnaaGreatDoor.Pr
set_option linter.unusedVariables false
set_option linter.unusedSimpArgs false
namespace Go.Proofs.YtcmbggahndfnnaaGreatDoor.Pr
open Go.RowKit Go.Proofs.YtcmbggahndfnnaaGreatDoorW.PrintWords Go.Proofs.YtcmbggahndfnnaaGreatDoorW.PrintLast Go.Proofs.YtcmbggahndfnnaaGreatDoorW.PrintMore Go.Proofs.YtcmbggahndfnnaaGreatDoor.NatTh
theorem w64 {x:Int} (h0:-9223372036854775808≤x) (h:x < 9223372036854775808):wrap64 x = x:=by unfold wrap64;omega
theorem u64w {x:Int} (h0:0≤x) (h:x < 18446744073709551616):IntKind.u64.wrap x = x:=by rw [IntKind.wrap_u64];omega
theorem rd_eq (l:List Int) (n:Nat):rd l (n:Int) = l.getD n 0:=by unfold rd;rw [Int.toNat_natCast]
theorem rd_last (a:List Int) (w:Int):rd (a ++ [w]) (a.length:Int) = w:=by rw [rd_eq];simp
theorem trim_k:∀ (n:Nat) (l:List Int),l.length = n→n < 1152921504606846976→∀ k,n < k→natural_num_trim.l0 k l = some (trimL l)∧garboardref01_trim.l0 k l = some (trimL l):=by
 intro n
 induction n with
 | zero =>
  intro l hl _ k hk
  obtain ⟨k,rfl⟩:∃ m,k = m + 1:=⟨k - 1,by omega⟩
  have:l = []:=List.eq_nil_of_length_eq_zero hl
  subst this
  constructor
  ·simp only [natural_num_trim.l0]
   rw [if_neg (by simp)]
   rfl
  ·simp only [garboardref01_trim.l0]
   rw [if_neg (by simp)]
   rfl
 | succ n ih =>
  intro l hl hb k hk
  obtain ⟨k,rfl⟩:∃ m,k = m + 1:=⟨k - 1,by omega⟩
  rcases snoc_cases l with rfl|⟨a,w,rfl⟩
  ·simp at hl
  ·have ha:a.length = n:=by simpa using hl
   have hL:(((a ++ [w]).length:Nat):Int) = a.length + 1:=by simp
   have hw:wrap64 ((a.length:Int) + 1 - 1) = a.length:=by rw [w64 (by omega) (by omega)];omega
   obtain ⟨h1,h2⟩:=ih a ha (by omega) k (by omega)
   constructor
   ·simp only [natural_num_trim.l0]
    rw [hL,hw,if_pos (by omega),if_pos (by omega),if_pos (by omega),rd_last]
    by_cases e:w = 0
    ·subst e
     rw [if_pos rfl,if_pos (by omega),Int.toNat_natCast,List.take_left' rfl,trimL_snoc_zero]
     exact h1
    ·rw [if_neg e,trimL_snoc a w e]
   ·simp only [garboardref01_trim.l0]
    rw [hL,hw,if_pos (by omega),if_pos (by omega),if_pos (by omega),rd_last]
    by_cases e:w = 0
    ·subst e
     rw [if_pos rfl,if_pos (by omega),Int.toNat_natCast,List.take_left' rfl,trimL_snoc_zero]
     exact h2
    ·rw [if_neg e,trimL_snoc a w e]
def Ok (l:List Int):Prop:=l.length≤1099511627776
theorem trim_ev {l:List Int} (h:l.length < 1152921504606846976):Ev (fun k=>natural_num_trim.f k l) (trimL l):=⟨l.length + 1,fun k hk=>(trim_k _ l rfl h k (by omega)).1⟩
theorem rtrim_ev {l:List Int} (h:l.length < 1152921504606846976):Ev (fun k=>garboardref01_trim.f k l) (trimL l):=⟨l.length + 1,fun k hk=>(trim_k _ l rfl h k (by omega)).2⟩
theorem cmp32 (a b:Int):cmp_Compare_uint32.f a b = some (if a < b then -1 else if b < a then 1 else 0):=by
 unfold cmp_Compare_uint32.f cmp_isNaN_uint32.f
 simp only [bne_self_eq_false,Option.bind_some,Bool.false_eq_true,if_false]
 by_cases h:a < b
 ·rw [if_pos h,if_pos h]
 ·rw [if_neg h,if_neg h]
  by_cases h2:b < a
  ·rw [if_pos h2,if_pos h2]
  ·rw [if_neg h2,if_neg h2]
theorem cmp64 (a b:Int):cmp_Compare_int.f a b = some (if a < b then -1 else if b < a then 1 else 0):=by
 unfold cmp_Compare_int.f cmp_isNaN_int.f
 simp only [bne_self_eq_false,Option.bind_some,Bool.false_eq_true,if_false]
 by_cases h:a < b
 ·rw [if_pos h,if_pos h]
 ·rw [if_neg h,if_neg h]
  by_cases h2:b < a
  ·rw [if_pos h2,if_pos h2]
  ·rw [if_neg h2,if_neg h2]
def cmpV (a b:Int):Int:=if a < b then -1 else if b < a then 1 else 0
theorem cmp_loop (x y:List Int) (hx:Wd x) (hy:Wd y) (hl:x.length = y.length) (hb:x.length < 1152921504606846976):∀ (n:Nat),n≤x.length→x.drop n = y.drop n→∀ k,n < k →
  natural_num_compare.l0 k x y ((n:Int) - 1) = some (cmpV (val x) (val y))∧garboardref01_Cmp.l0 k x y ((n:Int) - 1) = some (cmpV (val x) (val y)):=by
 intro n
 induction n with
 | zero =>
  intro _ hd k hk
  obtain ⟨k,rfl⟩:∃ m,k = m + 1:=⟨k - 1,by omega⟩
  simp only [List.drop_zero] at hd
  subst hd
  have e:cmpV (val x) (val x) = 0:=by unfold cmpV;simp
  rw [e]
  constructor
  ·simp only [natural_num_compare.l0]
   rw [if_neg (by omega)]
  ·simp only [garboardref01_Cmp.l0]
   rw [if_neg (by omega)]
 | succ n ih =>
  intro hn hd k hk
  obtain ⟨k,rfl⟩:∃ m,k = m + 1:=⟨k - 1,by omega⟩
  have e1:(((n + 1:Nat):Int) - 1) = n:=by omega
  have e2:wrap64 ((n:Int) - 1) = (n:Int) - 1:=w64 (by omega) (by omega)
  rw [e1]
  have hlt:=fun h=>lt_of_word hx hy hl (show n < x.length by omega) hd h
  have hgt:=fun h=>lt_of_word hy hx hl.symm (show n < y.length by omega) hd.symm h
  have he:=fun h=>drop_eq_of hl (show n < x.length by omega) hd h
  constructor
  ·simp only [natural_num_compare.l0]
   rw [if_pos (by omega),if_pos (by omega),if_pos (by omega),if_pos (by omega),rd_eq,rd_eq,e2,cmp32]
   by_cases h:x.getD n 0 = y.getD n 0
   ·rw [if_pos h]
    exact (ih (by omega) (he h) k (by omega)).1
   ·rw [if_neg h]
    simp only [Option.bind_some]
    congr 1
    unfold cmpV
    by_cases h1:x.getD n 0 < y.getD n 0
    ·rw [if_pos h1,if_pos (hlt h1)]
    ·have h2:y.getD n 0 < x.getD n 0:=by omega
     have h3:=hgt h2
     rw [if_neg h1,if_pos h2,if_neg (by omega),if_pos h3]
  ·simp only [garboardref01_Cmp.l0]
   rw [if_pos (by omega),if_pos (by omega),if_pos (by omega),if_pos (by omega),rd_eq,rd_eq,e2]
   unfold cmpV
   by_cases h1:x.getD n 0 < y.getD n 0
   ·rw [if_pos h1,if_pos (hlt h1)]
   ·rw [if_neg h1]
    by_cases h2:x.getD n 0 > y.getD n 0
    ·have h3:=hgt h2
     rw [if_pos h2,if_neg (by omega),if_pos h3]
    ·rw [if_neg h2]
     exact (ih (by omega) (he (by omega)) k (by omega)).2
theorem compare_ev (a b:Nat) (ha:Ok (numOf a)) (hb:Ok (numOf b)):Ev (fun k=>natural_num_compare.f k (numOf a) (numOf b)) (ord a b)∧Ev (fun k=>garboardref01_Cmp.f k (numOf a) (numOf b)) (ord a b):=by
 unfold Ok at ha hb
 have hc:cmpV (val (numOf a)) (val (numOf b)) = ord a b:=by
  rw [val_numOf,val_numOf]
  unfold cmpV ord
  by_cases h1:a < b
  ·rw [if_pos h1,if_pos (by omega)]
  ·rw [if_neg h1,if_neg (by omega)]
   by_cases h2:b < a
   ·rw [if_pos h2,if_pos (by omega)]
   ·rw [if_neg h2,if_neg (by omega)]
 by_cases hl:(numOf a).length = (numOf b).length
 ·have h:=fun k hk=>cmp_loop (numOf a) (numOf b) (num_numOf a).1 (num_numOf b).1 hl (by omega) (numOf a).length (Nat.le_refl _) (by rw [List.drop_length,hl,List.drop_length]) k hk
  rw [hc] at h
  constructor
  ·refine ⟨(numOf a).length + 1,fun k hk=>?_⟩
   simp only [natural_num_compare.f]
   rw [if_pos (by omega),w64 (by omega) (by omega)]
   exact (h k (by omega)).1
  ·refine ⟨(numOf a).length + 1,fun k hk=>?_⟩
   simp only [garboardref01_Cmp.f]
   rw [if_pos (by omega),w64 (by omega) (by omega)]
   exact (h k (by omega)).2
 ·have key:ord a b = if ((numOf a).length:Int) < ((numOf b).length:Int) then -1 else 1:=by
   unfold ord
   by_cases h1:(numOf a).length < (numOf b).length
   ·rw [if_pos (lt_of_len h1),if_pos (by omega)]
   ·have h2:=lt_of_len (show (numOf b).length < (numOf a).length by omega)
    rw [if_neg (by omega),if_pos h2,if_neg (by omega)]
  constructor
  ·refine ⟨0,fun k hk=>?_⟩
   simp only [natural_num_compare.f]
   rw [if_neg (by omega),cmp64,key]
   simp only [Option.bind_some]
   by_cases h1:((numOf a).length:Int) < ((numOf b).length:Int)
   ·rw [if_pos h1,if_pos h1]
   ·rw [if_neg h1,if_pos (by omega),if_neg h1]
  ·refine ⟨0,fun k hk=>?_⟩
   simp only [garboardref01_Cmp.f]
   rw [if_neg (by omega),key]
   by_cases h1:((numOf a).length:Int) < ((numOf b).length:Int)
   ·rw [if_pos h1,if_pos h1]
   ·rw [if_neg h1,if_neg h1]
theorem BB:B = 1000000000:=rfl
theorem small_eq (a:Nat):natural_num_small.f (numOf a) = some (if (numOf a).length≤2 then ((a:Int),true) else (0,false)):=by
 have hv:=val_numOf a
 have hw:=(num_numOf a).1
 have h0:=hw.getD 0
 have h1:=hw.getD 1
 rw [BB] at h0 h1
 unfold natural_num_small.f
 by_cases e0:(numOf a).length = 0
 ·have:a = 0:=numOf_nil.1 (List.eq_nil_of_length_eq_zero e0)
  rw [if_pos (by omega),if_pos (by omega),this]
  rfl
 ·rw [if_neg (by omega)]
  by_cases e1:(numOf a).length = 1
  ·rw [if_pos (by omega),if_pos (by omega),if_pos (by omega)]
   have e:=val_one _ e1
   rw [show (0:Int) = ((0:Nat):Int) from rfl,rd_eq,← e,hv,u64w (by omega) (by omega)]
  ·rw [if_neg (by omega)]
   by_cases e2:(numOf a).length = 2
   ·rw [if_pos (by omega),if_pos (by omega),if_pos (by omega),if_pos (by omega)]
    have e:=val_two _ e2
    rw [BB] at e
    rw [show rd (numOf a) 0 = (numOf a).getD 0 0 from rd_eq _ 0,show rd (numOf a) 1 = (numOf a).getD 1 0 from rd_eq _ 1]
    rw [u64w h0.1 (by omega),u64w h1.1 (by omega),u64w (x:=1000000000 * (numOf a).getD 1 0) (by omega) (by omega),u64w (by omega) (by omega),← e,hv]
   ·rw [if_neg (by omega),if_neg (by omega)]
theorem wd2 {x y:Int} (hx:0≤x∧x < 1000000000) (hy:0≤y∧y < 1000000000):Wd [x,y]:=Wd.cons hx (Wd.cons hy Wd.nil)
theorem of_ev (a:Nat) (h:a < 1000000000000000000):Ev (fun k=>natural_of.f k a) (numOf a):=by
 have e1:Int.tmod (a:Int) 1000000000 = (a:Int) % 1000000000:=Int.tmod_eq_emod_of_nonneg (by omega)
 have e2:Int.tdiv (a:Int) 1000000000 = (a:Int) / 1000000000:=Int.tdiv_eq_ediv_of_nonneg (by omega)
 have ew:Wd [(a:Int) % 1000000000,(a:Int) / 1000000000]:=wd2 (by omega) (by omega)
 have ev:val [(a:Int) % 1000000000,(a:Int) / 1000000000] = a:=by
  simp only [val,BB]
  omega
 have h1:=trim_ev (l:=[(a:Int) % 1000000000,(a:Int) / 1000000000]) (by simp)
 rw [trim_numOf ew ev] at h1
 refine Ev.congr (f:=fun k=>(natural_num_trim.f k [(a:Int) % 1000000000,(a:Int) / 1000000000]).bind fun t=>some t) (fun k=>?_) (Ev.bind h1 (Ev.now _))
 simp only [natural_of.f]
 rw [e1,e2,u64w (by omega) (by omega),Int.emod_eq_of_lt (show (0:Int)≤(a:Int) % 1000000000 by omega) (by omega),Int.emod_eq_of_lt (show (0:Int)≤(a:Int) / 1000000000 by omega) (by omega)]
theorem wide_ev (a:Nat) (h:a < 18446744073709551616):Ev (fun k=>garboardref01_wide.f k a) (numOf a):=by
 have e1:Int.tmod (a:Int) 1000000000 = (a:Int) % 1000000000:=Int.tmod_eq_emod_of_nonneg (by omega)
 have e2:Int.tdiv (a:Int) 1000000000 = (a:Int) / 1000000000:=Int.tdiv_eq_ediv_of_nonneg (by omega)
 have e3:Int.tmod ((a:Int) / 1000000000) 1000000000 = (a:Int) / 1000000000 % 1000000000:=Int.tmod_eq_emod_of_nonneg (by omega)
 have e4:Int.tdiv ((a:Int) / 1000000000) 1000000000 = (a:Int) / 1000000000 / 1000000000:=Int.tdiv_eq_ediv_of_nonneg (by omega)
 have ew:Wd [(a:Int) % 1000000000,(a:Int) / 1000000000 % 1000000000,(a:Int) / 1000000000 / 1000000000]:=Wd.cons (by unfold B;omega) (wd2 (by omega) (by omega))
 have ev:val [(a:Int) % 1000000000,(a:Int) / 1000000000 % 1000000000,(a:Int) / 1000000000 / 1000000000] = a:=by
  simp only [val,BB]
  omega
 have h1:=rtrim_ev (l:=[(a:Int) % 1000000000,(a:Int) / 1000000000 % 1000000000,(a:Int) / 1000000000 / 1000000000]) (by simp)
 rw [trim_numOf ew ev] at h1
 refine Ev.congr (f:=fun k=>(garboardref01_trim.f k [(a:Int) % 1000000000,(a:Int) / 1000000000 % 1000000000,(a:Int) / 1000000000 / 1000000000]).bind fun t=>some t) (fun k=>?_) (Ev.bind h1 (Ev.now _))
 simp only [garboardref01_wide.f]
 rw [e1,e2,u64w (x:=(a:Int) / 1000000000) (by omega) (by omega),e3,e4,u64w (by omega) (by omega),Int.emod_eq_of_lt (show (0:Int)≤(a:Int) % 1000000000 by omega) (by omega),Int.emod_eq_of_lt (show (0:Int)≤(a:Int) / 1000000000 % 1000000000 by omega) (by omega),Int.emod_eq_of_lt (show (0:Int)≤(a:Int) / 1000000000 / 1000000000 by omega) (by omega)]
theorem word_loop (x:List Int) (hx:Wd x) (hv:val x < 18446744073709551616) (hb:x.length < 1152921504606846976):∀ (n:Nat),n≤x.length→∀ k,n < k→garboardref01_word.l0 k x (val (x.drop n)) ((n:Int) - 1) = some (val x):=by
 intro n
 induction n with
 | zero =>
  intro _ k hk
  obtain ⟨k,rfl⟩:∃ m,k = m + 1:=⟨k - 1,by omega⟩
  simp only [garboardref01_word.l0]
  rw [if_neg (by omega)]
  simp
 | succ n ih =>
  intro hn k hk
  obtain ⟨k,rfl⟩:∃ m,k = m + 1:=⟨k - 1,by omega⟩
  have e1:(((n + 1:Nat):Int) - 1) = n:=by omega
  have hd:=val_drop_succ x n (by omega)
  have hnn:=val_drop_nn hx (n + 1)
  have hle:val (x.drop n)≤val x:=by
   have h1:=val_split x n (by omega)
   have h2:=val_take_nn hx n
   have h3:=val_drop_nn hx n
   have h4:1 * val (x.drop n)≤B ^ n * val (x.drop n):=Int.mul_le_mul_of_nonneg_right (by have:=Bpow_pos n;omega) h3
   omega
  have hg:=hx.getD n
  rw [BB] at hd hg
  simp only [garboardref01_word.l0]
  rw [e1,if_pos (by omega),if_pos (by omega),if_pos (by omega),rd_eq,w64 (x:=(n:Int) - 1) (by omega) (by omega),u64w (x:=val (x.drop (n + 1)) * 1000000000) (by omega) (by omega),u64w (x:=x.getD n 0) (by omega) (by omega),u64w (by omega) (by omega),show val (x.drop (n + 1)) * 1000000000 + x.getD n 0 = val (x.drop n) by omega]
  exact ih (by omega) k (by omega)
theorem word_ev (a:Nat) (h:a < 18446744073709551616) (ho:Ok (numOf a)):Ev (fun k=>garboardref01_word.f k (numOf a)) (a:Int):=by
 unfold Ok at ho
 refine ⟨(numOf a).length + 1,fun k hk=>?_⟩
 have h1:=word_loop (numOf a) (num_numOf a).1 (by rw [val_numOf];omega) (by omega) (numOf a).length (Nat.le_refl _) k (by omega)
 rw [List.drop_length,val_numOf] at h1
 simp only [garboardref01_word.f]
 rw [w64 (by omega) (by omega)]
 exact h1
end Go.Proofs.YtcmbggahndfnnaaGreatDoor.Pr
set_option linter.unusedVariables false
set_option linter.unusedSimpArgs false
namespace Go.Proofs.YtcmbggahndfnnaaGreatDoor.Pr
open Go.RowKit Go.Proofs.YtcmbggahndfnnaaGreatDoorW.PrintWords Go.Proofs.YtcmbggahndfnnaaGreatDoorW.PrintLast Go.Proofs.YtcmbggahndfnnaaGreatDoorW.PrintMore Go.Proofs.YtcmbggahndfnnaaGreatDoor.NatTh
theorem drop_set_self (l:List Int) (n:Nat) (w:Int) (h:n < l.length):(l.set n w).drop n = w :: l.drop (n + 1):=by
 rw [List.drop_eq_getElem_cons (by rw [List.length_set];exact h),drop_set_succ]
 simp
theorem by_step (x:List Int) (n:Nat) (w r d:Int) (hx:Wd x) (hn:n < x.length) (hw:0 < w) (hr:r = val (x.drop (n + 1)) % w) :
  (r * 1000000000 + x.getD n 0) / w = val (x.drop n) / w - B * (val (x.drop (n + 1)) / w)∧(r * 1000000000 + x.getD n 0) % w = val (x.drop n) % w∧0≤(r * 1000000000 + x.getD n 0) / w∧(r * 1000000000 + x.getD n 0) / w < 1000000000∧0≤r∧r < w:=by
 have hd:=val_drop_succ x n hn
 have hg:=hx.getD n
 have h1:=Int.mul_ediv_add_emod (val (x.drop (n + 1))) w
 have h0:=Int.emod_nonneg (val (x.drop (n + 1))) (Int.ne_of_gt hw)
 have h2:=Int.emod_lt_of_pos (val (x.drop (n + 1))) hw
 rw [← hr] at h0 h1 h2
 rw [BB] at *
 generalize val (x.drop (n + 1)) / w = Q at *
 have e:val (x.drop n) = (r * 1000000000 + x.getD n 0) + w * (1000000000 * Q):=by
  rw [hd,← h1,Int.mul_add,← Int.mul_assoc w,Int.mul_comm w 1000000000,Int.mul_assoc]
  omega
 rw [e,Int.add_mul_ediv_left _ _ (Int.ne_of_gt hw),Int.add_mul_emod_self_left]
 refine ⟨by omega,rfl,Int.ediv_nonneg (by omega) (by omega),?_,h0,h2⟩
 refine Int.ediv_lt_of_lt_mul hw ?_
 omega
structure ByI (x out:List Int) (w:Int) (n:Nat):Prop where
 wd:Wd out
 len:out.length = x.length
 eq:val (out.drop n) = val (x.drop n) / w
theorem ByI.step {x out:List Int} {w:Int} {n:Nat} (h:ByI x out w (n + 1)) (hx:Wd x) (hn:n < x.length) (hw:0 < w) :
  ByI x (out.set n ((val (x.drop (n + 1)) % w * 1000000000 + x.getD n 0) / w)) w n:=by
 obtain ⟨h1,h2,h3,h4,h5,h6⟩:=by_step x n w _ 0 hx hn hw rfl
 refine ⟨h.wd.set n ⟨h3,by rw [BB];exact h4⟩,by rw [List.length_set];exact h.len,?_⟩
 rw [drop_set_self _ _ _ (by rw [h.len];exact hn),val,h.eq,h1]
 omega
theorem by_loop (x:List Int) (w:Int) (hx:Wd x) (hw:0 < w) (hw2:w≤4294967295) (hb:x.length < 1152921504606846976):∀ (n:Nat),n≤x.length→∀ (out:List Int),ByI x out w n→∃ out',ByI x out' w 0 ∧
  (∀ k,n≤k→natural_num_by.l0 (k + 1) x w out (val (x.drop n) % w) ((n:Int) - 1) = natural_num_by.l0 (k + 1 - n) x w out' (val x % w) (-1)) ∧
  (∀ k,n≤k→garboardref01_small.l0 (k + 1) x w out (val (x.drop n) % w) ((n:Int) - 1) = garboardref01_small.l0 (k + 1 - n) x w out' (val x % w) (-1)):=by
 intro n
 induction n with
 | zero =>
  intro _ out h
  exact ⟨out,h,fun k _=>by rw [Nat.sub_zero];rfl,fun k _=>by rw [Nat.sub_zero];rfl⟩
 | succ n ih =>
  intro hn out h
  obtain ⟨out',h',e1,e2⟩:=ih (by omega) _ (h.step hx (by omega) hw)
  obtain ⟨h1,h2,h3,h4,h5,h6⟩:=by_step x n w _ 0 hx (by omega) hw rfl
  have hl:=h.len
  have hg:=hx.getD n
  rw [BB] at hg
  have ew:IntKind.u64.wrap w = w:=u64w (by omega) (by omega)
  have en:(((n + 1:Nat):Int) - 1) = n:=by omega
  have em:wrap64 ((n:Int) - 1) = (n:Int) - 1:=w64 (by omega) (by omega)
  generalize val (x.drop (n + 1)) % w = r at *
  have eu:IntKind.u64.wrap (IntKind.u64.wrap (r * 1000000000) + IntKind.u64.wrap (x.getD n 0)) = r * 1000000000 + x.getD n 0:=by
   rw [u64w (x:=r * 1000000000) (by omega) (by omega),u64w (x:=x.getD n 0) (by omega) (by omega),u64w (by omega) (by omega)]
  have ed:Int.tdiv (r * 1000000000 + x.getD n 0) w = (r * 1000000000 + x.getD n 0) / w:=Int.tdiv_eq_ediv_of_nonneg (by omega)
  have et:Int.tmod (r * 1000000000 + x.getD n 0) w = (r * 1000000000 + x.getD n 0) % w:=Int.tmod_eq_emod_of_nonneg (by omega)
  have eq:IntKind.u64.wrap ((r * 1000000000 + x.getD n 0) / w) % 4294967296 = (r * 1000000000 + x.getD n 0) / w:=by
   rw [u64w h3 (by omega),Int.emod_eq_of_lt h3 (by omega)]
  refine ⟨out',h',fun k hk=>?_,fun k hk=>?_⟩
  ·obtain ⟨k,rfl⟩:∃ m,k = m + 1:=⟨k - 1,by omega⟩
   conv=>lhs;unfold natural_num_by.l0
   rw [en,if_pos (by omega),if_pos (by omega),if_pos (by omega),if_neg (by omega),if_pos (by omega),rd_eq,eu,ed,et,eq,em,Int.toNat_natCast,h2,e1 k (by omega),show k + 1 + 1 - (n + 1) = k + 1 - n by omega]
  ·obtain ⟨k,rfl⟩:∃ m,k = m + 1:=⟨k - 1,by omega⟩
   conv=>lhs;unfold garboardref01_small.l0
   rw [en,if_pos (by omega),if_pos (by omega),if_pos (by omega),ew,if_neg (by omega),if_pos (by omega),rd_eq,eu,ed,et,eq,em,Int.toNat_natCast,h2,e2 k (by omega),show k + 1 + 1 - (n + 1) = k + 1 - n by omega]
theorem by_start (x:List Int) (w:Int):ByI x (List.replicate x.length 0) w x.length:=⟨Wd.zeros _,List.length_replicate ..,by
 rw [List.drop_of_length_le (by rw [List.length_replicate];exact Nat.le_refl _),List.drop_length]
 simp [val]⟩
theorem by_ev (a:Nat) (w:Nat) (hw:0 < w) (hw2:w≤4294967295) (ho:Ok (numOf a)):Ev (fun k=>natural_num_by.f k (numOf a) w) (numOf (a / w),numOf (a % w))∧Ev (fun k=>garboardref01_small.f k (numOf a) w) (numOf (a / w),((a % w:Nat):Int)):=by
 unfold Ok at ho
 have hx:=(num_numOf a).1
 have hv:=val_numOf a
 obtain ⟨out,h,e1,e2⟩:=by_loop (numOf a) w hx (by omega) (by omega) (by omega) (numOf a).length (Nat.le_refl _) _ (by_start _ _)
 have hl:=h.len
 have hq:trimL out = numOf (a / w):=trim_numOf h.wd (by
  have:=h.eq
  simp only [List.drop_zero] at this
  rw [this,hv,Int.natCast_ediv])
 have hm:val (numOf a) % w = ((a % w:Nat):Int):=by rw [hv,Int.natCast_emod]
 have hml:a % w < w:=Nat.mod_lt _ hw
 rw [List.drop_length,hm] at e1 e2
 have hz:val ([]:List Int) % (w:Int) = 0:=by simp [val]
 rw [hz] at e1 e2
 have t1:=trim_ev (l:=out) (by omega)
 have t2:=rtrim_ev (l:=out) (by omega)
 have t3:=of_ev (a % w) (by omega)
 rw [hq] at t1 t2
 have b1:Ev (fun k=>(natural_num_trim.f k out).bind fun t=>(natural_of.f k ((a % w:Nat):Int)).bind fun t'=>some (t,t')) (numOf (a / w),numOf (a % w)):=Ev.bind t1 (Ev.bind t3 (Ev.now _))
 have b2:Ev (fun k=>(garboardref01_trim.f k out).bind fun t=>some (t,(((a % w:Nat):Int)) % 4294967296)) (numOf (a / w),((a % w:Nat):Int)):=by
  rw [Int.emod_eq_of_lt (show (0:Int)≤((a % w:Nat):Int) by omega) (by omega)]
  exact Ev.bind t2 (Ev.now _)
 obtain ⟨K1,b1⟩:=b1
 obtain ⟨K2,b2⟩:=b2
 constructor
 ·refine ⟨K1 + (numOf a).length + 1,fun k hk=>?_⟩
  simp only [natural_num_by.f]
  rw [if_pos (by omega),if_pos (by omega),Int.toNat_natCast,w64 (by omega) (by omega)]
  obtain ⟨k,rfl⟩:∃ m,k = m + 1:=⟨k - 1,by omega⟩
  rw [e1 k (by omega)]
  obtain ⟨j,hj⟩:∃ j,k + 1 - (numOf a).length = j + 1:=⟨k - (numOf a).length,by omega⟩
  rw [hj]
  simp only [natural_num_by.l0]
  rw [if_neg (by omega)]
  exact b1 j (by omega)
 ·refine ⟨K2 + (numOf a).length + 1,fun k hk=>?_⟩
  simp only [garboardref01_small.f]
  rw [if_pos (by omega),if_pos (by omega),Int.toNat_natCast,w64 (by omega) (by omega)]
  obtain ⟨k,rfl⟩:∃ m,k = m + 1:=⟨k - 1,by omega⟩
  rw [e2 k (by omega)]
  obtain ⟨j,hj⟩:∃ j,k + 1 - (numOf a).length = j + 1:=⟨k - (numOf a).length,by omega⟩
  rw [hj]
  simp only [garboardref01_small.l0]
  rw [if_neg (by omega)]
  exact b2 j (by omega)
end Go.Proofs.YtcmbggahndfnnaaGreatDoor.Pr
namespace Go.Proofs.YtcmbggahndfnnaaGreatDoor.Pr
open Go.RowKit Go.Proofs.YtcmbggahndfnnaaGreatDoorW.PrintWords Go.Proofs.YtcmbggahndfnnaaGreatDoorW.PrintLast Go.Proofs.YtcmbggahndfnnaaGreatDoorW.PrintMore
attribute [local go_sem] max2_int min2_int max_two min_two max_three min_three max_four min_four
set_option maxHeartbeats 8000000
set_option maxRecDepth 100000
set_option linter.unusedVariables false
set_option linter.unusedSimpArgs false
mutual
def natural_num_times.l0:Nat→List Int→List Int→List Int→Int→Int→Option (List Int)
 | 0,_,_,_,_,_=>none
 | k + 1,x1,x5,x17,x18,x19=>if x19 < x18 then (if 0≤x19 then (if x19 < (x17.length:Int) then (natural_num_times.l1 k x1 x5 x19 (rd x17 x19) 0 x17 x18 x19 x1 (x1.length:Int) 0) else (none)) else (none)) else ((natural_num_trim.f k x5).bind fun t1059=>(some t1059))
def natural_num_times.l1:Nat→List Int→List Int→Int→Int→Int→List Int→Int→Int→List Int→Int→Int→Option (List Int)
 | 0,_,_,_,_,_,_,_,_,_,_,_=>none
 | k + 1,x1,x5,x6,x7,x8,x17,x18,x19,x24,x25,x26=>if x26 < x25 then (if 0≤x26 then (if x26 < (x24.length:Int) then (if 0≤(wrap64 (x6 + x26)) then (if (wrap64 (x6 + x26)) < (x5.length:Int) then (natural_num_times.l1 k x1 (x5.set ((wrap64 (x6 + x26)):Int).toNat ((Int.tmod (IntKind.u64.wrap (x8 + (IntKind.u64.wrap ((IntKind.u64.wrap ((IntKind.u64.wrap (x7)) * (IntKind.u64.wrap (rd x24 x26)))) + (IntKind.u64.wrap (rd x5 (wrap64 (x6 + x26)))))))) 1000000000) % 4294967296)) x6 x7 (IntKind.u64.wrap (Int.tdiv (IntKind.u64.wrap (x8 + (IntKind.u64.wrap ((IntKind.u64.wrap ((IntKind.u64.wrap (x7)) * (IntKind.u64.wrap (rd x24 x26)))) + (IntKind.u64.wrap (rd x5 (wrap64 (x6 + x26)))))))) 1000000000)) x17 x18 x19 x24 x25 (wrap64 (x26 + 1))) else (none)) else (none)) else (none)) else (none)) else (if 0≤(wrap64 (x6 + (x1.length:Int))) then (if (wrap64 (x6 + (x1.length:Int))) < (x5.length:Int) then (natural_num_times.l0 k x1 (x5.set ((wrap64 (x6 + (x1.length:Int))):Int).toNat ((x8) % 4294967296)) x17 x18 (wrap64 (x19 + 1))) else (none)) else (none))
end
def natural_num_times.f (k:Nat) (l0:List Int) (l1:List Int):Option (List Int):=if 0≤(wrap64 ((l0.length:Int) + (l1.length:Int))) then (if (wrap64 ((l0.length:Int) + (l1.length:Int)):Int).toNat≤70368744177664 then (natural_num_times.l0 k l1 (List.replicate (wrap64 ((l0.length:Int) + (l1.length:Int)):Int).toNat 0) l0 (l0.length:Int) 0) else (none)) else (none)
end Go.Proofs.YtcmbggahndfnnaaGreatDoor.Pr
namespace Go.Proofs.YtcmbggahndfnnaaGreatDoor.Pr
open Go.RowKit Go.Proofs.YtcmbggahndfnnaaGreatDoorW.PrintWords Go.Proofs.YtcmbggahndfnnaaGreatDoorW.PrintLast Go.Proofs.YtcmbggahndfnnaaGreatDoorW.PrintMore
attribute [local go_sem] max2_int min2_int max_two min_two max_three min_three max_four min_four
set_option maxHeartbeats 8000000
set_option maxRecDepth 100000
set_option linter.unusedVariables false
set_option linter.unusedSimpArgs false
mutual
def garboardref01_Times.j0:Nat→List Int→List Int→Bool→Option (List Int)
 | 0,_,_,_=>none
 | k + 1,x0,x1,x17=>if x17 = true then (some ([]:List Int)) else (if 0≤(wrap64 ((x0.length:Int) + (x1.length:Int))) then (if (wrap64 ((x0.length:Int) + (x1.length:Int)):Int).toNat≤70368744177664 then (garboardref01_Times.l0 k x0 x1 (List.replicate (wrap64 ((x0.length:Int) + (x1.length:Int)):Int).toNat 0) 0) else (none)) else (none))
def garboardref01_Times.l0:Nat→List Int→List Int→List Int→Int→Option (List Int)
 | 0,_,_,_,_=>none
 | k + 1,x0,x1,x5,x6=>if x6 < (x0.length:Int) then (garboardref01_Times.l1 k x0 x1 x5 x6 0 0) else ((garboardref01_trim.f k x5).bind fun t531=>(some t531))
def garboardref01_Times.l1:Nat→List Int→List Int→List Int→Int→Int→Int→Option (List Int)
 | 0,_,_,_,_,_,_=>none
 | k + 1,x0,x1,x5,x6,x7,x8=>if x8 < (x1.length:Int) then (if 0≤(wrap64 (x6 + x8)) then (if (wrap64 (x6 + x8)) < (x5.length:Int) then (if 0≤x6 then (if x6 < (x0.length:Int) then (if 0≤x8 then (garboardref01_Times.l1 k x0 x1 (x5.set ((wrap64 (x6 + x8)):Int).toNat ((Int.tmod (IntKind.u64.wrap ((IntKind.u64.wrap ((IntKind.u64.wrap (rd x5 (wrap64 (x6 + x8)))) + (IntKind.u64.wrap ((IntKind.u64.wrap (rd x0 x6)) * (IntKind.u64.wrap (rd x1 x8)))))) + x7)) 1000000000) % 4294967296)) x6 (IntKind.u64.wrap (Int.tdiv (IntKind.u64.wrap ((IntKind.u64.wrap ((IntKind.u64.wrap (rd x5 (wrap64 (x6 + x8)))) + (IntKind.u64.wrap ((IntKind.u64.wrap (rd x0 x6)) * (IntKind.u64.wrap (rd x1 x8)))))) + x7)) 1000000000)) (wrap64 (x8 + 1))) else (none)) else (none)) else (none)) else (none)) else (none)) else (if 0≤(wrap64 (x6 + (x1.length:Int))) then (if (wrap64 (x6 + (x1.length:Int))) < (x5.length:Int) then (garboardref01_Times.l0 k x0 x1 (x5.set ((wrap64 (x6 + (x1.length:Int))):Int).toNat ((x7) % 4294967296)) (wrap64 (x6 + 1))) else (none)) else (none))
end
def garboardref01_Times.f (k:Nat) (l0:List Int) (l1:List Int):Option (List Int):=if (l0.length:Int) = 0 then (garboardref01_Times.j0 k l0 l1 true) else (garboardref01_Times.j0 k l0 l1 ((l1.length:Int) == 0))
end Go.Proofs.YtcmbggahndfnnaaGreatDoor.Pr
set_option linter.unusedVariables false
set_option linter.unusedSimpArgs false
namespace Go.Proofs.YtcmbggahndfnnaaGreatDoor.Pr
open Go.RowKit Go.Proofs.YtcmbggahndfnnaaGreatDoorW.PrintWords Go.Proofs.YtcmbggahndfnnaaGreatDoorW.PrintLast Go.Proofs.YtcmbggahndfnnaaGreatDoorW.PrintMore Go.Proofs.YtcmbggahndfnnaaGreatDoor.NatTh
theorem wi (i j:Nat) (h:i + j < 9223372036854775808):wrap64 ((i:Int) + (j:Int)) = ((i + j:Nat):Int):=by
 rw [w64 (by omega) (by omega)]
 omega
theorem wi1 (j:Nat) (h:j < 9223372036854775807):wrap64 ((j:Int) + 1) = ((j + 1:Nat):Int):=by
 rw [w64 (by omega) (by omega)]
 omega
theorem ring5 (x y c P:Int):x * c * P + (P * y) * (x * 1) = x * (c + y) * P:=by grind
theorem mul_step (o x y C:Int) (ho:0≤o∧o < B) (hx:0≤x∧x < B) (hy:0≤y∧y < B) (hC:0≤C∧C < B):0≤o + x * y + C∧o + x * y + C < 1000000000000000000:=by
 have h1:0≤x * y:=Int.mul_nonneg hx.1 hy.1
 have h2:x * y≤(B - 1) * (B - 1):=Int.mul_le_mul (by omega) (by omega) hy.1 (by decide)
 rw [BB] at *
 omega
theorem mul_u64 (o x y C:Int) (ho:0≤o∧o < 1000000000) (hx:0≤x∧x < 1000000000) (hy:0≤y∧y < 1000000000) (hC:0≤C∧C < 1000000000) :
  IntKind.u64.wrap (C + IntKind.u64.wrap (IntKind.u64.wrap (IntKind.u64.wrap x * IntKind.u64.wrap y) + IntKind.u64.wrap o)) = o + x * y + C ∧
  IntKind.u64.wrap (IntKind.u64.wrap (IntKind.u64.wrap o + IntKind.u64.wrap (IntKind.u64.wrap x * IntKind.u64.wrap y)) + C) = o + x * y + C:=by
 have hm:=mul_step o x y C ho hx hy hC
 have hxy:0≤x * y:=Int.mul_nonneg hx.1 hy.1
 rw [u64w (x:=x) (by omega) (by omega),u64w (x:=y) (by omega) (by omega),u64w (x:=o) (by omega) (by omega)]
 generalize x * y = p at *
 rw [u64w (x:=p) (by omega) (by omega),u64w (x:=p + o) (by omega) (by omega),u64w (x:=o + p) (by omega) (by omega),u64w (x:=C + (p + o)) (by omega) (by omega),u64w (x:=o + p + C) (by omega) (by omega)]
 exact ⟨by omega,rfl⟩
theorem mul_take (x P:Int) (b:List Int) (j i:Nat):x * val (b.take j) * B ^ i + B ^ (i + j) * (x * b.getD j 0) = x * val (b.take (j + 1)) * B ^ i:=by
 rw [val_take_more,Bpow_add]
 generalize val (b.take j) = c
 generalize B ^ i = P1
 generalize B ^ j = P2
 generalize b.getD j 0 = y
 grind
theorem nat_inner (a b u:List Int) (x:Int) (i:Nat) (hb:Wd b) (hx:0≤x∧x < B) (hl:u.length = a.length + b.length) (hi:i < a.length) (hs:u.length < 1152921504606846976):∀ (n j:Nat),j + n = b.length→∀ (u':List Int) (C:Int),Run u u' (i + j) (x * val (b.take j) * B ^ i) C→0≤C∧C < B →
  ∃ u'' C',Run u u'' (i + b.length) (x * val b * B ^ i) C'∧(0≤C'∧C' < B) ∧
   (∀ k,n≤k→natural_num_times.l1 (k + 1) b u' i x C a a.length i b b.length j = natural_num_times.l1 (k + 1 - n) b u'' i x C' a a.length i b b.length b.length) ∧
   (x = a.getD i 0→∀ k,n≤k→garboardref01_Times.l1 (k + 1) a b u' i C j = garboardref01_Times.l1 (k + 1 - n) a b u'' i C' b.length):=by
 intro n
 induction n with
 | zero =>
  intro j hj u' C R hC
  obtain rfl:j = b.length:=by omega
  rw [List.take_of_length_le (Nat.le_refl _)] at R
  exact ⟨u',C,R,hC,fun k _=>by rw [Nat.sub_zero],fun _ k _=>by rw [Nat.sub_zero]⟩
 | succ n ih =>
  intro j hj u' C R hC
  have hlen:=R.len
  have q3:i + j < 9223372036854775808:=by omega
  have q4:j < 9223372036854775807:=by omega
  have g1:(j:Int) < (b.length:Int):=by omega
  have g2:(0:Int)≤(j:Int):=by omega
  have g3:(0:Int)≤((i + j:Nat):Int):=by omega
  have g4:((i + j:Nat):Int) < (u'.length:Int):=by omega
  have g5:(0:Int)≤(i:Int):=by omega
  have g6:(i:Int) < (a.length:Int):=by omega
  have g7:i + j < u.length:=by omega
  have hget:=R.get
  have ho:=R.wd.getD (i + j)
  have hy:=hb.getD j
  have hm:=mul_step _ _ _ _ ho hx hy hC
  have hxy:0≤x * b.getD j 0:=Int.mul_nonneg hx.1 hy.1
  rw [BB] at ho hy hx hC
  have e1:Int.tmod (u'.getD (i + j) 0 + x * b.getD j 0 + C) 1000000000 = (u'.getD (i + j) 0 + x * b.getD j 0 + C) % 1000000000:=Int.tmod_eq_emod_of_nonneg hm.1
  have e2:Int.tdiv (u'.getD (i + j) 0 + x * b.getD j 0 + C) 1000000000 = (u'.getD (i + j) 0 + x * b.getD j 0 + C) / 1000000000:=Int.tdiv_eq_ediv_of_nonneg hm.1
  have hd:0≤(u'.getD (i + j) 0 + x * b.getD j 0 + C) % 1000000000∧(u'.getD (i + j) 0 + x * b.getD j 0 + C) % 1000000000 < 1000000000:=⟨Int.emod_nonneg _ (by decide),Int.emod_lt_of_pos _ (by decide)⟩
  have hc:0≤(u'.getD (i + j) 0 + x * b.getD j 0 + C) / 1000000000∧(u'.getD (i + j) 0 + x * b.getD j 0 + C) / 1000000000 < 1000000000:=by
   generalize u'.getD (i + j) 0 + x * b.getD j 0 + C = s at hm
   omega
  have hde:(u'.getD (i + j) 0 + x * b.getD j 0 + C) % 1000000000 + B * ((u'.getD (i + j) 0 + x * b.getD j 0 + C) / 1000000000) = u.getD (i + j) 0 + C + x * b.getD j 0:=by
   rw [BB,← hget]
   generalize u'.getD (i + j) 0 = o
   generalize x * b.getD j 0 = p
   omega
  have hdB:0≤(u'.getD (i + j) 0 + x * b.getD j 0 + C) % 1000000000∧(u'.getD (i + j) 0 + x * b.getD j 0 + C) % 1000000000 < B:=by rw [BB];exact hd
  have hcB:0≤(u'.getD (i + j) 0 + x * b.getD j 0 + C) / 1000000000∧(u'.getD (i + j) 0 + x * b.getD j 0 + C) / 1000000000 < B:=by rw [BB];exact hc
  have R':=R.step g7 hdB hde
  rw [mul_take x 0 b j i] at R'
  obtain ⟨u'',C',R'',hC',f1,f2⟩:=ih (j + 1) (by omega) _ _ R' hcB
  refine ⟨u'',C',R'',hC',fun k hk=>?_,fun hxa k hk=>?_⟩
  ·obtain ⟨k,rfl⟩:∃ m,k = m + 1:=⟨k - 1,by omega⟩
   conv=>lhs;unfold natural_num_times.l1
   have eu:=(mul_u64 _ _ _ _ ho hx hy hC).1
   rw [if_pos g1,if_pos g2,if_pos g1,wi i j q3,if_pos g3,if_pos g4,rd_eq,rd_eq,eu,e1,e2,Int.toNat_natCast,u64w hc.1 (Int.lt_trans hc.2 (by decide)),Int.emod_eq_of_lt (b:=4294967296) hd.1 (Int.lt_trans hd.2 (by decide)),wi1 j q4,f1 k (by omega),show k + 1 + 1 - (n + 1) = k + 1 - n by omega]
  ·obtain ⟨k,rfl⟩:∃ m,k = m + 1:=⟨k - 1,by omega⟩
   conv=>lhs;unfold garboardref01_Times.l1
   have eu:=(mul_u64 _ _ _ _ ho hx hy hC).2
   rw [if_pos g1,wi i j q3,if_pos g3,if_pos g4,if_pos g5,if_pos g6,if_pos g2,rd_eq,rd_eq,rd_eq,← hxa,eu,e1,e2,Int.toNat_natCast,u64w hc.1 (Int.lt_trans hc.2 (by decide)),Int.emod_eq_of_lt (b:=4294967296) hd.1 (Int.lt_trans hd.2 (by decide)),wi1 j q4,f2 hxa k (by omega),show k + 1 + 1 - (n + 1) = k + 1 - n by omega]
theorem getD_high {l:List Int} (h:Wd l) (n:Nat) (hn:n < l.length) (hv:val l < B ^ n):l.getD n 0 = 0:=by
 have h1:=(val_high h n (by omega) hv).1
 rw [val_drop_succ l n hn] at h1
 have h2:=h.getD n
 have h3:=Int.mul_nonneg (Int.le_of_lt B_pos) (val_drop_nn h (n + 1))
 omega
structure MulI (a b out:List Int) (i:Nat):Prop where
 wd:Wd out
 len:out.length = a.length + b.length
 eq:val out = val (a.take i) * val b
theorem MulI.row {a b out u'':List Int} {i:Nat} {C:Int} (h:MulI a b out i) (ha:Wd a) (hb:Wd b) (hi:i < a.length) (R:Run out u'' (i + b.length) (a.getD i 0 * val b * B ^ i) C) (hC:0≤C∧C < B):MulI a b (u''.set (i + b.length) C) (i + 1):=by
 have hl:=R.len
 have hl2:=h.len
 have hlt:val out < B ^ (i + b.length):=by
  rw [h.eq,Bpow_add]
  have h1:=val_take_le ha i
  have h2:=val_lt hb
  have h3:=val_nonneg hb
  exact Int.mul_lt_mul' (Int.le_of_lt h1) h2 h3 (Bpow_pos i)
 have h0:=getD_high h.wd (i + b.length) (by omega) hlt
 refine ⟨R.wd.set _ hC,by rw [List.length_set,hl,hl2],?_⟩
 rw [val_set _ _ _ (by omega),R.get,h0,val_take_more]
 have h1:=R.value (by omega)
 rw [h.eq] at h1
 generalize val u'' = U at *
 generalize B ^ (i + b.length) = P1 at *
 generalize B ^ i = P2 at *
 generalize val (a.take i) = A at *
 generalize val b = V at *
 generalize a.getD i 0 = x at *
 grind
theorem mul_outer (a b:List Int) (ha:Wd a) (hb:Wd b) (hs:a.length + b.length < 1152921504606846976):∀ (n i:Nat),i + n = a.length→∀ out,MulI a b out i→∃ out',MulI a b out' a.length ∧
  (∃ c,∀ k,c≤k→∃ j,k≤j + c∧natural_num_times.l0 k b out a a.length i = natural_num_times.l0 (j + 1) b out' a a.length a.length) ∧
  (∃ c,∀ k,c≤k→∃ j,k≤j + c∧garboardref01_Times.l0 k a b out i = garboardref01_Times.l0 (j + 1) a b out' a.length):=by
 intro n
 induction n with
 | zero =>
  intro i hi out h
  obtain rfl:i = a.length:=by omega
  exact ⟨out,h,⟨1,fun k hk=>⟨k - 1,by omega,by rw [show k - 1 + 1 = k by omega]⟩⟩,⟨1,fun k hk=>⟨k - 1,by omega,by rw [show k - 1 + 1 = k by omega]⟩⟩⟩
 | succ n ih =>
  intro i hi out h
  have hl:=h.len
  have R0:Run out out (i + 0) (a.getD i 0 * val (b.take 0) * B ^ i) 0:=by
   have:=Run.start h.wd i
   simpa [val] using this
  obtain ⟨u'',C',R,hC,f1,f2⟩:=nat_inner a b out (a.getD i 0) i hb (ha.getD i) hl (by omega) (by omega) b.length 0 (by omega) out 0 R0 ⟨Int.le_refl _,B_pos⟩
  have hM:=h.row ha hb (by omega) R hC
  obtain ⟨out',h',⟨c1,g1⟩,⟨c2,g2⟩⟩:=ih (i + 1) (by omega) _ hM
  have hul:=R.len
  rw [BB] at hC
  have q1:i + b.length < 9223372036854775808:=by omega
  have q2:i < 9223372036854775807:=by omega
  refine ⟨out',h',⟨c1 + b.length + 2,fun k hk=>?_⟩,⟨c2 + b.length + 2,fun k hk=>?_⟩⟩
  ·obtain ⟨k,rfl⟩:∃ m,k = m + 2:=⟨k - 2,by omega⟩
   obtain ⟨j,hj,e⟩:=g1 (k - b.length) (by omega)
   refine ⟨j,by omega,?_⟩
   conv=>lhs;unfold natural_num_times.l0
   rw [if_pos (by omega),if_pos (by omega),if_pos (by omega),rd_eq]
   have:=f1 k (by omega)
   rw [show ((0:Nat):Int) = 0 from rfl] at this
   rw [this,show k + 1 - b.length = k - b.length + 1 by omega]
   conv=>lhs;unfold natural_num_times.l1
   rw [if_neg (by omega),wi i b.length q1,if_pos (by omega),if_pos (by omega),Int.toNat_natCast,Int.emod_eq_of_lt (b:=4294967296) hC.1 (by omega),wi1 i q2,e]
  ·obtain ⟨k,rfl⟩:∃ m,k = m + 2:=⟨k - 2,by omega⟩
   obtain ⟨j,hj,e⟩:=g2 (k - b.length) (by omega)
   refine ⟨j,by omega,?_⟩
   conv=>lhs;unfold garboardref01_Times.l0
   rw [if_pos (by omega)]
   have:=f2 rfl k (by omega)
   rw [show ((0:Nat):Int) = 0 from rfl] at this
   rw [this,show k + 1 - b.length = k - b.length + 1 by omega]
   conv=>lhs;unfold garboardref01_Times.l1
   rw [if_neg (by omega),wi i b.length q1,if_pos (by omega),if_pos (by omega),Int.toNat_natCast,Int.emod_eq_of_lt (b:=4294967296) hC.1 (by omega),wi1 i q2,e]
theorem times_ev (a b:Nat) (ha:Ok (numOf a)) (hb:Ok (numOf b)):Ev (fun k=>natural_num_times.f k (numOf a) (numOf b)) (numOf (a * b))∧Ev (fun k=>garboardref01_Times.f k (numOf a) (numOf b)) (numOf (a * b)):=by
 unfold Ok at ha hb
 have hM:MulI (numOf a) (numOf b) (List.replicate ((numOf a).length + (numOf b).length) 0) 0:=⟨Wd.zeros _,List.length_replicate ..,by rw [val_zeros];simp [val]⟩
 obtain ⟨out,h,⟨c1,g1⟩,⟨c2,g2⟩⟩:=mul_outer (numOf a) (numOf b) (num_numOf a).1 (num_numOf b).1 (by omega) (numOf a).length 0 (by omega) _ hM
 have hl:=h.len
 have ht:trimL out = numOf (a * b):=trim_numOf h.wd (by rw [h.eq,List.take_of_length_le (Nat.le_refl _),val_numOf,val_numOf,Int.natCast_mul])
 obtain ⟨K1,t1⟩:=trim_ev (l:=out) (by omega)
 obtain ⟨K2,t2⟩:=rtrim_ev (l:=out) (by omega)
 rw [ht] at t1 t2
 have e1:=wi (numOf a).length (numOf b).length (by omega)
 have hz:((0:Nat):Int) = 0:=rfl
 rw [hz] at g1 g2
 constructor
 ·refine ⟨K1 + c1 + 2,fun k hk=>?_⟩
  simp only [natural_num_times.f]
  rw [e1,if_pos (by omega),Int.toNat_natCast,if_pos (by omega)]
  obtain ⟨j,hj,e⟩:=g1 k (by omega)
  rw [e]
  simp only [natural_num_times.l0]
  rw [if_neg (by omega)]
  have:=t1 j (by omega)
  simp only at this
  rw [this]
  rfl
 ·by_cases e0:(numOf a).length = 0
  ·have:a = 0:=numOf_nil.1 (List.eq_nil_of_length_eq_zero e0)
   refine ⟨1,fun k hk=>?_⟩
   obtain ⟨k,rfl⟩:∃ m,k = m + 1:=⟨k - 1,by omega⟩
   simp only [garboardref01_Times.f]
   rw [if_pos (by omega)]
   simp only [garboardref01_Times.j0]
   rw [if_pos trivial,this,Nat.zero_mul,numOf_zero]
  ·by_cases e1':(numOf b).length = 0
   ·have:b = 0:=numOf_nil.1 (List.eq_nil_of_length_eq_zero e1')
    refine ⟨1,fun k hk=>?_⟩
    obtain ⟨k,rfl⟩:∃ m,k = m + 1:=⟨k - 1,by omega⟩
    simp only [garboardref01_Times.f]
    rw [if_neg (by omega)]
    simp only [garboardref01_Times.j0]
    rw [if_pos (by rw [e1'];rfl),this,Nat.mul_zero,numOf_zero]
   ·refine ⟨K2 + c2 + 3,fun k hk=>?_⟩
    obtain ⟨k,rfl⟩:∃ m,k = m + 1:=⟨k - 1,by omega⟩
    simp only [garboardref01_Times.f]
    rw [if_neg (by omega)]
    simp only [garboardref01_Times.j0]
    rw [if_neg (by intro h;rw [beq_iff_eq] at h;omega),e1,if_pos (by omega),Int.toNat_natCast,if_pos (by omega)]
    obtain ⟨j,hj,e⟩:=g2 k (by omega)
    rw [e]
    simp only [garboardref01_Times.l0]
    rw [if_neg (by omega)]
    have:=t2 j (by omega)
    simp only at this
    rw [this]
    rfl
end Go.Proofs.YtcmbggahndfnnaaGreatDoor.Pr
namespace Go.Proofs.YtcmbggahndfnnaaGreatDoor.Pt
open Go.RowKit Go.Proofs.YtcmbggahndfnnaaGreatDoorW.PrintWords Go.Proofs.YtcmbggahndfnnaaGreatDoorW.PrintLast Go.Proofs.YtcmbggahndfnnaaGreatDoorW.PrintMore
attribute [local go_sem] max2_int min2_int max_two min_two max_three min_three max_four min_four
set_option linter.unusedVariables false
set_option linter.unusedSimpArgs false
def errW:Option Int→Value
 | none=>.nilIface
 | some c=>.iface 200 (.int .i64 c)
theorem errW_none:errW none = .nilIface:=rfl
theorem errW_some (c:Int):errW (some c) = .iface 200 (.int .i64 c):=rfl
theorem info101:(Tryz.prog.info? 101).map (fun i=>(i.zero,i.size,i.bytes)) = some (some (.int .u32 0),1,4):=by kernel_rfl
end Go.Proofs.YtcmbggahndfnnaaGreatDoor.Pt
namespace Go.Proofs.YtcmbggahndfnnaaGreatDoor.Pt
open Go.RowKit Go.Proofs.YtcmbggahndfnnaaGreatDoorW.PrintWords Go.Proofs.YtcmbggahndfnnaaGreatDoorW.PrintLast Go.Proofs.YtcmbggahndfnnaaGreatDoorW.PrintMore
attribute [local go_sem] max2_int min2_int max_two min_two max_three min_three max_four min_four
set_option maxHeartbeats 8000000
set_option maxRecDepth 100000
set_option linter.unusedVariables false
set_option linter.unusedSimpArgs false
def natural_num_trim.l0:Nat→List Int→Option (List Int)
 | 0,_=>none
 | k + 1,x0=>if (x0.length:Int) > 0 then (if 0≤(wrap64 ((x0.length:Int) - 1)) then (if (wrap64 ((x0.length:Int) - 1)) < (x0.length:Int) then (if (rd x0 (wrap64 ((x0.length:Int) - 1))) = 0 then (if (wrap64 ((x0.length:Int) - 1))≤(x0.length:Int) then (natural_num_trim.l0 k (x0.take ((wrap64 ((x0.length:Int) - 1)):Int).toNat)) else (none)) else (some x0)) else (none)) else (none)) else (some x0)
def natural_num_trim.f (k:Nat) (l0:List Int):Option (List Int):=natural_num_trim.l0 k l0
theorem natural_num_trim.calls (k:Nat) (P0_:Nat→Prop) (A0:Option Addr) (c0:Nat) (l0:List Int) (r:List Int) (w:World) (hs0:Kd.V (Kd.int .u32) 101 w w.heap.size (fun k_=>P0_ k_) (.slice A0 l0.length c0) l0) (h:natural_num_trim.f k l0 = some r) :
  Calls Tryz.prog 138 #[.slice A0 l0.length c0] w fun e w'=>∃ v0_:Value,e = .returned (v0_)∧Kd.V (Kd.int .u32) 101 w' w.heap.size (fun k_=>(P0_ k_ ∨ w.heap.size≤k_)) v0_ r∧Below w.heap.size w w':=by
 have HO0:=Aside0.mk (show Kd.V (Kd.int .u32) 101 w w.heap.size (fun k_=>(P0_ k_ ∨ w.heap.size≤k_)) (.slice A0 l0.length c0) l0 from Kd.V_mono hs0 (fun k_ hk=>.inl hk))
 have HB:=Aside0.mk (Below.refl w.heap.size w)
 have H:=h;clear h;unfold natural_num_trim.f at H
 have H':=Aside0.mk H
 clear H
 go_enter Tryz.func138,Tryz.ntmps138
 go_wp2
 go_loopg [0] k (fun kq v0 w'=>∃ (x0_1:List Int),Aside0 (natural_num_trim.l0 kq x0_1 = some r)∧Aside0 (kq≤k)∧Aside0 (Kd.V (Kd.int .u32) 101 w' w.heap.size (fun k_=>(P0_ k_ ∨ w.heap.size≤k_)) v0 x0_1)∧Aside0 (Below w.heap.size w w'))
 case atStart=>exact ⟨(l0),H',⟨Nat.le_refl _⟩,⟨by (with_reducible repeat (first|apply Kd.V_alloc|apply Kd.V_drewN|apply Kd.V_drew));exact HO0.out⟩,⟨bx_⟩⟩
 case round =>
  clear H'
  obtain ⟨x0_1,HA,HK1,HO_0,HB⟩:=hrel
  cases gk with
  | zero=>exact absurd HA.out (by simp [natural_num_trim.l0])
  | succ k1 =>
   have H:=HA.out
   clear HA
   simp only [natural_num_trim.l0] at H
   by_cases c2:(x0_1.length:Int) > 0
   ·rw [if_pos c2] at H
    have c2b0:decide (0 < (x0_1.length:Int)) = true:=decide_eq_true c2
    have c2b1:decide (0 < x0_1.length) = true:=decide_eq_true (by omega)
    clear c2
    obtain ⟨ji3,hji3⟩:∃ j_:Int,(wrap64 ((x0_1.length:Int) - 1)) = j_:=⟨_,rfl⟩
    replace H:(if 0≤(ji3) then (if (ji3) < (x0_1.length:Int) then (if (rd x0_1 (ji3)) = 0 then (if (ji3)≤(x0_1.length:Int) then (natural_num_trim.l0 k1 (x0_1.take ((ji3):Int).toNat)) else (none)) else (some x0_1)) else (none)) else (none)) = some r:=by first|(rw [hji3] at H;exact H)|(simp only [hji3] at H ⊢;exact H)
    have hji3w:(IntKind.i64.wrap ((x0_1.length:Int) - 1)) = ji3:=(i64_w _).trans hji3
    by_cases c4:0≤(ji3)
    ·rw [if_pos c4] at H
     have c4b0:decide (0≤(ji3)) = true:=decide_eq_true c4
     clear c4
     by_cases c5:(ji3) < (x0_1.length:Int)
     ·rw [if_pos c5] at H
      have c5b0:decide ((ji3) < (x0_1.length:Int)) = true:=decide_eq_true c5
      clear c5
      by_cases c6:(rd x0_1 (ji3)) = 0
      ·rw [if_pos c6] at H
       have c6b0:((rd x0_1 (ji3)) == 0) = true:=beq_iff_eq.mpr c6
       have c6b1:((rd x0_1 (ji3)) != 0) = false:=bne_eq_false_iff_eq.mpr c6
       clear c6
       have c7b0:=eq_true (of_decide_eq_true (by first|(with_reducible assumption)|assumption):0≤(ji3))
       by_cases c8:(ji3)≤(x0_1.length:Int)
       ·rw [if_pos c8] at H
        have c8b0:=eq_true c8
        have c8b1:decide ((ji3)≤(x0_1.length:Int)) = true:=decide_eq_true c8
        clear c8
        obtain ⟨y136,hy136⟩:∃ y_:List Int,y_ = (x0_1.take ((ji3):Int).toNat):=⟨_,rfl⟩
        replace H:(natural_num_trim.l0 k1 y136) = some r:=by first|(rw [hy136];with_reducible exact H)|(have H2_:=(Option.bind_some _ _).symm.trans H;rw [hy136];with_reducible exact H2_)|(have H2_:=(Option.bind_some _ _).symm.trans H;with_reducible exact H2_)|with_reducible exact H|(rw [hy136];exact H)|exact H
        have Ny136:=Aside0.mk hy136
        clear hy136
        have H':=Aside0.mk H
        clear H
        obtain ⟨Ao9,co9,eo9⟩:=Kd.V_slice HO_0.out
        subst eo9
        have p135:0≤((ji3):Int):=da_
        have q135:(ji3) < (x0_1.length:Int):=da_
        obtain ⟨ad135,e135,hx135_0⟩:=Kd.at_int (Kd.V_reads' HO_0.out).2.2 (ji3) p135 q135
        cases e135
        replace p135:=eq_true p135
        replace q135:=eq_true q135
        have q10:((ji3):Int)≤((x0_1.length:Int):Int):=da_
        obtain ⟨i010,hi010,_,hsz10,_⟩:=info_parts info101
        have hroom10:x0_1.length≤co9:=(Kd.V_reads' HO_0.out).2.1
        have hC10:Kd.F (Kd.int .u32) _ _ (some ad135) x0_1.length x0_1:=(Kd.V_at (base:=w.heap.size) HO_0.out).2.2
        have hcut10:=cut_to (P:=Tryz.prog) 161 101 .i64 Tryz.underlying161 hi010 (some ad135) x0_1.length co9 (ji3) (of_decide_eq_true (by first|(with_reducible assumption)|assumption)) q10 hroom10
        have hr10:=Kd.F_take (m:=((ji3):Int).toNat) hC10 (by omega)
        have hy10:y136.length = ((ji3):Int).toNat:=(by rw [Ny136.out,List.length_take];omega)
        rw [← Ny136.out] at hr10
        rw [← hy10] at hcut10
        have HO140:=Aside0.mk (show Kd.V (Kd.int .u32) 101 _ w.heap.size _ (.slice (some ad135) y136.length co9) y136 from Kd.V_mk (by omega) hr10)
        have HC140:=Aside0.mk (show y136.length≤co9 from by omega)
        clear hr10 hC10 hroom10 hi010 hsz10
        have KY10:=Aside0.mk hy10
        clear hy10
        replace q10:=eq_true q10
        go_wp2
        go_roundg k1
        case measure=>have:=HK1.out;omega
        case rel=>exact ⟨(y136),H',⟨by have:=HK1.out;omega⟩,⟨by (with_reducible repeat (first|apply Kd.V_alloc|apply Kd.V_drewN|apply Kd.V_drew));exact HO140.out⟩,⟨bx_⟩⟩
       ·rw [if_neg c8] at H
        exact absurd H sm_
      ·rw [if_neg c6] at H
       have c6b0:((rd x0_1 (ji3)) == 0) = false:=beq_eq_false_iff_ne.mpr c6
       have c6b1:((rd x0_1 (ji3)) != 0) = true:=bne_iff_ne.mpr c6
       obtain rfl:=Option.some.inj H
       obtain ⟨Ao11,co11,eo11⟩:=Kd.V_slice HO_0.out
       subst eo11
       have p135:0≤((ji3):Int):=da_
       have q135:(ji3) < (x0_1.length:Int):=da_
       obtain ⟨ad135,e135,hx135_0⟩:=Kd.at_int (Kd.V_reads' HO_0.out).2.2 (ji3) p135 q135
       cases e135
       replace p135:=eq_true p135
       replace q135:=eq_true q135
       go_wp2
       go_ret
       exact ⟨_,by first|rfl|(simp [errW_none,errW_some]<;>rfl)|(simp only [← hji3];first|rfl|(simp [errW_none,errW_some]<;>rfl))|(simp [*,errW_none,errW_some]<;>rfl),by (with_reducible repeat (first|apply Kd.V_alloc|apply Kd.V_drewN|apply Kd.V_drew));exact HO_0.out,bx_⟩
     ·rw [if_neg c5] at H
      exact absurd H sm_
    ·rw [if_neg c4] at H
     exact absurd H sm_
   ·rw [if_neg c2] at H
    have c2b0:decide (0 < (x0_1.length:Int)) = false:=decide_eq_false c2
    have c2b1:decide (0 < x0_1.length) = false:=decide_eq_false (by omega)
    clear c2
    obtain rfl:=Option.some.inj H
    obtain ⟨Ao12,co12,eo12⟩:=Kd.V_slice HO_0.out
    subst eo12
    go_wp2
    go_ret
    exact ⟨_,rf_,by (with_reducible repeat (first|apply Kd.V_alloc|apply Kd.V_drewN|apply Kd.V_drew));exact HO_0.out,bx_⟩
end Go.Proofs.YtcmbggahndfnnaaGreatDoor.Pt
namespace Go.Proofs
open Go.Shelf
def Tryz.laysPu14_ren:Go.Shelf.Ren:=⟨fun|14=>137|16=>145|17=>146|19=>155|20=>156|21=>157|22=>158|23=>159|24=>160|25=>170|27=>172|26=>171|28=>179|29=>182|30=>161|31=>162|32=>163|33=>164|35=>174|34=>173|36=>175|37=>176|38=>177|39=>180|40=>181|n=>n,fun|9=>9|3=>3|22=>104|24=>75|25=>183|4=>4|34=>200|5=>5|36=>106|37=>57|0=>0|39=>202|21=>21|44=>215|47=>114|50=>224|48=>222|2=>2|52=>205|55=>208|59=>218|60=>101|20=>20|61=>219|65=>227|66=>228|67=>80|n=>n,fun|0=>1|1=>2|2=>3|3=>4|4=>5|n=>n⟩
theorem Tryz.laysPu14:Go.Proofs.LaysPu.n14 Tryz.prog Tryz.laysPu14_ren:={
 mixed:=by kernel_rfl
 f14:=Tryz.func137.trans (congrArg some (by kernel_rfl))
 f16:=Tryz.func145.trans (congrArg some (by kernel_rfl))
 f17:=Tryz.func146.trans (congrArg some (by kernel_rfl))
 f19:=Tryz.func155.trans (congrArg some (by kernel_rfl))
 f20:=Tryz.func156.trans (congrArg some (by kernel_rfl))
 f21:=Tryz.func157.trans (congrArg some (by kernel_rfl))
 f22:=Tryz.func158.trans (congrArg some (by kernel_rfl))
 f23:=Tryz.func159.trans (congrArg some (by kernel_rfl))
 f24:=Tryz.func160.trans (congrArg some (by kernel_rfl))
 f25:=Tryz.func170.trans (congrArg some (by kernel_rfl))
 f26:=Tryz.func171.trans (congrArg some (by kernel_rfl))
 f27:=Tryz.func172.trans (congrArg some (by kernel_rfl))
 f28:=Tryz.func179.trans (congrArg some (by kernel_rfl))
 f29:=Tryz.func182.trans (congrArg some (by kernel_rfl))
 f30:=Tryz.func161.trans (congrArg some (by kernel_rfl))
 f31:=Tryz.func162.trans (congrArg some (by kernel_rfl))
 f32:=Tryz.func163.trans (congrArg some (by kernel_rfl))
 f33:=Tryz.func164.trans (congrArg some (by kernel_rfl))
 f34:=Tryz.func173.trans (congrArg some (by kernel_rfl))
 f35:=Tryz.func174.trans (congrArg some (by kernel_rfl))
 f36:=Tryz.func175.trans (congrArg some (by kernel_rfl))
 f37:=Tryz.func176.trans (congrArg some (by kernel_rfl))
 f38:=Tryz.func177.trans (congrArg some (by kernel_rfl))
 f39:=Tryz.func180.trans (congrArg some (by kernel_rfl))
 f40:=Tryz.func181.trans (congrArg some (by kernel_rfl))
 t0:=Tryz.underlying0
 a0:=Tryz.isAgg0
 z0:=Tryz.sizeOf0
 v0:=Tryz.zeroValue0
 i0:=by kernel_rfl
 t2:=Tryz.underlying2
 a2:=Tryz.isAgg2
 z2:=Tryz.sizeOf2
 v2:=Tryz.zeroValue2
 i2:=by kernel_rfl
 t3:=Tryz.underlying3
 a3:=Tryz.isAgg3
 z3:=Tryz.sizeOf3
 v3:=Tryz.zeroValue3
 i3:=by kernel_rfl
 t4:=Tryz.underlying4
 a4:=Tryz.isAgg4
 z4:=Tryz.sizeOf4
 v4:=Tryz.zeroValue4
 i4:=by kernel_rfl
 t5:=Tryz.underlying5
 a5:=Tryz.isAgg5
 z5:=Tryz.sizeOf5
 v5:=Tryz.zeroValue5
 i5:=by kernel_rfl
 t9:=Tryz.underlying9
 a9:=Tryz.isAgg9
 z9:=Tryz.sizeOf9
 v9:=Tryz.zeroValue9
 i9:=by kernel_rfl
 t20:=Tryz.underlying20
 a20:=Tryz.isAgg20
 z20:=Tryz.sizeOf20
 v20:=Tryz.zeroValue20
 i20:=by kernel_rfl
 t21:=Tryz.underlying21
 a21:=Tryz.isAgg21
 z21:=Tryz.sizeOf21
 v21:=Tryz.zeroValue21
 i21:=by kernel_rfl
 t22:=Tryz.underlying104
 a22:=Tryz.isAgg104
 z22:=Tryz.sizeOf104
 v22:=Tryz.zeroValue104
 i22:=by kernel_rfl
 t24:=Tryz.underlying75
 a24:=Tryz.isAgg75
 z24:=Tryz.sizeOf75
 v24:=Tryz.zeroValue75
 i24:=by kernel_rfl
 t25:=Tryz.underlying183
 a25:=Tryz.isAgg183
 z25:=Tryz.sizeOf183
 v25:=Tryz.zeroValue183
 i25:=by kernel_rfl
 t34:=Tryz.underlying200
 a34:=Tryz.isAgg200
 z34:=Tryz.sizeOf200
 v34:=Tryz.zeroValue200
 i34:=by kernel_rfl
 c34:=by kernel_rfl
 t36:=Tryz.underlying106
 a36:=Tryz.isAgg106
 z36:=Tryz.sizeOf106
 v36:=Tryz.zeroValue106
 i36:=by kernel_rfl
 t37:=Tryz.underlying57
 a37:=Tryz.isAgg57
 z37:=Tryz.sizeOf57
 v37:=Tryz.zeroValue57
 i37:=by kernel_rfl
 t39:=Tryz.underlying202
 a39:=Tryz.isAgg202
 z39:=Tryz.sizeOf202
 v39:=Tryz.zeroValue202
 i39:=by kernel_rfl
 t44:=Tryz.underlying215
 a44:=Tryz.isAgg215
 z44:=Tryz.sizeOf215
 v44:=Tryz.zeroValue215
 i44:=by kernel_rfl
 t47:=Tryz.underlying114
 a47:=Tryz.isAgg114
 z47:=Tryz.sizeOf114
 v47:=Tryz.zeroValue114
 i47:=by kernel_rfl
 t48:=Tryz.underlying222
 a48:=Tryz.isAgg222
 z48:=Tryz.sizeOf222
 v48:=Tryz.zeroValue222
 i48:=by kernel_rfl
 t50:=Tryz.underlying224
 a50:=Tryz.isAgg224
 z50:=Tryz.sizeOf224
 v50:=Tryz.zeroValue224
 i50:=by kernel_rfl
 t52:=Tryz.underlying205
 a52:=Tryz.isAgg205
 z52:=Tryz.sizeOf205
 v52:=Tryz.zeroValue205
 i52:=by kernel_rfl
 t55:=Tryz.underlying208
 a55:=Tryz.isAgg208
 z55:=Tryz.sizeOf208
 v55:=Tryz.zeroValue208
 i55:=by kernel_rfl
 t59:=Tryz.underlying218
 a59:=Tryz.isAgg218
 z59:=Tryz.sizeOf218
 v59:=Tryz.zeroValue218
 i59:=by kernel_rfl
 t60:=Tryz.underlying101
 a60:=Tryz.isAgg101
 z60:=Tryz.sizeOf101
 v60:=Tryz.zeroValue101
 i60:=by kernel_rfl
 t61:=Tryz.underlying219
 a61:=Tryz.isAgg219
 z61:=Tryz.sizeOf219
 t65:=Tryz.underlying227
 a65:=Tryz.isAgg227
 z65:=Tryz.sizeOf227
 v65:=Tryz.zeroValue227
 i65:=by kernel_rfl
 t66:=Tryz.underlying228
 a66:=Tryz.isAgg228
 z66:=Tryz.sizeOf228
 v66:=Tryz.zeroValue228
 i66:=by kernel_rfl
 t67:=Tryz.underlying80
 a67:=Tryz.isAgg80
 z67:=Tryz.sizeOf80
 v67:=Tryz.zeroValue80
 i67:=by kernel_rfl
 g0:=by kernel_rfl
 m0:=by kernel_rfl
 g1:=by kernel_rfl
 m1:=by kernel_rfl
 g2:=by kernel_rfl
 m2:=by kernel_rfl
 g3:=by kernel_rfl
 m3:=by kernel_rfl
 g4:=by kernel_rfl
 m4:=by kernel_rfl }
open Go.RowKit in
theorem Tryz.strconv_ParseUint_10_at32_ok (s:ByteArray) (hmax:s.size≤9223372036854775806) (u:Nat) (h:Lib.parseUintB 32 s.data.toList = .ok u) (w:World) :
  Calls Tryz.prog 137 #[.string s,.int .i64 10,.int .i64 32] w fun e w'=>e = .returned (.tuple #[.int .u64 u,.nilIface])∧(w' = w ∨ w' = Lib.bytesWorld w 5 s):=Any.strconv_ParseUint_10_at32_ok Tryz.laysPu14 s hmax u h w
end Go.Proofs
namespace Go.Proofs.YtcmbggahndfnnaaGreatDoor.Pt
set_option linter.unusedVariables false
set_option linter.unusedSimpArgs false
open Go.RowKit Go.Proofs.YtcmbggahndfnnaaGreatDoorW.PrintWords Go.Proofs.YtcmbggahndfnnaaGreatDoorW.PrintLast Go.Proofs.YtcmbggahndfnnaaGreatDoorW.PrintMore
def strconv_ParseUint_137.f (s:ByteArray) (b c:Int):Option Int :=
 if b = 10∧c = 32∧s.size≤9223372036854775806 then (match Lib.parseUintB 32 s.data.toList with|.ok u=>some (u:Int)|_=>none) else none
theorem strconv_ParseUint_137.calls (a0:ByteArray) (a1 a2:Int) (r:Int) (w:World) (h:strconv_ParseUint_137.f a0 a1 a2 = some r) :
  Calls Tryz.prog 137 #[.string a0,.int .i64 a1,.int .i64 a2] w fun e w'=>e = .returned (.tuple #[.int .u64 r,.nilIface])∧Below w.heap.size w w':=by
 unfold strconv_ParseUint_137.f at h
 by_cases hc:a1 = 10∧a2 = 32∧a0.size≤9223372036854775806
 case neg=>rw [if_neg hc] at h;cases h
 rw [if_pos hc] at h
 obtain ⟨rfl,rfl,hs⟩:=hc
 cases hu:Lib.parseUintB 32 a0.data.toList with
 | ok u =>
  rw [hu] at h
  injection h with h
  subst h
  refine (Tryz.strconv_ParseUint_10_at32_ok a0 hs u hu w).mono ?_
  rintro e w' ⟨he,hw⟩
  refine ⟨he,?_⟩
  rcases hw with rfl|rfl
  ·exact Below.refl _ _
  ·exact Lib.bytesWorld_below w 5 a0
 | _=>rw [hu] at h;cases h
end Go.Proofs.YtcmbggahndfnnaaGreatDoor.Pt
namespace Go.Proofs.YtcmbggahndfnnaaGreatDoor.Pt
open Go.RowKit Go.Proofs.YtcmbggahndfnnaaGreatDoorW.PrintWords Go.Proofs.YtcmbggahndfnnaaGreatDoorW.PrintLast Go.Proofs.YtcmbggahndfnnaaGreatDoorW.PrintMore
attribute [local go_sem] max2_int min2_int max_two min_two max_three min_three max_four min_four
set_option maxHeartbeats 8000000
set_option maxRecDepth 100000
set_option linter.unusedVariables false
set_option linter.unusedSimpArgs false
def natural_read.l0:Nat→ByteArray→List Int→Option (List Int)
 | 0,_,_=>none
 | k + 1,x0,x3=>if (x0.size:Int) > 0 then (if 0≤(mx (wrap64 ((x0.size:Int) - 9)) 0) then (if (mx (wrap64 ((x0.size:Int) - 9)) 0)≤(x0.size:Int) then ((strconv_ParseUint_137.f (x0.extract ((mx (wrap64 ((x0.size:Int) - 9)) 0):Int).toNat x0.size) 10 32).bind fun t141=>(if x3.length < 35184372088832 then (natural_read.l0 k (x0.extract 0 ((mx (wrap64 ((x0.size:Int) - 9)) 0):Int).toNat) (x3 ++ [(t141) % 4294967296])) else (none))) else (none)) else (none)) else ((natural_num_trim.f k x3).bind fun t145=>(some t145))
def natural_read.f (k:Nat) (a0:ByteArray):Option (List Int):=natural_read.l0 k a0 ([]:List Int)
theorem natural_read.calls (k:Nat) (a0:ByteArray) (r:List Int) (w:World) (h:natural_read.f k a0 = some r) :
  Calls Tryz.prog 128 #[.string a0] w fun e w'=>∃ v0_:Value,e = .returned (v0_)∧Kd.V (Kd.int .u32) 101 w' w.heap.size (fun k_=>(w.heap.size≤k_)) v0_ r∧Below w.heap.size w w':=by
 have HB:=Aside0.mk (Below.refl w.heap.size w)
 have H:=h;clear h;unfold natural_read.f at H
 have H':=Aside0.mk H
 clear H
 go_enter Tryz.func128,Tryz.ntmps128
 go_wp2
 go_loopg [0,3] k (fun kq v0 v3 w'=>∃ (x0_1:ByteArray) (x3_1:List Int),v0 = .string x0_1∧Aside0 (natural_read.l0 kq x0_1 x3_1 = some r)∧Aside0 (kq≤k)∧Aside0 (Kd.R (Kd.int .u32) 101 w' w.heap.size (fun k_=>(w.heap.size≤k_)) v3 x3_1)∧Aside0 (Below w.heap.size w w'))
 case atStart=>exact ⟨(a0),(([]:List Int)),rg_,H',⟨Nat.le_refl _⟩,⟨by first|exact Kd.R_nil _ _ _ _ _|exact Kd.N_nil _ _ _ _ _|exact Kd.V_nil _ _ _ _ _|exact Kd.Q_nil _ _ _ _ _|exact Kd.S_nil _ _ _ _ _⟩,⟨bx_⟩⟩
 case round =>
  clear H'
  obtain ⟨x0_1,x3_1,rfl,HA,HK1,HO_3,HB⟩:=hrel
  cases gk with
  | zero=>exact absurd HA.out (by simp [natural_read.l0])
  | succ k1 =>
   have H:=HA.out
   clear HA
   simp only [natural_read.l0] at H
   by_cases c2:(x0_1.size:Int) > 0
   ·rw [if_pos c2] at H
    have c2b0:decide (0 < (x0_1.size:Int)) = true:=decide_eq_true c2
    have c2b1:decide (0 < x0_1.size) = true:=decide_eq_true (by omega)
    clear c2
    obtain ⟨ji3,hji3⟩:∃ j_:Int,(mx (wrap64 ((x0_1.size:Int) - 9)) 0) = j_:=⟨_,rfl⟩
    replace H:(if 0≤(ji3) then (if (ji3)≤(x0_1.size:Int) then ((strconv_ParseUint_137.f (x0_1.extract ((ji3):Int).toNat x0_1.size) 10 32).bind fun t141=>(if x3_1.length < 35184372088832 then (natural_read.l0 k1 (x0_1.extract 0 ((ji3):Int).toNat) (x3_1 ++ [(t141) % 4294967296])) else (none))) else (none)) else (none)) = some r:=by first|(rw [hji3] at H;exact H)|(simp only [hji3] at H ⊢;exact H)
    have hji3_:(if (wrap64 ((x0_1.size:Int) - 9)) < 0 then 0 else (wrap64 ((x0_1.size:Int) - 9))) = ji3:=hji3
    by_cases c4:0≤(ji3)
    ·rw [if_pos c4] at H
     have c4b0:=eq_true c4
     have c4b1:decide (0≤(ji3)) = true:=decide_eq_true c4
     clear c4
     by_cases c5:(ji3)≤(x0_1.size:Int)
     ·rw [if_pos c5] at H
      have c5b0:=eq_true c5
      have c5b1:decide ((ji3)≤(x0_1.size:Int)) = true:=decide_eq_true c5
      clear c5
      obtain ⟨t141,A6,H⟩:=bn_ H
      by_cases c7:x3_1.length < 35184372088832
      ·rw [if_pos c7] at H
       have LMc7:=Aside0.mk c7
       clear c7
       obtain ⟨y142,hy142⟩:∃ y_:List Int,y_ = (x3_1 ++ [(t141) % 4294967296]):=⟨_,rfl⟩
       replace H:(natural_read.l0 k1 (x0_1.extract 0 ((ji3):Int).toNat) y142) = some r:=by first|(rw [hy142];with_reducible exact H)|(have H2_:=(Option.bind_some _ _).symm.trans H;rw [hy142];with_reducible exact H2_)|(have H2_:=(Option.bind_some _ _).symm.trans H;with_reducible exact H2_)|with_reducible exact H|(rw [hy142];exact H)|exact H
       have Ny142:=Aside0.mk hy142
       clear hy142
       have c8b0:=eq_true (of_decide_eq_true (by first|(with_reducible assumption)|assumption):0≤(ji3))
       have c9b0:=eq_true (of_decide_eq_true (by first|(with_reducible assumption)|assumption):(ji3)≤(x0_1.size:Int))
       have H':=Aside0.mk H
       clear H
       go_wp2_with (first|((with_reducible refine gate_callee (f:=137) rfl ?_);refine goesL_ (some 18) rfl rfl Tryz.func137 kr_ rfl #[.string (x0_1.extract ((ji3):Int).toNat x0_1.size),.int .i64 10,.int .i64 32] rfl (by (try simp only [List.map_toArray,List.map_cons,List.map_nil]);first|done|(simp only [hji3];rfl)|rfl|(simp only [List.length_drop,List.length_take];rfl)) ?_;(with_reducible refine (strconv_ParseUint_137.calls (x0_1.extract ((ji3):Int).toNat x0_1.size) 10 32 t141 _ A6.out).mono ?_);rintro e w10 ⟨rfl,hb⟩;refine ⟨_,rfl,?_⟩;replace HO_3:=rb_ HO_3 hb;replace HB:=bs_ hb;(try clear hb))|((with_reducible refine gate_builtin (b:=.append) (xs:=#[.tmp 21,.tmp 24]) rfl ?_);at_builtin;refine Kd.R_append (Kd.int .u32) (w0:=w) w.heap.size rfl (.tmp 21) (.tmp 24) 161 101 (.int .u32 0) 4 rfl Tryz.underlying161 info101 rfl de_ (by omega) u3 x3_1 ((t141) % 4294967296) [.int .u32 ((t141) % 4294967296)] (fun k_=>(w.heap.size≤k_)) (fun _=>False) rfl rfl ?aP (fun _ hk=>hk.elim) ?aF ?aO ?aB ?aS ?aL ?_;(case aP=>exact rfl);(case aB=>exact bx_);(case aF=>exact (fun k_ hk=>(Nat.le_trans (below_size bx_) hk)));(case aO=>exact (by (with_reducible repeat (first|apply Kd.R_alloc|apply Kd.R_drewN|apply Kd.R_drew));exact HO_3.out));(case aS=>exact (below_size bx_));(case aL=>have:=LMc7.out;omega);intro v143 w11 ho hb hg hat;rw [← Ny142.out] at ho;have HO144:=Aside0.mk ho;replace HB:=Aside0.mk hb;clear HO_3;clear ho hb hg hat))
       go_roundg k1
       case measure=>have:=HK1.out;omega
       case rel=>exact ⟨(x0_1.extract 0 ((ji3):Int).toNat),(y142),(by first|rfl|(simp;done)|(simp only [← hji3]<;>(first|rfl|simp))|(simp [*];done)),H',⟨by have:=HK1.out;omega⟩,⟨by (with_reducible repeat (first|apply Kd.R_alloc|apply Kd.R_drewN|apply Kd.R_drew));exact HO144.out⟩,⟨bx_⟩⟩
      ·rw [if_neg c7] at H
       exact absurd H sm_
     ·rw [if_neg c5] at H
      exact absurd H sm_
    ·rw [if_neg c4] at H
     exact absurd H sm_
   ·rw [if_neg c2] at H
    have c2b0:decide (0 < (x0_1.size:Int)) = false:=decide_eq_false c2
    have c2b1:decide (0 < x0_1.size) = false:=decide_eq_false (by omega)
    clear c2
    obtain ⟨t145,A12,H⟩:=bn_ H
    obtain rfl:=Option.some.inj H
    obtain ⟨Ao13,co13,eo13⟩:=Kd.R_slice HO_3.out
    subst eo13
    go_wp2_with (first|((with_reducible refine gate_callee (f:=138) rfl ?_);refine gm_ (some 30) Tryz.func138 #[.slice Ao13 x3_1.length co13] ?_;(with_reducible refine (natural_num_trim.calls k1 (fun k_=>some k_ = (.slice Ao13 x3_1.length co13:Value).ownBlock) _ _ x3_1 t145 _ ?side1 A12.out).mono ?_);(case side1=>exact Kd.R_V (Kd.R_tight rfl (HO_3.out)));rintro e w14 ⟨v146,rfl,ho0,hb⟩;refine ⟨_,rfl,?_⟩;have HO147:=Aside0.mk (Kd.V_lower (Kd.V_mono (ok':=fun k_=>(w.heap.size≤k_)) ho0 (fun k_ hk_=>Or.elim hk_ (fun hs_=>((HO_3.out).1 k_ hs_.symm)) (fun hn_=>(Nat.le_trans (below_size bx_) hn_)))) (below_size bx_));replace HO_3:=rb_ HO_3 hb;replace HB:=bs_ hb;(try clear hb);(try clear ho0)))
    go_ret
    exact ⟨_,rf_,by (with_reducible repeat (first|apply Kd.V_alloc|apply Kd.V_drewN|apply Kd.V_drew));exact HO147.out,bx_⟩
end Go.Proofs.YtcmbggahndfnnaaGreatDoor.Pt
set_option linter.unusedVariables false
set_option linter.unusedSimpArgs false
namespace Go.Proofs.YtcmbggahndfnnaaGreatDoor.Pr
open Go.RowKit Go.Proofs.YtcmbggahndfnnaaGreatDoorW.PrintWords Go.Proofs.YtcmbggahndfnnaaGreatDoorW.PrintLast Go.Proofs.YtcmbggahndfnnaaGreatDoorW.PrintMore
attribute [local go_sem] max2_int min2_int max_two min_two max_three min_three max_four min_four
theorem R_take {e:Nat} {w:World} {base:Nat} {ok:Nat→Prop} {a:Addr} {n c m:Nat} {xs:List Int} (h:Kd.R (Kd.int .u32) e w base ok (.slice (some a) n c) xs) (hm:m≤xs.length):Kd.R (Kd.int .u32) e w base ok (.slice (some a) m c) (xs.take m):=by
 obtain ⟨h0,inner,⟨hl,ho⟩,hr⟩:=h
 rcases ho with ⟨h1,_⟩|⟨g,cap,cur,h1,hg,hh,hn,hc,hs,ht⟩
 ·cases h1
 ·injection h1 with ha hn' hc'
  subst hc'
  cases ha
  have hml:(xs.take m).length = m:=by rw [List.length_take];omega
  have hms:m * (Kd.int .u32).sz≤xs.length * (Kd.int .u32).sz:=Nat.mul_le_mul_right _ hm
  refine ⟨h0,inner.take (m * (Kd.int .u32).sz),⟨by rw [hml,List.length_take];omega,.inr ⟨g,c,cur,by rw [hml],hg,hh,by omega,hc,hs,?_⟩⟩,?_⟩
  ·rw [hml,← ht,List.take_take,Nat.min_eq_left hms]
  ·refine ⟨by rw [List.length_take,hml];have:=hr.1;omega,fun j p hj=>?_⟩
   have hjm:j < m:=by
    have:=(List.getElem?_eq_some_iff.1 hj).1
    omega
   rw [List.getElem?_take_of_lt hjm] at hj
   have h2:=hr.2 j p hj
   have h3:j * (Kd.int .u32).sz + (Kd.int .u32).sz≤m * (Kd.int .u32).sz:=by
    rw [← Nat.succ_mul]
    exact Nat.mul_le_mul_right _ hjm
   rw [List.drop_take,List.take_take,Nat.min_eq_left (by omega)]
   exact h2
set_option maxHeartbeats 8000000 in
set_option maxRecDepth 100000 in
theorem trim_own (k:Nat) (base:Nat) (ok:Nat→Prop) (A0:Option Addr) (c0:Nat) (l0:List Int) (r:List Int) (w:World) (hs0:Kd.R (Kd.int .u32) 101 w base ok (.slice A0 l0.length c0) l0) (h:natural_num_trim.f k l0 = some r) :
  Calls Tryz.prog 138 #[.slice A0 l0.length c0] w fun e w'=>∃ v0_:Value,e = .returned (v0_)∧Kd.R (Kd.int .u32) 101 w' base ok v0_ r∧Below w.heap.size w w':=by
 have HO0:=Aside0.mk hs0
 have HB:=Aside0.mk (Below.refl w.heap.size w)
 have H:(natural_num_trim.l0 k l0) = some r:=h
 clear h
 have H':=Aside0.mk H
 clear H
 go_enter Tryz.func138,Tryz.ntmps138
 go_wp2
 go_loopg [0] k (fun kq v0 w'=>∃ (x0_1:List Int),Aside0 (natural_num_trim.l0 kq x0_1 = some r)∧Aside0 (kq≤k)∧Aside0 (Kd.R (Kd.int .u32) 101 w' base ok v0 x0_1)∧Aside0 (Below w.heap.size w w'))
 case atStart=>exact ⟨(l0),H',⟨Nat.le_refl _⟩,⟨by (with_reducible repeat (first|apply Kd.R_alloc|apply Kd.R_drewN|apply Kd.R_drew));exact HO0.out⟩,⟨by repeat (first|(with_reducible first|exact HB.out|apply below_alloc|apply pw_below_drewN|apply below_drew1)|exact HB.out)⟩⟩
 case round =>
  clear H'
  obtain ⟨x0_1,HA,HK1,HO_0,HB⟩:=hrel
  cases gk with
  | zero=>exact absurd HA.out (by simp [natural_num_trim.l0])
  | succ k1 =>
   have H:=HA.out
   clear HA
   simp only [natural_num_trim.l0] at H
   by_cases c2:(x0_1.length:Int) > 0
   ·rw [if_pos c2] at H
    have c2b0:decide (0 < (x0_1.length:Int)) = true:=decide_eq_true c2
    have c2b1:decide (0 < x0_1.length) = true:=decide_eq_true (by omega)
    clear c2
    obtain ⟨ji3,hji3⟩:∃ j_:Int,(wrap64 ((x0_1.length:Int) - 1)) = j_:=⟨_,rfl⟩
    replace H:(if 0≤(ji3) then (if (ji3) < (x0_1.length:Int) then (if (rd x0_1 (ji3)) = 0 then (if (ji3)≤(x0_1.length:Int) then (natural_num_trim.l0 k1 (x0_1.take ((ji3):Int).toNat)) else (none)) else (some x0_1)) else (none)) else (none)) = some r:=by first|(rw [hji3] at H;exact H)|(simp only [hji3] at H ⊢;exact H)
    have hji3w:(IntKind.i64.wrap ((x0_1.length:Int) - 1)) = ji3:=(i64_w _).trans hji3
    by_cases c4:0≤(ji3)
    ·rw [if_pos c4] at H
     have c4b0:decide (0≤(ji3)) = true:=decide_eq_true c4
     clear c4
     by_cases c5:(ji3) < (x0_1.length:Int)
     ·rw [if_pos c5] at H
      have c5b0:decide ((ji3) < (x0_1.length:Int)) = true:=decide_eq_true c5
      clear c5
      by_cases c6:(rd x0_1 (ji3)) = 0
      ·rw [if_pos c6] at H
       have c6b0:((rd x0_1 (ji3)) == 0) = true:=beq_iff_eq.mpr c6
       have c6b1:((rd x0_1 (ji3)) != 0) = false:=bne_eq_false_iff_eq.mpr c6
       clear c6
       have c7b0:=eq_true (of_decide_eq_true (by first|(with_reducible assumption)|assumption):0≤(ji3))
       by_cases c8:(ji3)≤(x0_1.length:Int)
       ·rw [if_pos c8] at H
        have c8b0:=eq_true c8
        have c8b1:decide ((ji3)≤(x0_1.length:Int)) = true:=decide_eq_true c8
        clear c8
        obtain ⟨y102,hy102⟩:∃ y_:List Int,y_ = (x0_1.take ((ji3):Int).toNat):=⟨_,rfl⟩
        replace H:(natural_num_trim.l0 k1 y102) = some r:=by first|(rw [hy102];with_reducible exact H)|(have H2_:=(Option.bind_some _ _).symm.trans H;rw [hy102];with_reducible exact H2_)|(have H2_:=(Option.bind_some _ _).symm.trans H;with_reducible exact H2_)|with_reducible exact H|(rw [hy102];exact H)|exact H
        have Ny102:=Aside0.mk hy102
        clear hy102
        have H':=Aside0.mk H
        clear H
        obtain ⟨Ao9,co9,eo9⟩:=Kd.R_slice HO_0.out
        subst eo9
        have p101:0≤((ji3):Int):=of_decide_eq_true (by first|(with_reducible assumption)|assumption)
        have q101:(ji3) < (x0_1.length:Int):=of_decide_eq_true (by first|(with_reducible assumption)|assumption)
        obtain ⟨ad101,e101,hx101_0⟩:=Kd.at_int (Kd.V_reads' (Kd.R_V (base':=base) HO_0.out)).2.2 (ji3) p101 q101
        cases e101
        replace p101:=eq_true p101
        replace q101:=eq_true q101
        have q10:((ji3):Int)≤((x0_1.length:Int):Int):=of_decide_eq_true (by first|(with_reducible assumption)|assumption)
        obtain ⟨i010,hi010,_,hsz10,_⟩:=info_parts info101
        have hroom10:x0_1.length≤co9:=(Kd.V_reads' (Kd.R_V (base':=base) HO_0.out)).2.1
        have hcut10:=cut_to (P:=Tryz.prog) 161 101 .i64 Tryz.underlying161 hi010 (some ad101) x0_1.length co9 (ji3) (of_decide_eq_true (by first|(with_reducible assumption)|assumption)) q10 hroom10
        have hr10:=R_take (m:=((ji3):Int).toNat) HO_0.out (by omega)
        have hy10:y102.length = ((ji3):Int).toNat:=(by rw [Ny102.out,List.length_take];omega)
        rw [← hy10] at hcut10
        have HO106:=Aside0.mk (show Kd.R (Kd.int .u32) 101 _ base ok (.slice (some ad101) y102.length co9) y102 from by rw [Ny102.out] at hy10 ⊢;rw [hy10];exact hr10)
        have HC106:=Aside0.mk (show y102.length≤co9 from by omega)
        clear hr10 hroom10 hi010 hsz10
        have KY10:=Aside0.mk hy10
        clear hy10
        replace q10:=eq_true q10
        go_wp2
        go_roundg k1
        case measure=>have:=HK1.out;omega
        case rel=>exact ⟨(y102),H',⟨by have:=HK1.out;omega⟩,⟨by (with_reducible repeat (first|apply Kd.R_alloc|apply Kd.R_drewN|apply Kd.R_drew));exact HO106.out⟩,⟨by repeat (first|(with_reducible first|exact HB.out|apply below_alloc|apply pw_below_drewN|apply below_drew1)|exact HB.out)⟩⟩
       ·rw [if_neg c8] at H
        exact absurd H (by simp)
      ·rw [if_neg c6] at H
       have c6b0:((rd x0_1 (ji3)) == 0) = false:=beq_eq_false_iff_ne.mpr c6
       have c6b1:((rd x0_1 (ji3)) != 0) = true:=bne_iff_ne.mpr c6
       obtain rfl:=Option.some.inj H
       obtain ⟨Ao11,co11,eo11⟩:=Kd.R_slice HO_0.out
       subst eo11
       have p101:0≤((ji3):Int):=of_decide_eq_true (by first|(with_reducible assumption)|assumption)
       have q101:(ji3) < (x0_1.length:Int):=of_decide_eq_true (by first|(with_reducible assumption)|assumption)
       obtain ⟨ad101,e101,hx101_0⟩:=Kd.at_int (Kd.V_reads' (Kd.R_V (base':=base) HO_0.out)).2.2 (ji3) p101 q101
       cases e101
       replace p101:=eq_true p101
       replace q101:=eq_true q101
       go_wp2
       go_ret
       exact ⟨_,by first|rfl|(simp [errW_none,errW_some]<;>rfl)|(simp only [← hji3];first|rfl|(simp [errW_none,errW_some]<;>rfl))|(simp [*,errW_none,errW_some]<;>rfl),by (with_reducible repeat (first|apply Kd.R_alloc|apply Kd.R_drewN|apply Kd.R_drew));exact HO_0.out,by repeat (first|(with_reducible first|exact HB.out|apply below_alloc|apply pw_below_drewN|apply below_drew1)|exact HB.out)⟩
     ·rw [if_neg c5] at H
      exact absurd H (by simp)
    ·rw [if_neg c4] at H
     exact absurd H (by simp)
   ·rw [if_neg c2] at H
    have c2b0:decide (0 < (x0_1.length:Int)) = false:=decide_eq_false c2
    have c2b1:decide (0 < x0_1.length) = false:=decide_eq_false (by omega)
    clear c2
    obtain rfl:=Option.some.inj H
    obtain ⟨Ao12,co12,eo12⟩:=Kd.R_slice HO_0.out
    subst eo12
    go_wp2
    go_ret
    exact ⟨_,by first|rfl|(simp [errW_none,errW_some]<;>rfl)|(simp [*,errW_none,errW_some]<;>rfl),by (with_reducible repeat (first|apply Kd.R_alloc|apply Kd.R_drewN|apply Kd.R_drew));exact HO_0.out,by repeat (first|(with_reducible first|exact HB.out|apply below_alloc|apply pw_below_drewN|apply below_drew1)|exact HB.out)⟩
end Go.Proofs.YtcmbggahndfnnaaGreatDoor.Pr
namespace Go.Proofs.YtcmbggahndfnnaaGreatDoor.Pt
open Go.RowKit Go.Proofs.YtcmbggahndfnnaaGreatDoorW.PrintWords Go.Proofs.YtcmbggahndfnnaaGreatDoorW.PrintLast Go.Proofs.YtcmbggahndfnnaaGreatDoorW.PrintMore
attribute [local go_sem] max2_int min2_int max_two min_two max_three min_three max_four min_four
set_option linter.unusedVariables false
set_option linter.unusedSimpArgs false
open Go.Proofs.YtcmbggahndfnnaaGreatDoor.Pr (trim_own)
theorem trim_same:∀ k l,natural_num_trim.f k l = Pr.natural_num_trim.f k l:=by
 intro k
 unfold natural_num_trim.f Pr.natural_num_trim.f
 induction k with
 | zero=>intro l;rfl
 | succ k ih =>
  intro l
  unfold natural_num_trim.l0 Pr.natural_num_trim.l0
  simp only [ih]
set_option maxHeartbeats 8000000 in
set_option maxRecDepth 100000 in
theorem read_own (k:Nat) (a0:ByteArray) (r:List Int) (w:World) (h:natural_read.f k a0 = some r) :
  Calls Tryz.prog 128 #[.string a0] w fun e w'=>∃ v0_:Value,e = .returned (v0_)∧Kd.R (Kd.int .u32) 101 w' w.heap.size (fun k_=>(w.heap.size≤k_)) v0_ r∧Below w.heap.size w w':=by
 have HB:=Aside0.mk (Below.refl w.heap.size w)
 have H:(natural_read.l0 k a0 ([]:List Int)) = some r:=h
 clear h
 have H':=Aside0.mk H
 clear H
 go_enter Tryz.func128,Tryz.ntmps128
 go_wp2
 go_loopg [0,3] k (fun kq v0 v3 w'=>∃ (x0_1:ByteArray) (x3_1:List Int),v0 = .string x0_1∧Aside0 (natural_read.l0 kq x0_1 x3_1 = some r)∧Aside0 (kq≤k)∧Aside0 (Kd.R (Kd.int .u32) 101 w' w.heap.size (fun k_=>(w.heap.size≤k_)) v3 x3_1)∧Aside0 (Below w.heap.size w w'))
 case atStart=>exact ⟨(a0),(([]:List Int)),(by first|rfl|(simp;done)|(simp [*];done)),H',⟨Nat.le_refl _⟩,⟨by first|exact Kd.R_nil _ _ _ _ _|exact Kd.N_nil _ _ _ _ _|exact Kd.V_nil _ _ _ _ _|exact Kd.Q_nil _ _ _ _ _|exact Kd.S_nil _ _ _ _ _⟩,⟨by repeat (first|(with_reducible first|exact HB.out|apply below_alloc|apply pw_below_drewN|apply below_drew1)|exact HB.out)⟩⟩
 case round =>
  clear H'
  obtain ⟨x0_1,x3_1,rfl,HA,HK1,HO_3,HB⟩:=hrel
  cases gk with
  | zero=>exact absurd HA.out (by simp [natural_read.l0])
  | succ k1 =>
   have H:=HA.out
   clear HA
   simp only [natural_read.l0] at H
   by_cases c2:(x0_1.size:Int) > 0
   ·rw [if_pos c2] at H
    have c2b0:decide (0 < (x0_1.size:Int)) = true:=decide_eq_true c2
    have c2b1:decide (0 < x0_1.size) = true:=decide_eq_true (by omega)
    clear c2
    obtain ⟨ji3,hji3⟩:∃ j_:Int,(mx (wrap64 ((x0_1.size:Int) - 9)) 0) = j_:=⟨_,rfl⟩
    replace H:(if 0≤(ji3) then (if (ji3)≤(x0_1.size:Int) then ((strconv_ParseUint_137.f (x0_1.extract ((ji3):Int).toNat x0_1.size) 10 32).bind fun t141=>(if x3_1.length < 35184372088832 then (natural_read.l0 k1 (x0_1.extract 0 ((ji3):Int).toNat) (x3_1 ++ [(t141) % 4294967296])) else (none))) else (none)) else (none)) = some r:=by first|(rw [hji3] at H;exact H)|(simp only [hji3] at H ⊢;exact H)
    have hji3_:(if (wrap64 ((x0_1.size:Int) - 9)) < 0 then 0 else (wrap64 ((x0_1.size:Int) - 9))) = ji3:=hji3
    by_cases c4:0≤(ji3)
    ·rw [if_pos c4] at H
     have c4b0:=eq_true c4
     have c4b1:decide (0≤(ji3)) = true:=decide_eq_true c4
     clear c4
     by_cases c5:(ji3)≤(x0_1.size:Int)
     ·rw [if_pos c5] at H
      have c5b0:=eq_true c5
      have c5b1:decide ((ji3)≤(x0_1.size:Int)) = true:=decide_eq_true c5
      clear c5
      replace H:=Option.bind_eq_some_iff.mp H
      obtain ⟨t141,A60,H⟩:=H
      replace H:(if x3_1.length < 35184372088832 then (natural_read.l0 k1 (x0_1.extract 0 ((ji3):Int).toNat) (x3_1 ++ [(t141) % 4294967296])) else (none)) = some r:=H
      have A6:=Aside0.mk A60
      clear A60
      by_cases c7:x3_1.length < 35184372088832
      ·rw [if_pos c7] at H
       have LMc7:=Aside0.mk c7
       clear c7
       obtain ⟨y142,hy142⟩:∃ y_:List Int,y_ = (x3_1 ++ [(t141) % 4294967296]):=⟨_,rfl⟩
       replace H:(natural_read.l0 k1 (x0_1.extract 0 ((ji3):Int).toNat) y142) = some r:=by first|(rw [hy142];with_reducible exact H)|(have H2_:=(Option.bind_some _ _).symm.trans H;rw [hy142];with_reducible exact H2_)|(have H2_:=(Option.bind_some _ _).symm.trans H;with_reducible exact H2_)|with_reducible exact H|(rw [hy142];exact H)|exact H
       have Ny142:=Aside0.mk hy142
       clear hy142
       have c8b0:=eq_true (of_decide_eq_true (by first|(with_reducible assumption)|assumption):0≤(ji3))
       have c9b0:=eq_true (of_decide_eq_true (by first|(with_reducible assumption)|assumption):(ji3)≤(x0_1.size:Int))
       have H':=Aside0.mk H
       clear H
       go_wp2_with (first|((with_reducible refine gate_callee (f:=137) rfl ?_);refine goesL_ (some 18) rfl rfl Tryz.func137 (by kernel_rfl) rfl #[.string (x0_1.extract ((ji3):Int).toNat x0_1.size),.int .i64 10,.int .i64 32] rfl (by (try simp only [List.map_toArray,List.map_cons,List.map_nil]);first|done|(simp only [hji3];rfl)|rfl|(simp only [List.length_drop,List.length_take];rfl)) ?_;(with_reducible refine (strconv_ParseUint_137.calls (x0_1.extract ((ji3):Int).toNat x0_1.size) 10 32 t141 _ A6.out).mono ?_);rintro e w10 ⟨rfl,hb⟩;refine ⟨_,rfl,?_⟩;have n0_:=Aside0.mk (Kd.R_below (by (with_reducible repeat (first|apply Kd.R_alloc|apply Kd.R_drewN|apply Kd.R_drew));exact HO_3.out) hb);have n1_:=Aside0.mk (below_step (by repeat (first|(with_reducible first|exact HB.out|apply below_alloc|apply pw_below_drewN|apply below_drew1)|exact HB.out)) hb);clear HO_3;clear HB;have HO_3:=n0_;have HB:=n1_;clear n0_ n1_;(try clear hb);(try clear hb2);(try clear hk);(try clear hi))|((with_reducible refine gate_builtin (b:=.append) (xs:=#[.tmp 21,.tmp 24]) rfl ?_);at_builtin;refine Kd.R_append (Kd.int .u32) (w0:=w) w.heap.size rfl (.tmp 21) (.tmp 24) 161 101 (.int .u32 0) 4 rfl Tryz.underlying161 info101 rfl (by decide) (by omega) u3 x3_1 ((t141) % 4294967296) [.int .u32 ((t141) % 4294967296)] (fun k_=>(w.heap.size≤k_)) (fun _=>False) rfl rfl ?aP (fun _ hk=>hk.elim) ?aF ?aO ?aB ?aS ?aL ?_;(case aP=>exact rfl);(case aB=>exact (by repeat (first|(with_reducible first|exact HB.out|apply below_alloc|apply pw_below_drewN|apply below_drew1)|exact HB.out)));(case aF=>exact (fun k_ hk=>(Nat.le_trans (below_size (by repeat (first|(with_reducible first|exact HB.out|apply below_alloc|apply pw_below_drewN|apply below_drew1)|exact HB.out))) hk)));(case aO=>exact (by (with_reducible repeat (first|apply Kd.R_alloc|apply Kd.R_drewN|apply Kd.R_drew));exact HO_3.out));(case aS=>exact (below_size (by repeat (first|(with_reducible first|exact HB.out|apply below_alloc|apply pw_below_drewN|apply below_drew1)|exact HB.out))));(case aL=>have:=LMc7.out;omega);intro v143 w11 ho hb hg hat;rw [← Ny142.out] at ho;have n0_:=Aside0.mk (hb);have n1_:=Aside0.mk (ho);clear HB;clear HO_3;have HB:=n0_;have HO144:=n1_;clear n0_ n1_;clear ho hb hg hat))
       go_roundg k1
       case measure=>have:=HK1.out;omega
       case rel=>exact ⟨(x0_1.extract 0 ((ji3):Int).toNat),(y142),(by first|rfl|(simp;done)|(simp only [← hji3]<;>(first|rfl|simp))|(simp [*];done)),H',⟨by have:=HK1.out;omega⟩,⟨by (with_reducible repeat (first|apply Kd.R_alloc|apply Kd.R_drewN|apply Kd.R_drew));exact HO144.out⟩,⟨by repeat (first|(with_reducible first|exact HB.out|apply below_alloc|apply pw_below_drewN|apply below_drew1)|exact HB.out)⟩⟩
      ·rw [if_neg c7] at H
       exact absurd H (by simp)
     ·rw [if_neg c5] at H
      exact absurd H (by simp)
    ·rw [if_neg c4] at H
     exact absurd H (by simp)
   ·rw [if_neg c2] at H
    have c2b0:decide (0 < (x0_1.size:Int)) = false:=decide_eq_false c2
    have c2b1:decide (0 < x0_1.size) = false:=decide_eq_false (by omega)
    clear c2
    replace H:=Option.bind_eq_some_iff.mp H
    obtain ⟨t145,A120,H⟩:=H
    replace H:(some t145) = some r:=H
    have A12:=Aside0.mk A120
    clear A120
    obtain rfl:=Option.some.inj H
    obtain ⟨Ao13,co13,eo13⟩:=Kd.R_slice HO_3.out
    subst eo13
    go_wp2_with (first|((with_reducible refine gate_callee (f:=138) rfl ?_);refine goesL_ (some 30) rfl rfl Tryz.func138 (by kernel_rfl) rfl #[.slice Ao13 x3_1.length co13] rfl (by (try simp only [List.map_toArray,List.map_cons,List.map_nil]);first|done|rfl|(simp only [List.length_drop,List.length_take];rfl)) ?_;(refine (trim_own k1 w.heap.size (fun k_=>(w.heap.size≤k_)) _ _ x3_1 t145 _ ?side1 ((trim_same _ _).symm.trans A12.out)).mono ?_);(case side1=>(with_reducible repeat (first|apply Kd.R_alloc|apply Kd.R_drewN|apply Kd.R_drew));exact HO_3.out);rintro e w14 ⟨v146,rfl,ho0,hb⟩;refine ⟨_,rfl,?_⟩;have n1_:=Aside0.mk ho0;have n2_:=Aside0.mk (below_step (by repeat (first|(with_reducible first|exact HB.out|apply below_alloc|apply pw_below_drewN|apply below_drew1)|exact HB.out)) hb);clear HO_3;clear HB;have HO147:=n1_;have HB:=n2_;clear n1_ n2_;(try clear hb);(try clear hb2);(try clear hk);(try clear hi);(try clear ho0)))
    go_ret
    exact ⟨_,by first|rfl|(simp [errW_none,errW_some]<;>rfl)|(simp [*,errW_none,errW_some]<;>rfl),by (with_reducible repeat (first|apply Kd.R_alloc|apply Kd.R_drewN|apply Kd.R_drew));exact HO147.out,by repeat (first|(with_reducible first|exact HB.out|apply below_alloc|apply pw_below_drewN|apply below_drew1)|exact HB.out)⟩
end Go.Proofs.YtcmbggahndfnnaaGreatDoor.Pt
set_option linter.unusedVariables false
set_option linter.unusedSimpArgs false
namespace Go.Proofs.YtcmbggahndfnnaaGreatDoor.NatTh
open Go.Lib
def dg (d:Nat):UInt8:=UInt8.ofNat (48 + d)
theorem dec_small (n:Nat) (h:n < 10):decDigits n = [dg n]:=by rw [decDigits,dif_pos h];rfl
theorem dec_big (n:Nat) (h:¬ n < 10):decDigits n = decDigits (n / 10) ++ [dg (n % 10)]:=by rw [decDigits,dif_neg h];rfl
def pad:Nat→Nat→List UInt8
 | 0,_=>[]
 | k + 1,w=>pad k (w / 10) ++ [dg (w % 10)]
theorem dec_pad (k:Nat):∀ (x w:Nat),0 < x→w < 10 ^ k→decDigits (x * 10 ^ k + w) = decDigits x ++ pad k w:=by
 induction k with
 | zero=>intro x w hx hw;simp at hw;subst hw;simp [pad]
 | succ k ih =>
  intro x w hx hw
  have e:x * 10 ^ (k + 1) + w = 10 * (x * 10 ^ k + w / 10) + w % 10:=by
   rw [Nat.pow_succ,Nat.mul_add,← Nat.mul_assoc,Nat.mul_comm 10 (x * 10 ^ k),Nat.mul_assoc x]
   rw [← Nat.mul_assoc]
   omega
  have hk:0 < 10 ^ k:=Nat.pow_pos (by omega)
  have hxk:1≤x * 10 ^ k:=Nat.mul_pos hx hk
  have hw2:w / 10 < 10 ^ k:=by
   rw [Nat.pow_succ] at hw
   omega
  rw [e,dec_big _ (by omega),show (10 * (x * 10 ^ k + w / 10) + w % 10) / 10 = x * 10 ^ k + w / 10 by omega,show (10 * (x * 10 ^ k + w / 10) + w % 10) % 10 = w % 10 by omega,ih x (w / 10) hx hw2,pad,List.append_assoc]
theorem pad_zero (k:Nat):pad k 0 = List.replicate k 48:=by
 induction k with
 | zero=>rfl
 | succ k ih =>
  rw [pad,List.replicate_succ']
  show pad k (0 / 10) ++ [dg 0] = _
  rw [Nat.zero_div,ih]
  rfl
theorem nDigits_le (k w:Nat) (hk:1≤k) (hw:w < 10 ^ k):nDigits w≤k:=by
 induction k generalizing w with
 | zero=>omega
 | succ k ih =>
  by_cases h:w < 10
  ·rw [nDigits_small h];omega
  ·rw [nDigits_big h]
   have hk1:1≤k:=by
    by_cases e:k = 0
    ·subst e;simp at hw;omega
    ·omega
   have:=ih (w / 10) hk1 (by rw [Nat.pow_succ] at hw;omega)
   omega
theorem pad_eq (k:Nat):∀ w,1≤k→w < 10 ^ k→pad k w = List.replicate (k - (decDigits w).length) 48 ++ decDigits w:=by
 induction k with
 | zero=>intro w h;omega
 | succ k ih =>
  intro w _ hw
  by_cases h:w < 10
  ·rw [pad,Nat.div_eq_of_lt h,pad_zero,Nat.mod_eq_of_lt h,dec_small w h]
   rfl
  ·have hk:1≤k:=by
    by_cases e:k = 0
    ·subst e;simp at hw;omega
    ·omega
   have hw2:w / 10 < 10 ^ k:=by rw [Nat.pow_succ] at hw;omega
   have hl:=nDigits_le k (w / 10) hk hw2
   rw [pad,ih (w / 10) hk hw2,dec_big w h,List.length_append,List.length_singleton,List.append_assoc]
   rw [show k + 1 - ((decDigits (w / 10)).length + 1) = k - (decDigits (w / 10)).length by omega]
def pv (l:List UInt8):Nat:=l.foldl (fun a c=>a * 10 + (c.toNat - 48)) 0
theorem pv_snoc (l:List UInt8) (c:UInt8):pv (l ++ [c]) = pv l * 10 + (c.toNat - 48):=by
 unfold pv
 rw [List.foldl_append]
 rfl
def isDig (c:UInt8):Prop:=48≤c.toNat∧c.toNat≤57
def Nml (l:List UInt8):Prop:=(∀ c ∈ l,isDig c)∧l≠[]∧(1 < l.length→l.head?≠some 48)
theorem pv_lt (l:List UInt8) (h:∀ c ∈ l,isDig c):pv l < 10 ^ l.length:=by
 suffices H:∀ (n:Nat) (l:List UInt8),l.length = n→(∀ c ∈ l,isDig c)→pv l < 10 ^ n from H _ l rfl h
 intro n
 induction n with
 | zero =>
  intro l hl _
  have:l = []:=List.eq_nil_of_length_eq_zero hl
  subst this
  decide
 | succ n ih =>
  intro l hl h
  rcases List.eq_nil_or_concat l with rfl|⟨a,c,rfl⟩
  ·simp at hl
  ·rw [List.concat_eq_append] at h hl ⊢
   have h1:=ih a (by simpa using hl) (fun x hx=>h x (by simp [hx]))
   have h2:=h c (by simp)
   unfold isDig at h2
   rw [pv_snoc,Nat.pow_succ]
   omega
theorem pv_append (a b:List UInt8):pv (a ++ b) = pv a * 10 ^ b.length + pv b:=by
 suffices H:∀ (n:Nat) (b:List UInt8),b.length = n→pv (a ++ b) = pv a * 10 ^ n + pv b from H _ b rfl
 intro n
 induction n with
 | zero =>
  intro b hb
  have:b = []:=List.eq_nil_of_length_eq_zero hb
  subst this
  simp [pv]
 | succ n ih =>
  intro b hb
  rcases List.eq_nil_or_concat b with rfl|⟨b',c,rfl⟩
  ·simp at hb
  ·rw [List.concat_eq_append] at hb ⊢
   rw [← List.append_assoc,pv_snoc,pv_snoc,ih b' (by simpa using hb),Nat.pow_succ,Nat.add_mul,← Nat.mul_assoc]
   omega
theorem parse_digs (M:Nat) (hM:M < 1844674407370955162):∀ (l:List UInt8) (acc:Nat),(∀ c ∈ l,isDig c)→l.foldl (fun a c=>a * 10 + (c.toNat - 48)) acc≤M→parseUintM M acc l = .ok (l.foldl (fun a c=>a * 10 + (c.toNat - 48)) acc)
 | [],acc,_,_=>rfl
 | c :: r,acc,h,hm=>by
  have hc:=h c (by simp)
  unfold isDig at hc
  have mono:∀ (r:List UInt8) (x:Nat),x≤r.foldl (fun a c=>a * 10 + (c.toNat - 48)) x:=by
   intro r
   induction r with
   | nil=>intro x;exact Nat.le_refl _
   | cons d r ih=>intro x;exact Nat.le_trans (by omega) (ih (x * 10 + (d.toNat - 48)))
  have h1:=mono r (acc * 10 + (c.toNat - 48))
  rw [List.foldl_cons] at hm ⊢
  unfold parseUintM
  rw [if_pos hc,if_neg (by omega),if_neg (by omega)]
  exact parse_digs M hM r _ (fun x hx=>h x (by simp [hx])) hm
theorem parse32 (l:List UInt8) (h:∀ c ∈ l,isDig c) (hl:1≤l.length) (hl9:l.length≤9):parseUintB 32 l = .ok (pv l):=by
 have h1:=pv_lt l h
 have h2:10 ^ l.length≤10 ^ 9:=Nat.pow_le_pow_right (by omega) hl9
 unfold parseUintB
 rw [if_neg (fun e=>by rw [e] at hl;simp at hl)]
 exact parse_digs _ (by decide) l 0 h (by unfold pv at h1;omega)
end Go.Proofs.YtcmbggahndfnnaaGreatDoor.NatTh
set_option linter.unusedVariables false
namespace Go.Proofs.YtcmbggahndfnnaaGreatDoor.NatTh
open Go.Lib
def txt:List Int→List UInt8
 | []=>[]
 | [w]=>decDigits w.toNat
 | w :: y :: l=>txt (y :: l) ++ pad 9 w.toNat
def text (l:List Int):List UInt8:=if l = [] then [48] else txt l
theorem txt_numOf (n:Nat):0 < n→txt (numOf n) = decDigits n:=by
 induction n using Nat.strongRecOn with
 | ind n ih =>
  intro hn
  by_cases h:n < 1000000000
  ·rw [numOf_one h hn,txt]
   rfl
  ·have h1:=ih (n / 1000000000) (Nat.div_lt_self (by omega) (by omega)) (by omega)
   rw [numOf,dif_neg (by omega)]
   have hl:=len_pos (show 0 < n / 1000000000 by omega)
   obtain ⟨y,l,hy⟩:=List.exists_cons_of_ne_nil (List.length_pos_iff.1 hl)
   rw [hy] at h1 ⊢
   rw [txt,h1,Int.toNat_natCast]
   have:=dec_pad 9 (n / 1000000000) (n % 1000000000) (by omega) (Nat.mod_lt _ (by omega))
   rw [← this]
   congr 1
   omega
theorem text_numOf (n:Nat):text (numOf n) = decDigits n:=by
 by_cases h:n = 0
 ·subst h
  rw [numOf_zero,dec_small 0 (by omega)]
  rfl
 ·unfold text
  rw [if_neg (fun e=>h (numOf_nil.1 e)),txt_numOf n (by omega)]
def words (l:List UInt8):List Int:=if h:l = [] then [] else (pv (l.drop (l.length - 9)):Int) :: words (l.take (l.length - 9))
 termination_by l.length
 decreasing_by
  have:=List.length_pos_iff.2 h
  rw [List.length_take]
  omega
theorem words_nil:words [] = []:=by rw [words];simp
theorem words_spec (n:Nat):∀ l:List UInt8,l.length = n→(∀ c ∈ l,isDig c)→Wd (words l)∧val (words l) = pv l:=by
 induction n using Nat.strongRecOn with
 | ind n ih =>
  intro l hl hd
  by_cases h:l = []
  ·subst h
   rw [words_nil]
   exact ⟨Wd.nil,rfl⟩
  ·have hp:=List.length_pos_iff.2 h
   obtain ⟨h1,h2⟩:=ih (l.take (l.length - 9)).length (by rw [List.length_take];omega) _ rfl (fun c hc=>hd c (List.mem_of_mem_take hc))
   have h3:=pv_lt (l.drop (l.length - 9)) (fun c hc=>hd c (List.mem_of_mem_drop hc))
   have h4:10 ^ (l.drop (l.length - 9)).length≤10 ^ 9:=Nat.pow_le_pow_right (by omega) (by rw [List.length_drop];omega)
   rw [words,dif_neg h]
   refine ⟨Wd.cons ⟨by omega,by unfold B;omega⟩ h1,?_⟩
   rw [val,h2]
   have e:=pv_append (l.take (l.length - 9)) (l.drop (l.length - 9))
   rw [List.take_append_drop] at e
   by_cases h9:9≤l.length
   ·rw [show (l.drop (l.length - 9)).length = 9 by rw [List.length_drop];omega] at e
    rw [e]
    unfold B
    omega
   ·rw [show l.length - 9 = 0 by omega] at e ⊢
    simp only [List.take_zero,List.drop_zero] at e ⊢
    simp [pv]
end Go.Proofs.YtcmbggahndfnnaaGreatDoor.NatTh
namespace Go.Proofs.YtcmbggahndfnnaaGreatDoor.Pr
open Go.RowKit Go.Proofs.YtcmbggahndfnnaaGreatDoorW.PrintWords Go.Proofs.YtcmbggahndfnnaaGreatDoorW.PrintLast Go.Proofs.YtcmbggahndfnnaaGreatDoorW.PrintMore
def natural_read.f (a:ByteArray):Option (List Int):=Pt.natural_read.f (2 * a.size + 10) a
theorem natural_read.calls (a0:ByteArray) (r:List Int) (w:World) (h:natural_read.f a0 = some r) :
  Calls Tryz.prog 128 #[.string a0] w fun e w'=>∃ v0_:Value,e = .returned (v0_)∧Kd.R (Kd.int .u32) 101 w' w.heap.size (fun k_=>(w.heap.size≤k_)) v0_ r∧Below w.heap.size w w' :=
 Pt.read_own _ a0 r w h
end Go.Proofs.YtcmbggahndfnnaaGreatDoor.Pr
set_option linter.unusedVariables false
set_option linter.unusedSimpArgs false
namespace Go.Proofs.YtcmbggahndfnnaaGreatDoor.Pr
open Go.RowKit Go.Proofs.YtcmbggahndfnnaaGreatDoorW.PrintWords Go.Proofs.YtcmbggahndfnnaaGreatDoorW.PrintLast Go.Proofs.YtcmbggahndfnnaaGreatDoorW.PrintMore Go.Proofs.YtcmbggahndfnnaaGreatDoor.NatTh
def dgB (c:UInt8):Bool:=decide (48≤c.toNat) && decide (c.toNat≤57)
theorem dgB_iff (c:UInt8):dgB c = true ↔ isDig c:=by
 unfold dgB isDig
 simp
abbrev bs (s:ByteArray):List UInt8:=s.data.toList
theorem bs_length (s:ByteArray):(bs s).length = s.size:=data_length s
def nv (s:ByteArray):Bool:=(bs s).all dgB && !(bs s).isEmpty && (decide ((bs s).length≤1) || (bs s).head? != some 48)
theorem nv_iff (s:ByteArray):nv s = true ↔ Nml (bs s):=by
 unfold nv Nml
 rw [Bool.and_eq_true,Bool.and_eq_true,List.all_eq_true,Bool.or_eq_true,decide_eq_true_iff,bne_iff_ne,Bool.not_eq_true',List.isEmpty_eq_false_iff,and_assoc]
 refine and_congr ⟨fun h c hc=>(dgB_iff c).1 (h c hc),fun h c hc=>(dgB_iff c).2 (h c hc)⟩ (and_congr Iff.rfl ⟨fun h hl=>h.resolve_left (by omega),fun h=>?_⟩)
 by_cases hl:(bs s).length≤1
 ·exact .inl hl
 ·exact .inr (h (by omega))
theorem bt_get (s:ByteArray) (n:Nat) (h:n < s.size):bt s (n:Int) = (((bs s).getD n 0).toNat:Int):=by
 rw [← rd_bytesOf,rd_eq]
 unfold bytesOf
 rw [List.getD_eq_getElem?_getD,List.getD_eq_getElem?_getD,List.getElem?_map]
 rw [List.getElem?_eq_getElem (by rw [bs_length];exact h)]
 rfl
theorem all_drop (l:List UInt8) (n:Nat) (h:n < l.length):(l.drop n).all dgB = (dgB (l.getD n 0) && (l.drop (n + 1)).all dgB):=by
 rw [List.drop_eq_getElem_cons h,List.all_cons,List.getD_eq_getElem?_getD,List.getElem?_eq_getElem h]
 rfl
theorem valid_loop (s:ByteArray) (hs:s.size < 1152921504606846976):∀ (m n:Nat),n + m = s.size→∀ k,natural_Valid.l0 (k + 1 + m) s s.size n = some (((bs s).drop n).all dgB):=by
 intro m
 induction m with
 | zero =>
  intro n hn k
  show natural_Valid.l0 (k + 1) s s.size n = _
  unfold natural_Valid.l0
  rw [if_neg (by omega),List.drop_of_length_le (by rw [bs_length];omega)]
  rfl
 | succ m ih =>
  intro n hn k
  have h1:=ih (n + 1) (by omega) k
  rw [all_drop _ n (by rw [bs_length];omega)]
  rw [show k + 1 + (m + 1) = k + 1 + m + 1 by omega]
  unfold natural_Valid.l0
  rw [if_pos (by omega),if_pos (by omega),if_pos (by omega),bt_get s n (by omega),wi1 n (by omega),h1]
  unfold dgB
  by_cases h2:(((bs s).getD n 0).toNat:Int) < 48
  ·rw [if_pos h2,decide_eq_false (by omega)]
   rfl
  ·rw [if_neg h2,decide_eq_true (by omega)]
   by_cases h3:(((bs s).getD n 0).toNat:Int) > 57
   ·rw [if_pos h3,decide_eq_false (by omega)]
    rfl
   ·rw [if_neg h3,decide_eq_true (by omega)]
    rfl
theorem toL (s:ByteArray):s.toList = bs s:=ByteArray.toList_eq s
theorem Valid_ev (s:ByteArray) (hs:s.size < 1152921504606846976):Ev (fun k=>natural_Valid.f k s) (nv s):=by
 refine ⟨s.size + 2,fun k hk=>?_⟩
 have hl:=bs_length s
 obtain ⟨k,rfl⟩:∃ j,k = j + 1 + s.size + 1:=⟨k - 2 - s.size,by omega⟩
 have h0:=valid_loop s hs s.size 0 (by omega) k
 rw [List.drop_zero] at h0
 have j1:natural_Valid.j0 (k + 1 + s.size + 1) s true = some false:=by
  rw [natural_Valid.j0,if_pos rfl]
 have j2:natural_Valid.j0 (k + 1 + s.size + 1) s false = some ((bs s).all dgB):=by
  rw [natural_Valid.j0,if_neg (by simp)]
  exact h0
 simp only [natural_Valid.f,nv]
 rw [toL]
 by_cases he:bs s = []
 ·rw [if_pos he,j1,he]
  rfl
 ·have hpos:0 < (bs s).length:=List.length_pos_iff.2 he
  rw [if_neg he]
  have e1:(bs s).isEmpty = false:=by rw [List.isEmpty_eq_false_iff];exact he
  rw [e1]
  by_cases h2:(s.size:Int) > 1
  ·rw [if_pos h2,if_pos (by omega),show (0:Int) = ((0:Nat):Int) from rfl,bt_get s 0 (by omega)]
   rw [decide_eq_false (by omega),Bool.false_or]
   have e2:(bs s).head? = some ((bs s).getD 0 0):=by
    rw [List.head?_eq_getElem?,List.getD_eq_getElem?_getD,List.getElem?_eq_getElem (by omega)]
    rfl
   rw [e2]
   by_cases h3:(bs s).getD 0 0 = 48
   ·rw [h3]
    rw [show ((((48:UInt8).toNat:Nat):Int) == 48) = true from rfl,j1]
    simp
   ·rw [show ((((bs s).getD 0 0).toNat:Int) == 48) = false by
     rw [beq_eq_false_iff_ne]
     intro h4
     exact h3 (UInt8.toNat.inj (by have:(48:UInt8).toNat = 48:=rfl;omega)),j2]
    rw [show (some ((bs s).getD 0 0) != some 48) = true by rw [bne_iff_ne];intro h4;exact h3 (Option.some.inj h4)]
    simp
  ·rw [if_neg h2,j2,decide_eq_true (by omega)]
   simp
end Go.Proofs.YtcmbggahndfnnaaGreatDoor.Pr
set_option linter.unusedVariables false
set_option linter.unusedSimpArgs false
namespace Go.Proofs.YtcmbggahndfnnaaGreatDoor.Pr
open Go.RowKit Go.Proofs.YtcmbggahndfnnaaGreatDoorW.PrintWords Go.Proofs.YtcmbggahndfnnaaGreatDoorW.PrintLast Go.Proofs.YtcmbggahndfnnaaGreatDoorW.PrintMore Go.Proofs.YtcmbggahndfnnaaGreatDoor.NatTh
theorem bs_from (s:ByteArray) (a:Nat):bs (s.extract a s.size) = (bs s).drop a:=by
 unfold bs
 rw [ByteArray.data_extract,Array.toList_extract,List.extract_eq_take_drop,List.take_of_length_le]
 rw [List.length_drop,data_length]
 exact Nat.le_refl _
theorem bs_to (s:ByteArray) (a:Nat):bs (s.extract 0 a) = (bs s).take a:=by
 unfold bs
 rw [ByteArray.data_extract,Array.toList_extract,List.extract_eq_take_drop,List.drop_zero,Nat.sub_zero]
theorem words_len (n:Nat):∀ l:List UInt8,l.length = n→(words l).length≤l.length:=by
 induction n using Nat.strongRecOn with
 | ind n ih =>
  intro l hl
  by_cases h:l = []
  ·subst h
   rw [words_nil]
   exact Nat.le_refl _
  ·have hp:=List.length_pos_iff.2 h
   have h1:=ih (l.take (l.length - 9)).length (by rw [List.length_take];omega) _ rfl
   rw [words,dif_neg h,List.length_cons]
   rw [List.length_take] at h1
   omega
theorem pt_trim (k:Nat) (l:List Int):Pt.natural_num_trim.f k l = natural_num_trim.f k l:=Pt.trim_same k l
theorem read_loop (n:Nat):∀ (s:ByteArray),s.size = n→s.size < 281474976710656→(∀ c ∈ bs s,isDig c)→∀ (out:List Int),out.length + s.size < 35184372088832→∀ j,Pt.natural_read.l0 (j + 1 + (words (bs s)).length) s out = (natural_num_trim.f j (out ++ words (bs s))).bind fun t=>some t:=by
 induction n using Nat.strongRecOn with
 | ind n ih =>
  intro s hn hb hd out ho j
  have hl:=bs_length s
  by_cases he:bs s = []
  ·have h0:s.size = 0:=by rw [← hl,he];rfl
   rw [he,words_nil,List.append_nil]
   show Pt.natural_read.l0 (j + 1) s out = _
   unfold Pt.natural_read.l0
   rw [if_neg (by omega),pt_trim]
  ·have hpos:0 < (bs s).length:=List.length_pos_iff.2 he
   have hw:words (bs s) = (pv ((bs s).drop (s.size - 9)):Int) :: words ((bs s).take (s.size - 9)):=by rw [words,dif_neg he,hl]
   have hat:mx (wrap64 ((s.size:Int) - 9)) 0 = ((s.size - 9:Nat):Int):=by
    rw [w64 (by omega) (by omega)]
    unfold mx
    split<;>omega
   have hdd:∀ c ∈ (bs s).drop (s.size - 9),isDig c:=fun c hc=>hd c (List.mem_of_mem_drop hc)
   have hlen:((bs s).drop (s.size - 9)).length≤9:=by rw [List.length_drop];omega
   have hlen1:1≤((bs s).drop (s.size - 9)).length:=by rw [List.length_drop];omega
   have hp:=parse32 _ hdd hlen1 hlen
   have hlt:=pv_lt _ hdd
   have hp9:10 ^ ((bs s).drop (s.size - 9)).length≤10 ^ 9:=Nat.pow_le_pow_right (by omega) hlen
   have hpu:Pt.strconv_ParseUint_137.f (s.extract (s.size - 9) s.size) 10 32 = some (pv ((bs s).drop (s.size - 9)):Int):=by
    unfold Pt.strconv_ParseUint_137.f
    have e1:(s.extract (s.size - 9) s.size).size≤9223372036854775806:=by rw [ByteArray.size_extract];omega
    have e2:(s.extract (s.size - 9) s.size).data.toList = (bs s).drop (s.size - 9):=bs_from s _
    rw [if_pos ⟨rfl,rfl,e1⟩,e2,hp]
   have hsz:(s.extract 0 (s.size - 9)).size = s.size - 9:=by rw [ByteArray.size_extract];omega
   have hi:=ih (s.size - 9) (by omega) (s.extract 0 (s.size - 9)) hsz (by omega) (by rw [bs_to];exact fun c hc=>hd c (List.mem_of_mem_take hc)) (out ++ [(pv ((bs s).drop (s.size - 9)):Int)]) (by rw [List.length_append,hsz];simp;omega) j
   rw [bs_to,List.append_assoc,List.singleton_append,← hw] at hi
   rw [show j + 1 + (words (bs s)).length = j + 1 + (words ((bs s).take (s.size - 9))).length + 1 by rw [hw,List.length_cons];omega]
   rw [← hi]
   generalize j + 1 + (words ((bs s).take (s.size - 9))).length = K
   conv=>lhs;unfold Pt.natural_read.l0
   rw [hat,if_pos (by omega),if_pos (by omega),if_pos (by omega),Int.toNat_natCast,hpu,Option.bind_some,if_pos (by omega),Int.emod_eq_of_lt (b:=4294967296) (by omega) (by omega)]
def nat (s:ByteArray):Nat:=pv (bs s)
theorem nat_len (s:ByteArray) (h:nv s = true):(numOf (nat s)).length≤s.size:=by
 have hn:=(nv_iff s).1 h
 have h1:=words_spec _ (bs s) rfl hn.1
 have h2:=trim_numOf (n:=nat s) h1.1 h1.2
 have h3:=len_trimL (words (bs s))
 have h4:=words_len _ (bs s) rfl
 rw [h2] at h3
 rw [bs_length] at h4
 omega
theorem read_eq (s:ByteArray) (hs:s.size≤1099511627776) (h:nv s = true):natural_read.f s = some (numOf (nat s)):=by
 have hn:=(nv_iff s).1 h
 have hw:=words_len _ (bs s) rfl
 have hl:=bs_length s
 have h1:=words_spec _ (bs s) rfl hn.1
 obtain ⟨j,hj⟩:∃ j,2 * s.size + 10 = j + 1 + (words (bs s)).length:=⟨2 * s.size + 9 - (words (bs s)).length,by omega⟩
 unfold natural_read.f Pt.natural_read.f
 rw [hj,read_loop _ s rfl (by omega) hn.1 [] (by simp;omega) j,List.nil_append]
 rw [show natural_num_trim.f j (words (bs s)) = some (trimL (words (bs s))) from (trim_k _ _ rfl (by omega) j (by omega)).1,trim_numOf (n:=nat s) h1.1 h1.2]
 rfl
end Go.Proofs.YtcmbggahndfnnaaGreatDoor.Pr
namespace Go.Proofs.YtcmbggahndfnnaaGreatDoor.Pr
set_option linter.unusedVariables false
set_option linter.unusedSimpArgs false
open Go.RowKit Go.Shelf Go.Lib Go.Proofs.YtcmbggahndfnnaaGreatDoorW.PrintWords Go.Proofs.YtcmbggahndfnnaaGreatDoorW.PrintLast Go.Proofs.YtcmbggahndfnnaaGreatDoorW.PrintMore
attribute [local go_sem] Oper.semAt_some
def downs (zs:List Int) (k:Nat):List (Int × Int):=(List.range k).map fun (j:Nat)=>((zs.length:Int) - 1 - (j:Int),rd zs ((zs.length:Int) - 1 - (j:Int)))
theorem downs_succ (zs:List Int) (k:Nat):downs zs (k + 1) = downs zs k ++ [((zs.length:Int) - 1 - k,rd zs ((zs.length:Int) - 1 - k))]:=by simp [downs,List.range_succ]
theorem downs_length (zs:List Int) (k:Nat):(downs zs k).length = k:=by simp [downs]
def clI (i:Int):Int:=if 0≤i∧i < 1152921504606846976 then i else 0
def clW (x:Int):Int:=if 0≤x∧x < 1000000000 then x else 0
theorem clI_eq {i:Int} (h0:0≤i) (h:i < 1152921504606846976):clI i = i:=if_pos ⟨h0,h⟩
theorem clW_eq {x:Int} (h:0≤x∧x < 1000000000):clW x = x:=if_pos h
theorem clI_in (i:Int):0≤clI i∧clI i < 1152921504606846976:=by
 unfold clI
 split<;>omega
theorem clW_in (x:Int):0≤clW x∧clW x < 1000000000:=by
 unfold clW
 split<;>omega
def KpB (n₀ Bs:Nat) (W W':World):Prop:=Below n₀ W W'∧∀ o,W.heap[Bs]? = some o→W'.heap[Bs]? = some o
theorem KpB.t {n₀ Bs:Nat} {A B C:World} (h:KpB n₀ Bs A B) (k:KpB n₀ Bs B C):KpB n₀ Bs A C:=⟨h.1.trans k.1,fun o ho=>k.2 o (h.2 o ho)⟩
theorem KpB.b {n₀ Bs:Nat} {w:World} (hn:n₀≤w.heap.size) (hB:Bs < w.heap.size) (W:World) (l:Nat) (o o':Obj) (hl:w.heap.size≤l) (h:W.heap[l]? = some o) (h1:o.isCells = false) (h2:o.isWalk = false):KpB n₀ Bs W (W.putObj l o') :=
 ⟨belowK_b hn W l o o' hl h h1 h2,fun _ ho=>(World.putObj_heap_other (by omega)).trans ho⟩
theorem rd_in {zs:List Int} (hz:∀ x ∈ zs,0≤x∧x < 1000000000) (i:Int) (h0:0≤i) (h1:i < zs.length):0≤rd zs i∧rd zs i < 1000000000:=by
 unfold rd
 rw [List.getD_eq_getElem?_getD,List.getElem?_eq_getElem (by omega)]
 exact hz _ (List.getElem_mem _)
set_option maxRecDepth 100000 in
set_option maxHeartbeats 2000000 in
theorem back1_in (F:Fence) (n:Nat) (h79:F.fn 147) (hro:F.round = none) (hn:1≤n) (l Bs:Nat) (w0:World) (A:Option Addr) (cap:Nat) (zs:List Int) (hreach:zs.length < 1152921504606846976) (hz:∀ x ∈ zs,0≤x∧x < 1000000000) (hC:(Kd.int .u32).C w0 A zs.length zs) (J Jx:List (Int × Int)→World→Prop)
  (hY:∀ pre (x:Int × Int) W,J pre W→pre.length < zs.length→YieldAt F (n - 1) Tryz.prog l #[.int .i64 (clI x.1),.int .u32 (clW x.2)] W fun e W' =>
   (e = .returned (.bool true)∧J (pre ++ [x]) W'∧KpB w0.heap.size Bs W W') ∨ (e = .returned (.bool false)∧Jx (pre ++ [x]) W'))
  (W:World) (hW:Below w0.heap.size w0 W) (hBs:W.heap[Bs]? = some (.cells #[.slice A zs.length cap] 161 (0,0))) (h0:J [] W) :
  CallsIn F n Tryz.prog 147 #[.func (.yield l) #[] #[],.pointer (some ⟨Bs,0,none⟩)] W fun e W'=>(∃ v,e = .returned v) ∧
   ((∃ ys,ys = downs zs zs.length∧J ys W') ∨ (∃ pre,(∃ k,k≤zs.length∧pre = downs zs k)∧Jx pre W')):=by
 have hc0:W.cell? ⟨Bs,0,none⟩ = some (.slice A zs.length cap):=by rw [Lib.cell_of_heap hBs];rfl
 have hwl:wrap64 ((zs.length:Int) - 1) = (zs.length:Int) - 1:=by unfold wrap64;omega
 refine callsIn_of_wp Tryz.func147 rfl h79 ?_ hro
 simp only [Tryz.ntmps147,List.size_toArray,List.length_cons,List.length_nil,Nat.reduceAdd,Nat.reduceSub,Array.replicate_succ,Array.replicate_zero,List.push_toArray,List.append_toArray,List.nil_append,List.cons_append]
 gi_wp2
 clear hc0 hwl
 gi_loopw [3] (fun v wr=>∃ (k:Nat) (i:Int),i + 1 + k = zs.length∧-1≤i∧v = .int .i64 i∧J (downs zs k) wr∧Below w0.heap.size w0 wr∧wr.heap[Bs]? = some (.cells #[.slice A zs.length cap] 161 (0,0)))
  (fun i _=>(Go.RowKit.intOf i + 1).toNat)
 case atStart=>exact ⟨0,_,by omega,by omega,rfl,h0,hW,hBs⟩
 case round =>
  obtain ⟨k,i,hk,hi1,rfl,hJs,hnx,hBx⟩:=hrel
  have hcx:wr.cell? ⟨Bs,0,none⟩ = some (.slice A zs.length cap):=by rw [Lib.cell_of_heap hBx];rfl
  by_cases hlt:0≤i
  ·have hlt2:i < zs.length:=by omega
   obtain ⟨ad,rfl,hcell⟩:=Kd.at_int (Kd.C_below hC hnx) i hlt hlt2
   have hYi:=hY _ (i,rd zs i) wr hJs (by rw [downs_length];omega)
   dsimp only at hYi
   rw [clI_eq hlt (by omega),clW_eq (rd_in hz i hlt hlt2)] at hYi
   obtain ⟨fn,tmps,assign,body,hy,hR⟩:=hYi
   have hw1:wrap64 (i - 1) = i - 1:=by unfold wrap64;omega
   have hiE:(zs.length:Int) - 1 - k = i:=by omega
   have HiE:=Lib.hid hiE
   have HK:=Lib.hid hk
   have HW1:=Lib.hid hw1
   clear hiE hk hw1
   gi_wp2
   refine hR.mono ?_
   rintro e W3 (⟨rfl,hJ3,hk3⟩|⟨rfl,hJx3⟩)
   ·have hw1:=HW1.out
    gi_wp2
    clear hw1
    go_roundw
    case rel=>exact ⟨k + 1,i - 1,by have:=HK.out;omega,by omega,rfl,by rw [downs_succ,HiE.out];exact hJ3,hnx.trans hk3.1,hk3.2 _ hBx⟩
    case measure=>simp [Go.RowKit.intOf];omega
   ·gi_wp2
    refine bodyPost_ret (results_none rfl _ _ _) rfl ?_
    exact ⟨⟨_,rfl⟩,.inr ⟨_,⟨k + 1,by have:=HK.out;omega,by rw [downs_succ,HiE.out]⟩,hJx3⟩⟩
  ·have hkE:k = zs.length:=by omega
   gi_wp2
   go_end0
   exact ⟨⟨_,rfl⟩,.inl (by rw [← hkE];exact hJs)⟩
set_option maxHeartbeats 1000000 in
theorem back_in (F:Fence) (n:Nat) (h63:F.fn 139) (hro:F.round = none) (a:Option Addr) (len cap:Nat) (w:World) :
  CallsIn F n Tryz.prog 139 #[.slice a len cap] w fun e w'=>e = .returned (.func (.func 147) #[] #[.pointer (some ⟨w.heap.size,0,none⟩)])∧w' = w.alloc (.cells #[.slice a len cap] 161):=by
 refine callsIn_of_wp Tryz.func139 rfl h63 ?_ hro
 simp only [Tryz.ntmps139,List.size_toArray,List.length_cons,List.length_nil,Nat.reduceAdd,Nat.reduceSub,Array.replicate_succ,Array.replicate_zero,List.push_toArray,List.append_toArray,List.nil_append,List.cons_append]
 gi_wp2
 go_ret
 exact ⟨rfl,rfl⟩
theorem back_stops (F:Fence) (n:Nat) (h79:F.fn 147) (hro:F.round = none) (hn:1≤n) (Bs:Nat) (w0:World) (A:Option Addr) (cap:Nat) (zs:List Int) (hreach:zs.length < 1152921504606846976) (hz:∀ x ∈ zs,0≤x∧x < 1000000000) (hC:(Kd.int .u32).C w0 A zs.length zs) (w:World) (hw0:Below w0.heap.size w0 w)
  (hc:w.heap[Bs]? = some (.cells #[.slice A zs.length cap] 161 (0,0))) :
  SeqStopsK F n Tryz.prog 147 #[.pointer (some ⟨Bs,0,none⟩)] (fun x:Int × Int=>#[Value.int .i64 (clI x.1),Value.int .u32 (clW x.2)]) (KpB w0.heap.size Bs) (fun ys=>ys = downs zs zs.length)
   (fun pre=>∃ k,k≤zs.length∧pre = downs zs k) zs.length w:=fun l J Jx W hW _ _ hY h0=>by
 have hlt:Bs < w.heap.size:=(Array.getElem?_eq_some_iff.1 hc).1
 exact back1_in F n h79 hro hn l Bs w0 A cap zs hreach hz hC J Jx hY W (hw0.trans (hW.mono hw0.size)) ((hW.block Bs hlt).trans hc) h0
end Go.Proofs.YtcmbggahndfnnaaGreatDoor.Pr
namespace Go.Proofs
open Go.Shelf
def Tryz.lays169_ren:Go.Shelf.Ren:=⟨fun|169=>49|n=>n,fun|70=>71|9=>9|0=>0|72=>73|37=>57|127=>114|3=>3|5=>5|n=>n,fun|n=>n⟩
theorem Tryz.lays169:Go.Proofs.Lays.n169 Tryz.prog Tryz.lays169_ren:={
 mixed:=by kernel_rfl
 f169:=Tryz.func49.trans (congrArg some (by kernel_rfl))
 t0:=Tryz.underlying0
 a0:=Tryz.isAgg0
 z0:=Tryz.sizeOf0
 v0:=Tryz.zeroValue0
 t3:=Tryz.underlying3
 a3:=Tryz.isAgg3
 z3:=Tryz.sizeOf3
 v3:=Tryz.zeroValue3
 t9:=Tryz.underlying9
 a9:=Tryz.isAgg9
 z9:=Tryz.sizeOf9
 v9:=Tryz.zeroValue9
 t37:=Tryz.underlying57
 a37:=Tryz.isAgg57
 z37:=Tryz.sizeOf57
 v37:=Tryz.zeroValue57
 t70:=Tryz.underlying71
 a70:=Tryz.isAgg71
 z70:=Tryz.sizeOf71
 v70:=Tryz.zeroValue71
 t72:=Tryz.underlying73
 a72:=Tryz.isAgg73
 z72:=Tryz.sizeOf73
 v72:=Tryz.zeroValue73
 t127:=Tryz.underlying114
 a127:=Tryz.isAgg114
 z127:=Tryz.sizeOf114
 v127:=Tryz.zeroValue114 }
theorem Tryz.Builder_Extra_169:Builder.Extra Tryz.prog Tryz.lays169_ren:={
 sizeBuilder:=by kernel_rfl
 liesBuilder:=by kernel_rfl
 t5:=Tryz.underlying5
 a5:=Tryz.isAgg5
 z5:=Tryz.sizeOf5
 v5:=Tryz.zeroValue5
 infoByte:=by kernel_rfl
 cellsByte:=by kernel_rfl
 sizeByte:=by kernel_rfl
 neB5:=by decide }
open Go.RowKit in
theorem Tryz.Builder_String_any_k (B b:Nat) (l:List UInt8) (w:World) (h:Lib.IsBuilderF 73 5 B b (Lib.byteCells l) w) (hBw:B≤w.heap.size) :
  Calls Tryz.prog 49 #[.pointer (some ⟨b,0,none⟩)] w fun e w'=>e = .returned (.string ⟨l.toArray⟩)∧(Lib.IsBuilderF 73 5 B b (Lib.byteCells l) w'∧Below B w w'∧Lib.OthersKept 5 (some b) w w'):=Any.Builder_String_any_k Tryz.lays169 Tryz.Builder_Extra_169 B b l w h hBw
def Tryz.lays283_ren:Go.Shelf.Ren:=⟨fun|283=>161|n=>n,fun|3=>3|9=>9|4=>4|n=>n,fun|n=>n⟩
theorem Tryz.lays283:Go.Proofs.Lays.n283 Tryz.prog Tryz.lays283_ren:={
 mixed:=by kernel_rfl
 f283:=Tryz.func161.trans (congrArg some (by kernel_rfl))
 t3:=Tryz.underlying3
 a3:=Tryz.isAgg3
 z3:=Tryz.sizeOf3
 v3:=Tryz.zeroValue3
 t4:=Tryz.underlying4
 a4:=Tryz.isAgg4
 z4:=Tryz.sizeOf4
 v4:=Tryz.zeroValue4
 t9:=Tryz.underlying9
 a9:=Tryz.isAgg9
 z9:=Tryz.sizeOf9
 v9:=Tryz.zeroValue9 }
open Go.Lib in
theorem Tryz.internal_strconv_small (i:Nat) (h:i < 100) (w:World) :
  Calls Tryz.prog 161 #[.int .i64 i] w fun e w'=>e = .returned (.string ⟨(Lib.decDigits i).toArray⟩)∧w' = w:=Any.internal_strconv_small Tryz.lays283 i h w
def Tryz.laysM284_ren:Go.Shelf.Ren:=⟨fun|284=>162|129=>174|317=>173|318=>175|n=>n,fun|53=>104|3=>3|212=>218|0=>0|4=>4|46=>106|5=>5|9=>9|n=>n,fun|17=>3|n=>n⟩
theorem Tryz.laysM284:Go.Proofs.LaysM.n284 Tryz.prog Tryz.laysM284_ren:={
 mixed:=by kernel_rfl
 f129:=Tryz.func174.trans (congrArg some (by kernel_rfl))
 f284:=Tryz.func162.trans (congrArg some (by kernel_rfl))
 f317:=Tryz.func173.trans (congrArg some (by kernel_rfl))
 f318:=Tryz.func175.trans (congrArg some (by kernel_rfl))
 t0:=Tryz.underlying0
 a0:=Tryz.isAgg0
 z0:=Tryz.sizeOf0
 v0:=Tryz.zeroValue0
 t3:=Tryz.underlying3
 a3:=Tryz.isAgg3
 z3:=Tryz.sizeOf3
 v3:=Tryz.zeroValue3
 t4:=Tryz.underlying4
 a4:=Tryz.isAgg4
 z4:=Tryz.sizeOf4
 v4:=Tryz.zeroValue4
 t5:=Tryz.underlying5
 a5:=Tryz.isAgg5
 z5:=Tryz.sizeOf5
 v5:=Tryz.zeroValue5
 t9:=Tryz.underlying9
 a9:=Tryz.isAgg9
 z9:=Tryz.sizeOf9
 v9:=Tryz.zeroValue9
 t46:=Tryz.underlying106
 a46:=Tryz.isAgg106
 z46:=Tryz.sizeOf106
 v46:=Tryz.zeroValue106
 t53:=Tryz.underlying104
 a53:=Tryz.isAgg104
 z53:=Tryz.sizeOf104
 v53:=Tryz.zeroValue104
 t212:=Tryz.underlying218
 a212:=Tryz.isAgg218
 z212:=Tryz.sizeOf218
 v212:=Tryz.zeroValue218
 g17:=by kernel_rfl
 i0:=by kernel_rfl
 i3:=by kernel_rfl
 i4:=by kernel_rfl
 i5:=by kernel_rfl
 i9:=by kernel_rfl
 i46:=by kernel_rfl
 i53:=by kernel_rfl
 i212:=by kernel_rfl
 m17:=by kernel_rfl }
open Go.Lib in
theorem Tryz.internal_strconv_numDigits (u:Nat) (h1:1≤u) (h2:u < 18446744073709551616) (w:World) (htab:Lib.TabIs Tryz.prog w "internal/strconv.uint64pow10" .u64 Lib.pow10Tab) :
  Calls Tryz.prog 162 #[.int .u64 u] w fun e w'=>e = .returned (.int .i64 (Lib.nDigits u))∧w' = w:=Any.internal_strconv_numDigits Tryz.laysM284 u h1 h2 w htab
def Tryz.lays285_ren:Go.Shelf.Ren:=⟨fun|285=>163|n=>n,fun|37=>57|53=>104|3=>3|4=>4|51=>101|9=>9|5=>5|0=>0|n=>n,fun|n=>n⟩
theorem Tryz.lays285:Go.Proofs.Lays.n285 Tryz.prog Tryz.lays285_ren:={
 mixed:=by kernel_rfl
 f285:=Tryz.func163.trans (congrArg some (by kernel_rfl))
 t0:=Tryz.underlying0
 a0:=Tryz.isAgg0
 z0:=Tryz.sizeOf0
 v0:=Tryz.zeroValue0
 t3:=Tryz.underlying3
 a3:=Tryz.isAgg3
 z3:=Tryz.sizeOf3
 v3:=Tryz.zeroValue3
 t4:=Tryz.underlying4
 a4:=Tryz.isAgg4
 z4:=Tryz.sizeOf4
 v4:=Tryz.zeroValue4
 t5:=Tryz.underlying5
 a5:=Tryz.isAgg5
 z5:=Tryz.sizeOf5
 v5:=Tryz.zeroValue5
 t9:=Tryz.underlying9
 a9:=Tryz.isAgg9
 z9:=Tryz.sizeOf9
 v9:=Tryz.zeroValue9
 t37:=Tryz.underlying57
 a37:=Tryz.isAgg57
 z37:=Tryz.sizeOf57
 v37:=Tryz.zeroValue57
 t51:=Tryz.underlying101
 a51:=Tryz.isAgg101
 z51:=Tryz.sizeOf101
 v51:=Tryz.zeroValue101
 t53:=Tryz.underlying104
 a53:=Tryz.isAgg104
 z53:=Tryz.sizeOf104
 v53:=Tryz.zeroValue104 }
open Go.RowKit Go.Sort Go.Lib in
theorem Tryz.internal_strconv_formatBase10 (blk off cap:Nat) (u:Nat) (d:Array UInt8) (w:World) (hH:Holds (fun (b:UInt8)=>Value.int .u8 (b.toNat:Int)) w blk off d) (hu:u < 10 ^ d.size) (hu64:u < 18446744073709551616) (hsz:d.size < 4611686018427387904) :
  Calls Tryz.prog 163 #[.slice (some ⟨blk,off,none⟩) d.size cap,.int .u64 u] w fun e w' =>
   e = .returned (.tuple #[])∧∃ (n v':Nat) (dk:Array UInt8),w' = (putRow (fun (b:UInt8)=>Value.int .u8 (b.toNat:Int)) w blk off dk).drewN n∧FmtInv d.size u 0 v' dk:=Any.internal_strconv_formatBase10 Tryz.lays285 blk off cap u d w hH hu hu64 hsz
def Tryz.lays105_ren:Go.Shelf.Ren:=⟨fun|105=>141|212=>149|99=>150|165=>151|166=>45|170=>152|169=>49|263=>165|264=>166|206=>135|240=>75|241=>167|276=>88|277=>178|n=>n,fun|9=>9|3=>3|4=>4|20=>20|0=>0|46=>106|109=>195|5=>5|72=>73|76=>76|51=>101|146=>179|53=>104|148=>211|70=>71|37=>57|75=>75|127=>114|164=>133|80=>80|n=>n,fun|n=>n⟩
theorem Tryz.lays105:Go.Proofs.Lays.n105 Tryz.prog Tryz.lays105_ren:={
 mixed:=by kernel_rfl
 f99:=Tryz.func150.trans (congrArg some (by kernel_rfl))
 f105:=Tryz.func141.trans (congrArg some (by kernel_rfl))
 f165:=Tryz.func151.trans (congrArg some (by kernel_rfl))
 f166:=Tryz.func45.trans (congrArg some (by kernel_rfl))
 f169:=Tryz.func49.trans (congrArg some (by kernel_rfl))
 f170:=Tryz.func152.trans (congrArg some (by kernel_rfl))
 f206:=Tryz.func135.trans (congrArg some (by kernel_rfl))
 f212:=Tryz.func149.trans (congrArg some (by kernel_rfl))
 f240:=Tryz.func75.trans (congrArg some (by kernel_rfl))
 f241:=Tryz.func167.trans (congrArg some (by kernel_rfl))
 f263:=Tryz.func165.trans (congrArg some (by kernel_rfl))
 f264:=Tryz.func166.trans (congrArg some (by kernel_rfl))
 f276:=Tryz.func88.trans (congrArg some (by kernel_rfl))
 f277:=Tryz.func178.trans (congrArg some (by kernel_rfl))
 t0:=Tryz.underlying0
 a0:=Tryz.isAgg0
 z0:=Tryz.sizeOf0
 v0:=Tryz.zeroValue0
 t3:=Tryz.underlying3
 a3:=Tryz.isAgg3
 z3:=Tryz.sizeOf3
 v3:=Tryz.zeroValue3
 t4:=Tryz.underlying4
 a4:=Tryz.isAgg4
 z4:=Tryz.sizeOf4
 v4:=Tryz.zeroValue4
 t5:=Tryz.underlying5
 a5:=Tryz.isAgg5
 z5:=Tryz.sizeOf5
 v5:=Tryz.zeroValue5
 t9:=Tryz.underlying9
 a9:=Tryz.isAgg9
 z9:=Tryz.sizeOf9
 v9:=Tryz.zeroValue9
 t20:=Tryz.underlying20
 a20:=Tryz.isAgg20
 z20:=Tryz.sizeOf20
 v20:=Tryz.zeroValue20
 t37:=Tryz.underlying57
 a37:=Tryz.isAgg57
 z37:=Tryz.sizeOf57
 v37:=Tryz.zeroValue57
 t46:=Tryz.underlying106
 a46:=Tryz.isAgg106
 z46:=Tryz.sizeOf106
 v46:=Tryz.zeroValue106
 t51:=Tryz.underlying101
 a51:=Tryz.isAgg101
 z51:=Tryz.sizeOf101
 v51:=Tryz.zeroValue101
 t53:=Tryz.underlying104
 a53:=Tryz.isAgg104
 z53:=Tryz.sizeOf104
 v53:=Tryz.zeroValue104
 t70:=Tryz.underlying71
 a70:=Tryz.isAgg71
 z70:=Tryz.sizeOf71
 v70:=Tryz.zeroValue71
 t72:=Tryz.underlying73
 a72:=Tryz.isAgg73
 z72:=Tryz.sizeOf73
 v72:=Tryz.zeroValue73
 t75:=Tryz.underlying75
 a75:=Tryz.isAgg75
 z75:=Tryz.sizeOf75
 v75:=Tryz.zeroValue75
 t76:=Tryz.underlying76
 a76:=Tryz.isAgg76
 z76:=Tryz.sizeOf76
 v76:=Tryz.zeroValue76
 t109:=Tryz.underlying195
 a109:=Tryz.isAgg195
 z109:=Tryz.sizeOf195
 v109:=Tryz.zeroValue195
 t127:=Tryz.underlying114
 a127:=Tryz.isAgg114
 z127:=Tryz.sizeOf114
 v127:=Tryz.zeroValue114
 t146:=Tryz.underlying179
 a146:=Tryz.isAgg179
 z146:=Tryz.sizeOf179
 v146:=Tryz.zeroValue179
 t148:=Tryz.underlying211
 a148:=Tryz.isAgg211
 z148:=Tryz.sizeOf211
 v148:=Tryz.zeroValue211
 t164:=Tryz.underlying133
 a164:=Tryz.isAgg133
 z164:=Tryz.sizeOf133
 v164:=Tryz.zeroValue133 }
theorem Tryz.Builder_Extra_105:Builder.Extra Tryz.prog Tryz.lays105_ren:={
 sizeBuilder:=by kernel_rfl
 liesBuilder:=by kernel_rfl
 t5:=Tryz.underlying5
 a5:=Tryz.isAgg5
 z5:=Tryz.sizeOf5
 v5:=Tryz.zeroValue5
 infoByte:=by kernel_rfl
 cellsByte:=by kernel_rfl
 sizeByte:=by kernel_rfl
 neB5:=by decide }
open Go.RowKit Go.Lib in
theorem Tryz.strings_Repeat (s:ByteArray) (c:Nat) (w:World) (hc:c≤9223372036854775807) (hlen:s.size * c≤140737488355328) :
  Calls Tryz.prog 141 #[.string s,.int .i64 c] w fun e w'=>e = .returned (.string ⟨(Lib.repeatL s.data.toList c).toArray⟩)∧Below w.heap.size w w':=Any.strings_Repeat Tryz.lays105 Tryz.Builder_Extra_105 s c w hc hlen
end Go.Proofs
namespace Go.Proofs
set_option linter.unusedVariables false
set_option linter.unusedSimpArgs false
open Go.Shelf Go.RowKit Go.Sort Go.Lib
theorem fin_pos0 (w:World) (o:Obj) (dk:Array UInt8) (k:Nat):∃ os,(putRow (fun (b:UInt8)=>Value.int .u8 (b.toNat:Int)) (w.alloc o) w.heap.size 0 dk).drewN k = grow (w.drewN k) os:=by
 rw [alloc_eq_grow]
 obtain ⟨os',_,e⟩:=putRow_grow_new (fun (b:UInt8)=>Value.int .u8 (b.toNat:Int)) w #[o] w.heap.size 0 dk (Nat.le_refl _)
 exact ⟨os',by rw [e];rfl⟩
set_option maxHeartbeats 6400000 in
set_option maxRecDepth 100000 in
theorem Tryz.internal_FormatUint (u:Nat) (hu64:u < 18446744073709551616) (w:World) (htab:Lib.TabIs Tryz.prog w "internal/strconv.uint64pow10" .u64 Lib.pow10Tab) :
  Calls Tryz.prog 148 #[.int .u64 u,.int .i64 10] w fun e w'=>e = .returned (.string ⟨(Lib.decDigits u).toArray⟩)∧Below w.heap.size w w':=by
 by_cases hs:u < 100
 ·have hsb:decide ((u:Int) < 100) = true:=decide_eq_true (by omega)
  have hwr:wrap64 (u:Int) = (u:Int):=by unfold wrap64;omega
  go_enter Tryz.func148,Tryz.ntmps148
  go_wp2_with (go_at_call 161;refine (Tryz.internal_strconv_small u hs _).mono ?_;rintro e w' ⟨rfl,rfl⟩)
  go_ret
  exact ⟨rfl,Below.refl _ _⟩
 ·have hsb:decide ((u:Int) < 100) = false:=decide_eq_false (by omega)
  have hu1:1≤u:=by omega
  have hnd20:Lib.nDigits u≤20:=by have:=Lib.numDigits_eq u hu1 hu64;split at this<;>omega
  have hb3:Lib.nDigits u≤24:=by omega
  have hal:Tryz.prog.arrayLen 205 = 24:=by simp [Program.arrayLen,Tryz.underlying205]
  have hsl1:∀ W,(Instr.sliceAt 205 (.pointer (some ⟨w.heap.size,0,none⟩)) none (some (.int .i64 (Lib.nDigits u:Int))) none).run Tryz.prog W = .ok (.slice (some ⟨w.heap.size,0,none⟩) (Lib.nDigits u) 24) W:=fun W=>by
   rw [run_sliceAt_array_h W 205 ⟨w.heap.size,0,none⟩ (by simp [Program.arrayLen,Program.elem,Tryz.underlying205]) .i64 (Lib.nDigits u:Int) (by omega) (by rw [hal];omega)]
   go_simp
  have hH0:=Lib.holds_zero0 w 205 (Lib.nDigits u) (by omega)
  have hfmt:=Tryz.internal_strconv_formatBase10 w.heap.size 0 24 u (Array.replicate (Lib.nDigits u) 0) (w.alloc (.cells Lib.zeros24 205)) hH0 (by rw [Array.size_replicate];exact Lib.lt_pow_nDigits u) hu64 (by rw [Array.size_replicate];omega)
  rw [Array.size_replicate] at hfmt
  have HH0:=Lib.hid hH0
  clear hH0 hal
  go_enter Tryz.func148,Tryz.ntmps148
  go_wp2_with (first
   | (go_at_call 162;refine (Tryz.internal_strconv_numDigits u hu1 hu64 _ (Lib.tabIs_alloc htab _)).mono ?_;rintro e w' ⟨rfl,rfl⟩))
  go_at_call 163
  refine hfmt.mono ?_
  rintro e w' ⟨rfl,k,v',dk,rfl,hF⟩
  have hcv:(convert 57 9 (.slice (some ⟨w.heap.size,0,none⟩) (Lib.nDigits u) 24)).run Tryz.prog ((putRow (fun (b:UInt8)=>Value.int .u8 (b.toNat:Int)) (w.alloc (.cells Lib.zeros24 205)) w.heap.size 0 dk).drewN k) = .ok (.string ⟨(Lib.decDigits u).toArray⟩) ((putRow (fun (b:UInt8)=>Value.int .u8 (b.toNat:Int)) (w.alloc (.cells Lib.zeros24 205)) w.heap.size 0 dk).drewN k):=by
   have h:=run_convert_bytes_back (P:=Tryz.prog) ((putRow (fun (b:UInt8)=>Value.int .u8 (b.toNat:Int)) (w.alloc (.cells Lib.zeros24 205)) w.heap.size 0 dk).drewN k) 57 9 5 ⟨w.heap.size,0,none⟩ 24 (Lib.decDigits u) Tryz.underlying57 Tryz.underlying5 Tryz.underlying9 (fun j hj=>by
    rw [Lib.row_is_numeral hF j hj,Lib.add_plain,World.cell?_drewN]
    exact cell?_putRow (fun (b:UInt8)=>Value.int .u8 (b.toNat:Int)) _ w.heap.size 0 _ dk HH0.out (by rw [hF.size,Array.size_replicate]) j (by rw [hF.size];rw [Lib.decDigits_length] at hj;exact hj))
   rw [Lib.decDigits_length] at h
   exact h
  go_wp2
  go_ret
  obtain ⟨os,eo⟩:=fin_pos0 w (.cells Lib.zeros24 205) dk k
  exact ⟨rfl,by rw [eo];exact below_grow _ _ (Nat.le_refl _) k os⟩
theorem Tryz.FormatUint (u:Nat) (hu64:u < 18446744073709551616) (w:World) (htab:Lib.TabIs Tryz.prog w "internal/strconv.uint64pow10" .u64 Lib.pow10Tab) :
  Calls Tryz.prog 140 #[.int .u64 u,.int .i64 10] w fun e w'=>e = .returned (.string ⟨(Lib.decDigits u).toArray⟩)∧Below w.heap.size w w':=by
 go_enter Tryz.func140,Tryz.ntmps140
 go_wp2_with (go_at_call 148;refine (Tryz.internal_FormatUint u hu64 _ htab).mono ?_;rintro e w' ⟨rfl,hb⟩)
 go_ret
 exact ⟨rfl,hb⟩
end Go.Proofs
