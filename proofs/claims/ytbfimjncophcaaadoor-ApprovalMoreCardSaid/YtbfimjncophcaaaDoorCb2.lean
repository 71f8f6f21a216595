/- Part 2 of 3: walks and laws of the functions of chapter 58 (approval), which the last part joins; no condition beyond those of the theorem there. The words of the print (W..) are the kit's, cut down by program to what is used here. -/
import Derived.Test.YtbfimjncophcaaaDoorProg
import Derived.Below
import Derived.Deep.Draws
import Derived.Deep.AppendLies
import Derived.Maps.AppendAt
import Derived.OwnWalk
import Derived.Laws.BytesArg
import Derived.Laws.MakeOwn
import Derived.Laws.OwnMore
import Derived.Deep.OwnRows
import Derived.Tactics
import Derived.Lib.ConvBytes
import Derived.Laws.Slices
import Derived.WalkKit
import Derived.KernelRfl
import Derived.RowKit3
import Derived.Deep.LoopGhost
import Derived.Deep.QuietTactic
import Derived.BigQuiet
import Derived.WideLaws
import Derived.Deep.DeepCutAuto
import Derived.Deep.CutBlock
import Derived.Deep.RegionHeld3
import Derived.Laws.Rows
import Derived.Lib.AppendStr
import Derived.ArgAppend
import Derived.Laws.IdiomCopy
import Derived.OrdersHeld
import Derived.Laws.BitsLemmas
import Derived.RowKit
import Derived.Shelf.LaysM
import Derived.Shelf.Strconv.Itoa3
import Derived.Shelf.Strings.Repeat
import Derived.Lib.AppendIntMem
import Derived.Lib.SmallJoins
import Derived.LaidMore
import Derived.ProofKit
import Derived.Stop.Joined
import Derived.SizedLaws
import Derived.DataShut
import Derived.Shelf.Abstract
import Derived.Great.BuildSlice
import Derived.StillTailTactics
import Derived.Lib.ItoaLen
import Derived.Test.YtbfimjncophcaaaDoorCb1
import Derived.Test.YtbfimjncophcaaaDoorCards
import Derived.Test.YtbfimjncophcaaaDoorTie
namespace Go.Proofs.YtbfimjncophcaaaDoor.Pr
open Go.RowKit Go.Proofs.YtbfimjncophcaaaDoorW.PrintWords Go.Proofs.YtbfimjncophcaaaDoorW.PrintLast Go.Proofs.YtbfimjncophcaaaDoorW.PrintMore
attribute [local go_sem] max2_int min2_int max_two min_two max_three min_three max_four min_four
set_option linter.unusedVariables false
set_option linter.unusedSimpArgs false
def errW : Option Int → Value
 | none => .nilIface
 | some c => .iface 0 (.int .i64 c)
theorem errW_none : errW none = .nilIface := rfl
theorem errW_some (c : Int) : errW (some c) = .iface 0 (.int .i64 c) := rfl
theorem info3 : (Tryd.prog.info? 3).map (fun i => (i.zero, i.size, i.bytes)) = some (some (.int .i64 0), 1, 8) := by kernel_rfl
theorem info5 : (Tryd.prog.info? 5).map (fun i => (i.zero, i.size, i.bytes)) = some (some (.int .u8 0), 1, 1) := by kernel_rfl
theorem info25 : (Tryd.prog.info? 25).map (fun i => (i.zero, i.size, i.bytes)) = some (some (.agg #[(.int .i64 0), (.int .i64 0), (.string ⟨#[]⟩), (.string ⟨#[]⟩)]), 4, 48) := by kernel_rfl
theorem info33 : (Tryd.prog.info? 33).map (fun i => (i.zero, i.size, i.bytes)) = some (some (.agg #[(.int .i64 0), (.int .i64 0), (.string ⟨#[]⟩), (.string ⟨#[]⟩)]), 4, 48) := by kernel_rfl
structure S33 where
 f0 : Int
 f1 : Int
 f2 : ByteArray
 f3 : ByteArray
def z33 : S33 := ⟨(0 : Int), (0 : Int), (⟨#[]⟩ : ByteArray), (⟨#[]⟩ : ByteArray)⟩
def k33 : Kd S33 := Kd.iso (Kd.pair (Kd.int .i64) (Kd.pair (Kd.int .i64) (Kd.pair Kd.string Kd.string))) (fun x : S33 => (x.f0, x.f1, x.f2, x.f3))
theorem k33_open {w : World} {x : S33} {cs : List Value} (h : k33.K w x cs) : cs = [.int .i64 x.f0, .int .i64 x.f1, .string x.f2, .string x.f3] := by
 obtain ⟨_, _, rfl, rfl, ⟨_, _, rfl, rfl, ⟨_, _, rfl, rfl, rfl⟩⟩⟩ := h
 exact rfl
theorem k33_mk (w : World) (x : S33)  : k33.K w x [.int .i64 x.f0, .int .i64 x.f1, .string x.f2, .string x.f3] := ⟨[.int .i64 x.f0], [.int .i64 x.f1, .string x.f2, .string x.f3], rfl, rfl, ⟨[.int .i64 x.f1], [.string x.f2, .string x.f3], rfl, rfl, ⟨[.string x.f2], [.string x.f3], rfl, rfl, rfl⟩⟩⟩
theorem k33_mkM (w : World) (base : Nat) (ok : Nat → Prop) (x : S33)  : k33.M w base ok x [.int .i64 x.f0, .int .i64 x.f1, .string x.f2, .string x.f3] := ⟨[.int .i64 x.f0], [.int .i64 x.f1, .string x.f2, .string x.f3], rfl, rfl, ⟨[.int .i64 x.f1], [.string x.f2, .string x.f3], rfl, rfl, ⟨[.string x.f2], [.string x.f3], rfl, rfl, rfl⟩⟩⟩
def rd_T33 (xs : List S33) (i : Int) : S33 := xs.getD i.toNat z33
theorem at_T33 {w : World} {A : Option Addr} {n : Nat} {xs : List S33} (h : Kd.C k33 w A n xs) (i : Int) (h0 : 0 ≤ i) (h1 : i < n) : ∃ ad , A = some ad ∧ w.cell? (ad.add (i.toNat * 4)) = some (.int .i64 (rd_T33 xs i).f0) ∧ w.cell? ⟨(ad.add (i.toNat * 4)).block, (ad.add (i.toNat * 4)).off + 1, none⟩ = some (.int .i64 (rd_T33 xs i).f1) ∧ w.cell? ⟨(ad.add (i.toNat * 4)).block, (ad.add (i.toNat * 4)).off + 2, none⟩ = some (.string (rd_T33 xs i).f2) ∧ w.cell? ⟨(ad.add (i.toNat * 4)).block, (ad.add (i.toNat * 4)).off + 3, none⟩ = some (.string (rd_T33 xs i).f3) := by
 obtain ⟨ad, c, e, _, hK, hc0⟩ := Kd.C_get h z33 i h0 h1
 have hc : ∀ j u, c[j]? = some u → w.cell? (ad.add (i.toNat * 4 + j)) = some u := hc0
 obtain rfl := k33_open hK
 exact ⟨ad, e, hc 0 _ rfl, by rw [← add_field _ _ 1 (by omega)]; exact hc 1 _ rfl, by rw [← add_field _ _ 2 (by omega)]; exact hc 2 _ rfl, by rw [← add_field _ _ 3 (by omega)]; exact hc 3 _ rfl⟩
structure S25 where
 f0 : Int
 f1 : Int
 f2 : ByteArray
 f3 : ByteArray
def z25 : S25 := ⟨(0 : Int), (0 : Int), (⟨#[]⟩ : ByteArray), (⟨#[]⟩ : ByteArray)⟩
def k25 : Kd S25 := Kd.iso (Kd.pair (Kd.int .i64) (Kd.pair (Kd.int .i64) (Kd.pair Kd.string Kd.string))) (fun x : S25 => (x.f0, x.f1, x.f2, x.f3))
theorem k25_open {w : World} {x : S25} {cs : List Value} (h : k25.K w x cs) : cs = [.int .i64 x.f0, .int .i64 x.f1, .string x.f2, .string x.f3] := by
 obtain ⟨_, _, rfl, rfl, ⟨_, _, rfl, rfl, ⟨_, _, rfl, rfl, rfl⟩⟩⟩ := h
 exact rfl
theorem k25_mk (w : World) (x : S25)  : k25.K w x [.int .i64 x.f0, .int .i64 x.f1, .string x.f2, .string x.f3] := ⟨[.int .i64 x.f0], [.int .i64 x.f1, .string x.f2, .string x.f3], rfl, rfl, ⟨[.int .i64 x.f1], [.string x.f2, .string x.f3], rfl, rfl, ⟨[.string x.f2], [.string x.f3], rfl, rfl, rfl⟩⟩⟩
theorem k25_mkM (w : World) (base : Nat) (ok : Nat → Prop) (x : S25)  : k25.M w base ok x [.int .i64 x.f0, .int .i64 x.f1, .string x.f2, .string x.f3] := ⟨[.int .i64 x.f0], [.int .i64 x.f1, .string x.f2, .string x.f3], rfl, rfl, ⟨[.int .i64 x.f1], [.string x.f2, .string x.f3], rfl, rfl, ⟨[.string x.f2], [.string x.f3], rfl, rfl, rfl⟩⟩⟩
def rd_T25 (xs : List S25) (i : Int) : S25 := xs.getD i.toNat z25
theorem at_T25 {w : World} {A : Option Addr} {n : Nat} {xs : List S25} (h : Kd.C k25 w A n xs) (i : Int) (h0 : 0 ≤ i) (h1 : i < n) : ∃ ad , A = some ad ∧ w.cell? (ad.add (i.toNat * 4)) = some (.int .i64 (rd_T25 xs i).f0) ∧ w.cell? ⟨(ad.add (i.toNat * 4)).block, (ad.add (i.toNat * 4)).off + 1, none⟩ = some (.int .i64 (rd_T25 xs i).f1) ∧ w.cell? ⟨(ad.add (i.toNat * 4)).block, (ad.add (i.toNat * 4)).off + 2, none⟩ = some (.string (rd_T25 xs i).f2) ∧ w.cell? ⟨(ad.add (i.toNat * 4)).block, (ad.add (i.toNat * 4)).off + 3, none⟩ = some (.string (rd_T25 xs i).f3) := by
 obtain ⟨ad, c, e, _, hK, hc0⟩ := Kd.C_get h z25 i h0 h1
 have hc : ∀ j u, c[j]? = some u → w.cell? (ad.add (i.toNat * 4 + j)) = some u := hc0
 obtain rfl := k25_open hK
 exact ⟨ad, e, hc 0 _ rfl, by rw [← add_field _ _ 1 (by omega)]; exact hc 1 _ rfl, by rw [← add_field _ _ 2 (by omega)]; exact hc 2 _ rfl, by rw [← add_field _ _ 3 (by omega)]; exact hc 3 _ rfl⟩
end Go.Proofs.YtbfimjncophcaaaDoor.Pr
namespace Go.Proofs
open Go.Shelf
def Tryd.laysM171_ren : Go.Shelf.Ren := ⟨fun | 171 => 59 | 243 => 72 | 246 => 79 | 283 => 83 | 284 => 84 | 285 => 85 | 286 => 86 | 129 => 88 | 317 => 87 | 318 => 89 | 319 => 90 | 320 => 91 | 337 => 92 | 338 => 93 | n => n, fun | 3 => 3 | 9 => 9 | 2 => 2 | 4 => 4 | 171 => 113 | 0 => 0 | 53 => 90 | 37 => 77 | 5 => 5 | 173 => 116 | 212 => 120 | 51 => 87 | 20 => 20 | 213 => 121 | 46 => 72 | 232 => 124 | 233 => 103 | n => n, fun | 17 => 1 | 18 => 2 | 19 => 3 | n => n⟩
theorem Tryd.laysM171 : Go.Proofs.LaysM.n171 Tryd.prog Tryd.laysM171_ren := {
 mixed := by kernel_rfl
 f129 := Tryd.func88.trans (congrArg some (by kernel_rfl))
 f171 := Tryd.func59.trans (congrArg some (by kernel_rfl))
 f243 := Tryd.func72.trans (congrArg some (by kernel_rfl))
 f246 := Tryd.func79.trans (congrArg some (by kernel_rfl))
 f283 := Tryd.func83.trans (congrArg some (by kernel_rfl))
 f284 := Tryd.func84.trans (congrArg some (by kernel_rfl))
 f285 := Tryd.func85.trans (congrArg some (by kernel_rfl))
 f286 := Tryd.func86.trans (congrArg some (by kernel_rfl))
 f317 := Tryd.func87.trans (congrArg some (by kernel_rfl))
 f318 := Tryd.func89.trans (congrArg some (by kernel_rfl))
 f319 := Tryd.func90.trans (congrArg some (by kernel_rfl))
 f320 := Tryd.func91.trans (congrArg some (by kernel_rfl))
 f337 := Tryd.func92.trans (congrArg some (by kernel_rfl))
 f338 := Tryd.func93.trans (congrArg some (by kernel_rfl))
 t0 := Tryd.underlying0
 a0 := Tryd.isAgg0
 z0 := Tryd.sizeOf0
 v0 := Tryd.zeroValue0
 t2 := Tryd.underlying2
 a2 := Tryd.isAgg2
 z2 := Tryd.sizeOf2
 v2 := Tryd.zeroValue2
 t3 := Tryd.underlying3
 a3 := Tryd.isAgg3
 z3 := Tryd.sizeOf3
 v3 := Tryd.zeroValue3
 t4 := Tryd.underlying4
 a4 := Tryd.isAgg4
 z4 := Tryd.sizeOf4
 v4 := Tryd.zeroValue4
 t5 := Tryd.underlying5
 a5 := Tryd.isAgg5
 z5 := Tryd.sizeOf5
 v5 := Tryd.zeroValue5
 t9 := Tryd.underlying9
 a9 := Tryd.isAgg9
 z9 := Tryd.sizeOf9
 v9 := Tryd.zeroValue9
 t20 := Tryd.underlying20
 a20 := Tryd.isAgg20
 z20 := Tryd.sizeOf20
 v20 := Tryd.zeroValue20
 t37 := Tryd.underlying77
 a37 := Tryd.isAgg77
 z37 := Tryd.sizeOf77
 v37 := Tryd.zeroValue77
 t46 := Tryd.underlying72
 a46 := Tryd.isAgg72
 z46 := Tryd.sizeOf72
 v46 := Tryd.zeroValue72
 t51 := Tryd.underlying87
 a51 := Tryd.isAgg87
 z51 := Tryd.sizeOf87
 v51 := Tryd.zeroValue87
 t53 := Tryd.underlying90
 a53 := Tryd.isAgg90
 z53 := Tryd.sizeOf90
 v53 := Tryd.zeroValue90
 t171 := Tryd.underlying113
 a171 := Tryd.isAgg113
 z171 := Tryd.sizeOf113
 v171 := Tryd.zeroValue113
 t173 := Tryd.underlying116
 a173 := Tryd.isAgg116
 z173 := Tryd.sizeOf116
 v173 := Tryd.zeroValue116
 t212 := Tryd.underlying120
 a212 := Tryd.isAgg120
 z212 := Tryd.sizeOf120
 v212 := Tryd.zeroValue120
 t213 := Tryd.underlying121
 a213 := Tryd.isAgg121
 z213 := Tryd.sizeOf121
 t232 := Tryd.underlying124
 a232 := Tryd.isAgg124
 z232 := Tryd.sizeOf124
 v232 := Tryd.zeroValue124
 t233 := Tryd.underlying103
 a233 := Tryd.isAgg103
 z233 := Tryd.sizeOf103
 v233 := Tryd.zeroValue103
 g17 := by kernel_rfl
 g18 := by kernel_rfl
 g19 := by kernel_rfl
 i0 := by kernel_rfl
 i2 := by kernel_rfl
 i3 := by kernel_rfl
 i4 := by kernel_rfl
 i5 := by kernel_rfl
 i9 := by kernel_rfl
 i20 := by kernel_rfl
 i37 := by kernel_rfl
 i46 := by kernel_rfl
 i51 := by kernel_rfl
 i53 := by kernel_rfl
 i171 := by kernel_rfl
 i173 := by kernel_rfl
 i212 := by kernel_rfl
 i232 := by kernel_rfl
 i233 := by kernel_rfl
 m17 := by kernel_rfl
 m18 := by kernel_rfl
 m19 := by kernel_rfl }
def Tryd.lays105_ren : Go.Shelf.Ren := ⟨fun | 105 => 31 | 212 => 50 | 99 => 51 | 165 => 52 | 166 => 53 | 170 => 54 | 169 => 55 | 263 => 66 | 264 => 67 | 206 => 68 | 240 => 69 | 241 => 70 | 276 => 76 | 277 => 77 | n => n, fun | 9 => 9 | 3 => 3 | 4 => 4 | 20 => 20 | 0 => 0 | 46 => 72 | 109 => 73 | 5 => 5 | 72 => 79 | 76 => 83 | 51 => 87 | 146 => 96 | 53 => 90 | 148 => 98 | 70 => 76 | 37 => 77 | 75 => 82 | 127 => 100 | 164 => 107 | 80 => 86 | n => n, fun | n => n⟩
theorem Tryd.lays105 : Go.Proofs.Lays.n105 Tryd.prog Tryd.lays105_ren := {
 mixed := by kernel_rfl
 f99 := Tryd.func51.trans (congrArg some (by kernel_rfl))
 f105 := Tryd.func31.trans (congrArg some (by kernel_rfl))
 f165 := Tryd.func52.trans (congrArg some (by kernel_rfl))
 f166 := Tryd.func53.trans (congrArg some (by kernel_rfl))
 f169 := Tryd.func55.trans (congrArg some (by kernel_rfl))
 f170 := Tryd.func54.trans (congrArg some (by kernel_rfl))
 f206 := Tryd.func68.trans (congrArg some (by kernel_rfl))
 f212 := Tryd.func50.trans (congrArg some (by kernel_rfl))
 f240 := Tryd.func69.trans (congrArg some (by kernel_rfl))
 f241 := Tryd.func70.trans (congrArg some (by kernel_rfl))
 f263 := Tryd.func66.trans (congrArg some (by kernel_rfl))
 f264 := Tryd.func67.trans (congrArg some (by kernel_rfl))
 f276 := Tryd.func76.trans (congrArg some (by kernel_rfl))
 f277 := Tryd.func77.trans (congrArg some (by kernel_rfl))
 t0 := Tryd.underlying0
 a0 := Tryd.isAgg0
 z0 := Tryd.sizeOf0
 v0 := Tryd.zeroValue0
 t3 := Tryd.underlying3
 a3 := Tryd.isAgg3
 z3 := Tryd.sizeOf3
 v3 := Tryd.zeroValue3
 t4 := Tryd.underlying4
 a4 := Tryd.isAgg4
 z4 := Tryd.sizeOf4
 v4 := Tryd.zeroValue4
 t5 := Tryd.underlying5
 a5 := Tryd.isAgg5
 z5 := Tryd.sizeOf5
 v5 := Tryd.zeroValue5
 t9 := Tryd.underlying9
 a9 := Tryd.isAgg9
 z9 := Tryd.sizeOf9
 v9 := Tryd.zeroValue9
 t20 := Tryd.underlying20
 a20 := Tryd.isAgg20
 z20 := Tryd.sizeOf20
 v20 := Tryd.zeroValue20
 t37 := Tryd.underlying77
 a37 := Tryd.isAgg77
 z37 := Tryd.sizeOf77
 v37 := Tryd.zeroValue77
 t46 := Tryd.underlying72
 a46 := Tryd.isAgg72
 z46 := Tryd.sizeOf72
 v46 := Tryd.zeroValue72
 t51 := Tryd.underlying87
 a51 := Tryd.isAgg87
 z51 := Tryd.sizeOf87
 v51 := Tryd.zeroValue87
 t53 := Tryd.underlying90
 a53 := Tryd.isAgg90
 z53 := Tryd.sizeOf90
 v53 := Tryd.zeroValue90
 t70 := Tryd.underlying76
 a70 := Tryd.isAgg76
 z70 := Tryd.sizeOf76
 v70 := Tryd.zeroValue76
 t72 := Tryd.underlying79
 a72 := Tryd.isAgg79
 z72 := Tryd.sizeOf79
 v72 := Tryd.zeroValue79
 t75 := Tryd.underlying82
 a75 := Tryd.isAgg82
 z75 := Tryd.sizeOf82
 v75 := Tryd.zeroValue82
 t76 := Tryd.underlying83
 a76 := Tryd.isAgg83
 z76 := Tryd.sizeOf83
 v76 := Tryd.zeroValue83
 t109 := Tryd.underlying73
 a109 := Tryd.isAgg73
 z109 := Tryd.sizeOf73
 v109 := Tryd.zeroValue73
 t127 := Tryd.underlying100
 a127 := Tryd.isAgg100
 z127 := Tryd.sizeOf100
 v127 := Tryd.zeroValue100
 t146 := Tryd.underlying96
 a146 := Tryd.isAgg96
 z146 := Tryd.sizeOf96
 v146 := Tryd.zeroValue96
 t148 := Tryd.underlying98
 a148 := Tryd.isAgg98
 z148 := Tryd.sizeOf98
 v148 := Tryd.zeroValue98
 t164 := Tryd.underlying107
 a164 := Tryd.isAgg107
 z164 := Tryd.sizeOf107
 v164 := Tryd.zeroValue107 }
theorem Tryd.Builder_Extra_105 : Builder.Extra Tryd.prog Tryd.lays105_ren := {
 sizeBuilder := by kernel_rfl
 liesBuilder := by kernel_rfl
 t5 := Tryd.underlying5
 a5 := Tryd.isAgg5
 z5 := Tryd.sizeOf5
 v5 := Tryd.zeroValue5
 infoByte := by kernel_rfl
 cellsByte := by kernel_rfl
 sizeByte := by kernel_rfl
 neB5 := by decide }
end Go.Proofs
namespace Go.Proofs.YtbfimjncophcaaaDoor.Pr
set_option linter.unusedVariables false
set_option linter.unusedSimpArgs false
open Go.RowKit Go.Lib Go.Proofs.YtbfimjncophcaaaDoorW.PrintWords Go.Proofs.YtbfimjncophcaaaDoorW.PrintLast Go.Proofs.YtbfimjncophcaaaDoorW.PrintMore
def LaidW (w : World) : Prop := Lib.TabIs Tryd.prog w "internal/strconv.uint64pow10" .u64 Lib.pow10Tab
theorem LaidW.below {w w' : World} (h : LaidW w) (hb : Below w.heap.size w w') : LaidW w' := by
 unfold LaidW Lib.TabIs World.var? at h ⊢
 cases hg : Tryd.prog.globalNamed "internal/strconv.uint64pow10" with
 | none => rw [hg] at h; simp at h
 | some g =>
  rw [hg] at h
  simp only [Option.bind_some] at h ⊢
  have hlt : g < w.heap.size := by
   rcases Nat.lt_or_ge g w.heap.size with h' | h'
   ·exact h'
   ·rw [Array.getElem?_eq_none h'] at h; cases h
  rw [hb.block g hlt]
  exact h
def strconv_Itoa_59.f (n : Int) : Option ByteArray := if -9223372036854775808 ≤ n ∧ n ≤ 9223372036854775807 then some ⟨(Lib.itoa n).toArray⟩ else none
theorem strconv_Itoa_59.calls (a0 : Int) (r : ByteArray) (w : World) (hL : LaidW w) (h : strconv_Itoa_59.f a0 = some r) :
  Calls Tryd.prog 59 #[.int .i64 a0] w fun e w' => e = .returned (.string r) ∧ Below w.heap.size w w' := by
 unfold strconv_Itoa_59.f at h
 by_cases hc : -9223372036854775808 ≤ a0 ∧ a0 ≤ 9223372036854775807
 case neg => rw [if_neg hc] at h; cases h
 rw [if_pos hc] at h
 injection h with h
 subst h
 refine (Any.strconv_Itoa Tryd.laysM171 a0 hc.1 hc.2 w hL).mono ?_
 rintro e w' ⟨he, k, os, rfl⟩
 exact ⟨he, below_grow _ _ (Nat.le_refl _) k os⟩
def strings_Repeat.f (s : ByteArray) (c : Int) : Option ByteArray :=
 if 0 ≤ c ∧ c ≤ 9223372036854775807 ∧ s.size * c.toNat ≤ 140737488355328 then some ⟨(Lib.repeatL s.data.toList c.toNat).toArray⟩ else none
theorem strings_Repeat.calls (a0 : ByteArray) (a1 : Int) (r : ByteArray) (w : World) (h : strings_Repeat.f a0 a1 = some r) :
  Calls Tryd.prog 31 #[.string a0, .int .i64 a1] w fun e w' => e = .returned (.string r) ∧ Below w.heap.size w w' := by
 unfold strings_Repeat.f at h
 by_cases hc : 0 ≤ a1 ∧ a1 ≤ 9223372036854775807 ∧ a0.size * a1.toNat ≤ 140737488355328
 case neg => rw [if_neg hc] at h; cases h
 rw [if_pos hc] at h
 injection h with h
 subst h
 obtain ⟨n, rfl⟩ := Int.eq_ofNat_of_zero_le hc.1
 have h2 := hc.2.2
 have h1 := hc.2.1
 simp only [Int.toNat_natCast] at h2 ⊢
 exact Any.strings_Repeat Tryd.lays105 Tryd.Builder_Extra_105 a0 n w (by omega) h2
end Go.Proofs.YtbfimjncophcaaaDoor.Pr
namespace Go.Proofs.YtbfimjncophcaaaDoor.Pr
set_option linter.unusedVariables false
set_option linter.unusedSimpArgs false
open Go.ChangeShapes Go.WideShapes Go.ChangeAt Go.Deep Go.Joins Go.RowKit Go.Proofs.YtbfimjncophcaaaDoorW.PrintWords
theorem own : ownKnob Tryd.prog.godebug = none := by kernel_rfl
theorem laidOut : laidOutB Tryd.prog = true := by kernel_rfl
theorem i64_of_wf {n : Int} (h : (Lit.int .i64 n).wf = true) : -9223372036854775808 ≤ n ∧ n ≤ 9223372036854775807 := by
 have := (Lit.wf_int_iff .i64 n).1 h
 exact this
theorem four_fields (e : TypeId) (f0 f1 f2 f3 : Field) (he : Tryd.prog.underlying e = some (.struct #[f0, f1, f2, f3])) (hone : oneCellFields Tryd.prog #[f0, f1, f2, f3] = true) (hC : Tryd.prog.cellsOf e = 4)
  (t0 : Tryd.prog.underlying f0.type = some (.int .i64)) (t1 : Tryd.prog.underlying f1.type = some (.int .i64)) (t2 : Tryd.prog.underlying f2.type = some .string) (t3 : Tryd.prog.underlying f3.type = some .string)
  {H : Type} {enc : TypeId × Value → H} {W : World} {n : Nat} {cs : List Value} {x : DataW H × List MemPlace} (h : DataW.trod enc Tryd.prog W 0 (fun _ => true) true n e cs = some x) :
  ∃ (a b : Int) (s u : ByteArray), cs = [.int .i64 a, .int .i64 b, .string s, .string u] ∧ (Lit.int .i64 a).wf = true ∧ (Lit.int .i64 b).wf = true ∧ s.size ≤ maxLen ∧ u.size ≤ maxLen := by
 obtain ⟨y0, y1, y2, y3, m, _, hl, h0, h1, h2, h3⟩ := trod_struct4 he h
 obtain ⟨o0, k0⟩ := hone_of hone 0 f0 rfl
 obtain ⟨o1, k1⟩ := hone_of hone 1 f1 rfl
 obtain ⟨o2, k2⟩ := hone_of hone 2 f2 rfl
 obtain ⟨o3, k3⟩ := hone_of hone 3 f3 rfl
 rw [hC] at hl
 rw [o0, k0] at h0
 rw [o1, k1] at h1
 rw [o2, k2] at h2
 rw [o3, k3] at h3
 match cs, hl with
 | [c0, c1, c2, c3], _ =>
  obtain ⟨a, e0, _, w0⟩ := DataW.trod_int t0 h0
  obtain ⟨b, e1, _, w1⟩ := DataW.trod_int t1 h1
  obtain ⟨s, e2, _, w2⟩ := DataW.trod_string t2 h2
  obtain ⟨u, e3, _, w3⟩ := DataW.trod_string t3 h3
  simp at e0 e1 e2 e3
  exact ⟨a, b, s, u, by rw [e0, e1, e2, e3], w0, w1, w2, w3⟩
theorem four_rows (t e : TypeId) (f0 f1 f2 f3 : Field) (ht : Tryd.prog.underlying t = some (.slice e)) (he : Tryd.prog.underlying e = some (.struct #[f0, f1, f2, f3])) (hone : oneCellFields Tryd.prog #[f0, f1, f2, f3] = true) (hC : Tryd.prog.cellsOf e = 4)
  (t0 : Tryd.prog.underlying f0.type = some (.int .i64)) (t1 : Tryd.prog.underlying f1.type = some (.int .i64)) (t2 : Tryd.prog.underlying f2.type = some .string) (t3 : Tryd.prog.underlying f3.type = some .string)
  {H : Type} {enc : TypeId × Value → H} {W : World} {n : Nat} {A : Option Addr} {len cap : Nat} {x : DataW H × List MemPlace} (h : DataW.trod enc Tryd.prog W 0 (fun _ => true) true n t [.slice A len cap] = some x) :
  len ≤ cap ∧ cap ≤ maxLen ∧ (0 < len → ∃ ad, A = some ad ∧ ∀ i, i < len → ∃ (a b : Int) (s u : ByteArray), ((Lit.int .i64 a).wf = true ∧ (Lit.int .i64 b).wf = true ∧ s.size ≤ maxLen ∧ u.size ≤ maxLen) ∧
   ∀ j v, ([.int .i64 a, .int .i64 b, .string s, .string u] : List Value)[j]? = some v → W.cell? (ad.add (i * 4 + j)) = some v) := by
 rcases open_slice ht h with ⟨h0, _⟩ | ⟨a, len', cap', m, n', D, Pl, hcs, hb, hl, hm, hmm, hx, hi⟩
 ·simp at h0
  obtain ⟨rfl, rfl, rfl⟩ := h0
  exact ⟨by omega, by unfold maxLen; omega, fun h => by omega⟩
 ·simp at hcs
  obtain ⟨rfl, rfl, rfl⟩ := hcs
  simp only [if_true] at hmm
  refine ⟨hl, hm, fun _ => ⟨a, rfl, fun i hil => ?_⟩⟩
  obtain ⟨cs', hc, ht'⟩ := hi i (by omega)
  rw [hC] at hc
  obtain ⟨a', b, s, u, rfl, w⟩ := four_fields e f0 f1 f2 f3 he hone hC t0 t1 t2 t3 ht'
  obtain ⟨_, hcl, hat⟩ := World.cells?_some hc
  refine ⟨a', b, s, u, w, fun j v hj => ?_⟩
  have hjl : j < 4 := by
   have := (List.getElem?_eq_some_iff.1 hj).1
   simpa using this
  rw [← Go.Deep.add_add, hat j hjl, hj]
theorem open33 {H : Type} {enc : TypeId × Value → H} {W : World} {n : Nat} {A : Option Addr} {len cap : Nat} {x : DataW H × List MemPlace} (h : DataW.trod enc Tryd.prog W 0 (fun _ => true) true n 22 [.slice A len cap] = some x) :
  len ≤ cap ∧ cap ≤ maxLen ∧ ∃ xs : List S33, xs.length = len ∧ Kd.C k33 W A len xs ∧ ∀ s ∈ xs, (Lit.int .i64 s.f0).wf = true ∧ (Lit.int .i64 s.f1).wf = true ∧ s.f2.size ≤ maxLen ∧ s.f3.size ≤ maxLen := by
 obtain ⟨h1, h2, h3⟩ := four_rows 22 33 _ _ _ _ Tryd.underlying22 Tryd.underlying33 (by kernel_rfl) (by kernel_rfl) Tryd.underlying3 Tryd.underlying3 Tryd.underlying9 Tryd.underlying9 h
 refine ⟨h1, h2, ?_⟩
 rcases Nat.eq_zero_or_pos len with rfl | hp
 ·exact ⟨[], rfl, ⟨rfl, by omega, fun h => by omega⟩, fun s hs => by simp at hs⟩
 ·obtain ⟨ad, rfl, h4⟩ := h3 hp
  have hx : ∀ i : Fin len, ∃ s : S33, ((Lit.int .i64 s.f0).wf = true ∧ (Lit.int .i64 s.f1).wf = true ∧ s.f2.size ≤ maxLen ∧ s.f3.size ≤ maxLen) ∧ ∀ j v, ([.int .i64 s.f0, .int .i64 s.f1, .string s.f2, .string s.f3] : List Value)[j]? = some v → W.cell? (ad.add (i * 4 + j)) = some v := fun i => by
   obtain ⟨a, b, s, u, w, hc⟩ := h4 i i.2
   exact ⟨⟨a, b, s, u⟩, w, hc⟩
  have hg := fun i => (hx i).choose_spec
  refine ⟨List.ofFn fun i => (hx i).choose, by simp, ⟨by simp, by unfold maxLen at h2; omega, fun _ => ⟨ad, rfl, fun j p hj => ?_⟩⟩, fun s hs => ?_⟩
  ·have hjl : j < len := by
    have := (List.getElem?_eq_some_iff.1 hj).1
    simpa using this
   have hp : (hx ⟨j, hjl⟩).choose = p := by
    rw [List.getElem?_ofFn] at hj
    simpa [hjl] using hj
   refine ⟨_, rfl, k33_mk W p, fun i u hu => ?_⟩
   rw [← hp] at hu
   exact (hg ⟨j, hjl⟩).2 i u hu
  ·obtain ⟨i, rfl⟩ := List.mem_ofFn.1 hs
   exact (hg i).1
theorem open25 {H : Type} {enc : TypeId × Value → H} {W : World} {n : Nat} {A : Option Addr} {len cap : Nat} {x : DataW H × List MemPlace} (h : DataW.trod enc Tryd.prog W 0 (fun _ => true) true n 23 [.slice A len cap] = some x) :
  len ≤ cap ∧ cap ≤ maxLen ∧ ∃ xs : List S25, xs.length = len ∧ Kd.C k25 W A len xs ∧ ∀ s ∈ xs, (Lit.int .i64 s.f0).wf = true ∧ (Lit.int .i64 s.f1).wf = true ∧ s.f2.size ≤ maxLen ∧ s.f3.size ≤ maxLen := by
 obtain ⟨h1, h2, h3⟩ := four_rows 23 25 _ _ _ _ Tryd.underlying23 Tryd.underlying25 (by kernel_rfl) (by kernel_rfl) Tryd.underlying3 Tryd.underlying3 Tryd.underlying9 Tryd.underlying9 h
 refine ⟨h1, h2, ?_⟩
 rcases Nat.eq_zero_or_pos len with rfl | hp
 ·exact ⟨[], rfl, ⟨rfl, by omega, fun h => by omega⟩, fun s hs => by simp at hs⟩
 ·obtain ⟨ad, rfl, h4⟩ := h3 hp
  have hx : ∀ i : Fin len, ∃ s : S25, ((Lit.int .i64 s.f0).wf = true ∧ (Lit.int .i64 s.f1).wf = true ∧ s.f2.size ≤ maxLen ∧ s.f3.size ≤ maxLen) ∧ ∀ j v, ([.int .i64 s.f0, .int .i64 s.f1, .string s.f2, .string s.f3] : List Value)[j]? = some v → W.cell? (ad.add (i * 4 + j)) = some v := fun i => by
   obtain ⟨a, b, s, u, w, hc⟩ := h4 i i.2
   exact ⟨⟨a, b, s, u⟩, w, hc⟩
  have hg := fun i => (hx i).choose_spec
  refine ⟨List.ofFn fun i => (hx i).choose, by simp, ⟨by simp, by unfold maxLen at h2; omega, fun _ => ⟨ad, rfl, fun j p hj => ?_⟩⟩, fun s hs => ?_⟩
  ·have hjl : j < len := by
    have := (List.getElem?_eq_some_iff.1 hj).1
    simpa using this
   have hp : (hx ⟨j, hjl⟩).choose = p := by
    rw [List.getElem?_ofFn] at hj
    simpa [hjl] using hj
   refine ⟨_, rfl, k25_mk W p, fun i u hu => ?_⟩
   rw [← hp] at hu
   exact (hg ⟨j, hjl⟩).2 i u hu
  ·obtain ⟨i, rfl⟩ := List.mem_ofFn.1 hs
   exact (hg i).1
set_option maxRecDepth 100000 in
theorem openA {H : Type} {enc : TypeId × Value → H} {W : World} {r : Reach} {b0 : Nat} {v : Value} {d : DataW H} {p : List MemPlace} (hv : Value.okWide Tryd.prog W r b0 25 v) (h : DataW.Trod enc Tryd.prog W 0 (fun _ => true) true 25 v d p) :
  ∃ (a b : Int) (s u : ByteArray), v = .agg #[.int .i64 a, .int .i64 b, .string s, .string u] ∧ (Lit.int .i64 a).wf = true ∧ (Lit.int .i64 b).wf = true ∧ s.size ≤ maxLen ∧ u.size ≤ maxLen := by
 obtain ⟨v0, v1, v2, v3, y0, y1, y2, y3, n, rfl, _, _, h0, h1, h2, h3⟩ := open_agg4 Tryd.underlying25 (by kernel_rfl) (by kernel_rfl) hv h
 obtain ⟨a, e0, _, w0⟩ := DataW.trod_int Tryd.underlying3 h0
 obtain ⟨b, e1, _, w1⟩ := DataW.trod_int Tryd.underlying3 h1
 obtain ⟨s, e2, _, w2⟩ := DataW.trod_string Tryd.underlying9 h2
 obtain ⟨u, e3, _, w3⟩ := DataW.trod_string Tryd.underlying9 h3
 simp at e0 e1 e2 e3
 subst e0 e1 e2 e3
 exact ⟨a, b, s, u, rfl, w0, w1, w2, w3⟩
theorem openI {H : Type} {enc : TypeId × Value → H} {W : World} {n : Nat} {v : Value} {x : DataW H × List MemPlace} (h : DataW.trod enc Tryd.prog W 0 (fun _ => true) true n 39 [v] = some x) :
  ∃ A len cap, v = .slice A len cap ∧ len ≤ cap ∧ cap ≤ maxLen ∧ ∃ xs : List Int, xs.length = len ∧ Kd.C (Kd.int .i64) W A len xs ∧ ∀ s ∈ xs, (Lit.int .i64 s).wf = true := by
 rcases open_ints Tryd.underlying39 Tryd.underlying3 (by kernel_rfl) h with ⟨hcs, _⟩ | ⟨a, l, c, zs, hcs, _, hl, hm, hz, _, hcell, hwz⟩
 ·simp at hcs
  subst hcs
  exact ⟨none, 0, 0, rfl, by omega, by unfold maxLen; omega, [], rfl, ⟨rfl, by omega, fun h => by omega⟩, fun s hs => by simp at hs⟩
 ·simp at hcs
  subst hcs
  simp only [if_true] at hz
  refine ⟨some a, l, c, rfl, hl, hm, zs.take l, by simp; omega, ⟨by simp; omega, by unfold maxLen at hm; omega, fun _ => ⟨a, rfl, fun j p hj => ?_⟩⟩, fun s hs => hwz s (List.mem_of_mem_take hs)⟩
  have hjl : j < l := by
   have := (List.getElem?_eq_some_iff.1 hj).1
   simp at this
   omega
  rw [List.getElem?_take_of_lt hjl] at hj
  refine ⟨[.int .i64 p], rfl, rfl, fun i u hu => ?_⟩
  cases i with
  | zero =>
   have hu' : Value.int .i64 p = u := by simpa using hu
   subst hu'
   have := hcell j (by omega)
   rw [show zs.getD j 0 = p from by simp [List.getD, hj]] at this
   show W.cell? (a.add (j * 1 + 0)) = _
   rw [Nat.mul_one, Nat.add_zero]
   exact this
  | succ i => simp at hu
set_option maxRecDepth 100000 in
theorem openN {H : Type} {enc : TypeId × Value → H} {W : World} {r : Reach} {b0 : Nat} {v : Value} {d : DataW H} {p : List MemPlace} (hv : Value.okWide Tryd.prog W r b0 41 v) (h : DataW.Trod enc Tryd.prog W 0 (fun _ => true) true 41 v d p) :
  ∃ A len cap a b, v = .agg #[.slice A len cap, .int .i64 a, .int .i64 b] ∧ len ≤ cap ∧ cap ≤ maxLen ∧ (Lit.int .i64 a).wf = true ∧ (Lit.int .i64 b).wf = true ∧ ∃ xs : List Int, xs.length = len ∧ Kd.C (Kd.int .i64) W A len xs ∧ ∀ s ∈ xs, (Lit.int .i64 s).wf = true := by
 obtain ⟨v0, v1, v2, y0, y1, y2, n, rfl, _, _, h0, h1, h2⟩ := open_agg3 Tryd.underlying41 (by kernel_rfl) (by kernel_rfl) hv h
 obtain ⟨A, len, cap, rfl, hl, hm, hx⟩ := openI h0
 obtain ⟨a, e1, _, w1⟩ := DataW.trod_int Tryd.underlying3 h1
 obtain ⟨b, e2, _, w2⟩ := DataW.trod_int Tryd.underlying3 h2
 simp at e1 e2
 subst e1 e2
 exact ⟨A, len, cap, a, b, rfl, hl, hm, w1, w2, hx⟩
set_option maxRecDepth 100000 in
theorem openS {H : Type} {enc : TypeId × Value → H} {W : World} {r : Reach} {b0 : Nat} {v : Value} {d : DataW H} {p : List MemPlace} (hv : Value.okWide Tryd.prog W r b0 9 v) (h : DataW.Trod enc Tryd.prog W 0 (fun _ => true) true 9 v d p) : ∃ s, v = .string s := by
 obtain ⟨s, e, _⟩ := Go.ChangeMaps.open_string Tryd.underlying9 hv h
 exact ⟨s, e⟩
set_option maxRecDepth 100000 in
theorem openT {H : Type} {enc : TypeId × Value → H} {W : World} {r : Reach} {b0 : Nat} {v : Value} {d : DataW H} {p : List MemPlace} (hv : Value.okWide Tryd.prog W r b0 3 v) (h : DataW.Trod enc Tryd.prog W 0 (fun _ => true) true 3 v d p) : ∃ s, v = .int .i64 s ∧ (Lit.int .i64 s).wf = true := by
 obtain ⟨s, e, _, _, hw⟩ := open_int Tryd.underlying3 hv h
 exact ⟨s, e, hw⟩
def laid3 : List (String × DataW Unit) := [("math/bits.deBruijn32tab", Rows.laid_math_bits_deBruijn32tab), ("math/bits.deBruijn64tab", Rows.laid_math_bits_deBruijn64tab), ("internal/strconv.uint64pow10", Rows.laid_internal_strconv_uint64pow10)]
theorem gPow : Tryd.prog.globalNamed "internal/strconv.uint64pow10" = some 1 := by kernel_rfl
theorem gPowType : (Tryd.prog.globals[1]?).map (·.type) = some 120 := by kernel_rfl
theorem laid_tab {W : World} (h : laidMetH Tryd.prog laid3 W) : LaidW W := by
 rw [MakeChecks.laidMetH_plain _ _ _ (by kernel_rfl)] at h
 obtain ⟨ps, ⟨g0, t0, cs0, f0, p0, q0, hg0, ht0, hv0, hd0, ⟨g1, t1, cs1, f1, p1, q1, hg1, ht1, hv1, hd1, ⟨g2, t2, cs2, f2, p2, q2, hg2, ht2, hv2, hd2, _, _⟩, _⟩, _⟩, _⟩ := h
 obtain rfl := Option.some.inj (gPow.symm.trans hg2)
 obtain rfl := Option.some.inj (gPowType.symm.trans ht2)
 have e : (Rows.laid_internal_strconv_uint64pow10 : DataW Unit) = Lib.tabData .u64 Lib.pow10Tab := rfl
 rw [e] at hd2
 unfold LaidW Lib.TabIs
 rw [hv2, ← Lib.cells_of_tab Tryd.underlying120 Tryd.underlying90 (by kernel_rfl) (by kernel_rfl) hd2]
theorem door_met (os : Os) (args : Array Value) : laidMetH Tryd.prog laid3 ((World.doorLaid Tryd.prog 400 os).forCall (fun _ _ => 0) ⟨#[], args, []⟩).memory :=
 laidMetH_of_parts3 (fuel := 8) (laidMet_of_run' 8 (by kernel_rfl) (by kernel_rfl)) (by kernel_rfl) (by kernel_rfl)
end Go.Proofs.YtbfimjncophcaaaDoor.Pr
namespace Go.Proofs.YtbfimjncophcaaaDoor.Pr
open Go.RowKit Go.Proofs.YtbfimjncophcaaaDoorW.PrintWords Go.Proofs.YtbfimjncophcaaaDoorW.PrintLast Go.Proofs.YtbfimjncophcaaaDoorW.PrintMore
def fidx {α : Type} (p : α → Bool) : List α → Nat → Int
 | [], _ => -1
 | x :: xs, i => if p x then (i : Int) else fidx p xs (i + 1)
theorem fidx_miss {α : Type} (p : α → Bool) (xs : List α) (i : Nat) (h : ∀ x ∈ xs, p x = false) : fidx p xs i = -1 := by
 induction xs generalizing i with
 | nil => rfl
 | cons x xs ih =>
  unfold fidx
  rw [if_neg (by rw [h x (by simp)]; simp)]
  exact ih (i + 1) (fun y hy => h y (by simp [hy]))
theorem fidx_hit {α : Type} (p : α → Bool) (xs : List α) (i k : Nat) (y : α) (hy : xs[k]? = some y) (hp : p y = true) (h : ∀ j z, j < k → xs[j]? = some z → p z = false) : fidx p xs i = ((i + k : Nat) : Int) := by
 induction xs generalizing i k with
 | nil => simp at hy
 | cons x xs ih =>
  unfold fidx
  cases k with
  | zero =>
   have : x = y := by simpa using hy
   subst this
   rw [if_pos hp]
   rfl
  | succ k =>
   rw [if_neg (by rw [h 0 x (by omega) (by simp)]; simp)]
   rw [ih (i + 1) k (by simpa using hy) (fun j z hj hz => h (j + 1) z (by omega) (by simpa using hz))]
   congr 1
   omega
theorem fidx_any {α : Type} (p : α → Bool) (xs : List α) (i : Nat) : xs.any p = decide (0 ≤ fidx p xs i) := by
 induction xs generalizing i with
 | nil => rfl
 | cons x xs ih =>
  unfold fidx
  by_cases hx : p x = true
  ·rw [if_pos hx, List.any_cons, hx]
   simp
  ·rw [if_neg hx, List.any_cons, ← ih (i + 1)]
   simp [hx]
def PredB {α : Type} (P : Program) (g : Nat) (lb : Array Value) (enc : α → Value) (p : α → Bool) (w : World) : Prop :=
 ∀ (W : World) (x : α), Below w.heap.size w W → Calls P g (#[enc x] ++ lb) W fun e w' => e = .returned (.bool (p x)) ∧ Below w.heap.size w w'
end Go.Proofs.YtbfimjncophcaaaDoor.Pr
namespace Go.Proofs.YtbfimjncophcaaaDoor.Pr
open Go.RowKit Go.Proofs.YtbfimjncophcaaaDoorW.PrintWords Go.Proofs.YtbfimjncophcaaaDoorW.PrintLast Go.Proofs.YtbfimjncophcaaaDoorW.PrintMore
def rotr (x n : Int) : Int := Go.bits .or .u32 (shr .u32 x n) (shl .u32 x (32 - n))
def add32 (x y : Int) : Int := IntKind.u32.wrap (x + y)
def xor32 (x y : Int) : Int := Go.bits .xor .u32 x y
def and32 (x y : Int) : Int := Go.bits .and .u32 x y
def or32 (x y : Int) : Int := Go.bits .or .u32 x y
def shaK : List Int := [0x428a2f98, 0x71374491, 0xb5c0fbcf, 0xe9b5dba5, 0x3956c25b, 0x59f111f1, 0x923f82a4, 0xab1c5ed5,
    0xd807aa98, 0x12835b01, 0x243185be, 0x550c7dc3, 0x72be5d74, 0x80deb1fe, 0x9bdc06a7, 0xc19bf174,
    0xe49b69c1, 0xefbe4786, 0x0fc19dc6, 0x240ca1cc, 0x2de92c6f, 0x4a7484aa, 0x5cb0a9dc, 0x76f988da,
    0x983e5152, 0xa831c66d, 0xb00327c8, 0xbf597fc7, 0xc6e00bf3, 0xd5a79147, 0x06ca6351, 0x14292967,
    0x27b70a85, 0x2e1b2138, 0x4d2c6dfc, 0x53380d13, 0x650a7354, 0x766a0abb, 0x81c2c92e, 0x92722c85,
    0xa2bfe8a1, 0xa81a664b, 0xc24b8b70, 0xc76c51a3, 0xd192e819, 0xd6990624, 0xf40e3585, 0x106aa070,
    0x19a4c116, 0x1e376c08, 0x2748774c, 0x34b0bcb5, 0x391c0cb3, 0x4ed8aa4a, 0x5b9cca4f, 0x682e6ff3,
    0x748f82ee, 0x78a5636f, 0x84c87814, 0x8cc70208, 0x90befffa, 0xa4506ceb, 0xbef9a3f7, 0xc67178f2]
structure H8 where
 a : Int
 b : Int
 c : Int
 d : Int
 e : Int
 f : Int
 g : Int
 h : Int
def H8.cells (s : H8) : Array Value := #[.int .u32 s.a, .int .u32 s.b, .int .u32 s.c, .int .u32 s.d, .int .u32 s.e, .int .u32 s.f, .int .u32 s.g, .int .u32 s.h]
def H8.list (s : H8) : List Int := [s.a, s.b, s.c, s.d, s.e, s.f, s.g, s.h]
def shaWord (p : ByteArray) (i : Nat) : Int :=
 or32 (or32 (or32 (shl .u32 (bt p (4 * i)) 24) (shl .u32 (bt p (4 * i + 1)) 16)) (shl .u32 (bt p (4 * i + 2)) 8)) (bt p (4 * i + 3))
def shaNext (p : ByteArray) (l : List Int) : Int :=
 if l.length < 16 then shaWord p l.length
 else
  let y := rd l (l.length - 2)
  let x := rd l (l.length - 15)
  add32 (add32 (add32 (xor32 (xor32 (rotr y 17) (rotr y 19)) (shr .u32 y 10)) (rd l (l.length - 7))) (xor32 (xor32 (rotr x 7) (rotr x 18)) (shr .u32 x 3))) (rd l (l.length - 16))
def shaSched (p : ByteArray) : Nat → List Int
 | 0 => []
 | n + 1 => shaSched p n ++ [shaNext p (shaSched p n)]
def shaT (s : H8) (k w : Int) : Int :=
 add32 (add32 (add32 (add32 s.h (xor32 (xor32 (rotr s.e 6) (rotr s.e 11)) (rotr s.e 25))) (xor32 (and32 s.e s.f) (and32 (Go.bits .xor .u32 4294967295 s.e) s.g))) k) w
def shaU (s : H8) : Int :=
 add32 (xor32 (xor32 (rotr s.a 2) (rotr s.a 13)) (rotr s.a 22)) (xor32 (xor32 (and32 s.a s.b) (and32 s.a s.c)) (and32 s.b s.c))
def shaRound (s : H8) (k w : Int) : H8 := ⟨add32 (shaT s k w) (shaU s), s.a, s.b, s.c, add32 s.d (shaT s k w), s.e, s.f, s.g⟩
def shaRounds (s : H8) (w : List Int) : Nat → H8
 | 0 => s
 | n + 1 => shaRound (shaRounds s w n) (rd shaK n) (rd w n)
def H8.plus (s v : H8) : H8 := ⟨add32 v.a s.a, add32 v.b s.b, add32 v.c s.c, add32 v.d s.d, add32 v.e s.e, add32 v.f s.f, add32 v.g s.g, add32 v.h s.h⟩
def shaBlock (s : H8) (p : ByteArray) : H8 := H8.plus s (shaRounds s (shaSched p 64) 64)
def shaInit : H8 := ⟨0x6a09e667, 0xbb67ae85, 0x3c6ef372, 0xa54ff53a, 0x510e527f, 0x9b05688c, 0x1f83d9ab, 0x5be0cd19⟩
theorem shaSched_length (p : ByteArray) (n : Nat) : (shaSched p n).length = n := by
 induction n with
 | zero => rfl
 | succ n ih => simp [shaSched, ih]
end Go.Proofs.YtbfimjncophcaaaDoor.Pr
namespace Go.Proofs.YtbfimjncophcaaaDoor.Pr
set_option linter.unusedVariables false
set_option linter.unusedSimpArgs false
open Go.RowKit Go.Proofs.YtbfimjncophcaaaDoorW.PrintWords Go.Proofs.YtbfimjncophcaaaDoorW.PrintLast Go.Proofs.YtbfimjncophcaaaDoorW.PrintMore
theorem C_of_blk {W : World} {g t n : Nat} {k : IntKind} {xs : List Int} (h : W.heap[g]? = some (.cells (nums k xs).toArray t (0, 0))) (hl : xs.length = n) (hn : n ≤ 9223372036854775807) : Kd.C (Kd.int k) W (some ⟨g, 0, none⟩) n xs := by
 refine ⟨hl, hn, fun _ => ⟨_, rfl, fun j p hj => ⟨[.int k p], rfl, rfl, fun i u hu => ?_⟩⟩⟩
 cases i with
 | zero =>
  have hu' : Value.int k p = u := by simpa using hu
  subst hu'
  show W.cell? ((⟨g, 0, none⟩ : Addr).add (j * 1 + 0)) = _
  have : (⟨g, 0, none⟩ : Addr).add (j * 1 + 0) = ⟨g, j, none⟩ := by unfold Addr.add; split <;> simp <;> omega
  rw [this, blk_cell h]
  simp [nums, hj]
 | succ i => simp at hu
theorem nums_set (k : IntKind) (xs : List Int) (n z : Nat) (x y : Int) (h : xs.length = n) : (nums k (xs ++ y :: List.replicate z 0)).toArray.setIfInBounds n (.int k x) = (nums k (xs ++ [x] ++ List.replicate z 0)).toArray := by
 subst h
 simp [nums]
def padAt (key : ByteArray) (b : Int) (i : Nat) : Int := Go.bits .xor .u8 (if i < key.size then bt key i else 0) b
def padN (key : ByteArray) (b : Int) (n : Nat) : List Int := (List.range n).map (padAt key b)
theorem padN_succ (key : ByteArray) (b : Int) (n : Nat) : padN key b (n + 1) = padN key b n ++ [padAt key b n] := by simp [padN, List.range_succ]
theorem padN_length (key : ByteArray) (b : Int) (n : Nat) : (padN key b n).length = n := by simp [padN]
def approval_pad.f (a0 : ByteArray) (a1 : Int) : Option ByteArray := if a0.size ≤ 9223372036854775807 then some (strOfNums (padN a0 a1 64)) else none
set_option maxHeartbeats 2000000 in
set_option maxRecDepth 100000 in
theorem approval_pad.calls (a0 : ByteArray) (a1 : Int) (r : ByteArray) (w : World) (h : approval_pad.f a0 a1 = some r) :
  Calls Tryd.prog 60 #[.string a0, .int .u8 a1] w fun e w' => e = .returned (.string r) ∧ Below w.heap.size w w' := by
 unfold approval_pad.f at h
 by_cases hmax : a0.size ≤ 9223372036854775807
 case neg => rw [if_neg hmax] at h; cases h
 rw [if_pos hmax] at h
 have HV := Aside0.mk (Option.some.inj h)
 clear h
 have hcs := fun (W : World) (hb : W.heap[w.heap.size]? = some (.cells (nums .u8 (padN a0 a1 64)).toArray 103 (0, 0))) => Kd.C_string (P := Tryd.prog) (c := 64) Tryd.underlying77 Tryd.underlying5 Tryd.underlying9 (C_of_blk hb (padN_length a0 a1 64) (by omega))
 have HCS := Aside0.mk hcs
 clear hcs
 go_enter Tryd.func60, Tryd.ntmps60
 go_wp2
 go_loopg [6, 7] 64 (fun gg _ s7 wr => ∃ kk : Nat, kk ≤ 64 ∧ 64 - kk ≤ gg ∧ s7 = .int .i64 kk ∧ Aside0 (Below w.heap.size w wr) ∧ Aside0 (wr.heap[w.heap.size]? = some (.cells (nums .u8 (padN a0 a1 kk ++ List.replicate (64 - kk) 0)).toArray 103 (0, 0))))
 case atStart => exact ⟨0, Nat.zero_le _, by omega, rfl, ⟨below_alloc (Below.refl _ w) _⟩, ⟨blk_new w _⟩⟩
 case round =>
  obtain ⟨kk, hkk, hg, rfl, BW, BK⟩ := hrel
  have hsz : w.heap.size < wr.heap.size := blk_lt BK.out
  by_cases hlt : kk < 64
  ·have hltz : (kk : Int) < 64 := by omega
   have hc : wr.cell? ⟨w.heap.size, kk, none⟩ = some (.int .u8 0) := by
    rw [blk_cell BK.out kk]
    obtain ⟨z, hz⟩ : ∃ z, 64 - kk = z + 1 := ⟨63 - kk, by omega⟩
    rw [hz]
    simp [nums, padN_length, List.getElem?_append_right, List.replicate_succ]
   have hf : wr.frozen? ⟨w.heap.size, kk, none⟩ = false := blk_frozen BK.out kk
   by_cases hin : kk < a0.size
   ·have hinz : (kk : Int) < (a0.size : Int) := by omega
    go_wp2_with fail
    have hb : ((a0[kk]'hin).toNat : Int) = bt a0 kk := bt_at a0 (kk : Int) (by simpa using hin)
    have HB := Aside0.mk hb
    clear hb
    go_roundg (64 - (kk + 1))
    case measure => omega
    case rel =>
     refine ⟨kk + 1, by omega, by omega, by go_num, ⟨below_set (below_set BW.out (Nat.le_refl _)) (Nat.le_refl _)⟩, ⟨?_⟩⟩
     obtain ⟨z, hz⟩ : ∃ z, 64 - kk = z + 1 := ⟨63 - kk, by omega⟩
     have hz' : 64 - (kk + 1) = z := by omega
     rw [hz', padN_succ]
     have b1 := BK.out
     rw [hz, List.replicate_succ] at b1
     have b2 := blk_put b1 kk _ (nums_set .u8 (padN a0 a1 kk) kk z (bt a0 kk) 0 (padN_length _ _ _))
     rw [List.append_assoc, List.singleton_append] at b2
     have b3 := blk_put b2 kk _ (nums_set .u8 (padN a0 a1 kk) kk z (Go.bits .xor .u8 (bt a0 kk) a1) (bt a0 kk) (padN_length _ _ _))
     have hp : padAt a0 a1 kk = Go.bits .xor .u8 (bt a0 kk) a1 := by unfold padAt; rw [if_pos hin]
     rw [hp, HB.out]
     exact b3
   ·have hinz : ¬ (kk : Int) < (a0.size : Int) := by omega
    go_wp2_with fail
    go_roundg (64 - (kk + 1))
    case measure => omega
    case rel =>
     refine ⟨kk + 1, by omega, by omega, by go_num, ⟨below_set BW.out (Nat.le_refl _)⟩, ⟨?_⟩⟩
     obtain ⟨z, hz⟩ : ∃ z, 64 - kk = z + 1 := ⟨63 - kk, by omega⟩
     have hz' : 64 - (kk + 1) = z := by omega
     rw [hz', padN_succ]
     have b1 := BK.out
     rw [hz, List.replicate_succ] at b1
     have b2 := blk_put b1 kk _ (nums_set .u8 (padN a0 a1 kk) kk z (Go.bits .xor .u8 0 a1) 0 (padN_length _ _ _))
     have hp : padAt a0 a1 kk = Go.bits .xor .u8 0 a1 := by unfold padAt; rw [if_neg hin]
     rw [hp]
     exact b2
  ·have hltz : ¬ (kk : Int) < 64 := by omega
   obtain rfl : kk = 64 := by omega
   have hcv := HCS.out wr (by simpa using BK.out)
   go_wp2
   go_ret
   exact ⟨by rw [← HV.out]; rfl, BW.out⟩
end Go.Proofs.YtbfimjncophcaaaDoor.Pr
namespace Go.Proofs.YtbfimjncophcaaaDoor.Pr
open Go.RowKit Go.Proofs.YtbfimjncophcaaaDoorW.PrintWords Go.Proofs.YtbfimjncophcaaaDoorW.PrintLast Go.Proofs.YtbfimjncophcaaaDoorW.PrintMore
attribute [local go_sem] max2_int min2_int max_two min_two max_three min_three max_four min_four
set_option linter.unusedVariables false
set_option linter.unusedSimpArgs false
def bits_RotateLeft32.f (a0 : Int) (a1 : Int) : Option (Int) := if 0 ≤ (Go.bits .and .u64 (IntKind.u64.wrap (a1)) 31) then (if 0 ≤ (IntKind.u64.wrap (32 - (Go.bits .and .u64 (IntKind.u64.wrap (a1)) 31))) then (some (Go.bits .or .u32 (shl .u32 a0 (Go.bits .and .u64 (IntKind.u64.wrap (a1)) 31)) (shr .u32 a0 (IntKind.u64.wrap (32 - (Go.bits .and .u64 (IntKind.u64.wrap (a1)) 31)))))) else (none)) else (none)
end Go.Proofs.YtbfimjncophcaaaDoor.Pr
namespace Go.Proofs.YtbfimjncophcaaaDoor.Pr
open Go.RowKit Go.Proofs.YtbfimjncophcaaaDoorW.PrintWords Go.Proofs.YtbfimjncophcaaaDoorW.PrintLast Go.Proofs.YtbfimjncophcaaaDoorW.PrintMore
attribute [local go_sem] max2_int min2_int max_two min_two max_three min_three max_four min_four
set_option linter.unusedVariables false
set_option linter.unusedSimpArgs false
def record_rot.f (a0 : Int) (a1 : Int) : Option (Int) := (bits_RotateLeft32.f a0 (wrap64 (-a1))).bind fun t101 => (some t101)
end Go.Proofs.YtbfimjncophcaaaDoor.Pr
namespace Go.Proofs.YtbfimjncophcaaaDoor.Pr
set_option linter.unusedVariables false
set_option linter.unusedSimpArgs false
open Go.RowKit Go.Proofs.YtbfimjncophcaaaDoorW.PrintWords Go.Proofs.YtbfimjncophcaaaDoorW.PrintLast Go.Proofs.YtbfimjncophcaaaDoorW.PrintMore
theorem bits_or_comm (x y : Int) : Go.bits .or .u32 x y = Go.bits .or .u32 y x := by
 unfold Go.bits
 simp [BitVec.or_comm]
theorem rot_count : ∀ n : Fin 32, 0 < n.val → Go.bits .and .u64 (IntKind.u64.wrap (wrap64 (-(n.val : Int)))) 31 = 32 - (n.val : Int) ∧ IntKind.u64.wrap (32 - (32 - (n.val : Int))) = n.val ∧ wrap64 (32 - (n.val : Int)) = 32 - (n.val : Int) := by decide +kernel
theorem rot_f (x : Int) (n : Nat) (h0 : 0 < n) (h1 : n < 32) : record_rot.f x (n : Int) = some (rotr x n) := by
 obtain ⟨a, b, _⟩ := rot_count ⟨n, h1⟩ h0
 unfold record_rot.f bits_RotateLeft32.f
 simp only [] at a b
 rw [a, b, if_pos (by omega), if_pos (by omega), Option.bind_some, bits_or_comm]
 rfl
set_option maxHeartbeats 8000000 in
set_option maxRecDepth 100000 in
theorem rl78_same (a0 : Int) (a1 : Int) (r : Int) (w : World) (h : bits_RotateLeft32.f a0 a1 = some r) :
  Calls Tryd.prog 78 #[.int .u32 a0, .int .i64 a1] w fun e w' => e = .returned (.int .u32 r) ∧ w' = w := by
 have H : (if 0 ≤ (Go.bits .and .u64 (IntKind.u64.wrap (a1)) 31) then (if 0 ≤ (IntKind.u64.wrap (32 - (Go.bits .and .u64 (IntKind.u64.wrap (a1)) 31))) then (some (Go.bits .or .u32 (shl .u32 a0 (Go.bits .and .u64 (IntKind.u64.wrap (a1)) 31)) (shr .u32 a0 (IntKind.u64.wrap (32 - (Go.bits .and .u64 (IntKind.u64.wrap (a1)) 31)))))) else (none)) else (none)) = some r := h
 clear h
 obtain ⟨ji3, hji3⟩ : ∃ j_ : Int, (Go.bits .and .u64 (IntKind.u64.wrap (a1)) 31) = j_ := ⟨_, rfl⟩
 replace H : (if 0 ≤ (ji3) then (if 0 ≤ (IntKind.u64.wrap (32 - (ji3))) then (some (Go.bits .or .u32 (shl .u32 a0 (ji3)) (shr .u32 a0 (IntKind.u64.wrap (32 - (ji3)))))) else (none)) else (none)) = some r := by first | (rw [hji3] at H; exact H) | (simp only [hji3] at H ⊢; exact H)
 by_cases c4 : 0 ≤ (ji3)
 ·rw [if_pos c4] at H
  have c4b0 := eq_true c4
  have c4b1 : decide (0 ≤ (ji3)) = true := decide_eq_true c4
  clear c4
  obtain ⟨ji5, hji5⟩ : ∃ j_ : Int, (shl .u32 a0 (ji3)) = j_ := ⟨_, rfl⟩
  replace H : (if 0 ≤ (IntKind.u64.wrap (32 - (ji3))) then (some (Go.bits .or .u32 (ji5) (shr .u32 a0 (IntKind.u64.wrap (32 - (ji3)))))) else (none)) = some r := by first | (rw [hji5] at H; exact H) | (simp only [hji5] at H ⊢; exact H)
  have hji5_ : (IntKind.u32.wrap (a0 * 2 ^ min (ji3).toNat 32)) = ji5 := hji5
  have hji5z : (ji3) ≤ 32 → (IntKind.u32.wrap (a0 * 2 ^ (ji3).toNat)) = ji5 := shl_small hji5
  obtain ⟨ji6, hji6⟩ : ∃ j_ : Int, (IntKind.u64.wrap (32 - (ji3))) = j_ := ⟨_, rfl⟩
  replace H : (if 0 ≤ (ji6) then (some (Go.bits .or .u32 (ji5) (shr .u32 a0 (ji6)))) else (none)) = some r := by first | (rw [hji6] at H; exact H) | (simp only [hji6] at H ⊢; exact H)
  by_cases c7 : 0 ≤ (ji6)
  ·rw [if_pos c7] at H
   have c7b0 := eq_true c7
   have c7b1 : decide (0 ≤ (ji6)) = true := decide_eq_true c7
   clear c7
   obtain ⟨ji8, hji8⟩ : ∃ j_ : Int, (shr .u32 a0 (ji6)) = j_ := ⟨_, rfl⟩
   replace H : (some (Go.bits .or .u32 (ji5) (ji8))) = some r := by first | (rw [hji8] at H; exact H) | (simp only [hji8] at H ⊢; exact H)
   have hji8_ : (a0 / 2 ^ min (ji6).toNat 32) = ji8 := hji8
   have hji8z : (ji6) ≤ 32 → (a0 / 2 ^ (ji6).toNat) = ji8 := shr_small hji8
   obtain rfl := Option.some.inj H
   go_enter Tryd.func78, Tryd.ntmps78
   go_wp2
   go_ret
   exact ⟨by first | rfl | (simp; done) | (simp only [← hji3, ← hji5, ← hji6, ← hji8] <;> (first | rfl | simp)) | (simp [*]; done), rfl⟩
  ·rw [if_neg c7] at H
   exact absurd H (by simp)
 ·rw [if_neg c4] at H
  exact absurd H (by simp)
set_option maxHeartbeats 8000000 in
set_option maxRecDepth 100000 in
theorem rot71_same (a0 : Int) (a1 : Int) (r : Int) (w : World) (h : record_rot.f a0 a1 = some r) :
  Calls Tryd.prog 71 #[.int .u32 a0, .int .i64 a1] w fun e w' => e = .returned (.int .u32 r) ∧ w' = w := by
 have H : ((bits_RotateLeft32.f a0 (wrap64 (-a1))).bind fun t101 => (some t101)) = some r := h
 clear h
 replace H := Option.bind_eq_some_iff.mp H
 obtain ⟨t101, A30, H⟩ := H
 replace H : (some t101) = some r := H
 have A3 := Aside0.mk A30
 clear A30
 obtain rfl := Option.some.inj H
 go_enter Tryd.func71, Tryd.ntmps71
 go_wp2_with (first | ((with_reducible refine gate_callee (f := 78) rfl ?_); refine goesL_ (some 8) rfl rfl Tryd.func78 (by kernel_rfl) rfl #[.int .u32 a0, .int .i64 (wrap64 (-a1))] rfl (by (try simp only [List.map_toArray, List.map_cons, List.map_nil]); first | done | rfl | (simp only [List.length_drop, List.length_take]; rfl)) ?_; (with_reducible refine (rl78_same a0 (wrap64 (-a1)) t101 _ A3.out).mono ?_); rintro e w' ⟨rfl, rfl⟩; refine ⟨_, rfl, ?_⟩))
 go_ret
 exact ⟨by first | rfl | (simp; done) | (simp [*]; done), rfl⟩
theorem rot71 (x : Int) (n : Nat) (h0 : 0 < n) (h1 : n < 32) (w : World) : Calls Tryd.prog 71 #[.int .u32 x, .int .i64 (n : Int)] w fun e w' => e = .returned (.int .u32 (rotr x n)) ∧ w' = w := rot71_same x n _ w (rot_f x n h0 h1)
end Go.Proofs.YtbfimjncophcaaaDoor.Pr
namespace Go.Proofs.YtbfimjncophcaaaDoor.Pr
set_option linter.unusedVariables false
set_option linter.unusedSimpArgs false
open Go.RowKit Go.Proofs.YtbfimjncophcaaaDoorW.PrintWords Go.Proofs.YtbfimjncophcaaaDoorW.PrintLast Go.Proofs.YtbfimjncophcaaaDoorW.PrintMore
theorem grown_setRow {W : World} {g : Nat} (hg : g < W.heap.size) (cs : Array Value) : W.grownBy (W.setRow g cs) (some g) := by
 refine ⟨rfl, rfl, rfl, by simp, fun k hk hne => ?_⟩
 exact setRow_other W g k cs (fun e => hne (by rw [e]))
theorem store_event {P : Program} {ops : Array Oper} {rest : List Oper} {o : Oper} {a : Act} {W : World} {Q : Exit → Act → World → Prop} (hgd : o.guard = none) (ty : TypeId) (x y : Operand) (ho : o.op = .store ty x y)
  (hd : o.dst = none) (g : Nat) (cells : Array Value) (hx : a.eval x = .pointer (some ⟨g, 0, none⟩)) (hy : a.eval y = .agg cells)
  (t : TypeId) (old : Array Value) (hg : W.heap[g]? = some (.cells old t (0, 0))) (hi : (P.info? ty).map (·.size) = some cells.size) (hold : old.size = cells.size) (h1 : cells.all (·.oneCell') = true)
  (h : ∀ w1, w1.heap[g]? = some (.cells cells t (0, 0)) → W.grownBy w1 (some g) → wpList P ops Q rest a w1) : wpList P ops Q (o :: rest) a W :=
 wpList_store_rowTo hgd ty x y ho hd g cells hx hy t old hg hi hold h1 (h _ (setRow_heap W g old cells t (0, 0) hg) (grown_setRow (blk_lt hg) cells))
end Go.Proofs.YtbfimjncophcaaaDoor.Pr
namespace Go.Proofs.YtbfimjncophcaaaDoor.Pr
set_option linter.unusedVariables false
set_option linter.unusedSimpArgs false
open Go.RowKit Go.Proofs.YtbfimjncophcaaaDoorW.PrintWords Go.Proofs.YtbfimjncophcaaaDoorW.PrintLast Go.Proofs.YtbfimjncophcaaaDoorW.PrintMore
def schedCells (p : ByteArray) (k : Nat) : Array Value := (nums .u32 (shaSched p k ++ List.replicate (64 - k) 0)).toArray
theorem rot71_2 (x : Int) (w : World) : Calls Tryd.prog 71 #[.int .u32 x, .int .i64 2] w fun e w' => e = .returned (.int .u32 (rotr x 2)) ∧ w' = w := rot71 x 2 (by decide) (by decide) w
theorem rot71_6 (x : Int) (w : World) : Calls Tryd.prog 71 #[.int .u32 x, .int .i64 6] w fun e w' => e = .returned (.int .u32 (rotr x 6)) ∧ w' = w := rot71 x 6 (by decide) (by decide) w
theorem rot71_7 (x : Int) (w : World) : Calls Tryd.prog 71 #[.int .u32 x, .int .i64 7] w fun e w' => e = .returned (.int .u32 (rotr x 7)) ∧ w' = w := rot71 x 7 (by decide) (by decide) w
theorem rot71_11 (x : Int) (w : World) : Calls Tryd.prog 71 #[.int .u32 x, .int .i64 11] w fun e w' => e = .returned (.int .u32 (rotr x 11)) ∧ w' = w := rot71 x 11 (by decide) (by decide) w
theorem rot71_13 (x : Int) (w : World) : Calls Tryd.prog 71 #[.int .u32 x, .int .i64 13] w fun e w' => e = .returned (.int .u32 (rotr x 13)) ∧ w' = w := rot71 x 13 (by decide) (by decide) w
theorem rot71_17 (x : Int) (w : World) : Calls Tryd.prog 71 #[.int .u32 x, .int .i64 17] w fun e w' => e = .returned (.int .u32 (rotr x 17)) ∧ w' = w := rot71 x 17 (by decide) (by decide) w
theorem rot71_18 (x : Int) (w : World) : Calls Tryd.prog 71 #[.int .u32 x, .int .i64 18] w fun e w' => e = .returned (.int .u32 (rotr x 18)) ∧ w' = w := rot71 x 18 (by decide) (by decide) w
theorem rot71_19 (x : Int) (w : World) : Calls Tryd.prog 71 #[.int .u32 x, .int .i64 19] w fun e w' => e = .returned (.int .u32 (rotr x 19)) ∧ w' = w := rot71 x 19 (by decide) (by decide) w
theorem rot71_22 (x : Int) (w : World) : Calls Tryd.prog 71 #[.int .u32 x, .int .i64 22] w fun e w' => e = .returned (.int .u32 (rotr x 22)) ∧ w' = w := rot71 x 22 (by decide) (by decide) w
theorem rot71_25 (x : Int) (w : World) : Calls Tryd.prog 71 #[.int .u32 x, .int .i64 25] w fun e w' => e = .returned (.int .u32 (rotr x 25)) ∧ w' = w := rot71 x 25 (by decide) (by decide) w
theorem add32_mod (x y : Int) : add32 x y = (x + y) % 4294967296 := by
 unfold add32 IntKind.wrap
 simp [IntKind.bits, IntKind.signed]
theorem add32_4 (a b c d : Int) : add32 (add32 (add32 a b) c) d = (a + b + c + d) % 4294967296 := by simp only [add32_mod]; omega
theorem wrap_byte (u : UInt8) : IntKind.u32.wrap (u.toNat : Int) = (u.toNat : Int) := by
 have h := u.toNat_lt
 unfold IntKind.wrap
 simp [IntKind.bits, IntKind.signed]
 omega
theorem bt_of (p : ByteArray) (i : Nat) (j : Int) (h : i < p.size) (e : j = (i : Int)) : ((p[i]'h).toNat : Int) = bt p j := by
 subst e
 exact bt_at p (i : Int) (by simpa using h)
theorem word_eq (p : ByteArray) (kk i0 i1 i2 i3 : Nat) (l0 : i0 < p.size) (l1 : i1 < p.size) (l2 : i2 < p.size) (l3 : i3 < p.size) (e0 : 4 * kk = i0) (e1 : 4 * kk + 1 = i1) (e2 : 4 * kk + 2 = i2) (e3 : 4 * kk + 3 = i3) :
  shaWord p kk = Go.bits .or .u32 (Go.bits .or .u32 (Go.bits .or .u32 (IntKind.u32.wrap (IntKind.u32.wrap ((p[i0]'l0).toNat : Int) * 16777216)) (IntKind.u32.wrap (IntKind.u32.wrap ((p[i1]'l1).toNat : Int) * 65536))) (IntKind.u32.wrap (IntKind.u32.wrap ((p[i2]'l2).toNat : Int) * 256))) (IntKind.u32.wrap ((p[i3]'l3).toNat : Int)) := by
 rw [wrap_byte, wrap_byte, wrap_byte, wrap_byte, bt_of p i0 (4 * (kk : Int)) l0 (by omega), bt_of p i1 (4 * (kk : Int) + 1) l1 (by omega), bt_of p i2 (4 * (kk : Int) + 2) l2 (by omega), bt_of p i3 (4 * (kk : Int) + 3) l3 (by omega)]
 rfl
theorem sched_cell {W : World} {G kk t : Nat} {p : ByteArray} (h : W.heap[G]? = some (.cells (schedCells p kk) t (0, 0))) (hk : kk < 64) : W.cell? ⟨G, kk, none⟩ = some (.int .u32 0) := by
 rw [blk_cell h kk]
 obtain ⟨z, hz⟩ : ∃ z, 64 - kk = z + 1 := ⟨63 - kk, by omega⟩
 unfold schedCells
 rw [hz]
 simp [nums, shaSched_length, List.replicate_succ]
theorem sched_old {W : World} {G kk t j : Nat} {p : ByteArray} (h : W.heap[G]? = some (.cells (schedCells p kk) t (0, 0))) (hj : j < kk) : W.cell? ⟨G, j, none⟩ = some (.int .u32 (rd (shaSched p kk) j)) := by
 rw [blk_cell h j]
 unfold schedCells
 have hl : j < (shaSched p kk).length := by rw [shaSched_length]; exact hj
 simp [nums, List.getElem?_append_left, hl, rd, List.getD_eq_getElem?_getD]
def mixL (vl sl : List Int) (k : Nat) : List Int := (List.zipWith add32 vl sl).take k ++ vl.drop k
theorem list_cell {W : World} {G kk t : Nat} {xs : List Int} (h : W.heap[G]? = some (.cells (nums .u32 xs).toArray t (0, 0))) (hj : kk < xs.length) : W.cell? ⟨G, kk, none⟩ = some (.int .u32 (rd xs kk)) := by
 rw [blk_cell h kk]
 simp [nums, hj, rd, List.getD_eq_getElem?_getD]
theorem mix_at {vl sl : List Int} (h1 : vl.length = 8) (h2 : sl.length = 8) {k : Nat} (hk : k < 8) : mixL vl sl k = (List.zipWith add32 vl sl).take k ++ rd vl k :: vl.drop (k + 1) := by
 unfold mixL
 congr 1
 rw [List.drop_eq_getElem_cons (by omega)]
 simp [rd, List.getD_eq_getElem?_getD, show k < vl.length by omega]
theorem mix_cell {W : World} {G kk t : Nat} {vl sl : List Int} (h1 : vl.length = 8) (h2 : sl.length = 8) (h : W.heap[G]? = some (.cells (nums .u32 (mixL vl sl kk)).toArray t (0, 0))) (hj : kk < 8) : W.cell? ⟨G, kk, none⟩ = some (.int .u32 (rd vl kk)) := by
 rw [blk_cell h kk, mix_at h1 h2 hj]
 have hl : ((List.zipWith add32 vl sl).take kk).length = kk := by simp [h1, h2]; omega
 simp [nums, h1, h2, Nat.min_eq_left (Nat.le_of_lt hj)]
theorem mix_put {W : World} {G kk t : Nat} {vl sl : List Int} {x : Int} (h1 : vl.length = 8) (h2 : sl.length = 8) (h : W.heap[G]? = some (.cells (nums .u32 (mixL vl sl kk)).toArray t (0, 0))) (hj : kk < 8) (hx : add32 (rd vl kk) (rd sl kk) = x) :
  (W.setCell ⟨G, kk, none⟩ (.int .u32 x)).heap[G]? = some (.cells (nums .u32 (mixL vl sl (kk + 1))).toArray t (0, 0)) := by
 rw [mix_at h1 h2 hj] at h
 refine blk_put h kk _ ?_
 subst hx
 have hl : ((List.zipWith add32 vl sl).take kk).length = kk := by simp [h1, h2]; omega
 have e : mixL vl sl (kk + 1) = (List.zipWith add32 vl sl).take kk ++ [add32 (rd vl kk) (rd sl kk)] ++ vl.drop (kk + 1) := by
  unfold mixL
  rw [List.take_succ_eq_append_getElem (by simp [h1, h2]; exact hj)]
  simp [rd, List.getD_eq_getElem?_getD, h1, h2, hj]
 rw [e]
 simp [nums, h1, h2, Nat.min_eq_left (Nat.le_of_lt hj)]
theorem k_cell {W : World} {G kk t : Nat} (h : W.heap[G]? = some (.cells (nums .u32 shaK).toArray t (0, 0))) (hj : kk < 64) : W.cell? ⟨G, kk, none⟩ = some (.int .u32 (rd shaK kk)) := by
 rw [blk_cell h kk]
 have hl : kk < shaK.length := hj
 simp [nums, hl, rd, List.getD_eq_getElem?_getD]
theorem sched_put {W : World} {G kk t : Nat} {p : ByteArray} {x : Int} (h : W.heap[G]? = some (.cells (schedCells p kk) t (0, 0))) (hk : kk < 64) (hx : shaNext p (shaSched p kk) = x) :
  (W.setCell ⟨G, kk, none⟩ (.int .u32 x)).heap[G]? = some (.cells (schedCells p (kk + 1)) t (0, 0)) := by
 refine blk_put h kk _ ?_
 subst hx
 obtain ⟨z, hz⟩ : ∃ z, 64 - kk = z + 1 := ⟨63 - kk, by omega⟩
 unfold schedCells
 rw [hz, List.replicate_succ, show 64 - (kk + 1) = z from by omega]
 exact nums_set .u32 (shaSched p kk) kk z _ 0 (shaSched_length _ _)
set_option maxHeartbeats 4000000 in
set_option maxRecDepth 100000 in
theorem block56 (s : H8) (p : ByteArray) (w : World) (hp : p.size = 64) :
  Calls Tryd.prog 56 #[.agg s.cells, .string p] w fun e w' => e = .returned (.agg (shaBlock s p).cells) ∧ Below w.heap.size w w' := by
 have HP := Aside0.mk hp
 have hp1 : 64 ≤ p.size := by omega
 have hp2 : p.size ≤ 64 := by omega
 clear hp
 obtain ⟨s0, s1, s2, s3, s4, s5, s6, s7⟩ := s
 show Calls Tryd.prog 56 #[.agg #[.int .u32 s0, .int .u32 s1, .int .u32 s2, .int .u32 s3, .int .u32 s4, .int .u32 s5, .int .u32 s6, .int .u32 s7], .string p] w _
 go_enter Tryd.func56, Tryd.ntmps56
 go_wp2_with (first
  | ((with_reducible refine gate_dst (N := 21) rfl ?_); refine wpList_buildFlatArrTo rfl 101 87 64 _ rfl .u32 shaK (some 21) rfl Tryd.underlying101 (by kernel_rfl) (by kernel_rfl) (by kernel_rfl) ?_)
  | ((with_reducible refine gate_dst (N := 5) rfl ?_); refine box_event rfl (N := 5) rfl (cs := (nums .u32 (List.replicate 64 0)).toArray) (t := 101) (by first | (go_simp; done) | (go_simp; rfl)) ?_; intro g5 hg5 w5 hb5 hB5)
  | ((with_reducible refine gate_store (t := 101) (p := 5) (v := .tmp 21) rfl ?_); refine store_event rfl 101 (.tmp 5) (.tmp 21) rfl rfl g5 (nums .u32 shaK).toArray rfl rfl 101 _ hb5 (by kernel_rfl) (by kernel_rfl) (by kernel_rfl) ?_; intro w6 hb6 hG6)
  | ((with_reducible refine gate_dst (N := 6) rfl ?_); refine box_event rfl (N := 6) rfl (cs := (nums .u32 (List.replicate 64 0)).toArray) (t := 101) (by first | (go_simp; done) | (go_simp; rfl)) ?_; intro g7 hg7 w7 hb7 hB7))
 have hs1 : w.heap.size + 2 < w5.heap.size := by have := blk_lt hb5; rw [hg5] at this; simp at this; omega
 have e5 : g5 = w.heap.size + 1 + 1 := by rw [hg5]; simp
 have hs2 : w5.heap.size ≤ w6.heap.size := hG6.size
 have hs3 : w6.heap.size < w7.heap.size := by have := blk_lt hb7; rw [hg7] at this; exact this
 have B5 := Aside0.mk (below_step (below_alloc (below_alloc (Below.refl w.heap.size w) _) _) hB5)
 have B6 := Aside0.mk (pw_below_grown B5.out _ B5.out.size hG6 (fun k hk => by injection hk with hk; omega))
 have B7 := Aside0.mk (below_step B6.out hB7)
 have S7 := Aside0.mk (blk_below (blk_grown (blk_below (blk_alloc (blk_new w _) _) hB5) hG6 (fun h => by injection h with h; omega)) hB7)
 have R7 := Aside0.mk (show w7.heap[w.heap.size + 1]? = some (.cells (nums .u32 (List.replicate 8 0)).toArray 89 (0, 0)) from by
  have h0 := blk_new (w.alloc (.cells #[.int .u32 s0, .int .u32 s1, .int .u32 s2, .int .u32 s3, .int .u32 s4, .int .u32 s5, .int .u32 s6, .int .u32 s7] 89)) (.cells (nums .u32 (List.replicate 8 0)).toArray 89)
  rw [show (w.alloc (.cells #[.int .u32 s0, .int .u32 s1, .int .u32 s2, .int .u32 s3, .int .u32 s4, .int .u32 s5, .int .u32 s6, .int .u32 s7] 89)).heap.size = w.heap.size + 1 from by simp] at h0
  exact blk_below (blk_grown (blk_below h0 hB5) hG6 (fun h => by injection h with h; omega)) hB7)
 have K7 := Aside0.mk (show w7.heap[w.heap.size + 1 + 1]? = _ from e5 ▸ blk_below hb6 hB7)
 have Z7 := Aside0.mk (show w7.heap[w6.heap.size]? = _ from hg7 ▸ hb7)
 clear hb5 hB5 hb6 hG6 hb7 hB7 B5 B6 hg5 hg7 e5
 generalize hG : w6.heap.size = G at *
 have hs4 : w.heap.size + 2 < G := by omega
 clear hs1 hs2 hG w5 w6 g5 g7
 go_loopg [22] 64 (fun gg s22 wr => ∃ kk : Nat, kk ≤ 64 ∧ 64 - kk ≤ gg ∧ s22 = .int .i64 kk ∧ Aside0 (Below w.heap.size w wr)
  ∧ Aside0 (wr.heap[w.heap.size]? = some (.cells #[.int .u32 s0, .int .u32 s1, .int .u32 s2, .int .u32 s3, .int .u32 s4, .int .u32 s5, .int .u32 s6, .int .u32 s7] 89 (0, 0)))
  ∧ Aside0 (wr.heap[w.heap.size + 1 + 1]? = some (.cells (nums .u32 shaK).toArray 101 (0, 0)))
  ∧ Aside0 (wr.heap[G]? = some (.cells (schedCells p kk) 101 (0, 0)))
  ∧ Aside0 (wr.heap[w.heap.size + 1]? = some (.cells (nums .u32 (List.replicate 8 0)).toArray 89 (0, 0))))
 case atStart =>
  exact ⟨0, Nat.zero_le _, by omega, rfl, B7, S7, K7, Z7, R7⟩
 case round =>
  obtain ⟨kk, hkk, hg, rfl, BW, BS, BKK, BK, BR⟩ := hrel
  by_cases hlt : kk < 64
  ·have hltz : (kk : Int) < 64 := by omega
   by_cases h16 : kk < 16
   ·have h16z : (kk : Int) < 16 := by omega
    go_wp2_with fail
    have q0 : IntKind.i64.wrap (4 * (kk : Int)) = ((4 * kk : Nat) : Int) := by rw [IntWalk.i64_in _ (by omega)]; omega
    have q1 : IntKind.i64.wrap (((4 * kk : Nat) : Int) + 1) = ((4 * kk + 1 : Nat) : Int) := by rw [IntWalk.i64_in _ (by omega)]; omega
    have q2 : IntKind.i64.wrap (((4 * kk : Nat) : Int) + 2) = ((4 * kk + 2 : Nat) : Int) := by rw [IntWalk.i64_in _ (by omega)]; omega
    have q3 : IntKind.i64.wrap (((4 * kk : Nat) : Int) + 3) = ((4 * kk + 3 : Nat) : Int) := by rw [IntWalk.i64_in _ (by omega)]; omega
    have l0 : 4 * kk < p.size := by omega
    have l1 : 4 * kk + 1 < p.size := by omega
    have l2 : 4 * kk + 2 < p.size := by omega
    have l3 : 4 * kk + 3 < p.size := by omega
    generalize e1 : 4 * kk + 1 = i1 at q1 l1
    generalize e2 : 4 * kk + 2 = i2 at q2 l2
    generalize e3 : 4 * kk + 3 = i3 at q3 l3
    generalize e0 : 4 * kk = i0 at q0 q1 q2 q3 l0
    have E0 := Aside0.mk e0
    have E1 := Aside0.mk e1
    have E2 := Aside0.mk e2
    have E3 := Aside0.mk e3
    clear e0 e1 e2 e3
    go_still_tail 31, (by kernel_rfl)
    change wpList _ _ _ _ _ wr.drew
    have BW' := Aside0.mk (below_drew1 BW.out)
    have BS' := Aside0.mk (blk_drew BS.out)
    have BK' := Aside0.mk (blk_drew BKK.out)
    have BZ' := Aside0.mk (blk_drew BK.out)
    have BR' := Aside0.mk (blk_drew BR.out)
    generalize wr.drew = W at BW' BS' BK' BZ' BR' ⊢
    clear BW BS BKK BK BR
    have hc : W.cell? ⟨G, kk, none⟩ = some (.int .u32 0) := sched_cell BZ'.out hlt
    have hf : W.frozen? ⟨G, kk, none⟩ = false := blk_frozen BZ'.out kk
    clear q0 q1 q2 q3
    go_wp2_with fail
    go_roundg (64 - (kk + 1))
    case measure => omega
    case rel =>
     refine ⟨kk + 1, by omega, by omega, by go_num, ⟨below_set BW'.out (by omega)⟩, ⟨blk_far BS'.out (by show _ ≠ G; omega) _⟩, ⟨blk_far BK'.out (by show _ ≠ G; omega) _⟩, ⟨?_⟩, ⟨blk_far BR'.out (by show _ ≠ G; omega) _⟩⟩
     refine sched_put BZ'.out hlt ?_
     rw [shaNext, if_pos (by rw [shaSched_length]; exact h16), shaSched_length]
     exact word_eq p kk i0 i1 i2 i3 l0 l1 l2 l3 E0.out E1.out E2.out E3.out
   ·have h16z : ¬ (kk : Int) < 16 := by omega
    have q15 : IntKind.i64.wrap ((kk : Int) - 15) = ((kk - 15 : Nat) : Int) := by rw [IntWalk.i64_in _ (by omega)]; omega
    have q2 : IntKind.i64.wrap ((kk : Int) - 2) = ((kk - 2 : Nat) : Int) := by rw [IntWalk.i64_in _ (by omega)]; omega
    have q7 : IntKind.i64.wrap ((kk : Int) - 7) = ((kk - 7 : Nat) : Int) := by rw [IntWalk.i64_in _ (by omega)]; omega
    have q16 : IntKind.i64.wrap ((kk : Int) - 16) = ((kk - 16 : Nat) : Int) := by rw [IntWalk.i64_in _ (by omega)]; omega
    have c15 := sched_old BK.out (j := kk - 15) (by omega)
    have c2 := sched_old BK.out (j := kk - 2) (by omega)
    have c7 := sched_old BK.out (j := kk - 7) (by omega)
    have c16 := sched_old BK.out (j := kk - 16) (by omega)
    have m15 : kk - 15 < 64 := by omega
    have m2 : kk - 2 < 64 := by omega
    have m7 : kk - 7 < 64 := by omega
    have m16 : kk - 16 < 64 := by omega
    generalize e15 : kk - 15 = i15 at q15 c15 m15
    generalize e2 : kk - 2 = i2 at q2 c2 m2
    generalize e7 : kk - 7 = i7 at q7 c7 m7
    generalize e16 : kk - 16 = i16 at q16 c16 m16
    have E15 := Aside0.mk e15
    have E2 := Aside0.mk e2
    have E7 := Aside0.mk e7
    have E16 := Aside0.mk e16
    clear e15 e2 e7 e16
    have z7 : (i7 : Int) < 64 := by omega
    have z16 : (i16 : Int) < 64 := by omega
    generalize x15 : rd (shaSched p kk) i15 = v15 at c15
    generalize x2 : rd (shaSched p kk) i2 = v2 at c2
    generalize x7 : rd (shaSched p kk) i7 = v7 at c7
    generalize x16 : rd (shaSched p kk) i16 = v16 at c16
    have X15 := Aside0.mk x15
    have X2 := Aside0.mk x2
    have X7 := Aside0.mk x7
    have X16 := Aside0.mk x16
    clear x15 x2 x7 x16
    go_wp2_with fail
    go_quiet (fail)
    have BW' := Aside0.mk (pw_below_drewN BW.out nq)
    have BS' := Aside0.mk (blk_drewN BS.out nq)
    have BK' := Aside0.mk (blk_drewN BKK.out nq)
    have BZ' := Aside0.mk (blk_drewN BK.out nq)
    have BR' := Aside0.mk (blk_drewN BR.out nq)
    replace c15 : (wr.drewN nq).cell? _ = _ := c15
    replace c2 : (wr.drewN nq).cell? _ = _ := c2
    replace c7 : (wr.drewN nq).cell? _ = _ := c7
    replace c16 : (wr.drewN nq).cell? _ = _ := c16
    generalize wr.drewN nq = W0 at BW' BS' BK' BZ' BR' c15 c2 c7 c16 ⊢
    clear BW BS BKK BK BR
    go_wp2_with fail
    go_still_tail 29, (by kernel_rfl)
    still_call (rot71_17 _ _)
    repeat still_step
    still_call (rot71_19 _ _)
    repeat still_step
    still_call (rot71_7 _ _)
    repeat still_step
    still_call (rot71_18 _ _)
    repeat still_step
    refine wpStill_nil ?_
    change wpList _ _ _ _ _ W0.drew
    have BW := Aside0.mk (below_drew1 BW'.out)
    have BS := Aside0.mk (blk_drew BS'.out)
    have BKK := Aside0.mk (blk_drew BK'.out)
    have BK := Aside0.mk (blk_drew BZ'.out)
    have BR := Aside0.mk (blk_drew BR'.out)
    generalize W0.drew = W at BW BS BKK BK BR ⊢
    clear BW' BS' BK' BZ' BR' c15 c2 c7 c16
    have hc : W.cell? ⟨G, kk, none⟩ = some (.int .u32 0) := sched_cell BK.out hlt
    have hf : W.frozen? ⟨G, kk, none⟩ = false := blk_frozen BK.out kk
    clear q15 q2 q7 q16
    go_wp2_with fail
    go_roundg (64 - (kk + 1))
    case measure => omega
    case rel =>
     refine ⟨kk + 1, by omega, by omega, by go_num, ⟨below_set BW.out (by omega)⟩, ⟨blk_far BS.out (by show _ ≠ G; omega) _⟩, ⟨blk_far BKK.out (by show _ ≠ G; omega) _⟩, ⟨?_⟩, ⟨blk_far BR.out (by show _ ≠ G; omega) _⟩⟩
     refine sched_put BK.out hlt ?_
     have n16 : ¬ (shaSched p kk).length < 16 := by rw [shaSched_length]; exact h16
     rw [shaNext, if_neg n16, shaSched_length]
     rw [show ((kk : Int) - 2) = (i2 : Int) from by have := E2.out; omega, show ((kk : Int) - 15) = (i15 : Int) from by have := E15.out; omega, show ((kk : Int) - 7) = (i7 : Int) from by have := E7.out; omega, show ((kk : Int) - 16) = (i16 : Int) from by have := E16.out; omega]
     rw [X2.out, X15.out, X7.out, X16.out]
     exact add32_4 _ _ _ _
  ·have hltz : ¬ (kk : Int) < 64 := by omega
   obtain rfl : kk = 64 := by omega
   have d0 : wr.cell? ⟨w.heap.size, 0, none⟩ = some (.int .u32 s0) := blk_cell BS.out 0
   have d1 : wr.cell? ⟨w.heap.size, 1, none⟩ = some (.int .u32 s1) := blk_cell BS.out 1
   have d2 : wr.cell? ⟨w.heap.size, 2, none⟩ = some (.int .u32 s2) := blk_cell BS.out 2
   have d3 : wr.cell? ⟨w.heap.size, 3, none⟩ = some (.int .u32 s3) := blk_cell BS.out 3
   have d4 : wr.cell? ⟨w.heap.size, 4, none⟩ = some (.int .u32 s4) := blk_cell BS.out 4
   have d5 : wr.cell? ⟨w.heap.size, 5, none⟩ = some (.int .u32 s5) := blk_cell BS.out 5
   have d6 : wr.cell? ⟨w.heap.size, 6, none⟩ = some (.int .u32 s6) := blk_cell BS.out 6
   have d7 : wr.cell? ⟨w.heap.size, 7, none⟩ = some (.int .u32 s7) := blk_cell BS.out 7
   have hG := blk_lt BK.out
   go_wp2_with fail
   have BW2 := Aside0.mk (below_alloc BW.out (.cells #[.int .u32 s0, .int .u32 s1, .int .u32 s2, .int .u32 s3, .int .u32 s4, .int .u32 s5, .int .u32 s6, .int .u32 s7] 89))
   have BS2 := Aside0.mk (blk_alloc BS.out (.cells #[.int .u32 s0, .int .u32 s1, .int .u32 s2, .int .u32 s3, .int .u32 s4, .int .u32 s5, .int .u32 s6, .int .u32 s7] 89))
   have BKK2 := Aside0.mk (blk_alloc BKK.out (.cells #[.int .u32 s0, .int .u32 s1, .int .u32 s2, .int .u32 s3, .int .u32 s4, .int .u32 s5, .int .u32 s6, .int .u32 s7] 89))
   have BK2 := Aside0.mk (blk_alloc BK.out (.cells #[.int .u32 s0, .int .u32 s1, .int .u32 s2, .int .u32 s3, .int .u32 s4, .int .u32 s5, .int .u32 s6, .int .u32 s7] 89))
   have BR2 := Aside0.mk (blk_alloc BR.out (.cells #[.int .u32 s0, .int .u32 s1, .int .u32 s2, .int .u32 s3, .int .u32 s4, .int .u32 s5, .int .u32 s6, .int .u32 s7] 89))
   have BV2 := Aside0.mk (blk_new wr (.cells #[.int .u32 s0, .int .u32 s1, .int .u32 s2, .int .u32 s3, .int .u32 s4, .int .u32 s5, .int .u32 s6, .int .u32 s7] 89))
   generalize wr.alloc (.cells #[.int .u32 s0, .int .u32 s1, .int .u32 s2, .int .u32 s3, .int .u32 s4, .int .u32 s5, .int .u32 s6, .int .u32 s7] 89) = W1 at BW2 BS2 BKK2 BK2 BR2 BV2 ⊢
   clear d0 d1 d2 d3 d4 d5 d6 d7 BW BS BKK BK BR
   generalize wr.heap.size = H at hG BV2 ⊢
   go_loopg [97] 64 (fun gg s97 wr => ∃ kk : Nat, kk ≤ 64 ∧ 64 - kk ≤ gg ∧ s97 = .int .i64 kk ∧ Aside0 (Below w.heap.size w wr)
    ∧ Aside0 (wr.heap[w.heap.size]? = some (.cells #[.int .u32 s0, .int .u32 s1, .int .u32 s2, .int .u32 s3, .int .u32 s4, .int .u32 s5, .int .u32 s6, .int .u32 s7] 89 (0, 0)))
    ∧ Aside0 (wr.heap[w.heap.size + 1 + 1]? = some (.cells (nums .u32 shaK).toArray 101 (0, 0)))
    ∧ Aside0 (wr.heap[G]? = some (.cells (schedCells p 64) 101 (0, 0)))
    ∧ Aside0 (wr.heap[H]? = some (.cells (shaRounds ⟨s0, s1, s2, s3, s4, s5, s6, s7⟩ (shaSched p 64) kk).cells 89 (0, 0)))
    ∧ Aside0 (wr.heap[w.heap.size + 1]? = some (.cells (nums .u32 (List.replicate 8 0)).toArray 89 (0, 0))))
   case atStart => exact ⟨0, Nat.zero_le _, by omega, rfl, BW2, BS2, BKK2, BK2, BV2, BR2⟩
   case round =>
    clear BW2 BS2 BKK2 BK2 BV2 BR2
    obtain ⟨kk, hkk, hg, rfl, BW, BS, BKK, BK, BV, BR⟩ := hrel
    by_cases hlt : kk < 64
    ·have hltz : (kk : Int) < 64 := by omega
     have hst := BV.out
     generalize hs : shaRounds ⟨s0, s1, s2, s3, s4, s5, s6, s7⟩ (shaSched p 64) kk = st at hst
     have HS := Aside0.mk hs
     clear hs BV
     obtain ⟨a, b, c, d, e, f, g, h⟩ := st
     have d0 : wr.cell? ⟨H, 0, none⟩ = some (.int .u32 a) := blk_cell hst 0
     have d1 : wr.cell? ⟨H, 1, none⟩ = some (.int .u32 b) := blk_cell hst 1
     have d2 : wr.cell? ⟨H, 2, none⟩ = some (.int .u32 c) := blk_cell hst 2
     have d3 : wr.cell? ⟨H, 3, none⟩ = some (.int .u32 d) := blk_cell hst 3
     have d4 : wr.cell? ⟨H, 4, none⟩ = some (.int .u32 e) := blk_cell hst 4
     have d5 : wr.cell? ⟨H, 5, none⟩ = some (.int .u32 f) := blk_cell hst 5
     have d6 : wr.cell? ⟨H, 6, none⟩ = some (.int .u32 g) := blk_cell hst 6
     have d7 : wr.cell? ⟨H, 7, none⟩ = some (.int .u32 h) := blk_cell hst 7
     have BV := Aside0.mk hst
     clear hst
     go_wp2_with fail
     go_quiet (fail)
     clear d0 d1 d2 d3 d4 d5 d6 d7
     replace BW := Aside0.mk (pw_below_drewN BW.out nq)
     replace BS := Aside0.mk (blk_drewN BS.out nq)
     replace BKK := Aside0.mk (blk_drewN BKK.out nq)
     replace BK := Aside0.mk (blk_drewN BK.out nq)
     replace BV := Aside0.mk (blk_drewN BV.out nq)
     replace BR := Aside0.mk (blk_drewN BR.out nq)
     generalize wr.drewN nq = W2 at BW BS BKK BK BV BR ⊢
     have d7 : W2.cell? ⟨H, 7, none⟩ = some (.int .u32 h) := blk_cell BV.out 7
     have kc : W2.cell? ⟨w.heap.size + 1 + 1, kk, none⟩ = some (.int .u32 (rd shaK kk)) := k_cell BKK.out hlt
     have wc : W2.cell? ⟨G, kk, none⟩ = some (.int .u32 (rd (shaSched p 64) kk)) := sched_old BK.out hlt
     generalize hk1 : rd shaK (kk : Int) = kv at kc
     generalize hw1 : rd (shaSched p 64) (kk : Int) = wv at wc
     have HK1 := Aside0.mk hk1
     have HW1 := Aside0.mk hw1
     clear hk1 hw1
     go_wp2_with fail
     refine wp_region_still_lit (by kernel_rfl) (by kernel_rfl) ?_
     repeat still_step
     still_call (rot71_6 _ _)
     repeat still_step
     still_call (rot71_11 _ _)
     repeat still_step
     still_call (rot71_25 _ _)
     repeat still_step
     refine wpStill_nil ?_
     have hT : shaT ⟨a, b, c, d, e, f, g, h⟩ kv wv = IntKind.u32.wrap (IntKind.u32.wrap (IntKind.u32.wrap (IntKind.u32.wrap (h + Go.bits BinOp.xor IntKind.u32 (Go.bits BinOp.xor IntKind.u32 (rotr e 6) (rotr e 11)) (rotr e 25)) + Go.bits BinOp.xor IntKind.u32 (Go.bits BinOp.and IntKind.u32 e f) (Go.bits BinOp.and IntKind.u32 (Go.bits BinOp.xor IntKind.u32 (if IntKind.u32.signed = true then -1 else IntKind.u32.max) e) g)) + kv) + wv) := rfl
     rw [← hT]
     clear hT
     generalize hT : shaT ⟨a, b, c, d, e, f, g, h⟩ kv wv = T
     have HT := Aside0.mk hT
     clear hT d7 kc wc
     change Exit.then _ _ _ _ W2.drew
     replace BW := Aside0.mk (below_drew1 BW.out)
     replace BS := Aside0.mk (blk_drew BS.out)
     replace BKK := Aside0.mk (blk_drew BKK.out)
     replace BK := Aside0.mk (blk_drew BK.out)
     replace BV := Aside0.mk (blk_drew BV.out)
     replace BR := Aside0.mk (blk_drew BR.out)
     generalize W2.drew = W3 at BW BS BKK BK BV BR ⊢
     have d3 : W3.cell? ⟨H, 3, none⟩ = some (.int .u32 d) := blk_cell BV.out 3
     go_wp2_with fail
     refine (rot71_2 _ _).mono ?_
     rintro e' w' ⟨rfl, rfl⟩
     go_wp2_with fail
     refine (rot71_13 _ _).mono ?_
     rintro e' w' ⟨rfl, rfl⟩
     go_wp2_with fail
     refine (rot71_22 _ _).mono ?_
     rintro e' w' ⟨rfl, rfl⟩
     go_wp2_with (((with_reducible refine gate_store (t := 89) (p := 10) (v := .tmp 173) rfl ?_); (refine store_event rfl 89 (.tmp 10) (.tmp 173) rfl rfl H _ rfl rfl 89 _ BV.out (by kernel_rfl) (by rfl) (by simp [Value.oneCell']) ?_); intro w6 hb6 hG6))
     go_roundg (64 - (kk + 1))
     case measure => omega
     case rel =>
      refine ⟨kk + 1, by omega, by omega, by go_num, ⟨pw_below_grown BW.out _ BW.out.size hG6 (fun k hk => by injection hk with hk; omega)⟩, ⟨blk_grown BS.out hG6 (fun h => by injection h with h; omega)⟩, ⟨blk_grown BKK.out hG6 (fun h => by injection h with h; omega)⟩, ⟨blk_grown BK.out hG6 (fun h => by injection h with h; omega)⟩, ⟨?_⟩, ⟨blk_grown BR.out hG6 (fun h => by injection h with h; omega)⟩⟩
      rw [hb6]
      show _ = some (Obj.cells (shaRound (shaRounds ⟨s0, s1, s2, s3, s4, s5, s6, s7⟩ (shaSched p 64) kk) (rd shaK kk) (rd (shaSched p 64) kk)).cells 89 (0, 0))
      rw [HS.out, HK1.out, HW1.out]
      unfold shaRound H8.cells
      rw [HT.out]
      unfold shaU
      simp only [add32_mod, xor32, and32]
      have e1 : ∀ x y : Int, (T + (x + y)) % 4294967296 = (T + (x + y) % 4294967296) % 4294967296 := fun x y => by omega
      first | rfl | rw [e1]
    ·have hltz : ¬ (kk : Int) < 64 := by omega
     obtain rfl : kk = 64 := by omega
     generalize hs : shaRounds ⟨s0, s1, s2, s3, s4, s5, s6, s7⟩ (shaSched p 64) 64 = st at BV
     have HS := Aside0.mk hs
     clear hs
     obtain ⟨a, b, c, d, e, f, g, h⟩ := st
     go_wp2_with fail
     generalize hvl : ([a, b, c, d, e, f, g, h] : List Int) = vl
     generalize hsl : ([s0, s1, s2, s3, s4, s5, s6, s7] : List Int) = sl
     have hl1 : vl.length = 8 := by rw [← hvl]; rfl
     have hl2 : sl.length = 8 := by rw [← hsl]; rfl
     have V0 := Aside0.mk (show wr.heap[H]? = some (.cells (nums .u32 (mixL vl sl 0)).toArray 89 (0, 0)) from by rw [← hvl, ← hsl]; exact BV.out)
     have S0 := Aside0.mk (show wr.heap[w.heap.size]? = some (.cells (nums .u32 sl).toArray 89 (0, 0)) from by rw [← hsl]; exact BS.out)
     have HVL := Aside0.mk hvl
     have HSL := Aside0.mk hsl
     have HL1 := Aside0.mk hl1
     have HL2 := Aside0.mk hl2
     clear hvl hsl hl1 hl2 BV BS BKK BK
     go_loopg [175] 8 (fun gg s175 wr => ∃ kk : Nat, kk ≤ 8 ∧ 8 - kk ≤ gg ∧ s175 = .int .i64 kk ∧ Aside0 (Below w.heap.size w wr)
      ∧ Aside0 (wr.heap[w.heap.size]? = some (.cells (nums .u32 sl).toArray 89 (0, 0)))
      ∧ Aside0 (wr.heap[H]? = some (.cells (nums .u32 (mixL vl sl kk)).toArray 89 (0, 0)))
      ∧ Aside0 (wr.heap[w.heap.size + 1]? = some (.cells (nums .u32 (List.replicate 8 0)).toArray 89 (0, 0))))
     case atStart => exact ⟨0, Nat.zero_le _, by omega, rfl, BW, S0, V0, BR⟩
     case round =>
      clear V0 S0 BW BR
      obtain ⟨kk, hkk, hg, rfl, BW, BS, BV, BR⟩ := hrel
      by_cases hlt : kk < 8
      ·have hltz : (kk : Int) < 8 := by omega
       have vc := mix_cell HL1.out HL2.out BV.out hlt
       have sc := list_cell BS.out (show kk < sl.length by rw [HL2.out]; exact hlt)
       generalize hv1 : rd vl (kk : Int) = vv at vc
       generalize hs1 : rd sl (kk : Int) = sv at sc
       have HV1 := Aside0.mk hv1
       have HS1 := Aside0.mk hs1
       clear hv1 hs1
       go_wp2_with fail
       go_still_tail 8, (by kernel_rfl)
       change wpList _ _ _ _ _ wr.drew
       replace BW := Aside0.mk (below_drew1 BW.out)
       replace BS := Aside0.mk (blk_drew BS.out)
       replace BV := Aside0.mk (blk_drew BV.out)
       replace BR := Aside0.mk (blk_drew BR.out)
       generalize wr.drew = W at BW BS BV BR ⊢
       clear vc sc
       have vc := mix_cell HL1.out HL2.out BV.out hlt
       have hf : W.frozen? ⟨H, kk, none⟩ = false := blk_frozen BV.out kk
       go_wp2_with fail
       go_roundg (8 - (kk + 1))
       case measure => omega
       case rel =>
        refine ⟨kk + 1, by omega, by omega, by go_num, ⟨below_set BW.out (by omega)⟩, ⟨blk_far BS.out (by show _ ≠ H; omega) _⟩, ⟨?_⟩, ⟨blk_far BR.out (by show _ ≠ H; omega) _⟩⟩
        refine mix_put HL1.out HL2.out BV.out hlt ?_
        rw [HV1.out, HS1.out]
        exact add32_mod _ _
      ·have hltz : ¬ (kk : Int) < 8 := by omega
       obtain rfl : kk = 8 := by omega
       have hb : wr.heap[H]? = some (.cells #[.int .u32 (add32 a s0), .int .u32 (add32 b s1), .int .u32 (add32 c s2), .int .u32 (add32 d s3), .int .u32 (add32 e s4), .int .u32 (add32 f s5), .int .u32 (add32 g s6), .int .u32 (add32 h s7)] 89 (0, 0)) := by
        have h0 := BV.out
        rw [← HVL.out, ← HSL.out] at h0
        exact h0
       have d0 := (blk_cell hb 0).trans rfl
       have d1 := (blk_cell hb 1).trans rfl
       have d2 := (blk_cell hb 2).trans rfl
       have d3 := (blk_cell hb 3).trans rfl
       have d4 := (blk_cell hb 4).trans rfl
       have d5 := (blk_cell hb 5).trans rfl
       have d6 := (blk_cell hb 6).trans rfl
       have d7 := (blk_cell hb 7).trans rfl
       clear hb
       go_wp2_with (((with_reducible refine gate_store (t := 89) (p := 4) (v := .tmp 187) rfl ?_); refine store_event rfl 89 (.tmp 4) (.tmp 187) rfl rfl (w.heap.size + 1) _ rfl rfl 89 _ BR.out (by kernel_rfl) (by rfl) (by simp [Value.oneCell']) ?_; intro w6 hb6 hG6))
       have BW6 := pw_below_grown BW.out _ BW.out.size hG6 (fun k hk => by injection hk with hk; omega)
       refine bodyPost_ret (results_cell_row Tryd.results56 _ _ (w.heap.size + 1) 89 _ (0, 0) _ rfl hb6 Tryd.underlying89 rfl (by kernel_rfl)) rfl ⟨?_, BW6⟩
       unfold shaBlock
       rw [HS.out]
       rfl
end Go.Proofs.YtbfimjncophcaaaDoor.Pr
namespace Go.Proofs.YtbfimjncophcaaaDoor.Pr
set_option linter.unusedVariables false
set_option linter.unusedSimpArgs false
open Go.RowKit Go.Proofs.YtbfimjncophcaaaDoorW.PrintWords Go.Proofs.YtbfimjncophcaaaDoorW.PrintLast Go.Proofs.YtbfimjncophcaaaDoorW.PrintMore
def padZ (n : Nat) : Nat := (119 - n % 64) % 64
def lenB (n : Nat) (j : Nat) : List Int := ([56, 48, 40, 32, 24, 16, 8, 0].map fun i : Nat => ((8 * n / 2 ^ i % 256 : Nat) : Int)).take j
def tailTo (n j : Nat) : List Int := 128 :: List.replicate (padZ n) 0 ++ lenB n j
theorem tail_test {n j k : Nat} (hn : n ≤ 1048576) (hk : k = 1 + j) (hj : j < padZ n) : (((n : Int) + (k : Int)) % 64 != 56) = true := by
 unfold padZ at hj
 rw [bne_iff_ne]
 omega
theorem tail_done {n k : Nat} (hn : n ≤ 1048576) (hk : k = 1 + padZ n) : (((n : Int) + (k : Int)) % 64 != 56) = false := by
 unfold padZ at hk
 rw [bne_eq_false_iff_eq]
 omega
theorem padZ_lt (n : Nat) : padZ n < 64 := by unfold padZ; omega
theorem tail_next (n j i : Nat) (x : Int) (hn : n ≤ 1048576) (hj : j < 8) (hi : i = 56 - 8 * j) (hx : ((8 * n / 2 ^ i % 256 : Nat) : Int) = x) : tailTo n j ++ [x] = tailTo n (j + 1) := by
 subst hx hi
 unfold tailTo
 rw [List.append_assoc]
 congr 1
 unfold lenB
 rcases (by omega : j = 0 ∨ j = 1 ∨ j = 2 ∨ j = 3 ∨ j = 4 ∨ j = 5 ∨ j = 6 ∨ j = 7) with rfl | rfl | rfl | rfl | rfl | rfl | rfl | rfl <;> rfl
theorem msg_size (data : ByteArray) : ∃ nb, (data ++ strOfNums (tailTo data.size 8)).size = 64 * nb := by
 have h1 : (strOfNums (tailTo data.size 8)).size = 9 + padZ data.size := by
  show ((List.map _ (tailTo data.size 8)).toArray).size = _
  simp [tailTo, lenB]
  omega
 rw [ByteArray.size_append, h1]
 unfold padZ
 exact ⟨(data.size + (9 + (119 - data.size % 64) % 64)) / 64, by omega⟩
theorem msg_rest (M : ByteArray) (i : Nat) (h : 64 * (i + 1) ≤ M.size) : (M.extract (64 * i) M.size).extract 64 (M.extract (64 * i) M.size).size = M.extract (64 * (i + 1)) M.size := by
 rw [ByteArray.extract_extract, ByteArray.size_extract]
 congr 1 <;> omega
theorem msg_block (M : ByteArray) (i : Nat) (h : 64 * (i + 1) ≤ M.size) : (M.extract (64 * i) M.size).extract 0 64 = M.extract (64 * i) (64 * i + 64) := by
 rw [ByteArray.extract_extract]
 congr 1 <;> omega
def bytes4 (x : Int) : List Int := [x / 16777216 % 256, x / 65536 % 256, x / 256 % 256, x % 256]
def outTo (s : H8) (k : Nat) : List Int := (s.list.take k).flatMap bytes4
theorem outTo_length (s : H8) (k : Nat) (hk : k ≤ 8) : (outTo s k).length = 4 * k := by
 unfold outTo
 rcases (by omega : k = 0 ∨ k = 1 ∨ k = 2 ∨ k = 3 ∨ k = 4 ∨ k = 5 ∨ k = 6 ∨ k = 7 ∨ k = 8) with rfl | rfl | rfl | rfl | rfl | rfl | rfl | rfl | rfl <;> rfl
def shaFold (s : H8) (m : ByteArray) : Nat → H8
 | 0 => s
 | n + 1 => shaBlock (shaFold s m n) (m.extract (64 * n) (64 * n + 64))
def shaSum (data : ByteArray) : ByteArray :=
 let m := data ++ strOfNums (tailTo data.size 8)
 strOfNums (outTo (shaFold shaInit m (m.size / 64)) 8)
set_option maxHeartbeats 4000000 in
set_option maxRecDepth 100000 in
theorem sum34 (data : ByteArray) (w : World) (hn : data.size ≤ 1048576) :
  Calls Tryd.prog 34 #[.string data] w fun e w' => e = .returned (.string (shaSum data)) ∧ Below w.heap.size w w' := by
 go_enter Tryd.func34, Tryd.ntmps34
 have HB := Aside0.mk (Below.refl w.heap.size w)
 go_wp2_with (first | ((with_reducible refine gate_dst (N := 15) rfl ?_); go_loud (refine Kd.R_lit (Kd.int .u8) (w0 := w) w.heap.size 5 ?hg (N := 15) ?hd (xs := [128]) (inner := [.int .u8 (128)]) (ok := fun _ => True) (okp := fun _ => True) ?hr ?hp (fun _ hk => hk) trivial ?hB ?hS (by simp) ?_); (case hd => rfl); (case hg => rfl); (case hr => first | (go_simp; done) | (go_simp; rfl)); (case hp => exact (Reps.one rfl (Reps.none _ _))); (case hB => exact (by repeat (first | (with_reducible first | exact HB.out | apply below_alloc | apply pw_below_drewN | apply below_drew1) | exact HB.out))); (case hS => exact (below_size (by repeat (first | (with_reducible first | exact HB.out | apply below_alloc | apply pw_below_drewN | apply below_drew1) | exact HB.out)))); intro v1 w1 ho hb hg_ hn_; have BS := Aside0.mk (blk_grown (blk_new w _) hg_ (by simp)); have HO := Aside0.mk ho; have HBn := Aside0.mk hb; clear HB; have HB := HBn; clear HBn ho hb hg_ hn_))
 have hz := padZ_lt data.size
 go_loopg [5] (padZ data.size) (fun gg s5 wr => ∃ (j : Nat) (xs : List Int), j ≤ padZ data.size ∧ padZ data.size - j ≤ gg ∧ Aside0 (xs = 128 :: List.replicate j 0)
  ∧ Aside0 (Kd.R (Kd.int .u8) 5 wr w.heap.size (fun _ => True) s5 xs) ∧ Aside0 (wr.heap[w.heap.size]? = some (.cells #[.int .u32 1779033703, .int .u32 3144134277, .int .u32 1013904242, .int .u32 2773480762, .int .u32 1359893119, .int .u32 2600822924, .int .u32 528734635, .int .u32 1541459225] 89 (0, 0))) ∧ Aside0 (Below w.heap.size w wr))
 case atStart => exact ⟨0, [128], Nat.zero_le _, by omega, ⟨rfl⟩, HO, BS, HB⟩
 case round =>
  clear HO BS HB
  obtain ⟨j, xs, hj, hg, HX, HO, BS, HB⟩ := hrel
  obtain ⟨A, c, hv⟩ := Kd.R_slice HO.out
  subst hv
  have hl : xs.length = 1 + j := by rw [HX.out]; simp; omega
  have HL := Aside0.mk hl
  have hx1 : xs.length ≤ 200 := by omega
  clear hl
  by_cases hlt : j < padZ data.size
  ·have htest := tail_test hn HL.out hlt
   go_wp2_with (first | ((with_reducible refine gate_builtin (b := .append) (xs := #[.tmp 23, .tmp 24]) rfl ?_); at_builtin; go_loud (refine Kd.R_append (Kd.int .u8) (w0 := w) w.heap.size rfl (.tmp 23) (.tmp 24) 77 5 (.int .u8 0) 1 rfl Tryd.underlying77 info5 rfl (by decide) (by omega) (.slice A xs.length c) xs (0) [.int .u8 (0)] (fun _ => True) (fun _ => False) rfl rfl ?aP (fun _ hk => hk.elim) ?aF ?aO ?aB ?aS ?aL ?_); (case aP => exact rfl); (case aB => exact (by repeat (first | (with_reducible first | exact HB.out | apply below_alloc | apply pw_below_drewN | apply below_drew1) | exact HB.out))); (case aF => exact (fun _ _ => trivial)); (case aO => exact HO.out); (case aS => exact (below_size (by repeat (first | (with_reducible first | exact HB.out | apply below_alloc | apply pw_below_drewN | apply below_drew1) | exact HB.out)))); (case aL => have := hx1; omega); intro v2 w2 ho hb hg_ hat; have BS2 := Aside0.mk (blk_grown BS.out hg_ (Kd.R_ne HO.out BS.out (by decide))); have HO2 := Aside0.mk ho; have HB2 := Aside0.mk hb; clear HB HO BS; have HB := HB2; have HO := HO2; have BS := BS2; clear HO2 HB2 BS2 ho hb hg_ hat))
   go_roundg (padZ data.size - (j + 1))
   case measure => omega
   case rel =>
    exact ⟨j + 1, xs ++ [0], by omega, by omega, ⟨by rw [HX.out, List.cons_append, List.replicate_succ']⟩, HO, BS, HB⟩
  ·obtain rfl : j = padZ data.size := by omega
   have htest := tail_done hn HL.out
   go_wp2_with fail
   have HX2 := Aside0.mk (show xs = tailTo data.size 0 from by rw [HX.out]; simp [tailTo, lenB])
   clear HX htest hx1 HL
   go_loopg [5, 6] 9 (fun gg s5 s6 wr => ∃ (j : Nat) (k : Int) (xs : List Int), j ≤ 8 ∧ 9 ≤ gg + j ∧ s6 = .int .i64 k ∧ Aside0 (k = 56 - 8 * (j : Int)) ∧ Aside0 (xs = tailTo data.size j)
    ∧ Aside0 (Kd.R (Kd.int .u8) 5 wr w.heap.size (fun _ => True) s5 xs) ∧ Aside0 (wr.heap[w.heap.size]? = some (.cells #[.int .u32 1779033703, .int .u32 3144134277, .int .u32 1013904242, .int .u32 2773480762, .int .u32 1359893119, .int .u32 2600822924, .int .u32 528734635, .int .u32 1541459225] 89 (0, 0))) ∧ Aside0 (Below w.heap.size w wr))
   case atStart => exact ⟨0, 56, xs, Nat.zero_le _, by omega, rfl, ⟨rfl⟩, HX2, HO, BS, HB⟩
   case round =>
    clear HO BS HB HX2
    obtain ⟨j, k, xs, hj, hg, rfl, HK, HX, HO, BS, HB⟩ := hrel
    obtain ⟨A, c, hv⟩ := Kd.R_slice HO.out
    subst hv
    have hx1 : xs.length ≤ 200 := by rw [HX.out]; have := padZ_lt data.size; simp [tailTo, lenB]; omega
    rcases (by omega : j = 0 ∨ j = 1 ∨ j = 2 ∨ j = 3 ∨ j = 4 ∨ j = 5 ∨ j = 6 ∨ j = 7 ∨ j = 8) with rfl | rfl | rfl | rfl | rfl | rfl | rfl | rfl | rfl
    ·obtain rfl : k = 56 := HK.out
     go_wp2_with (first | ((with_reducible refine gate_builtin (b := .append) (xs := #[.tmp 30, .tmp 35]) rfl ?_); at_builtin; go_loud (refine Kd.R_append (Kd.int .u8) (w0 := w) w.heap.size rfl (.tmp 30) (.tmp 35) 77 5 (.int .u8 0) 1 rfl Tryd.underlying77 info5 rfl (by decide) (by omega) (.slice A xs.length c) xs ((data.size : Int) * 8 / 72057594037927936) [.int .u8 ((data.size : Int) * 8 / 72057594037927936)] (fun _ => True) (fun _ => False) rfl rfl ?aP (fun _ hk => hk.elim) ?aF ?aO ?aB ?aS ?aL ?_); (case aP => exact rfl); (case aB => exact (by repeat (first | (with_reducible first | exact HB.out | apply below_alloc | apply pw_below_drewN | apply below_drew1) | exact HB.out))); (case aF => exact (fun _ _ => trivial)); (case aO => exact HO.out); (case aS => exact (below_size (by repeat (first | (with_reducible first | exact HB.out | apply below_alloc | apply pw_below_drewN | apply below_drew1) | exact HB.out)))); (case aL => have := hx1; omega); intro v2 w2 ho hb hg_ hat; have BS2 := Aside0.mk (blk_grown BS.out hg_ (Kd.R_ne HO.out BS.out (by decide))); have HO2 := Aside0.mk ho; have HB2 := Aside0.mk hb; clear HB HO BS; have HB := HB2; have HO := HO2; have BS := BS2; clear HO2 HB2 BS2 ho hb hg_ hat))
     go_roundg (9 - 1)
     case measure => omega
     case rel =>
      refine ⟨1, 48, _, by omega, by omega, rfl, ⟨rfl⟩, ⟨?_⟩, HO, BS, HB⟩
      rw [HX.out]
      exact tail_next data.size 0 56 _ hn (by decide) (by decide) (by omega)
    ·obtain rfl : k = 48 := HK.out
     go_wp2_with (first | ((with_reducible refine gate_builtin (b := .append) (xs := #[.tmp 30, .tmp 35]) rfl ?_); at_builtin; go_loud (refine Kd.R_append (Kd.int .u8) (w0 := w) w.heap.size rfl (.tmp 30) (.tmp 35) 77 5 (.int .u8 0) 1 rfl Tryd.underlying77 info5 rfl (by decide) (by omega) (.slice A xs.length c) xs ((data.size : Int) * 8 / 281474976710656) [.int .u8 ((data.size : Int) * 8 / 281474976710656)] (fun _ => True) (fun _ => False) rfl rfl ?aP (fun _ hk => hk.elim) ?aF ?aO ?aB ?aS ?aL ?_); (case aP => exact rfl); (case aB => exact (by repeat (first | (with_reducible first | exact HB.out | apply below_alloc | apply pw_below_drewN | apply below_drew1) | exact HB.out))); (case aF => exact (fun _ _ => trivial)); (case aO => exact HO.out); (case aS => exact (below_size (by repeat (first | (with_reducible first | exact HB.out | apply below_alloc | apply pw_below_drewN | apply below_drew1) | exact HB.out)))); (case aL => have := hx1; omega); intro v2 w2 ho hb hg_ hat; have BS2 := Aside0.mk (blk_grown BS.out hg_ (Kd.R_ne HO.out BS.out (by decide))); have HO2 := Aside0.mk ho; have HB2 := Aside0.mk hb; clear HB HO BS; have HB := HB2; have HO := HO2; have BS := BS2; clear HO2 HB2 BS2 ho hb hg_ hat))
     go_roundg (9 - 2)
     case measure => omega
     case rel =>
      refine ⟨2, 40, _, by omega, by omega, rfl, ⟨rfl⟩, ⟨?_⟩, HO, BS, HB⟩
      rw [HX.out]
      exact tail_next data.size 1 48 _ hn (by decide) (by decide) (by omega)
    ·obtain rfl : k = 40 := HK.out
     go_wp2_with (first | ((with_reducible refine gate_builtin (b := .append) (xs := #[.tmp 30, .tmp 35]) rfl ?_); at_builtin; go_loud (refine Kd.R_append (Kd.int .u8) (w0 := w) w.heap.size rfl (.tmp 30) (.tmp 35) 77 5 (.int .u8 0) 1 rfl Tryd.underlying77 info5 rfl (by decide) (by omega) (.slice A xs.length c) xs ((data.size : Int) * 8 / 1099511627776) [.int .u8 ((data.size : Int) * 8 / 1099511627776)] (fun _ => True) (fun _ => False) rfl rfl ?aP (fun _ hk => hk.elim) ?aF ?aO ?aB ?aS ?aL ?_); (case aP => exact rfl); (case aB => exact (by repeat (first | (with_reducible first | exact HB.out | apply below_alloc | apply pw_below_drewN | apply below_drew1) | exact HB.out))); (case aF => exact (fun _ _ => trivial)); (case aO => exact HO.out); (case aS => exact (below_size (by repeat (first | (with_reducible first | exact HB.out | apply below_alloc | apply pw_below_drewN | apply below_drew1) | exact HB.out)))); (case aL => have := hx1; omega); intro v2 w2 ho hb hg_ hat; have BS2 := Aside0.mk (blk_grown BS.out hg_ (Kd.R_ne HO.out BS.out (by decide))); have HO2 := Aside0.mk ho; have HB2 := Aside0.mk hb; clear HB HO BS; have HB := HB2; have HO := HO2; have BS := BS2; clear HO2 HB2 BS2 ho hb hg_ hat))
     go_roundg (9 - 3)
     case measure => omega
     case rel =>
      refine ⟨3, 32, _, by omega, by omega, rfl, ⟨rfl⟩, ⟨?_⟩, HO, BS, HB⟩
      rw [HX.out]
      exact tail_next data.size 2 40 _ hn (by decide) (by decide) (by omega)
    ·obtain rfl : k = 32 := HK.out
     go_wp2_with (first | ((with_reducible refine gate_builtin (b := .append) (xs := #[.tmp 30, .tmp 35]) rfl ?_); at_builtin; go_loud (refine Kd.R_append (Kd.int .u8) (w0 := w) w.heap.size rfl (.tmp 30) (.tmp 35) 77 5 (.int .u8 0) 1 rfl Tryd.underlying77 info5 rfl (by decide) (by omega) (.slice A xs.length c) xs ((data.size : Int) * 8 / 4294967296) [.int .u8 ((data.size : Int) * 8 / 4294967296)] (fun _ => True) (fun _ => False) rfl rfl ?aP (fun _ hk => hk.elim) ?aF ?aO ?aB ?aS ?aL ?_); (case aP => exact rfl); (case aB => exact (by repeat (first | (with_reducible first | exact HB.out | apply below_alloc | apply pw_below_drewN | apply below_drew1) | exact HB.out))); (case aF => exact (fun _ _ => trivial)); (case aO => exact HO.out); (case aS => exact (below_size (by repeat (first | (with_reducible first | exact HB.out | apply below_alloc | apply pw_below_drewN | apply below_drew1) | exact HB.out)))); (case aL => have := hx1; omega); intro v2 w2 ho hb hg_ hat; have BS2 := Aside0.mk (blk_grown BS.out hg_ (Kd.R_ne HO.out BS.out (by decide))); have HO2 := Aside0.mk ho; have HB2 := Aside0.mk hb; clear HB HO BS; have HB := HB2; have HO := HO2; have BS := BS2; clear HO2 HB2 BS2 ho hb hg_ hat))
     go_roundg (9 - 4)
     case measure => omega
     case rel =>
      refine ⟨4, 24, _, by omega, by omega, rfl, ⟨rfl⟩, ⟨?_⟩, HO, BS, HB⟩
      rw [HX.out]
      exact tail_next data.size 3 32 _ hn (by decide) (by decide) (by omega)
    ·obtain rfl : k = 24 := HK.out
     go_wp2_with (first | ((with_reducible refine gate_builtin (b := .append) (xs := #[.tmp 30, .tmp 35]) rfl ?_); at_builtin; go_loud (refine Kd.R_append (Kd.int .u8) (w0 := w) w.heap.size rfl (.tmp 30) (.tmp 35) 77 5 (.int .u8 0) 1 rfl Tryd.underlying77 info5 rfl (by decide) (by omega) (.slice A xs.length c) xs ((data.size : Int) * 8 / 16777216) [.int .u8 ((data.size : Int) * 8 / 16777216)] (fun _ => True) (fun _ => False) rfl rfl ?aP (fun _ hk => hk.elim) ?aF ?aO ?aB ?aS ?aL ?_); (case aP => exact rfl); (case aB => exact (by repeat (first | (with_reducible first | exact HB.out | apply below_alloc | apply pw_below_drewN | apply below_drew1) | exact HB.out))); (case aF => exact (fun _ _ => trivial)); (case aO => exact HO.out); (case aS => exact (below_size (by repeat (first | (with_reducible first | exact HB.out | apply below_alloc | apply pw_below_drewN | apply below_drew1) | exact HB.out)))); (case aL => have := hx1; omega); intro v2 w2 ho hb hg_ hat; have BS2 := Aside0.mk (blk_grown BS.out hg_ (Kd.R_ne HO.out BS.out (by decide))); have HO2 := Aside0.mk ho; have HB2 := Aside0.mk hb; clear HB HO BS; have HB := HB2; have HO := HO2; have BS := BS2; clear HO2 HB2 BS2 ho hb hg_ hat))
     go_roundg (9 - 5)
     case measure => omega
     case rel =>
      refine ⟨5, 16, _, by omega, by omega, rfl, ⟨rfl⟩, ⟨?_⟩, HO, BS, HB⟩
      rw [HX.out]
      exact tail_next data.size 4 24 _ hn (by decide) (by decide) (by omega)
    ·obtain rfl : k = 16 := HK.out
     go_wp2_with (first | ((with_reducible refine gate_builtin (b := .append) (xs := #[.tmp 30, .tmp 35]) rfl ?_); at_builtin; go_loud (refine Kd.R_append (Kd.int .u8) (w0 := w) w.heap.size rfl (.tmp 30) (.tmp 35) 77 5 (.int .u8 0) 1 rfl Tryd.underlying77 info5 rfl (by decide) (by omega) (.slice A xs.length c) xs ((data.size : Int) * 8 / 65536) [.int .u8 ((data.size : Int) * 8 / 65536)] (fun _ => True) (fun _ => False) rfl rfl ?aP (fun _ hk => hk.elim) ?aF ?aO ?aB ?aS ?aL ?_); (case aP => exact rfl); (case aB => exact (by repeat (first | (with_reducible first | exact HB.out | apply below_alloc | apply pw_below_drewN | apply below_drew1) | exact HB.out))); (case aF => exact (fun _ _ => trivial)); (case aO => exact HO.out); (case aS => exact (below_size (by repeat (first | (with_reducible first | exact HB.out | apply below_alloc | apply pw_below_drewN | apply below_drew1) | exact HB.out)))); (case aL => have := hx1; omega); intro v2 w2 ho hb hg_ hat; have BS2 := Aside0.mk (blk_grown BS.out hg_ (Kd.R_ne HO.out BS.out (by decide))); have HO2 := Aside0.mk ho; have HB2 := Aside0.mk hb; clear HB HO BS; have HB := HB2; have HO := HO2; have BS := BS2; clear HO2 HB2 BS2 ho hb hg_ hat))
     go_roundg (9 - 6)
     case measure => omega
     case rel =>
      refine ⟨6, 8, _, by omega, by omega, rfl, ⟨rfl⟩, ⟨?_⟩, HO, BS, HB⟩
      rw [HX.out]
      exact tail_next data.size 5 16 _ hn (by decide) (by decide) (by omega)
    ·obtain rfl : k = 8 := HK.out
     go_wp2_with (first | ((with_reducible refine gate_builtin (b := .append) (xs := #[.tmp 30, .tmp 35]) rfl ?_); at_builtin; go_loud (refine Kd.R_append (Kd.int .u8) (w0 := w) w.heap.size rfl (.tmp 30) (.tmp 35) 77 5 (.int .u8 0) 1 rfl Tryd.underlying77 info5 rfl (by decide) (by omega) (.slice A xs.length c) xs ((data.size : Int) * 8 / 256 % 256) [.int .u8 ((data.size : Int) * 8 / 256 % 256)] (fun _ => True) (fun _ => False) rfl rfl ?aP (fun _ hk => hk.elim) ?aF ?aO ?aB ?aS ?aL ?_); (case aP => exact rfl); (case aB => exact (by repeat (first | (with_reducible first | exact HB.out | apply below_alloc | apply pw_below_drewN | apply below_drew1) | exact HB.out))); (case aF => exact (fun _ _ => trivial)); (case aO => exact HO.out); (case aS => exact (below_size (by repeat (first | (with_reducible first | exact HB.out | apply below_alloc | apply pw_below_drewN | apply below_drew1) | exact HB.out)))); (case aL => have := hx1; omega); intro v2 w2 ho hb hg_ hat; have BS2 := Aside0.mk (blk_grown BS.out hg_ (Kd.R_ne HO.out BS.out (by decide))); have HO2 := Aside0.mk ho; have HB2 := Aside0.mk hb; clear HB HO BS; have HB := HB2; have HO := HO2; have BS := BS2; clear HO2 HB2 BS2 ho hb hg_ hat))
     go_roundg (9 - 7)
     case measure => omega
     case rel =>
      refine ⟨7, 0, _, by omega, by omega, rfl, ⟨rfl⟩, ⟨?_⟩, HO, BS, HB⟩
      rw [HX.out]
      exact tail_next data.size 6 8 _ hn (by decide) (by decide) (by omega)
    ·obtain rfl : k = 0 := HK.out
     go_wp2_with (first | ((with_reducible refine gate_builtin (b := .append) (xs := #[.tmp 30, .tmp 35]) rfl ?_); at_builtin; go_loud (refine Kd.R_append (Kd.int .u8) (w0 := w) w.heap.size rfl (.tmp 30) (.tmp 35) 77 5 (.int .u8 0) 1 rfl Tryd.underlying77 info5 rfl (by decide) (by omega) (.slice A xs.length c) xs ((data.size : Int) * 8 % 256) [.int .u8 ((data.size : Int) * 8 % 256)] (fun _ => True) (fun _ => False) rfl rfl ?aP (fun _ hk => hk.elim) ?aF ?aO ?aB ?aS ?aL ?_); (case aP => exact rfl); (case aB => exact (by repeat (first | (with_reducible first | exact HB.out | apply below_alloc | apply pw_below_drewN | apply below_drew1) | exact HB.out))); (case aF => exact (fun _ _ => trivial)); (case aO => exact HO.out); (case aS => exact (below_size (by repeat (first | (with_reducible first | exact HB.out | apply below_alloc | apply pw_below_drewN | apply below_drew1) | exact HB.out)))); (case aL => have := hx1; omega); intro v2 w2 ho hb hg_ hat; have BS2 := Aside0.mk (blk_grown BS.out hg_ (Kd.R_ne HO.out BS.out (by decide))); have HO2 := Aside0.mk ho; have HB2 := Aside0.mk hb; clear HB HO BS; have HB := HB2; have HO := HO2; have BS := BS2; clear HO2 HB2 BS2 ho hb hg_ hat))
     go_roundg (9 - 8)
     case measure => omega
     case rel =>
      refine ⟨8, -8, _, by omega, by omega, rfl, ⟨rfl⟩, ⟨?_⟩, HO, BS, HB⟩
      rw [HX.out]
      exact tail_next data.size 7 0 _ hn (by decide) (by decide) (by omega)
    ·obtain rfl : k = -8 := HK.out
     have hcv := Kd.C_string (P := Tryd.prog) (A := A) (c := c) Tryd.underlying77 Tryd.underlying5 Tryd.underlying9 (Kd.R_reads' HO.out).2.2
     have HX0 := HX
     generalize hts : strOfNums xs = ts at hcv
     have HTS := Aside0.mk hts
     clear hts
     have htz : ts.size ≤ 200 := by rw [← HTS.out]; show ((xs.map _).toArray).size ≤ 200; simp; exact hx1
     go_wp2_with fail
     obtain ⟨nb, hnb⟩ : ∃ nb, (data ++ ts).size = 64 * nb := by
      rw [← HTS.out, HX.out]
      exact msg_size data
     generalize hM : data ++ ts = M at hnb
     have HM := Aside0.mk hM
     have hnb1 : nb ≤ 20000 := by
      have h1 : (data ++ ts).size = data.size + ts.size := ByteArray.size_append
      rw [hM] at h1
      omega
     have HNB := Aside0.mk hnb
     clear hM hnb HO hcv hx1 htz
     have BS1 : Aside0 (wr.heap[w.heap.size]? = some (.cells (shaFold shaInit M 0).cells 89 (0, 0))) := BS
     go_loopg [0] nb (fun gg s0 wr => ∃ (i : Nat) (d : ByteArray), i ≤ nb ∧ nb - i ≤ gg ∧ s0 = .string d ∧ Aside0 (d = M.extract (64 * i) M.size)
      ∧ Aside0 (wr.heap[w.heap.size]? = some (.cells (shaFold shaInit M i).cells 89 (0, 0))) ∧ Aside0 (Below w.heap.size w wr))
     case atStart => exact ⟨0, M, Nat.zero_le _, by omega, rfl, ⟨by simp⟩, BS1, HB⟩
     case round =>
      clear BS BS1 HB
      obtain ⟨i, d, hi, hg, rfl, HD, BS, HB⟩ := hrel
      have hds : d.size = 64 * (nb - i) := by rw [HD.out, ByteArray.size_extract, HNB.out]; omega
      by_cases hlt : i < nb
      ·have hds1 : 64 ≤ d.size := by omega
       have hds2 : d.size ≤ 1280000 := by omega
       have hds3 : (64 : Int) ≤ (d.size : Int) := by omega
       have HDS := Aside0.mk hds
       clear hds
       have hne : ¬ d.toList = [] := by
        intro h
        have h2 : d.toList.length = 0 := by rw [h]; rfl
        rw [ByteArray.toList_eq] at h2
        have h3 : d.data.toList.length = d.size := rfl
        omega
       have hne2 : (!d.toList.isEmpty) = true := by simp [hne]
       have hst := BS.out
       generalize hs : shaFold shaInit M i = st at hst
       have HS := Aside0.mk hs
       clear hs BS
       obtain ⟨a, b, c', d', e, f, g, h⟩ := st
       have c0 : wr.cell? ⟨w.heap.size, 0, none⟩ = some (.int .u32 a) := blk_cell hst 0
       have c1 : wr.cell? ⟨w.heap.size, 1, none⟩ = some (.int .u32 b) := blk_cell hst 1
       have c2 : wr.cell? ⟨w.heap.size, 2, none⟩ = some (.int .u32 c') := blk_cell hst 2
       have c3 : wr.cell? ⟨w.heap.size, 3, none⟩ = some (.int .u32 d') := blk_cell hst 3
       have c4 : wr.cell? ⟨w.heap.size, 4, none⟩ = some (.int .u32 e) := blk_cell hst 4
       have c5 : wr.cell? ⟨w.heap.size, 5, none⟩ = some (.int .u32 f) := blk_cell hst 5
       have c6 : wr.cell? ⟨w.heap.size, 6, none⟩ = some (.int .u32 g) := blk_cell hst 6
       have c7 : wr.cell? ⟨w.heap.size, 7, none⟩ = some (.int .u32 h) := blk_cell hst 7
       have BS := Aside0.mk hst
       clear hst
       go_wp2_with fail
       go_still_tail 3, (by kernel_rfl)
       change wpList _ _ _ _ _ wr.drew
       replace HB := Aside0.mk (below_drew1 HB.out)
       replace BS := Aside0.mk (blk_drew BS.out)
       generalize wr.drew = W at HB BS ⊢
       clear c0 c1 c2 c3 c4 c5 c6 c7
       have hex : (d.extract 0 64).size = 64 := by rw [ByteArray.size_extract]; omega
       go_wp2_with fail
       refine (block56 ⟨a, b, c', d', e, f, g, h⟩ (d.extract 0 64) W hex).mono ?_
       rintro e1 w1 ⟨rfl, hb1⟩
       have HB1 := Aside0.mk (below_step HB.out hb1)
       have BS1 := Aside0.mk (blk_below BS.out hb1)
       clear hb1 HB BS hex
       generalize hns : shaBlock ⟨a, b, c', d', e, f, g, h⟩ (d.extract 0 64) = ns
       have HNS := Aside0.mk hns
       clear hns
       obtain ⟨n0, n1, n2, n3, n4, n5, n6, n7⟩ := ns
       go_wp2_with (((with_reducible refine gate_store (t := 89) (p := 3) (v := .tmp 48) rfl ?_); refine store_event rfl 89 (.tmp 3) (.tmp 48) rfl rfl w.heap.size #[.int .u32 n0, .int .u32 n1, .int .u32 n2, .int .u32 n3, .int .u32 n4, .int .u32 n5, .int .u32 n6, .int .u32 n7] rfl rfl 89 _ BS1.out (by kernel_rfl) (by rfl) (by simp [Value.oneCell']) ?_; intro w6 hb6 hG6))
       go_roundg (nb - (i + 1))
       case measure => omega
       case rel =>
        refine ⟨i + 1, _, by omega, by omega, rfl, ⟨?_⟩, ⟨?_⟩, ⟨pw_below_grown HB1.out _ HB1.out.size hG6 (fun k hk => by injection hk with hk; omega)⟩⟩
        ·rw [HD.out]
         exact msg_rest M i (by have := HNB.out; omega)
        ·rw [hb6]
         show some (Obj.cells (H8.cells ⟨n0, n1, n2, n3, n4, n5, n6, n7⟩) 89) = _
         unfold shaFold
         rw [HS.out, ← HNS.out, HD.out, msg_block M i (by have := HNB.out; omega)]
      ·obtain rfl : i = nb := by omega
       have hds1 : d.size = 0 := by omega
       have hde : d = ⟨#[]⟩ := by
        rcases d with ⟨⟨l⟩⟩
        have : l.length = 0 := hds1
        cases l with
        | nil => rfl
        | cons x l => simp at this
       subst hde
       clear hds hds1 HD
       have hst := BS.out
       generalize hs : shaFold shaInit M i = st at hst
       have HS := Aside0.mk hs
       clear hs BS
       obtain ⟨a0, a1, a2, a3, a4, a5, a6, a7⟩ := st
       have c0 : wr.cell? ⟨w.heap.size, 0, none⟩ = some (.int .u32 a0) := blk_cell hst 0
       have c1 : wr.cell? ⟨w.heap.size, 1, none⟩ = some (.int .u32 a1) := blk_cell hst 1
       have c2 : wr.cell? ⟨w.heap.size, 2, none⟩ = some (.int .u32 a2) := blk_cell hst 2
       have c3 : wr.cell? ⟨w.heap.size, 3, none⟩ = some (.int .u32 a3) := blk_cell hst 3
       have c4 : wr.cell? ⟨w.heap.size, 4, none⟩ = some (.int .u32 a4) := blk_cell hst 4
       have c5 : wr.cell? ⟨w.heap.size, 5, none⟩ = some (.int .u32 a5) := blk_cell hst 5
       have c6 : wr.cell? ⟨w.heap.size, 6, none⟩ = some (.int .u32 a6) := blk_cell hst 6
       have c7 : wr.cell? ⟨w.heap.size, 7, none⟩ = some (.int .u32 a7) := blk_cell hst 7
       clear hst
       go_wp2_with fail
       clear c0 c1 c2 c3 c4 c5 c6 c7
       have HO := Aside0.mk (Kd.R_nil (Kd.int .u8) 5 wr w.heap.size (fun _ => True))
       go_loopg [7, 50] 9 (fun gg s7 s50 wr => ∃ (k : Nat) (xs : List Int), k ≤ 8 ∧ 9 ≤ gg + k ∧ s50 = .int .i64 k ∧ Aside0 (xs = outTo ⟨a0, a1, a2, a3, a4, a5, a6, a7⟩ k)
        ∧ Aside0 (Kd.R (Kd.int .u8) 5 wr w.heap.size (fun _ => True) s7 xs) ∧ Aside0 (Below w.heap.size w wr))
       case atStart => exact ⟨0, [], by omega, by omega, rfl, ⟨rfl⟩, HO, HB⟩
       case round =>
        clear HO HB
        obtain ⟨k, xs, hk, hg, rfl, HX, HO, HB⟩ := hrel
        obtain ⟨A, c, hv⟩ := Kd.R_slice HO.out
        subst hv
        have hx1 : xs.length ≤ 40 := by rw [HX.out, outTo_length _ _ hk]; omega
        rcases (by omega : k = 0 ∨ k = 1 ∨ k = 2 ∨ k = 3 ∨ k = 4 ∨ k = 5 ∨ k = 6 ∨ k = 7 ∨ k = 8) with rfl | rfl | rfl | rfl | rfl | rfl | rfl | rfl | rfl
        ·have ix : ∀ W, (Instr.index 89 (.agg #[.int .u32 a0, .int .u32 a1, .int .u32 a2, .int .u32 a3, .int .u32 a4, .int .u32 a5, .int .u32 a6, .int .u32 a7]) (.int .i64 0)).run Tryd.prog W = .ok (.int .u32 a0) W := fun _ => by kernel_rfl
         go_wp2_with (first | ((with_reducible refine gate_builtin (b := .append) (xs := #[.tmp 53, .tmp 65]) rfl ?_); at_builtin; refine Kd.R_append_row (Value.int .u8) (0 : Int) (h1 := fun _ => rfl) (w0 := w) w.heap.size rfl (.tmp 53) (.tmp 65) 77 5 (.int .u8 0) 1 rfl Tryd.underlying77 info5 rfl (by decide) (.slice A xs.length c) xs ([a0 / 16777216 % 256, a0 / 65536 % 256, a0 / 256 % 256, a0 % 256] : List Int) (some ⟨wr.heap.size, 0, none⟩) 4 4 (fun _ => True) rfl rfl (fun _ _ => trivial) ?aO ?aR ?aB ?aS ?aL ?_; (case aO => exact Kd.R_alloc HO.out _); (case aR => exact C_of_blk (blk_new wr _) rfl (by omega)); (case aB => exact (by repeat (first | (with_reducible first | exact HB.out | apply below_alloc | apply pw_below_drewN | apply below_drew1) | exact HB.out))); (case aS => exact (below_size (by repeat (first | (with_reducible first | exact HB.out | apply below_alloc | apply pw_below_drewN | apply below_drew1) | exact HB.out)))); (case aL => have := hx1; omega); intro v2 w2 ho hb hg_ hat; have HO2 := Aside0.mk ho; have HB2 := Aside0.mk hb; clear HB HO; have HB := HB2; have HO := HO2; clear HO2 HB2 ho hb hg_ hat))
         go_roundg (9 - 1)
         case measure => omega
         case rel => exact ⟨1, _, by omega, by omega, rfl, ⟨by rw [HX.out]; rfl⟩, HO, HB⟩
        ·have ix : ∀ W, (Instr.index 89 (.agg #[.int .u32 a0, .int .u32 a1, .int .u32 a2, .int .u32 a3, .int .u32 a4, .int .u32 a5, .int .u32 a6, .int .u32 a7]) (.int .i64 1)).run Tryd.prog W = .ok (.int .u32 a1) W := fun _ => by kernel_rfl
         go_wp2_with (first | ((with_reducible refine gate_builtin (b := .append) (xs := #[.tmp 53, .tmp 65]) rfl ?_); at_builtin; refine Kd.R_append_row (Value.int .u8) (0 : Int) (h1 := fun _ => rfl) (w0 := w) w.heap.size rfl (.tmp 53) (.tmp 65) 77 5 (.int .u8 0) 1 rfl Tryd.underlying77 info5 rfl (by decide) (.slice A xs.length c) xs ([a1 / 16777216 % 256, a1 / 65536 % 256, a1 / 256 % 256, a1 % 256] : List Int) (some ⟨wr.heap.size, 0, none⟩) 4 4 (fun _ => True) rfl rfl (fun _ _ => trivial) ?aO ?aR ?aB ?aS ?aL ?_; (case aO => exact Kd.R_alloc HO.out _); (case aR => exact C_of_blk (blk_new wr _) rfl (by omega)); (case aB => exact (by repeat (first | (with_reducible first | exact HB.out | apply below_alloc | apply pw_below_drewN | apply below_drew1) | exact HB.out))); (case aS => exact (below_size (by repeat (first | (with_reducible first | exact HB.out | apply below_alloc | apply pw_below_drewN | apply below_drew1) | exact HB.out)))); (case aL => have := hx1; omega); intro v2 w2 ho hb hg_ hat; have HO2 := Aside0.mk ho; have HB2 := Aside0.mk hb; clear HB HO; have HB := HB2; have HO := HO2; clear HO2 HB2 ho hb hg_ hat))
         go_roundg (9 - 2)
         case measure => omega
         case rel => exact ⟨2, _, by omega, by omega, rfl, ⟨by rw [HX.out]; rfl⟩, HO, HB⟩
        ·have ix : ∀ W, (Instr.index 89 (.agg #[.int .u32 a0, .int .u32 a1, .int .u32 a2, .int .u32 a3, .int .u32 a4, .int .u32 a5, .int .u32 a6, .int .u32 a7]) (.int .i64 2)).run Tryd.prog W = .ok (.int .u32 a2) W := fun _ => by kernel_rfl
         go_wp2_with (first | ((with_reducible refine gate_builtin (b := .append) (xs := #[.tmp 53, .tmp 65]) rfl ?_); at_builtin; refine Kd.R_append_row (Value.int .u8) (0 : Int) (h1 := fun _ => rfl) (w0 := w) w.heap.size rfl (.tmp 53) (.tmp 65) 77 5 (.int .u8 0) 1 rfl Tryd.underlying77 info5 rfl (by decide) (.slice A xs.length c) xs ([a2 / 16777216 % 256, a2 / 65536 % 256, a2 / 256 % 256, a2 % 256] : List Int) (some ⟨wr.heap.size, 0, none⟩) 4 4 (fun _ => True) rfl rfl (fun _ _ => trivial) ?aO ?aR ?aB ?aS ?aL ?_; (case aO => exact Kd.R_alloc HO.out _); (case aR => exact C_of_blk (blk_new wr _) rfl (by omega)); (case aB => exact (by repeat (first | (with_reducible first | exact HB.out | apply below_alloc | apply pw_below_drewN | apply below_drew1) | exact HB.out))); (case aS => exact (below_size (by repeat (first | (with_reducible first | exact HB.out | apply below_alloc | apply pw_below_drewN | apply below_drew1) | exact HB.out)))); (case aL => have := hx1; omega); intro v2 w2 ho hb hg_ hat; have HO2 := Aside0.mk ho; have HB2 := Aside0.mk hb; clear HB HO; have HB := HB2; have HO := HO2; clear HO2 HB2 ho hb hg_ hat))
         go_roundg (9 - 3)
         case measure => omega
         case rel => exact ⟨3, _, by omega, by omega, rfl, ⟨by rw [HX.out]; rfl⟩, HO, HB⟩
        ·have ix : ∀ W, (Instr.index 89 (.agg #[.int .u32 a0, .int .u32 a1, .int .u32 a2, .int .u32 a3, .int .u32 a4, .int .u32 a5, .int .u32 a6, .int .u32 a7]) (.int .i64 3)).run Tryd.prog W = .ok (.int .u32 a3) W := fun _ => by kernel_rfl
         go_wp2_with (first | ((with_reducible refine gate_builtin (b := .append) (xs := #[.tmp 53, .tmp 65]) rfl ?_); at_builtin; refine Kd.R_append_row (Value.int .u8) (0 : Int) (h1 := fun _ => rfl) (w0 := w) w.heap.size rfl (.tmp 53) (.tmp 65) 77 5 (.int .u8 0) 1 rfl Tryd.underlying77 info5 rfl (by decide) (.slice A xs.length c) xs ([a3 / 16777216 % 256, a3 / 65536 % 256, a3 / 256 % 256, a3 % 256] : List Int) (some ⟨wr.heap.size, 0, none⟩) 4 4 (fun _ => True) rfl rfl (fun _ _ => trivial) ?aO ?aR ?aB ?aS ?aL ?_; (case aO => exact Kd.R_alloc HO.out _); (case aR => exact C_of_blk (blk_new wr _) rfl (by omega)); (case aB => exact (by repeat (first | (with_reducible first | exact HB.out | apply below_alloc | apply pw_below_drewN | apply below_drew1) | exact HB.out))); (case aS => exact (below_size (by repeat (first | (with_reducible first | exact HB.out | apply below_alloc | apply pw_below_drewN | apply below_drew1) | exact HB.out)))); (case aL => have := hx1; omega); intro v2 w2 ho hb hg_ hat; have HO2 := Aside0.mk ho; have HB2 := Aside0.mk hb; clear HB HO; have HB := HB2; have HO := HO2; clear HO2 HB2 ho hb hg_ hat))
         go_roundg (9 - 4)
         case measure => omega
         case rel => exact ⟨4, _, by omega, by omega, rfl, ⟨by rw [HX.out]; rfl⟩, HO, HB⟩
        ·have ix : ∀ W, (Instr.index 89 (.agg #[.int .u32 a0, .int .u32 a1, .int .u32 a2, .int .u32 a3, .int .u32 a4, .int .u32 a5, .int .u32 a6, .int .u32 a7]) (.int .i64 4)).run Tryd.prog W = .ok (.int .u32 a4) W := fun _ => by kernel_rfl
         go_wp2_with (first | ((with_reducible refine gate_builtin (b := .append) (xs := #[.tmp 53, .tmp 65]) rfl ?_); at_builtin; refine Kd.R_append_row (Value.int .u8) (0 : Int) (h1 := fun _ => rfl) (w0 := w) w.heap.size rfl (.tmp 53) (.tmp 65) 77 5 (.int .u8 0) 1 rfl Tryd.underlying77 info5 rfl (by decide) (.slice A xs.length c) xs ([a4 / 16777216 % 256, a4 / 65536 % 256, a4 / 256 % 256, a4 % 256] : List Int) (some ⟨wr.heap.size, 0, none⟩) 4 4 (fun _ => True) rfl rfl (fun _ _ => trivial) ?aO ?aR ?aB ?aS ?aL ?_; (case aO => exact Kd.R_alloc HO.out _); (case aR => exact C_of_blk (blk_new wr _) rfl (by omega)); (case aB => exact (by repeat (first | (with_reducible first | exact HB.out | apply below_alloc | apply pw_below_drewN | apply below_drew1) | exact HB.out))); (case aS => exact (below_size (by repeat (first | (with_reducible first | exact HB.out | apply below_alloc | apply pw_below_drewN | apply below_drew1) | exact HB.out)))); (case aL => have := hx1; omega); intro v2 w2 ho hb hg_ hat; have HO2 := Aside0.mk ho; have HB2 := Aside0.mk hb; clear HB HO; have HB := HB2; have HO := HO2; clear HO2 HB2 ho hb hg_ hat))
         go_roundg (9 - 5)
         case measure => omega
         case rel => exact ⟨5, _, by omega, by omega, rfl, ⟨by rw [HX.out]; rfl⟩, HO, HB⟩
        ·have ix : ∀ W, (Instr.index 89 (.agg #[.int .u32 a0, .int .u32 a1, .int .u32 a2, .int .u32 a3, .int .u32 a4, .int .u32 a5, .int .u32 a6, .int .u32 a7]) (.int .i64 5)).run Tryd.prog W = .ok (.int .u32 a5) W := fun _ => by kernel_rfl
         go_wp2_with (first | ((with_reducible refine gate_builtin (b := .append) (xs := #[.tmp 53, .tmp 65]) rfl ?_); at_builtin; refine Kd.R_append_row (Value.int .u8) (0 : Int) (h1 := fun _ => rfl) (w0 := w) w.heap.size rfl (.tmp 53) (.tmp 65) 77 5 (.int .u8 0) 1 rfl Tryd.underlying77 info5 rfl (by decide) (.slice A xs.length c) xs ([a5 / 16777216 % 256, a5 / 65536 % 256, a5 / 256 % 256, a5 % 256] : List Int) (some ⟨wr.heap.size, 0, none⟩) 4 4 (fun _ => True) rfl rfl (fun _ _ => trivial) ?aO ?aR ?aB ?aS ?aL ?_; (case aO => exact Kd.R_alloc HO.out _); (case aR => exact C_of_blk (blk_new wr _) rfl (by omega)); (case aB => exact (by repeat (first | (with_reducible first | exact HB.out | apply below_alloc | apply pw_below_drewN | apply below_drew1) | exact HB.out))); (case aS => exact (below_size (by repeat (first | (with_reducible first | exact HB.out | apply below_alloc | apply pw_below_drewN | apply below_drew1) | exact HB.out)))); (case aL => have := hx1; omega); intro v2 w2 ho hb hg_ hat; have HO2 := Aside0.mk ho; have HB2 := Aside0.mk hb; clear HB HO; have HB := HB2; have HO := HO2; clear HO2 HB2 ho hb hg_ hat))
         go_roundg (9 - 6)
         case measure => omega
         case rel => exact ⟨6, _, by omega, by omega, rfl, ⟨by rw [HX.out]; rfl⟩, HO, HB⟩
        ·have ix : ∀ W, (Instr.index 89 (.agg #[.int .u32 a0, .int .u32 a1, .int .u32 a2, .int .u32 a3, .int .u32 a4, .int .u32 a5, .int .u32 a6, .int .u32 a7]) (.int .i64 6)).run Tryd.prog W = .ok (.int .u32 a6) W := fun _ => by kernel_rfl
         go_wp2_with (first | ((with_reducible refine gate_builtin (b := .append) (xs := #[.tmp 53, .tmp 65]) rfl ?_); at_builtin; refine Kd.R_append_row (Value.int .u8) (0 : Int) (h1 := fun _ => rfl) (w0 := w) w.heap.size rfl (.tmp 53) (.tmp 65) 77 5 (.int .u8 0) 1 rfl Tryd.underlying77 info5 rfl (by decide) (.slice A xs.length c) xs ([a6 / 16777216 % 256, a6 / 65536 % 256, a6 / 256 % 256, a6 % 256] : List Int) (some ⟨wr.heap.size, 0, none⟩) 4 4 (fun _ => True) rfl rfl (fun _ _ => trivial) ?aO ?aR ?aB ?aS ?aL ?_; (case aO => exact Kd.R_alloc HO.out _); (case aR => exact C_of_blk (blk_new wr _) rfl (by omega)); (case aB => exact (by repeat (first | (with_reducible first | exact HB.out | apply below_alloc | apply pw_below_drewN | apply below_drew1) | exact HB.out))); (case aS => exact (below_size (by repeat (first | (with_reducible first | exact HB.out | apply below_alloc | apply pw_below_drewN | apply below_drew1) | exact HB.out)))); (case aL => have := hx1; omega); intro v2 w2 ho hb hg_ hat; have HO2 := Aside0.mk ho; have HB2 := Aside0.mk hb; clear HB HO; have HB := HB2; have HO := HO2; clear HO2 HB2 ho hb hg_ hat))
         go_roundg (9 - 7)
         case measure => omega
         case rel => exact ⟨7, _, by omega, by omega, rfl, ⟨by rw [HX.out]; rfl⟩, HO, HB⟩
        ·have ix : ∀ W, (Instr.index 89 (.agg #[.int .u32 a0, .int .u32 a1, .int .u32 a2, .int .u32 a3, .int .u32 a4, .int .u32 a5, .int .u32 a6, .int .u32 a7]) (.int .i64 7)).run Tryd.prog W = .ok (.int .u32 a7) W := fun _ => by kernel_rfl
         go_wp2_with (first | ((with_reducible refine gate_builtin (b := .append) (xs := #[.tmp 53, .tmp 65]) rfl ?_); at_builtin; refine Kd.R_append_row (Value.int .u8) (0 : Int) (h1 := fun _ => rfl) (w0 := w) w.heap.size rfl (.tmp 53) (.tmp 65) 77 5 (.int .u8 0) 1 rfl Tryd.underlying77 info5 rfl (by decide) (.slice A xs.length c) xs ([a7 / 16777216 % 256, a7 / 65536 % 256, a7 / 256 % 256, a7 % 256] : List Int) (some ⟨wr.heap.size, 0, none⟩) 4 4 (fun _ => True) rfl rfl (fun _ _ => trivial) ?aO ?aR ?aB ?aS ?aL ?_; (case aO => exact Kd.R_alloc HO.out _); (case aR => exact C_of_blk (blk_new wr _) rfl (by omega)); (case aB => exact (by repeat (first | (with_reducible first | exact HB.out | apply below_alloc | apply pw_below_drewN | apply below_drew1) | exact HB.out))); (case aS => exact (below_size (by repeat (first | (with_reducible first | exact HB.out | apply below_alloc | apply pw_below_drewN | apply below_drew1) | exact HB.out)))); (case aL => have := hx1; omega); intro v2 w2 ho hb hg_ hat; have HO2 := Aside0.mk ho; have HB2 := Aside0.mk hb; clear HB HO; have HB := HB2; have HO := HO2; clear HO2 HB2 ho hb hg_ hat))
         go_roundg (9 - 8)
         case measure => omega
         case rel => exact ⟨8, _, by omega, by omega, rfl, ⟨by rw [HX.out]; rfl⟩, HO, HB⟩
        ·have hcv := Kd.C_string (P := Tryd.prog) (A := A) (c := c) Tryd.underlying77 Tryd.underlying5 Tryd.underlying9 (Kd.R_reads' HO.out).2.2
         generalize hts : strOfNums xs = rs at hcv
         have HRS := Aside0.mk hts
         clear hts
         go_wp2_with fail
         go_ret
         refine ⟨?_, HB.out⟩
         have hq : M.size / 64 = i := by have := HNB.out; omega
         show Ending.returned (Value.string rs) = _
         rw [← HRS.out, HX.out, ← HS.out]
         unfold shaSum
         have hM2 : data ++ strOfNums (tailTo data.size 8) = M := by rw [← HX0.out, HTS.out, HM.out]
         simp only [hM2, hq]
end Go.Proofs.YtbfimjncophcaaaDoor.Pr
namespace Go.Proofs.YtbfimjncophcaaaDoor.Pr
set_option linter.unusedVariables false
set_option linter.unusedSimpArgs false
open Go.RowKit Go.Proofs.YtbfimjncophcaaaDoorW.PrintWords
def record_Sum.f (s : ByteArray) : Option ByteArray := if s.size ≤ 1048576 then some (shaSum s) else none
theorem record_Sum.calls (a0 r : ByteArray) (w : World) (h : record_Sum.f a0 = some r) :
  Calls Tryd.prog 34 #[.string a0] w fun e w' => e = .returned (.string r) ∧ Below w.heap.size w w' := by
 unfold record_Sum.f at h
 by_cases hc : a0.size ≤ 1048576
 case neg => rw [if_neg hc] at h; cases h
 rw [if_pos hc] at h
 injection h with h
 subst h
 exact sum34 a0 w hc
end Go.Proofs.YtbfimjncophcaaaDoor.Pr
namespace Go.Proofs.YtbfimjncophcaaaDoor.Pr
open Go.RowKit Go.Proofs.YtbfimjncophcaaaDoorW.PrintWords Go.Proofs.YtbfimjncophcaaaDoorW.PrintLast Go.Proofs.YtbfimjncophcaaaDoorW.PrintMore
attribute [local go_sem] max2_int min2_int max_two min_two max_three min_three max_four min_four
set_option linter.unusedVariables false
set_option linter.unusedSimpArgs false
def approval_code.f (a0 : ByteArray) (a1_0 : Int) (a1_1 : Int) (a1_2 : ByteArray) (a1_3 : ByteArray) : Option (ByteArray) := (strconv_Itoa_59.f a1_0).bind fun t122 => (if t122.size + 1 ≤ 9223372036854775807 then ((strconv_Itoa_59.f a1_1).bind fun t123 => (if (t122 ++ (⟨#[32]⟩ : ByteArray)).size + t123.size ≤ 9223372036854775807 then (if ((t122 ++ (⟨#[32]⟩ : ByteArray)) ++ t123).size + 1 ≤ 9223372036854775807 then (if (((t122 ++ (⟨#[32]⟩ : ByteArray)) ++ t123) ++ (⟨#[32]⟩ : ByteArray)).size + a1_2.size ≤ 9223372036854775807 then ((approval_pad.f a0 92).bind fun t124 => ((approval_pad.f a0 54).bind fun t125 => (if t125.size + ((((t122 ++ (⟨#[32]⟩ : ByteArray)) ++ t123) ++ (⟨#[32]⟩ : ByteArray)) ++ a1_2).size ≤ 9223372036854775807 then ((record_Sum.f (t125 ++ ((((t122 ++ (⟨#[32]⟩ : ByteArray)) ++ t123) ++ (⟨#[32]⟩ : ByteArray)) ++ a1_2))).bind fun t126 => (if t124.size + t126.size ≤ 9223372036854775807 then ((record_Sum.f (t124 ++ t126)).bind fun t127 => (some t127)) else (none))) else (none)))) else (none)) else (none)) else (none))) else (none))
def approval_code.T1 : Bool × List (List Nat × List Nat) := (true, [([], []), ([0], [0]), ([1], [1]), ([2], [2]), ([], []), ([4], [4]), ([5, 2], [5]), ([3, 6], [3, 6]), ([7], [7]), ([], []), ([9], [9]), ([8, 10], [8, 10]), ([11, 6, 0, 1, 2, 3, 4, 5, 6, 7, 8, 9, 10, 11], [11])])
def approval_code.B1 : List Nat := [0, 1, 3, 7, 0, 16, 55, 127, 255, 0, 512, 2047, 4095]
theorem approval_code.tab1 : rtab .any (opsOf Tryd.f37 1) = approval_code.T1 := by kernel_rfl
theorem approval_code.bits1 : waitsOk approval_code.T1.2 approval_code.B1 = true := by kernel_rfl
set_option maxHeartbeats 8000000 in
set_option maxRecDepth 100000 in
theorem approval_code.calls (a0 : ByteArray) (a1_0 : Int) (a1_1 : Int) (a1_2 : ByteArray) (a1_3 : ByteArray) (r : ByteArray) (w : World) (hL : LaidW w) (h : approval_code.f a0 a1_0 a1_1 a1_2 a1_3 = some r) :
  Calls Tryd.prog 37 #[.string a0, .agg #[.int .i64 a1_0, .int .i64 a1_1, .string a1_2, .string a1_3]] w fun e w' => e = .returned (.string r) ∧ Below w.heap.size w w' := by
 have hu25 := Tryd.underlying25
 have HB := Aside0.mk (Below.refl w.heap.size w)
 have HLW := Aside0.mk hL
 clear hL
 have H : ((strconv_Itoa_59.f a1_0).bind fun t122 => (if t122.size + 1 ≤ 9223372036854775807 then ((strconv_Itoa_59.f a1_1).bind fun t123 => (if (t122 ++ (⟨#[32]⟩ : ByteArray)).size + t123.size ≤ 9223372036854775807 then (if ((t122 ++ (⟨#[32]⟩ : ByteArray)) ++ t123).size + 1 ≤ 9223372036854775807 then (if (((t122 ++ (⟨#[32]⟩ : ByteArray)) ++ t123) ++ (⟨#[32]⟩ : ByteArray)).size + a1_2.size ≤ 9223372036854775807 then ((approval_pad.f a0 92).bind fun t124 => ((approval_pad.f a0 54).bind fun t125 => (if t125.size + ((((t122 ++ (⟨#[32]⟩ : ByteArray)) ++ t123) ++ (⟨#[32]⟩ : ByteArray)) ++ a1_2).size ≤ 9223372036854775807 then ((record_Sum.f (t125 ++ ((((t122 ++ (⟨#[32]⟩ : ByteArray)) ++ t123) ++ (⟨#[32]⟩ : ByteArray)) ++ a1_2))).bind fun t126 => (if t124.size + t126.size ≤ 9223372036854775807 then ((record_Sum.f (t124 ++ t126)).bind fun t127 => (some t127)) else (none))) else (none)))) else (none)) else (none)) else (none))) else (none))) = some r := h
 clear h
 replace H := Option.bind_eq_some_iff.mp H
 obtain ⟨t122, A30, H⟩ := H
 replace H : (if t122.size + 1 ≤ 9223372036854775807 then ((strconv_Itoa_59.f a1_1).bind fun t123 => (if (t122 ++ (⟨#[32]⟩ : ByteArray)).size + t123.size ≤ 9223372036854775807 then (if ((t122 ++ (⟨#[32]⟩ : ByteArray)) ++ t123).size + 1 ≤ 9223372036854775807 then (if (((t122 ++ (⟨#[32]⟩ : ByteArray)) ++ t123) ++ (⟨#[32]⟩ : ByteArray)).size + a1_2.size ≤ 9223372036854775807 then ((approval_pad.f a0 92).bind fun t124 => ((approval_pad.f a0 54).bind fun t125 => (if t125.size + ((((t122 ++ (⟨#[32]⟩ : ByteArray)) ++ t123) ++ (⟨#[32]⟩ : ByteArray)) ++ a1_2).size ≤ 9223372036854775807 then ((record_Sum.f (t125 ++ ((((t122 ++ (⟨#[32]⟩ : ByteArray)) ++ t123) ++ (⟨#[32]⟩ : ByteArray)) ++ a1_2))).bind fun t126 => (if t124.size + t126.size ≤ 9223372036854775807 then ((record_Sum.f (t124 ++ t126)).bind fun t127 => (some t127)) else (none))) else (none)))) else (none)) else (none)) else (none))) else (none)) = some r := H
 have A3 := Aside0.mk A30
 clear A30
 by_cases c4 : t122.size + 1 ≤ 9223372036854775807
 ·rw [if_pos c4] at H
  have c4b0 := eq_true c4
  have c4b1 : decide (t122.size + 1 ≤ 9223372036854775807) = true := decide_eq_true c4
  try have c4b2 : (9223372036854775807 < t122.size + 1) = False := eq_false (Nat.not_lt.2 c4)
  replace H := Option.bind_eq_some_iff.mp H
  obtain ⟨t123, A50, H⟩ := H
  replace H : (if (t122 ++ (⟨#[32]⟩ : ByteArray)).size + t123.size ≤ 9223372036854775807 then (if ((t122 ++ (⟨#[32]⟩ : ByteArray)) ++ t123).size + 1 ≤ 9223372036854775807 then (if (((t122 ++ (⟨#[32]⟩ : ByteArray)) ++ t123) ++ (⟨#[32]⟩ : ByteArray)).size + a1_2.size ≤ 9223372036854775807 then ((approval_pad.f a0 92).bind fun t124 => ((approval_pad.f a0 54).bind fun t125 => (if t125.size + ((((t122 ++ (⟨#[32]⟩ : ByteArray)) ++ t123) ++ (⟨#[32]⟩ : ByteArray)) ++ a1_2).size ≤ 9223372036854775807 then ((record_Sum.f (t125 ++ ((((t122 ++ (⟨#[32]⟩ : ByteArray)) ++ t123) ++ (⟨#[32]⟩ : ByteArray)) ++ a1_2))).bind fun t126 => (if t124.size + t126.size ≤ 9223372036854775807 then ((record_Sum.f (t124 ++ t126)).bind fun t127 => (some t127)) else (none))) else (none)))) else (none)) else (none)) else (none)) = some r := H
  have A5 := Aside0.mk A50
  clear A50
  by_cases c6 : (t122 ++ (⟨#[32]⟩ : ByteArray)).size + t123.size ≤ 9223372036854775807
  ·rw [if_pos c6] at H
   have c6b0 := eq_true c6
   have c6b1 : decide ((t122 ++ (⟨#[32]⟩ : ByteArray)).size + t123.size ≤ 9223372036854775807) = true := decide_eq_true c6
   try have c6b2 : (9223372036854775807 < (t122 ++ (⟨#[32]⟩ : ByteArray)).size + t123.size) = False := eq_false (Nat.not_lt.2 c6)
   try (have c6b3 := c6b2; simp only [ByteArray.size_append, (show (⟨#[32]⟩ : ByteArray).size = 1 from rfl)] at c6b3)
   by_cases c7 : ((t122 ++ (⟨#[32]⟩ : ByteArray)) ++ t123).size + 1 ≤ 9223372036854775807
   ·rw [if_pos c7] at H
    have c7b0 := eq_true c7
    have c7b1 : decide (((t122 ++ (⟨#[32]⟩ : ByteArray)) ++ t123).size + 1 ≤ 9223372036854775807) = true := decide_eq_true c7
    try have c7b2 : (9223372036854775807 < ((t122 ++ (⟨#[32]⟩ : ByteArray)) ++ t123).size + 1) = False := eq_false (Nat.not_lt.2 c7)
    try (have c7b3 := c7b2; simp only [ByteArray.size_append, (show (⟨#[32]⟩ : ByteArray).size = 1 from rfl)] at c7b3)
    by_cases c8 : (((t122 ++ (⟨#[32]⟩ : ByteArray)) ++ t123) ++ (⟨#[32]⟩ : ByteArray)).size + a1_2.size ≤ 9223372036854775807
    ·rw [if_pos c8] at H
     have c8b0 := eq_true c8
     have c8b1 : decide ((((t122 ++ (⟨#[32]⟩ : ByteArray)) ++ t123) ++ (⟨#[32]⟩ : ByteArray)).size + a1_2.size ≤ 9223372036854775807) = true := decide_eq_true c8
     try have c8b2 : (9223372036854775807 < (((t122 ++ (⟨#[32]⟩ : ByteArray)) ++ t123) ++ (⟨#[32]⟩ : ByteArray)).size + a1_2.size) = False := eq_false (Nat.not_lt.2 c8)
     try (have c8b3 := c8b2; simp only [ByteArray.size_append, (show (⟨#[32]⟩ : ByteArray).size = 1 from rfl)] at c8b3)
     replace H := Option.bind_eq_some_iff.mp H
     obtain ⟨t124, A90, H⟩ := H
     replace H : ((approval_pad.f a0 54).bind fun t125 => (if t125.size + ((((t122 ++ (⟨#[32]⟩ : ByteArray)) ++ t123) ++ (⟨#[32]⟩ : ByteArray)) ++ a1_2).size ≤ 9223372036854775807 then ((record_Sum.f (t125 ++ ((((t122 ++ (⟨#[32]⟩ : ByteArray)) ++ t123) ++ (⟨#[32]⟩ : ByteArray)) ++ a1_2))).bind fun t126 => (if t124.size + t126.size ≤ 9223372036854775807 then ((record_Sum.f (t124 ++ t126)).bind fun t127 => (some t127)) else (none))) else (none))) = some r := H
     have A9 := Aside0.mk A90
     clear A90
     replace H := Option.bind_eq_some_iff.mp H
     obtain ⟨t125, A100, H⟩ := H
     replace H : (if t125.size + ((((t122 ++ (⟨#[32]⟩ : ByteArray)) ++ t123) ++ (⟨#[32]⟩ : ByteArray)) ++ a1_2).size ≤ 9223372036854775807 then ((record_Sum.f (t125 ++ ((((t122 ++ (⟨#[32]⟩ : ByteArray)) ++ t123) ++ (⟨#[32]⟩ : ByteArray)) ++ a1_2))).bind fun t126 => (if t124.size + t126.size ≤ 9223372036854775807 then ((record_Sum.f (t124 ++ t126)).bind fun t127 => (some t127)) else (none))) else (none)) = some r := H
     have A10 := Aside0.mk A100
     clear A100
     by_cases c11 : t125.size + ((((t122 ++ (⟨#[32]⟩ : ByteArray)) ++ t123) ++ (⟨#[32]⟩ : ByteArray)) ++ a1_2).size ≤ 9223372036854775807
     ·rw [if_pos c11] at H
      have c11b0 := eq_true c11
      have c11b1 : decide (t125.size + ((((t122 ++ (⟨#[32]⟩ : ByteArray)) ++ t123) ++ (⟨#[32]⟩ : ByteArray)) ++ a1_2).size ≤ 9223372036854775807) = true := decide_eq_true c11
      try have c11b2 : (9223372036854775807 < t125.size + ((((t122 ++ (⟨#[32]⟩ : ByteArray)) ++ t123) ++ (⟨#[32]⟩ : ByteArray)) ++ a1_2).size) = False := eq_false (Nat.not_lt.2 c11)
      try (have c11b3 := c11b2; simp only [ByteArray.size_append, (show (⟨#[32]⟩ : ByteArray).size = 1 from rfl)] at c11b3)
      replace H := Option.bind_eq_some_iff.mp H
      obtain ⟨t126, A120, H⟩ := H
      replace H : (if t124.size + t126.size ≤ 9223372036854775807 then ((record_Sum.f (t124 ++ t126)).bind fun t127 => (some t127)) else (none)) = some r := H
      have A12 := Aside0.mk A120
      clear A120
      by_cases c13 : t124.size + t126.size ≤ 9223372036854775807
      ·rw [if_pos c13] at H
       have c13b0 := eq_true c13
       have c13b1 : decide (t124.size + t126.size ≤ 9223372036854775807) = true := decide_eq_true c13
       try have c13b2 : (9223372036854775807 < t124.size + t126.size) = False := eq_false (Nat.not_lt.2 c13)
       replace H := Option.bind_eq_some_iff.mp H
       obtain ⟨t127, A140, H⟩ := H
       replace H : (some t127) = some r := H
       have A14 := Aside0.mk A140
       clear A140
       obtain rfl := Option.some.inj H
       go_enter Tryd.func37, Tryd.ntmps37
       try go_wp2_with (first | ((with_reducible refine gate_dst (N := 3) rfl ?_); refine box_event ?hg (N := 3) ?hd (cs := #[.int .i64 a1_0, .int .i64 a1_1, .string a1_2, .string a1_3]) (t := 25) ?hr ?_; (case hd => rfl); (case hg => rfl); (case hr => first | (go_simp; done) | (go_simp; rfl)); intro gb121 hg w15 hbox hb; have n0_ := Aside0.mk (below_step (by repeat (first | (with_reducible first | exact HB.out | apply below_alloc | apply pw_below_drewN | apply below_drew1) | exact HB.out)) hb); have n1_ := Aside0.mk (hbox); have n2_ := Aside0.mk ((by rw [hg]; exact (below_size (by repeat (first | (with_reducible first | exact HB.out | apply below_alloc | apply pw_below_drewN | apply below_drew1) | exact HB.out))) : w.heap.size ≤ gb121)); have n3_ := Aside0.mk ((by rw [hg]; exact (below_size (by repeat (first | (with_reducible first | exact HB.out | apply below_alloc | apply pw_below_drewN | apply below_drew1) | exact HB.out))) : w.heap.size ≤ gb121)); clear HB; have HB := n0_; have BK121 := n1_; have GW121 := n2_; have GE121 := n3_; clear n0_ n1_ n2_ n3_; clear hb hbox hg))
       have n0_ := Aside0.mk (blk_drew BK121.out)
       have n1_ := Aside0.mk (below_drew1 HB.out)
       clear BK121
       clear HB
       have BK121 := n0_
       have HB := n1_
       clear n0_ n1_
       refine start_ (n := 13) (S := fun w' => w'.cell? ⟨gb121, 0, none⟩ = some (.int .i64 a1_0) ∧ w'.cell? ⟨gb121, 1, none⟩ = some (.int .i64 a1_1) ∧ w'.cell? ⟨gb121, 2, none⟩ = some (.string a1_2) ∧ w'.cell? ⟨gb121, 3, none⟩ = some (.string a1_3)) (ds := []) #[false, false, false, false, false, false, false, false, false, false, false, false, false] (by kernel_rfl) rfl rfl ⟨(blk_cell BK121.out 0).trans rfl, (blk_cell BK121.out 1).trans rfl, (blk_cell BK121.out 2).trans rfl, (blk_cell BK121.out 3).trans rfl⟩ (fun hHeld => ?_); refine with_tabW approval_code.tab1 approval_code.bits1 (fun HT_ HW_ => ?_)
       generalize w15.drew = w16 at BK121 HB hHeld ⊢
       refine pure_ (i := 0) (N := some 6) (v := ?_) (a' := ?_) #[true, false, false, false, false, false, false, false, false, false, false, false, false] rfl rfl (any_of HT_.out (by kernel_rfl)) (fun _ _ _ h => h) (Or.inl ⟨by rfl, ?_⟩) ?_ ?_
       rotate_left
       ·intro w'
        go_simp
        with_reducible rfl
       rotate_left
       ·simp only [Act.put, List.setIfInBounds_toArray, List.set_cons_zero, List.set_cons_succ, i64_w, i32_w]
        rfl
       refine pure_ (i := 4) (N := some 10) (v := ?_) (a' := ?_) #[true, false, false, false, true, false, false, false, false, false, false, false, false] rfl rfl (any_of HT_.out (by kernel_rfl)) (fun _ _ _ h => h) (Or.inl ⟨by rfl, ?_⟩) ?_ ?_
       rotate_left
       ·intro w'
        go_simp
        with_reducible rfl
       rotate_left
       ·simp only [Act.put, List.setIfInBounds_toArray, List.set_cons_zero, List.set_cons_succ, i64_w, i32_w]
        rfl
       refine pure_ (i := 9) (N := some 15) (v := ?_) (a' := ?_) #[true, false, false, false, true, false, false, false, false, true, false, false, false] rfl rfl (any_of HT_.out (by kernel_rfl)) (fun _ _ _ h => h) (Or.inl ⟨by rfl, ?_⟩) ?_ ?_
       rotate_left
       ·intro w'
        go_simp
        with_reducible rfl
       rotate_left
       ·simp only [Act.put, List.setIfInBounds_toArray, List.set_cons_zero, List.set_cons_succ, i64_w, i32_w]
        rfl
       refine take_ (i := 1) (N := some 7) (v := ?_) (a' := ?_) #[true, true, false, false, true, false, false, false, false, true, false, false, false] rfl rfl (take_ofW HT_.out HW_.out (by kernel_rfl)) (fun _ _ _ h => h) (Or.inl ⟨by rfl, ?_⟩) hHeld ?_ ?_
       rotate_left
       ·rintro w' ⟨s0, s1, s2, s3⟩
        go_simp
        with_reducible rfl
       rotate_left
       ·simp only [Act.put, List.setIfInBounds_toArray, List.set_cons_zero, List.set_cons_succ, i64_w, i32_w]
        rfl
       refine take_ (i := 5) (N := some 11) (v := ?_) (a' := ?_) #[true, true, false, false, true, true, false, false, false, true, false, false, false] rfl rfl (take_ofW HT_.out HW_.out (by kernel_rfl)) (fun _ _ _ h => h) (Or.inl ⟨by rfl, ?_⟩) hHeld ?_ ?_
       rotate_left
       ·rintro w' ⟨s0, s1, s2, s3⟩
        go_simp
        with_reducible rfl
       rotate_left
       ·simp only [Act.put, List.setIfInBounds_toArray, List.set_cons_zero, List.set_cons_succ, i64_w, i32_w]
        rfl
       refine take_ (i := 10) (N := some 16) (v := ?_) (a' := ?_) #[true, true, false, false, true, true, false, false, false, true, true, false, false] rfl rfl (take_ofW HT_.out HW_.out (by kernel_rfl)) (fun _ _ _ h => h) (Or.inl ⟨by rfl, ?_⟩) hHeld ?_ ?_
       rotate_left
       ·rintro w' ⟨s0, s1, s2, s3⟩
        go_simp
        with_reducible rfl
       rotate_left
       ·simp only [Act.put, List.setIfInBounds_toArray, List.set_cons_zero, List.set_cons_succ, i64_w, i32_w]
        rfl
       refine one_ (i := 2) (N := some 8) #[true, true, true, false, true, true, false, false, false, true, true, false, false] rfl rfl (one_of HT_.out (by kernel_rfl)) (by decide) (fun K hK => ?_)
       refine goes_ Tryd.func59 (by kernel_rfl) rfl #[.int .i64 a1_0] (by rfl) rfl rfl (by (try simp only [List.map_toArray, List.map_cons, List.map_nil]); first | done | rfl | (simp only [List.length_drop, List.length_take]; rfl)) ?_
       with_reducible refine (strconv_Itoa_59.calls a1_0 t122 _ ?side1 A3.out).mono ?_
       (case side1 => exact HLW.out.below (by repeat (first | (with_reducible first | exact HB.out | apply below_alloc | apply pw_below_drewN | apply below_drew1 | refine below_set ?_ GE121.out) | exact HB.out)))
       rintro e w17 ⟨rfl, hb⟩
       refine ⟨_, rfl, ?_⟩
       have n0_ := Aside0.mk (blk_below (g := gb121) (o := .cells #[.int .i64 a1_0, .int .i64 a1_1, .string a1_2, .string a1_3] 25 (0, 0)) (by (with_reducible repeat (first | refine blk_drewN ?_ _ | refine blk_drew ?_ | refine blk_alloc ?_ _)); exact BK121.out) hb)
       have n1_ := Aside0.mk (below_step (by repeat (first | (with_reducible first | exact HB.out | apply below_alloc | apply pw_below_drewN | apply below_drew1 | refine below_set ?_ GE121.out) | exact HB.out)) hb)
       clear BK121
       clear HB
       have BK121 := n0_
       have HB := n1_
       clear n0_ n1_
       (try clear hb)
       (try clear hb2)
       (try clear hk)
       (try clear hi)
       refine hK.out _ _ ⟨(blk_cell BK121.out 0).trans rfl, (blk_cell BK121.out 1).trans rfl, (blk_cell BK121.out 2).trans rfl, (blk_cell BK121.out 3).trans rfl⟩ (fun hHeld => ?_)
       clear hK K
       refine norm_ (a' := ?_) ?_ ?_
       rotate_left
       ·show Act.put _ (some 8) _ = _
        simp only [Act.put, List.setIfInBounds_toArray, List.set_cons_zero, List.set_cons_succ, i64_w, i32_w]
        rfl
       refine pure_ (i := 3) (N := some 9) (v := ?_) (a' := ?_) #[true, true, true, true, true, true, false, false, false, true, true, false, false] rfl rfl (any_of HT_.out (by kernel_rfl)) (fun _ _ _ h => h) (Or.inl ⟨by rfl, ?_⟩) ?_ ?_
       rotate_left
       ·intro w'
        go_simp
        with_reducible rfl
       rotate_left
       ·simp only [Act.put, List.setIfInBounds_toArray, List.set_cons_zero, List.set_cons_succ, i64_w, i32_w]
        rfl
       refine one_ (i := 6) (N := some 12) #[true, true, true, true, true, true, true, false, false, true, true, false, false] rfl rfl (one_of HT_.out (by kernel_rfl)) (by decide) (fun K hK => ?_)
       refine goes_ Tryd.func59 (by kernel_rfl) rfl #[.int .i64 a1_1] (by rfl) rfl rfl (by (try simp only [List.map_toArray, List.map_cons, List.map_nil]); first | done | rfl | (simp only [List.length_drop, List.length_take]; rfl)) ?_
       with_reducible refine (strconv_Itoa_59.calls a1_1 t123 _ ?side1 A5.out).mono ?_
       (case side1 => exact HLW.out.below (by repeat (first | (with_reducible first | exact HB.out | apply below_alloc | apply pw_below_drewN | apply below_drew1 | refine below_set ?_ GE121.out) | exact HB.out)))
       rintro e w18 ⟨rfl, hb⟩
       refine ⟨_, rfl, ?_⟩
       have n0_ := Aside0.mk (blk_below (g := gb121) (o := .cells #[.int .i64 a1_0, .int .i64 a1_1, .string a1_2, .string a1_3] 25 (0, 0)) (by (with_reducible repeat (first | refine blk_drewN ?_ _ | refine blk_drew ?_ | refine blk_alloc ?_ _)); exact BK121.out) hb)
       have n1_ := Aside0.mk (below_step (by repeat (first | (with_reducible first | exact HB.out | apply below_alloc | apply pw_below_drewN | apply below_drew1 | refine below_set ?_ GE121.out) | exact HB.out)) hb)
       clear BK121
       clear HB
       have BK121 := n0_
       have HB := n1_
       clear n0_ n1_
       (try clear hb)
       (try clear hb2)
       (try clear hk)
       (try clear hi)
       refine hK.out _ _ ⟨(blk_cell BK121.out 0).trans rfl, (blk_cell BK121.out 1).trans rfl, (blk_cell BK121.out 2).trans rfl, (blk_cell BK121.out 3).trans rfl⟩ (fun hHeld => ?_)
       clear hK K
       refine norm_ (a' := ?_) ?_ ?_
       rotate_left
       ·show Act.put _ (some 12) _ = _
        simp only [Act.put, List.setIfInBounds_toArray, List.set_cons_zero, List.set_cons_succ, i64_w, i32_w]
        rfl
       refine pure_ (i := 7) (N := some 13) (v := ?_) (a' := ?_) #[true, true, true, true, true, true, true, true, false, true, true, false, false] rfl rfl (any_of HT_.out (by kernel_rfl)) (fun _ _ _ h => h) (Or.inl ⟨by rfl, ?_⟩) ?_ ?_
       rotate_left
       ·intro w'
        go_simp
        with_reducible rfl
       rotate_left
       ·simp only [Act.put, List.setIfInBounds_toArray, List.set_cons_zero, List.set_cons_succ, i64_w, i32_w]
        rfl
       refine pure_ (i := 8) (N := some 14) (v := ?_) (a' := ?_) #[true, true, true, true, true, true, true, true, true, true, true, false, false] rfl rfl (any_of HT_.out (by kernel_rfl)) (fun _ _ _ h => h) (Or.inl ⟨by rfl, ?_⟩) ?_ ?_
       rotate_left
       ·intro w'
        go_simp
        with_reducible rfl
       rotate_left
       ·simp only [Act.put, List.setIfInBounds_toArray, List.set_cons_zero, List.set_cons_succ, i64_w, i32_w]
        rfl
       refine pure_ (i := 11) (N := some 17) (v := ?_) (a' := ?_) #[true, true, true, true, true, true, true, true, true, true, true, true, false] rfl rfl (any_of HT_.out (by kernel_rfl)) (fun _ _ _ h => h) (Or.inl ⟨by rfl, ?_⟩) ?_ ?_
       rotate_left
       ·intro w'
        go_simp
        with_reducible rfl
       rotate_left
       ·simp only [Act.put, List.setIfInBounds_toArray, List.set_cons_zero, List.set_cons_succ, i64_w, i32_w]
        rfl
       refine pure_ (i := 12) (N := some 5) (v := ?_) (a' := ?_) #[true, true, true, true, true, true, true, true, true, true, true, true, true] rfl rfl (any_of HT_.out (by kernel_rfl)) (fun _ _ _ h => h) (Or.inl ⟨by rfl, ?_⟩) ?_ ?_
       rotate_left
       ·intro w'
        go_simp
        with_reducible rfl
       rotate_left
       ·simp only [Act.put, List.setIfInBounds_toArray, List.set_cons_zero, List.set_cons_succ, i64_w, i32_w]
        rfl
       refine done_ (done_of HT_.out (by kernel_rfl)) ?_
       try go_wp2_with (first | ((with_reducible refine gate_callee (f := 60) rfl ?_); refine goesL_ (some 19) rfl rfl Tryd.func60 (by kernel_rfl) rfl #[.string a0, .int .u8 92] rfl (by (try simp only [List.map_toArray, List.map_cons, List.map_nil]); first | done | rfl | (simp only [List.length_drop, List.length_take]; rfl)) ?_; (with_reducible refine (approval_pad.calls a0 92 t124 _ A9.out).mono ?_); rintro e w19 ⟨rfl, hb⟩; refine ⟨_, rfl, ?_⟩; have n0_ := Aside0.mk (blk_below (g := gb121) (o := .cells #[.int .i64 a1_0, .int .i64 a1_1, .string a1_2, .string a1_3] 25 (0, 0)) (by (with_reducible repeat (first | refine blk_drewN ?_ _ | refine blk_drew ?_ | refine blk_alloc ?_ _)); exact BK121.out) hb); have n1_ := Aside0.mk (below_step (by repeat (first | (with_reducible first | exact HB.out | apply below_alloc | apply pw_below_drewN | apply below_drew1 | refine below_set ?_ GE121.out) | exact HB.out)) hb); clear BK121; clear HB; have BK121 := n0_; have HB := n1_; clear n0_ n1_; (try clear hb); (try clear hb2); (try clear hk); (try clear hi)) | ((with_reducible refine gate_callee (f := 60) rfl ?_); refine goesL_ (some 21) rfl rfl Tryd.func60 (by kernel_rfl) rfl #[.string a0, .int .u8 54] rfl (by (try simp only [List.map_toArray, List.map_cons, List.map_nil]); first | done | rfl | (simp only [List.length_drop, List.length_take]; rfl)) ?_; (with_reducible refine (approval_pad.calls a0 54 t125 _ A10.out).mono ?_); rintro e w20 ⟨rfl, hb⟩; refine ⟨_, rfl, ?_⟩; have n0_ := Aside0.mk (blk_below (g := gb121) (o := .cells #[.int .i64 a1_0, .int .i64 a1_1, .string a1_2, .string a1_3] 25 (0, 0)) (by (with_reducible repeat (first | refine blk_drewN ?_ _ | refine blk_drew ?_ | refine blk_alloc ?_ _)); exact BK121.out) hb); have n1_ := Aside0.mk (below_step (by repeat (first | (with_reducible first | exact HB.out | apply below_alloc | apply pw_below_drewN | apply below_drew1 | refine below_set ?_ GE121.out) | exact HB.out)) hb); clear BK121; clear HB; have BK121 := n0_; have HB := n1_; clear n0_ n1_; (try clear hb); (try clear hb2); (try clear hk); (try clear hi)) | ((with_reducible refine gate_callee (f := 34) rfl ?_); refine goesL_ (some 24) rfl rfl Tryd.func34 (by kernel_rfl) rfl #[.string (t125 ++ ((((t122 ++ (⟨#[32]⟩ : ByteArray)) ++ t123) ++ (⟨#[32]⟩ : ByteArray)) ++ a1_2))] rfl (by (try simp only [List.map_toArray, List.map_cons, List.map_nil]); first | done | rfl | (simp only [List.length_drop, List.length_take]; rfl)) ?_; (with_reducible refine (record_Sum.calls (t125 ++ ((((t122 ++ (⟨#[32]⟩ : ByteArray)) ++ t123) ++ (⟨#[32]⟩ : ByteArray)) ++ a1_2)) t126 _ A12.out).mono ?_); rintro e w21 ⟨rfl, hb⟩; refine ⟨_, rfl, ?_⟩; have n0_ := Aside0.mk (blk_below (g := gb121) (o := .cells #[.int .i64 a1_0, .int .i64 a1_1, .string a1_2, .string a1_3] 25 (0, 0)) (by (with_reducible repeat (first | refine blk_drewN ?_ _ | refine blk_drew ?_ | refine blk_alloc ?_ _)); exact BK121.out) hb); have n1_ := Aside0.mk (below_step (by repeat (first | (with_reducible first | exact HB.out | apply below_alloc | apply pw_below_drewN | apply below_drew1 | refine below_set ?_ GE121.out) | exact HB.out)) hb); clear BK121; clear HB; have BK121 := n0_; have HB := n1_; clear n0_ n1_; (try clear hb); (try clear hb2); (try clear hk); (try clear hi)) | ((with_reducible refine gate_callee (f := 34) rfl ?_); refine goesL_ (some 26) rfl rfl Tryd.func34 (by kernel_rfl) rfl #[.string (t124 ++ t126)] rfl (by (try simp only [List.map_toArray, List.map_cons, List.map_nil]); first | done | rfl | (simp only [List.length_drop, List.length_take]; rfl)) ?_; (with_reducible refine (record_Sum.calls (t124 ++ t126) t127 _ A14.out).mono ?_); rintro e w22 ⟨rfl, hb⟩; refine ⟨_, rfl, ?_⟩; have n0_ := Aside0.mk (blk_below (g := gb121) (o := .cells #[.int .i64 a1_0, .int .i64 a1_1, .string a1_2, .string a1_3] 25 (0, 0)) (by (with_reducible repeat (first | refine blk_drewN ?_ _ | refine blk_drew ?_ | refine blk_alloc ?_ _)); exact BK121.out) hb); have n1_ := Aside0.mk (below_step (by repeat (first | (with_reducible first | exact HB.out | apply below_alloc | apply pw_below_drewN | apply below_drew1 | refine below_set ?_ GE121.out) | exact HB.out)) hb); clear BK121; clear HB; have BK121 := n0_; have HB := n1_; clear n0_ n1_; (try clear hb); (try clear hb2); (try clear hk); (try clear hi)))
       go_ret
       exact ⟨by first | rfl | (simp [errW_none, errW_some] <;> rfl) | (simp [*, errW_none, errW_some] <;> rfl), by repeat (first | (with_reducible first | exact HB.out | apply below_alloc | apply pw_below_drewN | apply below_drew1 | refine below_set ?_ GE121.out) | exact HB.out)⟩
      ·rw [if_neg c13] at H
       exact absurd H (by simp)
     ·rw [if_neg c11] at H
      exact absurd H (by simp)
    ·rw [if_neg c8] at H
     exact absurd H (by simp)
   ·rw [if_neg c7] at H
    exact absurd H (by simp)
  ·rw [if_neg c6] at H
   exact absurd H (by simp)
 ·rw [if_neg c4] at H
  exact absurd H (by simp)
end Go.Proofs.YtbfimjncophcaaaDoor.Pr
namespace Go.Proofs.YtbfimjncophcaaaDoor.Pr
set_option linter.unusedVariables false
set_option linter.unusedSimpArgs false
open Go.RowKit Go.Proofs.YtbfimjncophcaaaDoorW.PrintWords Go.Proofs.YtbfimjncophcaaaDoorW.PrintLast Go.Proofs.YtbfimjncophcaaaDoorW.PrintMore
set_option maxHeartbeats 1000000 in
theorem idxFunc24 (p : S33 → Bool) (g : Nat) (lb : Array Value) (eg : ∀ args w, (callFunc g args).run Tryd.prog w = .ok (.enter g args) w) (A : Option Addr) (c : Nat) (xs : List S33) (w : World)
  (hr : Kd.C k33 w A xs.length xs) (hp : PredB Tryd.prog g lb (fun x : S33 => .agg #[.int .i64 x.f0, .int .i64 x.f1, .string x.f2, .string x.f3]) p w) :
  Calls Tryd.prog 24 #[.slice A xs.length c, .func (.func g) #[] lb] w fun e w' => e = .returned (.int .i64 (fidx p xs 0)) ∧ Below w.heap.size w w' := by
 have hmax := hr.2.1
 have HR := Aside0.mk hr
 have HP := Aside0.mk hp
 clear hr hp
 go_enter Tryd.func24, Tryd.ntmps24
 go_wp2
 go_loopg [5, 8] xs.length (fun gg _ s8 wr => ∃ kk : Nat, kk ≤ xs.length ∧ xs.length - kk ≤ gg ∧ s8 = .int .i64 kk ∧ Aside0 (Below w.heap.size w wr) ∧ Aside0 (∀ j z, j < kk → xs[j]? = some z → p z = false))
 case atStart => exact ⟨0, Nat.zero_le _, by omega, rfl, ⟨Below.refl _ w⟩, ⟨fun j z hj => absurd hj (Nat.not_lt_zero _)⟩⟩
 case round =>
  obtain ⟨kk, hkk, hg, rfl, BW, AF⟩ := hrel
  by_cases hlt : kk < xs.length
  ·have hltz : (kk : Int) < (xs.length : Int) := by omega
   obtain ⟨ad, e, h0, h1, h2, h3⟩ := at_T33 HR.out kk (by omega) hltz
   cases e
   replace h0 := (BW.out.cell (World.block_lt_of_cell? w _ h0)).trans h0
   replace h1 := (BW.out.cell (World.block_lt_of_cell? w _ h1)).trans h1
   replace h2 := (BW.out.cell (World.block_lt_of_cell? w _ h2)).trans h2
   replace h3 := (BW.out.cell (World.block_lt_of_cell? w _ h3)).trans h3
   simp only [Int.toNat_natCast] at h0 h1 h2 h3
   have hcall := HP.out wr (rd_T33 xs kk) BW.out
   have hget : xs[kk]? = some (rd_T33 xs kk) := by
    unfold rd_T33
    rw [List.getD_eq_getElem?_getD, Int.toNat_natCast, List.getElem?_eq_getElem hlt]
    rfl
   have HG := Aside0.mk hget
   clear hget
   generalize rd_T33 xs (kk : Int) = y at h0 h1 h2 h3 hcall HG
   cases hq : p y with
   | true =>
    have HQ := Aside0.mk hq
    rw [hq] at hcall
    clear hq
    go_wp2_with fail
    refine hcall.mono ?_
    clear hcall
    rintro e w' ⟨rfl, hb'⟩
    go_wp2_with fail
    go_ret
    refine ⟨?_, hb'⟩
    rw [fidx_hit p xs 0 kk _ HG.out HQ.out AF.out, Nat.zero_add]
    rfl
   | false =>
    have HQ := Aside0.mk hq
    rw [hq] at hcall
    clear hq
    go_wp2_with fail
    refine hcall.mono ?_
    clear hcall
    rintro e w' ⟨rfl, hb'⟩
    go_wp2_with fail
    go_roundg (xs.length - (kk + 1))
    case measure => omega
    case rel =>
     refine ⟨kk + 1, by omega, by omega, by go_num, ⟨hb'⟩, ⟨fun j z hj hz => ?_⟩⟩
     by_cases e : j = kk
     ·subst e
      rw [HG.out] at hz
      injection hz with hz
      rw [← hz]
      exact HQ.out
     ·exact AF.out j z (by omega) hz
  ·have hltz : ¬ (kk : Int) < (xs.length : Int) := by omega
   go_wp2
   go_ret
   refine ⟨?_, BW.out⟩
   have hf : fidx p xs 0 = -1 := fidx_miss p xs 0 (fun x hx => by
    obtain ⟨j, hj⟩ := List.getElem?_of_mem hx
    have hjl := (List.getElem?_eq_some_iff.1 hj).1
    exact AF.out j x (by omega) hj)
   rw [hf]
   rfl
theorem pred61 (id : Int) (B : Nat) (w : World) (hB : B < w.heap.size) (hcell : w.cell? ⟨B, 0, none⟩ = some (.int .i64 id)) :
  PredB Tryd.prog 61 #[.pointer (some ⟨B, 0, none⟩)] (fun x : S33 => .agg #[.int .i64 x.f0, .int .i64 x.f1, .string x.f2, .string x.f3]) (fun x => x.f0 == id) w := fun W x hb => by
 have hc : W.cell? ⟨B, 0, none⟩ = some (.int .i64 id) := (hb.cell (p := ⟨B, 0, none⟩) hB).trans hcell
 have hBW : B < W.heap.size := Nat.lt_of_lt_of_le hB hb.size
 have hne : B ≠ W.heap.size := by omega
 clear hcell
 show Calls Tryd.prog 61 #[.agg #[.int .i64 x.f0, .int .i64 x.f1, .string x.f2, .string x.f3], .pointer (some ⟨B, 0, none⟩)] W _
 go_enter Tryd.func61, Tryd.ntmps61
 go_wp2
 all_goals (go_ret; exact ⟨rfl, hb.alloc hb.size _⟩)
def approval_signer.f (l0 : List S33) (a1 : Int) : Option Int := some (fidx (fun x => x.f0 == a1) l0 0)
theorem approval_signer.calls (A0 : Option Addr) (c0 : Nat) (l0 : List S33) (a1 : Int) (r : Int) (w : World) (hr0 : Kd.C k33 w A0 l0.length l0) (hc0 : l0.length ≤ c0) (h : approval_signer.f l0 a1 = some r) :
  Calls Tryd.prog 38 #[.slice A0 l0.length c0, .int .i64 a1] w fun e w' => e = .returned (.int .i64 r) ∧ Below w.heap.size w w' := by
 obtain rfl := Option.some.inj h
 clear h
 have eg : ∀ args w, (callFunc 61 args).run Tryd.prog w = .ok (.enter 61 args) w := enters_of Tryd.func61 (by kernel_rfl) rfl
 have hcon := idxFunc24 (fun x => x.f0 == a1) 61 #[.pointer (some ⟨w.heap.size, 0, none⟩)] eg A0 c0 l0 (w.alloc (.cells #[.int .i64 a1] 3)) (Kd.C_below hr0 ((Below.refl _ w).alloc (Nat.le_refl _) _)) (pred61 a1 w.heap.size _ (by simp) (by simp))
 clear hr0 eg
 generalize fidx (fun x : S33 => x.f0 == a1) l0 0 = q at hcon ⊢
 go_enter Tryd.func38, Tryd.ntmps38
 go_wp2_with fail
 refine hcon.mono ?_
 clear hcon
 rintro e w' ⟨rfl, hb'⟩
 go_wp2_with fail
 go_ret
 exact ⟨rfl, ((Below.refl _ w).alloc (Nat.le_refl _) _).trans (hb'.mono (by simp))⟩
set_option maxHeartbeats 1000000 in
theorem idxFunc49 (p : S25 → Bool) (g : Nat) (lb : Array Value) (eg : ∀ args w, (callFunc g args).run Tryd.prog w = .ok (.enter g args) w) (A : Option Addr) (c : Nat) (xs : List S25) (w : World)
  (hr : Kd.C k25 w A xs.length xs) (hp : PredB Tryd.prog g lb (fun x : S25 => .agg #[.int .i64 x.f0, .int .i64 x.f1, .string x.f2, .string x.f3]) p w) :
  Calls Tryd.prog 49 #[.slice A xs.length c, .func (.func g) #[] lb] w fun e w' => e = .returned (.int .i64 (fidx p xs 0)) ∧ Below w.heap.size w w' := by
 have hmax := hr.2.1
 have HR := Aside0.mk hr
 have HP := Aside0.mk hp
 clear hr hp
 go_enter Tryd.func49, Tryd.ntmps49
 go_wp2
 go_loopg [5, 8] xs.length (fun gg _ s8 wr => ∃ kk : Nat, kk ≤ xs.length ∧ xs.length - kk ≤ gg ∧ s8 = .int .i64 kk ∧ Aside0 (Below w.heap.size w wr) ∧ Aside0 (∀ j z, j < kk → xs[j]? = some z → p z = false))
 case atStart => exact ⟨0, Nat.zero_le _, by omega, rfl, ⟨Below.refl _ w⟩, ⟨fun j z hj => absurd hj (Nat.not_lt_zero _)⟩⟩
 case round =>
  obtain ⟨kk, hkk, hg, rfl, BW, AF⟩ := hrel
  by_cases hlt : kk < xs.length
  ·have hltz : (kk : Int) < (xs.length : Int) := by omega
   obtain ⟨ad, e, h0, h1, h2, h3⟩ := at_T25 HR.out kk (by omega) hltz
   cases e
   replace h0 := (BW.out.cell (World.block_lt_of_cell? w _ h0)).trans h0
   replace h1 := (BW.out.cell (World.block_lt_of_cell? w _ h1)).trans h1
   replace h2 := (BW.out.cell (World.block_lt_of_cell? w _ h2)).trans h2
   replace h3 := (BW.out.cell (World.block_lt_of_cell? w _ h3)).trans h3
   simp only [Int.toNat_natCast] at h0 h1 h2 h3
   have hcall := HP.out wr (rd_T25 xs kk) BW.out
   have hget : xs[kk]? = some (rd_T25 xs kk) := by
    unfold rd_T25
    rw [List.getD_eq_getElem?_getD, Int.toNat_natCast, List.getElem?_eq_getElem hlt]
    rfl
   have HG := Aside0.mk hget
   clear hget
   generalize rd_T25 xs (kk : Int) = y at h0 h1 h2 h3 hcall HG
   cases hq : p y with
   | true =>
    have HQ := Aside0.mk hq
    rw [hq] at hcall
    clear hq
    go_wp2_with fail
    refine hcall.mono ?_
    clear hcall
    rintro e w' ⟨rfl, hb'⟩
    go_wp2_with fail
    go_ret
    refine ⟨?_, hb'⟩
    rw [fidx_hit p xs 0 kk _ HG.out HQ.out AF.out, Nat.zero_add]
    rfl
   | false =>
    have HQ := Aside0.mk hq
    rw [hq] at hcall
    clear hq
    go_wp2_with fail
    refine hcall.mono ?_
    clear hcall
    rintro e w' ⟨rfl, hb'⟩
    go_wp2_with fail
    go_roundg (xs.length - (kk + 1))
    case measure => omega
    case rel =>
     refine ⟨kk + 1, by omega, by omega, by go_num, ⟨hb'⟩, ⟨fun j z hj hz => ?_⟩⟩
     by_cases e : j = kk
     ·subst e
      rw [HG.out] at hz
      injection hz with hz
      rw [← hz]
      exact HQ.out
     ·exact AF.out j z (by omega) hz
  ·have hltz : ¬ (kk : Int) < (xs.length : Int) := by omega
   go_wp2
   go_ret
   refine ⟨?_, BW.out⟩
   have hf : fidx p xs 0 = -1 := fidx_miss p xs 0 (fun x hx => by
    obtain ⟨j, hj⟩ := List.getElem?_of_mem hx
    have hjl := (List.getElem?_eq_some_iff.1 hj).1
    exact AF.out j x (by omega) hj)
   rw [hf]
   rfl
theorem containsFunc46 (p : S25 → Bool) (g : Nat) (lb : Array Value) (eg : ∀ args w, (callFunc g args).run Tryd.prog w = .ok (.enter g args) w) (A : Option Addr) (c : Nat) (xs : List S25) (w : World)
  (hr : Kd.C k25 w A xs.length xs) (hp : PredB Tryd.prog g lb (fun x : S25 => .agg #[.int .i64 x.f0, .int .i64 x.f1, .string x.f2, .string x.f3]) p w) :
  Calls Tryd.prog 46 #[.slice A xs.length c, .func (.func g) #[] lb] w fun e w' => e = .returned (.bool (xs.any p)) ∧ Below w.heap.size w w' := by
 have hcon := idxFunc49 p g lb eg A c xs w hr hp
 rw [fidx_any p xs 0]
 generalize fidx p xs 0 = q at hcon ⊢
 clear eg hr hp
 go_enter Tryd.func46, Tryd.ntmps46
 go_wp2_with fail
 refine hcon.mono ?_
 clear hcon
 rintro e w' ⟨rfl, hb'⟩
 go_wp2_with fail
 go_ret
 exact ⟨rfl, hb'⟩
theorem pred58 (a0 a1 : Int) (a2 a3 : ByteArray) (B : Nat) (w : World) (hB : B < w.heap.size) (h0 : w.cell? ⟨B, 0, none⟩ = some (.int .i64 a0)) (h1 : w.cell? ⟨B, 1, none⟩ = some (.int .i64 a1)) (h2 : w.cell? ⟨B, 2, none⟩ = some (.string a2)) (h3 : w.cell? ⟨B, 3, none⟩ = some (.string a3)) :
  PredB Tryd.prog 58 #[.pointer (some ⟨B, 0, none⟩)] (fun x : S25 => .agg #[.int .i64 x.f0, .int .i64 x.f1, .string x.f2, .string x.f3]) (fun x => x.f0 == a0 && (x.f2.toList == a2.toList && x.f1 == a1)) w := fun W x hb => by
 replace h0 : W.cell? ⟨B, 0, none⟩ = some (.int .i64 a0) := (hb.cell (p := ⟨B, 0, none⟩) hB).trans h0
 replace h1 : W.cell? ⟨B, 1, none⟩ = some (.int .i64 a1) := (hb.cell (p := ⟨B, 1, none⟩) hB).trans h1
 replace h2 : W.cell? ⟨B, 2, none⟩ = some (.string a2) := (hb.cell (p := ⟨B, 2, none⟩) hB).trans h2
 replace h3 : W.cell? ⟨B, 3, none⟩ = some (.string a3) := (hb.cell (p := ⟨B, 3, none⟩) hB).trans h3
 have hBW : B < W.heap.size := Nat.lt_of_lt_of_le hB hb.size
 have hne : B ≠ W.heap.size := by omega
 show Calls Tryd.prog 58 #[.agg #[.int .i64 x.f0, .int .i64 x.f1, .string x.f2, .string x.f3], .pointer (some ⟨B, 0, none⟩)] W _
 go_enter Tryd.func58, Tryd.ntmps58
 go_wp2
 all_goals (go_ret; exact ⟨by simp_all, hb.alloc hb.size _⟩)
theorem tick44 (n : Int) (w : World) : Calls Tryd.prog 44 #[.int .i64 n] w fun e w' => e = .returned (.bool (decide (0 ≤ n) && decide (n ≤ 1073741824))) ∧ w' = w := by
 go_enter Tryd.func44, Tryd.ntmps44
 go_wp2
 all_goals (go_ret; exact ⟨by simp_all <;> omega, rfl⟩)
def faultA (l0 : List S33) (l1 : List S25) (a0 a1 : Int) (a2 : ByteArray) : Int :=
 if fidx (fun x => x.f0 == a0) l0 0 < 0 then 7
 else if ¬ (decide (0 ≤ a1) && decide (a1 ≤ 1073741824)) = true ∨ ¬ a2.size = 32 then 2
 else if 0 < l1.length ∧ a1 < (rd_T25 l1 ((l1.length : Int) - 1)).f1 then 5
 else if l1.any (fun x => x.f0 == a0 && (x.f2.toList == a2.toList && x.f1 == a1)) = true then 6
 else 0
def approval_fault.f (l0 : List S33) (l1 : List S25) (a2_0 a2_1 : Int) (a2_2 a2_3 : ByteArray) : Option Int := some (faultA l0 l1 a2_0 a2_1 a2_2)
set_option maxHeartbeats 1000000 in
theorem approval_fault.calls (A0 : Option Addr) (c0 : Nat) (l0 : List S33) (A1 : Option Addr) (c1 : Nat) (l1 : List S25) (a2_0 a2_1 : Int) (a2_2 a2_3 : ByteArray) (r : Int) (w : World)
  (hr0 : Kd.C k33 w A0 l0.length l0) (hc0 : l0.length ≤ c0) (hr1 : Kd.C k25 w A1 l1.length l1) (hc1 : l1.length ≤ c1) (h : approval_fault.f l0 l1 a2_0 a2_1 a2_2 a2_3 = some r) :
  Calls Tryd.prog 36 #[.slice A0 l0.length c0, .slice A1 l1.length c1, .agg #[.int .i64 a2_0, .int .i64 a2_1, .string a2_2, .string a2_3]] w fun e w' => e = .returned (.int .i64 r) ∧ Below w.heap.size w w' := by
 have HV := Aside0.mk (Option.some.inj h)
 unfold faultA at HV
 clear h
 have HR1 := Aside0.mk hr1
 have hmax := hr1.2.1
 have HS := Aside0.mk (fun W (hW : Below w.heap.size w W) => approval_signer.calls A0 c0 l0 a2_0 _ W (Kd.C_below hr0 hW) hc0 rfl)
 have eg : ∀ args w, (callFunc 58 args).run Tryd.prog w = .ok (.enter 58 args) w := enters_of Tryd.func58 (by kernel_rfl) rfl
 have HA := Aside0.mk (fun W (hW : Below w.heap.size w W) (hB : w.heap.size < W.heap.size) h0 h1 h2 h3 => containsFunc46 (fun x => x.f0 == a2_0 && (x.f2.toList == a2_2.toList && x.f1 == a2_1)) 58 #[.pointer (some ⟨w.heap.size, 0, none⟩)] eg A1 c1 l1 W (Kd.C_below hr1 hW) (pred58 a2_0 a2_1 a2_2 a2_3 w.heap.size W hB h0 h1 h2 h3))
 clear hr0 hr1 eg
 generalize fidx (fun x : S33 => x.f0 == a2_0) l0 0 = q at HS HV
 generalize l1.any (fun x => x.f0 == a2_0 && (x.f2.toList == a2_2.toList && x.f1 == a2_1)) = dup at HA HV
 go_enter Tryd.func36, Tryd.ntmps36
 go_wp2_with fail
 refine (HS.out _ ((Below.refl _ w).alloc (Nat.le_refl _) _)).mono ?_
 rintro e w1 ⟨rfl, hb1⟩
 have HB := Aside0.mk (((Below.refl _ w).alloc (Nat.le_refl _) (.cells #[.int .i64 a2_0, .int .i64 a2_1, .string a2_2, .string a2_3] 25)).trans (hb1.mono (by simp)))
 have hsz : w.heap.size < w1.heap.size := by have := hb1.size; simp at this; omega
 have k0 : w1.cell? ⟨w.heap.size, 0, none⟩ = some (.int .i64 a2_0) := (hb1.cell (p := ⟨w.heap.size, 0, none⟩) (by simp)).trans (by simp)
 have k1 : w1.cell? ⟨w.heap.size, 1, none⟩ = some (.int .i64 a2_1) := (hb1.cell (p := ⟨w.heap.size, 1, none⟩) (by simp)).trans (by simp)
 have k2 : w1.cell? ⟨w.heap.size, 2, none⟩ = some (.string a2_2) := (hb1.cell (p := ⟨w.heap.size, 2, none⟩) (by simp)).trans (by simp)
 have k3 : w1.cell? ⟨w.heap.size, 3, none⟩ = some (.string a2_3) := (hb1.cell (p := ⟨w.heap.size, 3, none⟩) (by simp)).trans (by simp)
 clear hb1 HS
 by_cases hq : q < 0
 ·go_wp2_with fail
  go_ret
  refine ⟨?_, HB.out⟩
  rw [← HV.out, if_pos hq]
  rfl
 ·go_wp2_with fail
  refine (tick44 _ _).mono ?_
  rintro e w' ⟨rfl, rfl⟩
  cases ht : (decide (0 ≤ a2_1) && decide (a2_1 ≤ 1073741824)) with
  | false =>
   have HT := Aside0.mk ht
   clear ht
   go_wp2_with fail
   go_ret
   refine ⟨?_, HB.out⟩
   rw [← HV.out, if_neg (by omega), if_pos (Or.inl (by rw [HT.out]; simp))]
   rfl
  | true =>
   have HT := Aside0.mk ht
   clear ht
   by_cases hs : a2_2.size = 32
   ·have hs1 : ((a2_2.size : Int) != 32) = false := by rw [hs]; rfl
    have HS := Aside0.mk hs
    clear hs
    have hN : ¬ (¬ (decide (0 ≤ a2_1) && decide (a2_1 ≤ 1073741824)) = true ∨ ¬ a2_2.size = 32) := by rw [HT.out, HS.out]; simp
    have HN := Aside0.mk hN
    clear hN
    by_cases hl : 0 < l1.length
    ·have hl0 : (0 : Int) < (l1.length : Int) := by omega
     obtain ⟨ji, hji⟩ : ∃ ji : Int, ji = (l1.length : Int) - 1 := ⟨_, rfl⟩
     rw [← hji] at HV
     have hwr0 : IntKind.i64.wrap ((l1.length : Int) - 1) = ji := by rw [hji]; exact IntWalk.i64_in _ (by omega)
     have hjp : 0 ≤ ji := by omega
     have hjq : ji < (l1.length : Int) := by omega
     obtain ⟨ad, e, g0, g1, g2, g3⟩ := at_T25 HR1.out ji hjp hjq
     cases e
     replace g1 := (HB.out.cell (World.block_lt_of_cell? w _ g1)).trans g1
     clear g0 g2 g3 hji
     have hjpd : decide (0 ≤ ji) = true := decide_eq_true hjp
     have hjqd : decide (ji < (l1.length : Int)) = true := decide_eq_true hjq
     replace hjp := eq_true hjp
     replace hjq := eq_true hjq
     go_wp2_with fail
     go_quiet (fail)
     by_cases ho : a2_1 < (rd_T25 l1 ji).f1
     ·have hod := decide_eq_true ho
      go_wp2_with fail
      go_ret
      refine ⟨?_, HB.out.trans (pw_below_drewN (Below.refl _ _) _)⟩
      rw [← HV.out, if_neg (by omega), if_neg HN.out, if_pos ⟨hl, ho⟩]
      rfl
     ·have hod := decide_eq_false ho
      have HO := Aside0.mk (show ¬ (0 < l1.length ∧ a2_1 < (rd_T25 l1 ji).f1) from fun h => ho h.2)
      go_wp2_with fail
      refine (HA.out _ (HB.out.trans (pw_below_drewN (Below.refl _ _) _)) (by simpa using hsz) (by simpa using k0) (by simpa using k1) (by simpa using k2) (by simpa using k3)).mono ?_
      rintro e w2 ⟨rfl, hb2⟩
      have HB2 := Aside0.mk ((HB.out.trans (pw_below_drewN (Below.refl _ _) _)).trans (hb2.mono (by simpa using HB.out.size)))
      clear hb2
      cases dup with
      | true =>
       go_wp2_with fail
       go_ret
       refine ⟨?_, HB2.out⟩
       rw [← HV.out, if_neg (by omega), if_neg HN.out, if_neg HO.out]
       first | rfl | simp
      | false =>
       go_wp2_with fail
       go_ret
       refine ⟨?_, HB2.out⟩
       rw [← HV.out, if_neg (by omega), if_neg HN.out, if_neg HO.out]
       first | rfl | simp
    ·have hl0 : ¬ (0 : Int) < (l1.length : Int) := by omega
     have hl1 : decide ((0 : Int) < (l1.length : Int)) = false := decide_eq_false hl0
     have HO := Aside0.mk (show ¬ (0 < l1.length ∧ a2_1 < (rd_T25 l1 ((l1.length : Int) - 1)).f1) from fun h => hl h.1)
     go_wp2_with fail
     go_quiet (fail)
     go_wp2_with fail
     refine (HA.out _ (HB.out.trans (pw_below_drewN (Below.refl _ _) _)) (by simpa using hsz) (by simpa using k0) (by simpa using k1) (by simpa using k2) (by simpa using k3)).mono ?_
     rintro e w2 ⟨rfl, hb2⟩
     have HB2 := Aside0.mk ((HB.out.trans (pw_below_drewN (Below.refl _ _) _)).trans (hb2.mono (by simpa using HB.out.size)))
     clear hb2
     cases dup with
     | true =>
      go_wp2_with fail
      go_ret
      refine ⟨?_, HB2.out⟩
      rw [← HV.out, if_neg (by omega), if_neg HN.out, if_neg HO.out]
      first | rfl | simp
     | false =>
      go_wp2_with fail
      go_ret
      refine ⟨?_, HB2.out⟩
      rw [← HV.out, if_neg (by omega), if_neg HN.out, if_neg HO.out]
      first | rfl | simp
   ·have hs1 : ((a2_2.size : Int) != 32) = true := by rw [bne_iff_ne]; omega
    have HS := Aside0.mk hs
    clear hs
    go_wp2_with fail
    go_ret
    refine ⟨?_, HB.out⟩
    rw [← HV.out, if_neg (by omega), if_pos (Or.inr HS.out)]
    rfl
end Go.Proofs.YtbfimjncophcaaaDoor.Pr
namespace Go.Proofs.YtbfimjncophcaaaDoor.Pr
set_option linter.unusedVariables false
set_option linter.unusedSimpArgs false
open Go.RowKit Go.Proofs.YtbfimjncophcaaaDoorW.PrintWords Go.Proofs.YtbfimjncophcaaaDoorW.PrintLast Go.Proofs.YtbfimjncophcaaaDoorW.PrintMore
def namedB (s : ByteArray) : Bool := decide (1 ≤ (s.size : Int)) && decide ((s.size : Int) ≤ 64)
theorem named57 (s : ByteArray) (w : World) : Calls Tryd.prog 57 #[.string s] w fun e w' => e = .returned (.bool (namedB s)) ∧ w' = w := by
 go_enter Tryd.func57, Tryd.ntmps57
 go_wp2
 all_goals
  go_ret
  refine ⟨?_, rfl⟩
  unfold namedB
  simp_all
 all_goals omega
def okAt (l : List S33) (i : Int) : Bool :=
 !(decide ((rd_T33 l i).f0 < 1) || (decide (1073741824 < (rd_T33 l i).f0) || (decide ((rd_T33 l i).f1 < 1) || (decide (9 < (rd_T33 l i).f1) || (!namedB (rd_T33 l i).f2 || (!namedB (rd_T33 l i).f3 || (decide (0 < i) && decide ((rd_T33 l i).f0 ≤ (rd_T33 l (i - 1)).f0))))))))
def rightB (l : List S33) : Bool := (List.range l.length).all (fun i => okAt l (i : Int)) && decide ((l.length : Int) ≤ 16)
def approval_right.f (l0 : List S33) : Option Bool := some (rightB l0)
theorem rightB_bad (l : List S33) (k : Nat) (hk : k < l.length) (h : okAt l (k : Int) = false) : rightB l = false := by
 unfold rightB
 rw [Bool.and_eq_false_iff]
 left
 rw [List.all_eq_false]
 exact ⟨k, List.mem_range.2 hk, by rw [h]; simp⟩
theorem rightB_good (l : List S33) (h : ∀ j : Nat, j < l.length → okAt l (j : Int) = true) : rightB l = decide ((l.length : Int) ≤ 16) := by
 unfold rightB
 rw [show (List.range l.length).all (fun i => okAt l (i : Int)) = true from List.all_eq_true.2 (fun i hi => h i (List.mem_range.1 hi))]
 simp
set_option maxHeartbeats 2000000 in
set_option maxRecDepth 100000 in
theorem approval_right.calls (A0 : Option Addr) (c0 : Nat) (l0 : List S33) (r : Bool) (w : World) (hr0 : Kd.C k33 w A0 l0.length l0) (hc0 : l0.length ≤ c0) (h : approval_right.f l0 = some r) :
    Calls Tryd.prog 35 #[.slice A0 l0.length c0] w fun e w' => e = .returned (.bool r) ∧ Below w.heap.size w w' := by
  have HV := Aside0.mk (Option.some.inj h)
  have hmax := hr0.2.1
  have HR := Aside0.mk hr0
  clear h hr0
  go_enter Tryd.func35, Tryd.ntmps35
  go_wp2
  go_loopg [7] l0.length (fun gg s7 wr => ∃ kk : Nat, kk ≤ l0.length ∧ l0.length - kk ≤ gg ∧ s7 = .int .i64 kk ∧ Aside0 (Below w.heap.size w wr) ∧ Aside0 (∀ j : Nat, j < kk → okAt l0 (j : Int) = true))
  case atStart => exact ⟨0, Nat.zero_le _, by omega, rfl, ⟨Below.refl _ w⟩, ⟨fun j hj => absurd hj (Nat.not_lt_zero _)⟩⟩
  case round =>
    obtain ⟨kk, hkk, hg, rfl, BW, AF⟩ := hrel
    by_cases hlt : kk < l0.length
    · have hltz : (kk : Int) < (l0.length : Int) := by omega
      obtain ⟨ad, e, h0, h1, h2, h3⟩ := at_T33 HR.out kk (by omega) hltz
      replace h0 := (BW.out.cell (World.block_lt_of_cell? w _ h0)).trans h0
      replace h1 := (BW.out.cell (World.block_lt_of_cell? w _ h1)).trans h1
      replace h2 := (BW.out.cell (World.block_lt_of_cell? w _ h2)).trans h2
      replace h3 := (BW.out.cell (World.block_lt_of_cell? w _ h3)).trans h3
      simp only [Int.toNat_natCast] at h0 h1 h2 h3
      by_cases hk0 : 0 < kk
      · have hk0z : (0 : Int) < (kk : Int) := by omega
        have hk0b : decide ((0 : Int) < (kk : Int)) = true := decide_eq_true hk0z
        obtain ⟨ji, hji⟩ : ∃ ji : Int, ji = (kk : Int) - 1 := ⟨_, rfl⟩
        have hwr0 : IntKind.i64.wrap ((kk : Int) - 1) = ji := by rw [hji]; exact IntWalk.i64_in _ (by omega)
        have HJ := Aside0.mk hji
        have hjp : 0 ≤ ji := by omega
        have hjq : ji < (l0.length : Int) := by omega
        obtain ⟨ad', e', g0, g1, g2, g3⟩ := at_T33 HR.out ji hjp hjq
        cases e
        cases e'
        replace g0 := (BW.out.cell (World.block_lt_of_cell? w _ g0)).trans g0
        have hne1 : (ad.add (ji.toNat * 4)).block ≠ wr.heap.size := Nat.ne_of_lt (World.block_lt_of_cell? _ _ g0)
        have hne0 : ad.block ≠ wr.heap.size := by rw [add_block] at hne1; exact hne1
        clear g1 g2 g3 hji
        have hjpd : decide (0 ≤ ji) = true := decide_eq_true hjp
        have hjqd : decide (ji < (l0.length : Int)) = true := decide_eq_true hjq
        replace hjp := eq_true hjp
        replace hjq := eq_true hjq
        generalize hy : rd_T33 l0 (kk : Int) = y at h0 h1 h2 h3
        have HY := Aside0.mk hy
        clear hy
        generalize hz : rd_T33 l0 ji = z at g0
        have HZ := Aside0.mk (show rd_T33 l0 ((kk : Int) - 1) = z by rw [← HJ.out]; exact hz)
        clear hz
        have g0a : ∀ o, (wr.alloc o).cell? (ad.add (ji.toNat * 4)) = some (.int .i64 z.f0) := fun o => (World.cell?_alloc_lt wr o _ (World.block_lt_of_cell? _ _ g0)).trans g0
        go_wp2_with fail
        refine wp_region_quiet_lit (by kernel_rfl) (by kernel_rfl) ?_
        repeat (any_goals (first | go_big_quiet_step ((go_at_call 57; exact Calls.quiet_of_same (named57 _ _))) | quiet_step ((go_at_call 57; exact Calls.quiet_of_same (named57 _ _))) | (refine wpQuiet_step (fun K hK => ?_); go_simp; split <;> (refine hK _ ?_; clear hK K))))
        all_goals (refine wpQuiet_nil ?_; intro _ hw'; obtain ⟨nq, hw''⟩ := hw'; subst hw'')
        all_goals go_wp2_with fail
        all_goals first
          | (go_ret
             refine ⟨?_, by repeat (first | exact BW.out | apply below_alloc | apply pw_below_drewN | apply below_drew1)⟩
             rw [← HV.out, rightB_bad l0 kk hlt (by unfold okAt; rw [HY.out, HZ.out]; first | (simp [*]; done) | (simp [*]; omega))]
             rfl)
          | (go_roundg (l0.length - (kk + 1))
             case measure => omega
             case rel =>
               refine ⟨kk + 1, by omega, by omega, by go_num, ⟨by repeat (first | exact BW.out | apply below_alloc | apply pw_below_drewN | apply below_drew1)⟩, ⟨fun j hj => ?_⟩⟩
               by_cases e : j = kk
               · subst e
                 unfold okAt
                 rw [HY.out, HZ.out]
                 first | (simp [*]; done) | (simp [*]; omega)
               · exact AF.out j (by omega))
      · have hk0z : ¬ (0 : Int) < (kk : Int) := by omega
        have hk0b : decide ((0 : Int) < (kk : Int)) = false := decide_eq_false hk0z
        cases e
        generalize hy : rd_T33 l0 (kk : Int) = y at h0 h1 h2 h3
        have HY := Aside0.mk hy
        clear hy
        go_wp2_with fail
        refine wp_region_quiet_lit (by kernel_rfl) (by kernel_rfl) ?_
        repeat (any_goals (first | go_big_quiet_step ((go_at_call 57; exact Calls.quiet_of_same (named57 _ _))) | quiet_step ((go_at_call 57; exact Calls.quiet_of_same (named57 _ _))) | (refine wpQuiet_step (fun K hK => ?_); go_simp; split <;> (refine hK _ ?_; clear hK K))))
        all_goals (refine wpQuiet_nil ?_; intro _ hw'; obtain ⟨nq, hw''⟩ := hw'; subst hw'')
        all_goals go_wp2_with fail
        all_goals first
          | (go_ret
             refine ⟨?_, by repeat (first | exact BW.out | apply below_alloc | apply pw_below_drewN | apply below_drew1)⟩
             rw [← HV.out, rightB_bad l0 kk hlt (by unfold okAt; rw [HY.out]; simp [*])]
             rfl)
          | (go_roundg (l0.length - (kk + 1))
             case measure => omega
             case rel =>
               refine ⟨kk + 1, by omega, by omega, by go_num, ⟨by repeat (first | exact BW.out | apply below_alloc | apply pw_below_drewN | apply below_drew1)⟩, ⟨fun j hj => ?_⟩⟩
               by_cases e : j = kk
               · subst e
                 unfold okAt
                 rw [HY.out]
                 simp [*]
               · exact AF.out j (by omega))
    · have hltz : ¬ (kk : Int) < (l0.length : Int) := by omega
      have HG := Aside0.mk (rightB_good l0 (fun j hj => AF.out j (by omega)))
      go_wp2
      all_goals
        go_ret
        refine ⟨?_, BW.out⟩
        rw [← HV.out, HG.out]
        rfl
end Go.Proofs.YtbfimjncophcaaaDoor.Pr
namespace Go.Proofs.YtbfimjncophcaaaDoor.Pr
open Go.RowKit Go.Proofs.YtbfimjncophcaaaDoorW.PrintWords Go.Proofs.YtbfimjncophcaaaDoorW.PrintLast Go.Proofs.YtbfimjncophcaaaDoorW.PrintMore
attribute [local go_sem] max2_int min2_int max_two min_two max_three min_three max_four min_four
set_option linter.unusedVariables false
set_option linter.unusedSimpArgs false
def approval_Check.l0 : Nat → List (S33) → List (S25) → List (S25) → Int → Int → Option (Int × Int)
 | 0, _, _, _, _, _ => none
 | k + 1, x0, x1, x15, x16, x17 => if x17 < x16 then (if 0 ≤ x17 then (if x17 < (x15.length : Int) then (if x17 ≤ (x1.length : Int) then ((approval_fault.f x0 (x1.take (x17 : Int).toNat) ((rd_T25 x15 x17).f0) ((rd_T25 x15 x17).f1) ((rd_T25 x15 x17).f2) ((rd_T25 x15 x17).f3)).bind fun t135 => (if t135 = 0 then ((approval_signer.f x0 ((rd_T25 x15 x17).f0)).bind fun t136 => (if 0 ≤ t136 then (if t136 < (x0.length : Int) then ((approval_code.f ((rd_T33 x0 t136).f3) ((rd_T25 x15 x17).f0) ((rd_T25 x15 x17).f1) ((rd_T25 x15 x17).f2) ((rd_T25 x15 x17).f3)).bind fun t138 => (if ((rd_T25 x15 x17).f3).toList = t138.toList then (approval_Check.l0 k x0 x1 x15 x16 (wrap64 (x17 + 1))) else (some (x17, 14)))) else (none)) else (none))) else (some (x17, t135)))) else (none)) else (none)) else (none)) else (some ((-1), 0))
def approval_Check.f (k : Nat) (l0 : List (S33)) (l1 : List (S25)) : Option (Int × Int) := (approval_right.f l0).bind fun t128 => (if t128 = true then (if (l1.length : Int) > 1024 then (some ((-1), 8)) else (approval_Check.l0 k l0 l1 l1 (l1.length : Int) 0)) else (some ((-1), 1)))
def approval_Check.T11 : Bool × List (List Nat × List Nat) := (true, [([], []), ([0], [0]), ([], []), ([], []), ([], []), ([4], [4]), ([3, 5], [3, 5]), ([2, 6], [2, 6]), ([7], [7]), ([8], [8]), ([], []), ([9, 10, 6], [9, 10]), ([1, 11], [1, 11])])
def approval_Check.B11 : List Nat := [0, 1, 0, 0, 0, 16, 56, 124, 252, 508, 0, 2044, 4095]
theorem approval_Check.tab11 : rtab .any (opsOf Tryd.f11 11) = approval_Check.T11 := by kernel_rfl
theorem approval_Check.bits11 : waitsOk approval_Check.T11.2 approval_Check.B11 = true := by kernel_rfl
set_option maxHeartbeats 8000000 in
set_option maxRecDepth 100000 in
theorem approval_Check.calls (k : Nat) (A0 : Option Addr) (c0 : Nat) (l0 : List (S33)) (A1 : Option Addr) (c1 : Nat) (l1 : List (S25)) (r1 : Int) (r2 : Int) (w : World) (hr0 : Kd.C k33 w A0 l0.length l0) (hc0 : l0.length ≤ c0) (hr1 : Kd.C k25 w A1 l1.length l1) (hc1 : l1.length ≤ c1) (hL : LaidW w) (h : approval_Check.f k l0 l1 = some (r1, r2)) :
  Calls Tryd.prog 11 #[.slice A0 l0.length c0, .slice A1 l1.length c1] w fun e w' => e = .returned (.tuple #[.int .i64 r1, .int .i64 r2]) ∧ Below w.heap.size w w' := by
 have hu25 := Tryd.underlying25
 have HR0 := Aside0.mk hr0
 have HC0 := Aside0.mk hc0
 clear hr0 hc0
 have HR1 := Aside0.mk hr1
 have HC1 := Aside0.mk hc1
 clear hr1 hc1
 have HB := Aside0.mk (Below.refl w.heap.size w)
 have HLW := Aside0.mk hL
 clear hL
 have H : ((approval_right.f l0).bind fun t128 => (if t128 = true then (if (l1.length : Int) > 1024 then (some ((-1), 8)) else (approval_Check.l0 k l0 l1 l1 (l1.length : Int) 0)) else (some ((-1), 1)))) = some (r1, r2) := h
 clear h
 replace H := Option.bind_eq_some_iff.mp H
 obtain ⟨t128, A30, H⟩ := H
 replace H : (if t128 = true then (if (l1.length : Int) > 1024 then (some ((-1), 8)) else (approval_Check.l0 k l0 l1 l1 (l1.length : Int) 0)) else (some ((-1), 1))) = some (r1, r2) := H
 have A3 := Aside0.mk A30
 clear A30
 by_cases c4 : t128 = true
 ·subst c4
  have H1 : (if (l1.length : Int) > 1024 then (some ((-1), 8)) else (approval_Check.l0 k l0 l1 l1 (l1.length : Int) 0)) = some (r1, r2) := by rw [if_pos rfl] at H; exact H
  clear H
  have H := H1
  clear H1
  by_cases c5 : (l1.length : Int) > 1024
  ·rw [if_pos c5] at H
   have c5b0 : decide (1024 < (l1.length : Int)) = true := decide_eq_true c5
   have c5b1 : decide (1024 < l1.length) = true := decide_eq_true (by omega)
   clear c5
   simp only [Option.some.injEq, Prod.mk.injEq] at H
   obtain ⟨rfl, rfl⟩ := H
   go_enter Tryd.func11, Tryd.ntmps11
   go_wp2_with (first | ((with_reducible refine gate_callee (f := 35) rfl ?_); refine goesL_ (some 10) rfl rfl Tryd.func35 (by kernel_rfl) rfl #[.slice A0 l0.length c0] rfl (by (try simp only [List.map_toArray, List.map_cons, List.map_nil]); first | done | rfl | (simp only [List.length_drop, List.length_take]; rfl)) ?_; (with_reducible refine (approval_right.calls _ _ l0 true _ ?side1 ?side2 A3.out).mono ?_); (case side1 => repeat (first | exact HR0.out | (with_reducible refine Kd.C_alloc ?_ _) | (with_reducible refine Kd.C_drewN ?_ _) | (with_reducible refine Kd.C_drew ?_))); (case side2 => exact HC0.out); rintro e w6 ⟨rfl, hb⟩; refine ⟨_, rfl, ?_⟩; have n0_ := Aside0.mk (below_step (by repeat (first | (with_reducible first | exact HB.out | apply below_alloc | apply pw_below_drewN | apply below_drew1) | exact HB.out)) hb); clear HB; have HB := n0_; clear n0_; (try clear hb); (try clear hb2); (try clear hk); (try clear hi)))
   go_ret2
   exact ⟨by first | rfl | (simp [errW_none, errW_some] <;> rfl) | (simp [*, errW_none, errW_some] <;> rfl), by repeat (first | (with_reducible first | exact HB.out | apply below_alloc | apply pw_below_drewN | apply below_drew1) | exact HB.out)⟩
  ·rw [if_neg c5] at H
   have c5b0 : decide (1024 < (l1.length : Int)) = false := decide_eq_false c5
   have c5b1 : decide (1024 < l1.length) = false := decide_eq_false (by omega)
   clear c5
   have H' := Aside0.mk H
   clear H
   go_enter Tryd.func11, Tryd.ntmps11
   go_wp2_with (first | ((with_reducible refine gate_callee (f := 35) rfl ?_); refine goesL_ (some 10) rfl rfl Tryd.func35 (by kernel_rfl) rfl #[.slice A0 l0.length c0] rfl (by (try simp only [List.map_toArray, List.map_cons, List.map_nil]); first | done | rfl | (simp only [List.length_drop, List.length_take]; rfl)) ?_; (with_reducible refine (approval_right.calls _ _ l0 true _ ?side1 ?side2 A3.out).mono ?_); (case side1 => repeat (first | exact HR0.out | (with_reducible refine Kd.C_alloc ?_ _) | (with_reducible refine Kd.C_drewN ?_ _) | (with_reducible refine Kd.C_drew ?_))); (case side2 => exact HC0.out); rintro e w7 ⟨rfl, hb⟩; refine ⟨_, rfl, ?_⟩; have n0_ := Aside0.mk (below_step (by repeat (first | (with_reducible first | exact HB.out | apply below_alloc | apply pw_below_drewN | apply below_drew1) | exact HB.out)) hb); clear HB; have HB := n0_; clear n0_; (try clear hb); (try clear hb2); (try clear hk); (try clear hi)))
   go_loopg [17] k (fun kq v17 w' => ∃ (x17_1 : Int), v17 = .int .i64 x17_1 ∧ Aside0 (approval_Check.l0 kq l0 l1 l1 (l1.length : Int) x17_1 = some (r1, r2)) ∧ Aside0 (kq ≤ k) ∧ Aside0 (Below w.heap.size w w'))
   case atStart => exact ⟨(0), (by first | rfl | (simp; done) | (simp [*]; done)), H', ⟨Nat.le_refl _⟩, ⟨by repeat (first | (with_reducible first | exact HB.out | apply below_alloc | apply pw_below_drewN | apply below_drew1) | exact HB.out)⟩⟩
   case round =>
    clear H'
    try clear c1
    try clear p2
    try clear c3
    try clear c4
    try clear c5
    try clear c5b0
    try clear c5b1
    obtain ⟨x17_1, rfl, HA, HK1, HB⟩ := hrel
    cases gk with
    | zero => exact absurd HA.out (by simp [approval_Check.l0])
    | succ k1 =>
     have H := HA.out
     clear HA
     simp only [approval_Check.l0] at H
     by_cases c8 : x17_1 < (l1.length : Int)
     ·rw [if_pos c8] at H
      have c8b0 : decide (x17_1 < (l1.length : Int)) = true := decide_eq_true c8
      clear c8
      by_cases c9 : 0 ≤ x17_1
      ·rw [if_pos c9] at H
       have c9b0 : decide (0 ≤ x17_1) = true := decide_eq_true c9
       clear c9
       by_cases c10 : x17_1 < (l1.length : Int)
       ·rw [if_pos c10] at H
        have c10b0 : decide (x17_1 < (l1.length : Int)) = true := decide_eq_true c10
        clear c10
        have c11b0 := eq_true (of_decide_eq_true (by first | (with_reducible assumption) | assumption) : 0 ≤ x17_1)
        by_cases c12 : x17_1 ≤ (l1.length : Int)
        ·rw [if_pos c12] at H
         have c12b0 := eq_true c12
         have c12b1 : decide (x17_1 ≤ (l1.length : Int)) = true := decide_eq_true c12
         clear c12
         obtain ⟨y131, hy131⟩ : ∃ y_ : List (S25), y_ = (l1.take (x17_1 : Int).toNat) := ⟨_, rfl⟩
         replace H : ((approval_fault.f l0 y131 ((rd_T25 l1 x17_1).f0) ((rd_T25 l1 x17_1).f1) ((rd_T25 l1 x17_1).f2) ((rd_T25 l1 x17_1).f3)).bind fun t135 => (if t135 = 0 then ((approval_signer.f l0 ((rd_T25 l1 x17_1).f0)).bind fun t136 => (if 0 ≤ t136 then (if t136 < (l0.length : Int) then ((approval_code.f ((rd_T33 l0 t136).f3) ((rd_T25 l1 x17_1).f0) ((rd_T25 l1 x17_1).f1) ((rd_T25 l1 x17_1).f2) ((rd_T25 l1 x17_1).f3)).bind fun t138 => (if ((rd_T25 l1 x17_1).f3).toList = t138.toList then (approval_Check.l0 k1 l0 l1 l1 (l1.length : Int) (wrap64 (x17_1 + 1))) else (some (x17_1, 14)))) else (none)) else (none))) else (some (x17_1, t135)))) = some (r1, r2) := by first | (rw [hy131]; with_reducible exact H) | (have H2_ := (Option.bind_some _ _).symm.trans H; rw [hy131]; with_reducible exact H2_) | (have H2_ := (Option.bind_some _ _).symm.trans H; with_reducible exact H2_) | with_reducible exact H | (rw [hy131]; exact H) | exact H
         have Ny131 := Aside0.mk hy131
         clear hy131
         replace H := Option.bind_eq_some_iff.mp H
         obtain ⟨t135, A130, H⟩ := H
         replace H : (if t135 = 0 then ((approval_signer.f l0 ((rd_T25 l1 x17_1).f0)).bind fun t136 => (if 0 ≤ t136 then (if t136 < (l0.length : Int) then ((approval_code.f ((rd_T33 l0 t136).f3) ((rd_T25 l1 x17_1).f0) ((rd_T25 l1 x17_1).f1) ((rd_T25 l1 x17_1).f2) ((rd_T25 l1 x17_1).f3)).bind fun t138 => (if ((rd_T25 l1 x17_1).f3).toList = t138.toList then (approval_Check.l0 k1 l0 l1 l1 (l1.length : Int) (wrap64 (x17_1 + 1))) else (some (x17_1, 14)))) else (none)) else (none))) else (some (x17_1, t135))) = some (r1, r2) := H
         have A13 := Aside0.mk A130
         clear A130
         by_cases c14 : t135 = 0
         ·rw [if_pos c14] at H
          have c14b0 : (t135 == 0) = true := beq_iff_eq.mpr c14
          have c14b1 : (t135 != 0) = false := bne_eq_false_iff_eq.mpr c14
          clear c14
          replace H := Option.bind_eq_some_iff.mp H
          obtain ⟨t136, A150, H⟩ := H
          replace H : (if 0 ≤ t136 then (if t136 < (l0.length : Int) then ((approval_code.f ((rd_T33 l0 t136).f3) ((rd_T25 l1 x17_1).f0) ((rd_T25 l1 x17_1).f1) ((rd_T25 l1 x17_1).f2) ((rd_T25 l1 x17_1).f3)).bind fun t138 => (if ((rd_T25 l1 x17_1).f3).toList = t138.toList then (approval_Check.l0 k1 l0 l1 l1 (l1.length : Int) (wrap64 (x17_1 + 1))) else (some (x17_1, 14)))) else (none)) else (none)) = some (r1, r2) := H
          have A15 := Aside0.mk A150
          clear A150
          by_cases c16 : 0 ≤ t136
          ·rw [if_pos c16] at H
           have c16b0 : decide (0 ≤ t136) = true := decide_eq_true c16
           clear c16
           by_cases c17 : t136 < (l0.length : Int)
           ·rw [if_pos c17] at H
            have c17b0 : decide (t136 < (l0.length : Int)) = true := decide_eq_true c17
            clear c17
            replace H := Option.bind_eq_some_iff.mp H
            obtain ⟨t138, A180, H⟩ := H
            replace H : (if ((rd_T25 l1 x17_1).f3).toList = t138.toList then (approval_Check.l0 k1 l0 l1 l1 (l1.length : Int) (wrap64 (x17_1 + 1))) else (some (x17_1, 14))) = some (r1, r2) := H
            have A18 := Aside0.mk A180
            clear A180
            by_cases c19 : ((rd_T25 l1 x17_1).f3).toList = t138.toList
            ·rw [if_pos c19] at H
             have c19b0 : (((rd_T25 l1 x17_1).f3).toList == t138.toList) = true := beq_iff_eq.mpr c19
             have c19b1 : (((rd_T25 l1 x17_1).f3).toList != t138.toList) = false := bne_eq_false_iff_eq.mpr c19
             clear c19
             have H' := Aside0.mk H
             clear H
             have p129 : 0 ≤ (x17_1 : Int) := of_decide_eq_true (by first | (with_reducible assumption) | assumption)
             have q129 : x17_1 < (l1.length : Int) := of_decide_eq_true (by first | (with_reducible assumption) | assumption)
             obtain ⟨ad129, e129, hx129_0, hx129_1, hx129_2, hx129_3⟩ := at_T25 HR1.out x17_1 p129 q129
             cases e129
             replace hx129_0 := (HB.out.cell (World.block_lt_of_cell? w _ hx129_0)).trans hx129_0
             replace hx129_1 := (HB.out.cell (World.block_lt_of_cell? w _ hx129_1)).trans hx129_1
             replace hx129_2 := (HB.out.cell (World.block_lt_of_cell? w _ hx129_2)).trans hx129_2
             replace hx129_3 := (HB.out.cell (World.block_lt_of_cell? w _ hx129_3)).trans hx129_3
             replace p129 := eq_true p129
             replace q129 := eq_true q129
             try go_wp2_with (first | ((with_reducible refine gate_dst (N := 7) rfl ?_); refine box_event ?hg (N := 7) ?hd (cs := #[.int .i64 0, .int .i64 0, .string (⟨#[]⟩ : ByteArray), .string (⟨#[]⟩ : ByteArray)]) (t := 25) ?hr ?_; (case hd => rfl); (case hg => rfl); (case hr => first | (go_simp; done) | (go_simp; rfl)); intro gb130 hg w20 hbox hb; have n0_ := Aside0.mk (below_step (by repeat (first | (with_reducible first | exact HB.out | apply below_alloc | apply pw_below_drewN | apply below_drew1) | exact HB.out)) hb); have n1_ := Aside0.mk (hbox); have n2_ := Aside0.mk ((by rw [hg]; exact (below_size (by repeat (first | (with_reducible first | exact HB.out | apply below_alloc | apply pw_below_drewN | apply below_drew1) | exact HB.out))) : w.heap.size ≤ gb130)); have n3_ := Aside0.mk ((by rw [hg]; exact (below_size (by repeat (first | (with_reducible first | exact HB.out | apply below_alloc | apply pw_below_drewN | apply below_drew1) | exact HB.out))) : w.heap.size ≤ gb130)); clear HB; have HB := n0_; have BK130 := n1_; have GW130 := n2_; have GE130 := n3_; clear n0_ n1_ n2_ n3_; clear hb hbox hg; have hcz21_0 : w20.cell? ⟨gb130, 0, none⟩ = some (.int .i64 0) := (blk_cell BK130.out 0).trans rfl; have hcz21_1 : w20.cell? ⟨gb130, 1, none⟩ = some (.int .i64 0) := (blk_cell BK130.out 1).trans rfl; have hcz21_2 : w20.cell? ⟨gb130, 2, none⟩ = some (.string (⟨#[]⟩ : ByteArray)) := (blk_cell BK130.out 2).trans rfl; have hcz21_3 : w20.cell? ⟨gb130, 3, none⟩ = some (.string (⟨#[]⟩ : ByteArray)) := (blk_cell BK130.out 3).trans rfl; have hfz21_0 := blk_frozen BK130.out 0; have hfz21_1 := blk_frozen BK130.out 1; have hfz21_2 := blk_frozen BK130.out 2; have hfz21_3 := blk_frozen BK130.out 3))
             have n0_ : Aside0 (((((w20.setCell ⟨gb130, 0, none⟩ (.int .i64 ((rd_T25 l1 x17_1).f0))).setCell ⟨gb130, 1, none⟩ (.int .i64 ((rd_T25 l1 x17_1).f1))).setCell ⟨gb130, 2, none⟩ (.string ((rd_T25 l1 x17_1).f2))).setCell ⟨gb130, 3, none⟩ (.string ((rd_T25 l1 x17_1).f3))).heap[gb130]? = some (.cells #[.int .i64 ((rd_T25 l1 x17_1).f0), .int .i64 ((rd_T25 l1 x17_1).f1), .string ((rd_T25 l1 x17_1).f2), .string ((rd_T25 l1 x17_1).f3)] 25 (0, 0))) := ⟨by (with_reducible repeat (first | refine blk_drewN ?_ _ | refine blk_drew ?_ | refine blk_alloc ?_ _)); refine blk_put (cs := #[.int .i64 ((rd_T25 l1 x17_1).f0), .int .i64 ((rd_T25 l1 x17_1).f1), .string ((rd_T25 l1 x17_1).f2), .string (⟨#[]⟩ : ByteArray)]) ?_ 3 _ rfl; (with_reducible repeat (first | refine blk_drewN ?_ _ | refine blk_drew ?_ | refine blk_alloc ?_ _)); refine blk_put (cs := #[.int .i64 ((rd_T25 l1 x17_1).f0), .int .i64 ((rd_T25 l1 x17_1).f1), .string (⟨#[]⟩ : ByteArray), .string (⟨#[]⟩ : ByteArray)]) ?_ 2 _ rfl; (with_reducible repeat (first | refine blk_drewN ?_ _ | refine blk_drew ?_ | refine blk_alloc ?_ _)); refine blk_put (cs := #[.int .i64 ((rd_T25 l1 x17_1).f0), .int .i64 0, .string (⟨#[]⟩ : ByteArray), .string (⟨#[]⟩ : ByteArray)]) ?_ 1 _ rfl; (with_reducible repeat (first | refine blk_drewN ?_ _ | refine blk_drew ?_ | refine blk_alloc ?_ _)); refine blk_put (cs := #[.int .i64 0, .int .i64 0, .string (⟨#[]⟩ : ByteArray), .string (⟨#[]⟩ : ByteArray)]) ?_ 0 _ rfl; (with_reducible repeat (first | refine blk_drewN ?_ _ | refine blk_drew ?_ | refine blk_alloc ?_ _)); exact BK130.out⟩
             have n1_ : Aside0 (Below w.heap.size w ((((w20.setCell ⟨gb130, 0, none⟩ (.int .i64 ((rd_T25 l1 x17_1).f0))).setCell ⟨gb130, 1, none⟩ (.int .i64 ((rd_T25 l1 x17_1).f1))).setCell ⟨gb130, 2, none⟩ (.string ((rd_T25 l1 x17_1).f2))).setCell ⟨gb130, 3, none⟩ (.string ((rd_T25 l1 x17_1).f3)))) := ⟨by repeat (first | (with_reducible first | exact HB.out | apply below_alloc | apply pw_below_drewN | apply below_drew1 | refine below_set ?_ GE130.out) | exact HB.out)⟩
             (try clear BK130)
             (try clear HB)
             generalize ((((w20.setCell ⟨gb130, 0, none⟩ (.int .i64 ((rd_T25 l1 x17_1).f0))).setCell ⟨gb130, 1, none⟩ (.int .i64 ((rd_T25 l1 x17_1).f1))).setCell ⟨gb130, 2, none⟩ (.string ((rd_T25 l1 x17_1).f2))).setCell ⟨gb130, 3, none⟩ (.string ((rd_T25 l1 x17_1).f3))) = w22 at n0_ n1_ ⊢
             have BK130 := n0_
             have HB := n1_
             clear n0_ n1_
             have n0_ := Aside0.mk (blk_drew BK130.out)
             have n1_ := Aside0.mk (below_drew1 HB.out)
             clear BK130
             clear HB
             have BK130 := n0_
             have HB := n1_
             clear n0_ n1_
             have q24 : (x17_1 : Int) ≤ ((l1.length : Int) : Int) := of_decide_eq_true (by first | (with_reducible assumption) | assumption)
             obtain ⟨i024, hi024, _, hsz24, _⟩ := info_parts info25
             have hroom24 : l1.length ≤ c1 := HC1.out
             have hC24 : Kd.C k25 _ (some ad129) l1.length l1 := HR1.out
             have hcut24 := cut_to (P := Tryd.prog) 23 25 .i64 Tryd.underlying23 hi024 (some ad129) l1.length c1 x17_1 (of_decide_eq_true (by first | (with_reducible assumption) | assumption)) q24 hroom24
             have hr24 := Kd.C_take (m := (x17_1 : Int).toNat) hC24 (by omega)
             have hy24 : y131.length = (x17_1 : Int).toNat := (by rw [Ny131.out, List.length_take]; omega)
             rw [← Ny131.out] at hr24
             rw [← hy24] at hcut24
             have HR134 := Aside0.mk hr24
             have HC134 := Aside0.mk (show y131.length ≤ c1 from by omega)
             clear hr24 hC24 hroom24 hi024 hsz24
             have KY24 := Aside0.mk hy24
             clear hy24
             replace q24 := eq_true q24
             refine start_ (n := 7) (S := fun w' => w'.cell? ⟨gb130, 0, none⟩ = some (.int .i64 ((rd_T25 l1 x17_1).f0)) ∧ w'.cell? ⟨gb130, 1, none⟩ = some (.int .i64 ((rd_T25 l1 x17_1).f1)) ∧ w'.cell? ⟨gb130, 2, none⟩ = some (.string ((rd_T25 l1 x17_1).f2)) ∧ w'.cell? ⟨gb130, 3, none⟩ = some (.string ((rd_T25 l1 x17_1).f3))) (ds := []) #[false, false, false, false, false, false, false] (by kernel_rfl) rfl rfl ⟨(blk_cell BK130.out 0).trans rfl, (blk_cell BK130.out 1).trans rfl, (blk_cell BK130.out 2).trans rfl, (blk_cell BK130.out 3).trans rfl⟩ (fun hHeld => ?_)
             generalize w22.drew = w23 at BK130 HB HR134 hHeld ⊢
             refine pure_ (i := 0) (N := some 22) (v := ?_) (a' := ?_) #[true, false, false, false, false, false, false] rfl rfl (by kernel_rfl) (fun _ _ _ h => h) (Or.inl ⟨by rfl, ?_⟩) ?_ ?_
             rotate_left
             ·intro w'
              go_simp
              with_reducible rfl
             rotate_left
             ·simp only [Act.put, List.setIfInBounds_toArray, List.set_cons_zero, List.set_cons_succ, i64_w, i32_w]
              rfl
             refine pure_ (i := 1) (N := some 23) (v := ?_) (a' := ?_) #[true, true, false, false, false, false, false] rfl rfl (by kernel_rfl) (fun _ _ _ h => h) (Or.inl ⟨by rfl, ?_⟩) ?_ ?_
             rotate_left
             ·intro w'
              go_simp
              with_reducible rfl
             rotate_left
             ·simp only [Act.put, List.setIfInBounds_toArray, List.set_cons_zero, List.set_cons_succ, i64_w, i32_w]
              rfl
             refine pure_ (i := 2) (N := some 24) (v := ?_) (a' := ?_) #[true, true, true, false, false, false, false] rfl rfl (by kernel_rfl) (fun _ _ _ h => h) (Or.inl ⟨by rfl, ?_⟩) ?_ ?_
             rotate_left
             ·intro w'
              go_simp
              with_reducible rfl
             rotate_left
             ·simp only [Act.put, List.setIfInBounds_toArray, List.set_cons_zero, List.set_cons_succ, i64_w, i32_w]
              rfl
             refine pure_ (i := 3) (N := some 25) (v := ?_) (a' := ?_) #[true, true, true, true, false, false, false] rfl rfl (by kernel_rfl) (fun _ _ _ h => h) (Or.inl ⟨by rfl, ?_⟩) ?_ ?_
             rotate_left
             ·intro w'
              go_simp
              with_reducible rfl
             rotate_left
             ·simp only [Act.put, List.setIfInBounds_toArray, List.set_cons_zero, List.set_cons_succ, i64_w, i32_w]
              rfl
             refine take_ (i := 4) (N := some 26) (v := ?_) (a' := ?_) #[true, true, true, true, true, false, false] rfl rfl (by kernel_rfl) (fun _ _ _ h => h) (Or.inl ⟨by rfl, ?_⟩) hHeld ?_ ?_
             rotate_left
             ·rintro w' ⟨s0, s1, s2, s3⟩
              go_simp
              with_reducible rfl
             rotate_left
             ·simp only [Act.put, List.setIfInBounds_toArray, List.set_cons_zero, List.set_cons_succ, i64_w, i32_w]
              rfl
             refine one_ (i := 5) (N := some 27) #[true, true, true, true, true, true, false] rfl rfl (by kernel_rfl) (by decide) (fun K hK => ?_)
             refine goes_ Tryd.func36 (by kernel_rfl) rfl #[.slice A0 l0.length c0, .slice (some ad129) y131.length c1, .agg #[.int .i64 ((rd_T25 l1 x17_1).f0), .int .i64 ((rd_T25 l1 x17_1).f1), .string ((rd_T25 l1 x17_1).f2), .string ((rd_T25 l1 x17_1).f3)]] (by rfl) rfl rfl (by (try simp only [List.map_toArray, List.map_cons, List.map_nil]); first | done | rfl | (simp only [List.length_drop, List.length_take]; rfl)) ?_
             with_reducible refine (approval_fault.calls _ _ l0 _ _ y131 ((rd_T25 l1 x17_1).f0) ((rd_T25 l1 x17_1).f1) ((rd_T25 l1 x17_1).f2) ((rd_T25 l1 x17_1).f3) t135 _ ?side1 ?side2 ?side3 ?side4 A13.out).mono ?_
             (case side1 => repeat (first | exact (Kd.C_below HR0.out HB.out) | (with_reducible refine Kd.C_alloc ?_ _) | (with_reducible refine Kd.C_drewN ?_ _) | (with_reducible refine Kd.C_drew ?_)))
             (case side2 => exact HC0.out)
             (case side3 => repeat (first | exact (Kd.C_below HR134.out HB.out) | (with_reducible refine Kd.C_alloc ?_ _) | (with_reducible refine Kd.C_drewN ?_ _) | (with_reducible refine Kd.C_drew ?_)))
             (case side4 => exact HC134.out)
             rintro e w25 ⟨rfl, hb⟩
             refine ⟨_, rfl, ?_⟩
             have n0_ := Aside0.mk (blk_below (g := gb130) (o := .cells #[.int .i64 ((rd_T25 l1 x17_1).f0), .int .i64 ((rd_T25 l1 x17_1).f1), .string ((rd_T25 l1 x17_1).f2), .string ((rd_T25 l1 x17_1).f3)] 25 (0, 0)) (by (with_reducible repeat (first | refine blk_drewN ?_ _ | refine blk_drew ?_ | refine blk_alloc ?_ _)); exact BK130.out) hb)
             have n1_ := Aside0.mk (below_step (by repeat (first | (with_reducible first | exact HB.out | apply below_alloc | apply pw_below_drewN | apply below_drew1 | refine below_set ?_ GE130.out) | exact HB.out)) hb)
             clear BK130
             clear HB
             have BK130 := n0_
             have HB := n1_
             clear n0_ n1_
             (try clear hb)
             (try clear hb2)
             (try clear hk)
             (try clear hi)
             refine hK.out _ _ ⟨(blk_cell BK130.out 0).trans rfl, (blk_cell BK130.out 1).trans rfl, (blk_cell BK130.out 2).trans rfl, (blk_cell BK130.out 3).trans rfl⟩ (fun hHeld => ?_)
             clear hK K
             refine norm_ (a' := ?_) ?_ ?_
             rotate_left
             ·show Act.put _ (some 27) _ = _
              simp only [Act.put, List.setIfInBounds_toArray, List.set_cons_zero, List.set_cons_succ, i64_w, i32_w]
              rfl
             refine pure_ (i := 6) (N := some 8) (v := ?_) (a' := ?_) #[true, true, true, true, true, true, true] rfl rfl (by kernel_rfl) (fun _ _ _ h => h) (Or.inl ⟨by rfl, ?_⟩) ?_ ?_
             rotate_left
             ·intro w'
              go_simp
              with_reducible rfl
             rotate_left
             ·simp only [Act.put, List.setIfInBounds_toArray, List.set_cons_zero, List.set_cons_succ, i64_w, i32_w]
              rfl
             refine done_ (by kernel_rfl) ?_
             try go_wp2
             have n0_ := Aside0.mk (blk_drew BK130.out)
             have n1_ := Aside0.mk (below_drew1 HB.out)
             clear BK130
             clear HB
             have BK130 := n0_
             have HB := n1_
             clear n0_ n1_
             have p137 : 0 ≤ (t136 : Int) := of_decide_eq_true (by first | (with_reducible assumption) | assumption)
             have q137 : t136 < (l0.length : Int) := of_decide_eq_true (by first | (with_reducible assumption) | assumption)
             obtain ⟨ad137, e137, hx137_0, hx137_1, hx137_2, hx137_3⟩ := at_T33 HR0.out t136 p137 q137
             have hw137_3 := hx137_3
             have hw137_2 := hx137_2
             have hw137_1 := hx137_1
             have hw137_0 := hx137_0
             cases e137
             replace hx137_0 := (HB.out.cell (World.block_lt_of_cell? w _ hx137_0)).trans hx137_0
             replace hx137_1 := (HB.out.cell (World.block_lt_of_cell? w _ hx137_1)).trans hx137_1
             replace hx137_2 := (HB.out.cell (World.block_lt_of_cell? w _ hx137_2)).trans hx137_2
             replace hx137_3 := (HB.out.cell (World.block_lt_of_cell? w _ hx137_3)).trans hx137_3
             replace p137 := eq_true p137
             replace q137 := eq_true q137
             refine start_ (n := 13) (S := fun w' => w'.cell? ⟨gb130, 0, none⟩ = some (.int .i64 ((rd_T25 l1 x17_1).f0)) ∧ w'.cell? ⟨gb130, 1, none⟩ = some (.int .i64 ((rd_T25 l1 x17_1).f1)) ∧ w'.cell? ⟨gb130, 2, none⟩ = some (.string ((rd_T25 l1 x17_1).f2)) ∧ w'.cell? ⟨gb130, 3, none⟩ = some (.string ((rd_T25 l1 x17_1).f3)) ∧ w'.cell? (ad137.add ((t136).toNat * 4)) = some (.int .i64 ((rd_T33 l0 t136).f0)) ∧ w'.cell? ⟨(ad137.add ((t136).toNat * 4)).block, (ad137.add ((t136).toNat * 4)).off + 1, none⟩ = some (.int .i64 ((rd_T33 l0 t136).f1)) ∧ w'.cell? ⟨(ad137.add ((t136).toNat * 4)).block, (ad137.add ((t136).toNat * 4)).off + 2, none⟩ = some (.string ((rd_T33 l0 t136).f2)) ∧ w'.cell? ⟨(ad137.add ((t136).toNat * 4)).block, (ad137.add ((t136).toNat * 4)).off + 3, none⟩ = some (.string ((rd_T33 l0 t136).f3))) (ds := []) #[false, false, false, false, false, false, false, false, false, false, false, false, false] (by kernel_rfl) rfl rfl ⟨(blk_cell BK130.out 0).trans rfl, (blk_cell BK130.out 1).trans rfl, (blk_cell BK130.out 2).trans rfl, (blk_cell BK130.out 3).trans rfl, ((HB.out.cell (World.block_lt_of_cell? w _ hw137_0)).trans hw137_0), ((HB.out.cell (World.block_lt_of_cell? w _ hw137_1)).trans hw137_1), ((HB.out.cell (World.block_lt_of_cell? w _ hw137_2)).trans hw137_2), ((HB.out.cell (World.block_lt_of_cell? w _ hw137_3)).trans hw137_3)⟩ (fun hHeld => ?_); refine with_tabW approval_Check.tab11 approval_Check.bits11 (fun HT_ HW_ => ?_)
             generalize w25.drew = w26 at BK130 HB hx137_0 hx137_1 hx137_2 hx137_3 hHeld ⊢
             refine pure_ (i := 0) (N := some 32) (v := ?_) (a' := ?_) #[true, false, false, false, false, false, false, false, false, false, false, false, false] rfl rfl (any_of HT_.out (by kernel_rfl)) (fun _ _ _ h => h) (Or.inl ⟨by rfl, ?_⟩) ?_ ?_
             rotate_left
             ·intro w'
              go_simp
              with_reducible rfl
             rotate_left
             ·simp only [Act.put, List.setIfInBounds_toArray, List.set_cons_zero, List.set_cons_succ, i64_w, i32_w]
              rfl
             refine pure_ (i := 2) (N := some 34) (v := ?_) (a' := ?_) #[true, false, true, false, false, false, false, false, false, false, false, false, false] rfl rfl (any_of HT_.out (by kernel_rfl)) (fun _ _ _ h => h) (Or.inl ⟨by rfl, ?_⟩) ?_ ?_
             rotate_left
             ·intro w'
              go_simp
              with_reducible rfl
             rotate_left
             ·simp only [Act.put, List.setIfInBounds_toArray, List.set_cons_zero, List.set_cons_succ, i64_w, i32_w]
              rfl
             refine pure_ (i := 3) (N := some 35) (v := ?_) (a' := ?_) #[true, false, true, true, false, false, false, false, false, false, false, false, false] rfl rfl (any_of HT_.out (by kernel_rfl)) (fun _ _ _ h => h) (Or.inl ⟨by rfl, ?_⟩) ?_ ?_
             rotate_left
             ·intro w'
              go_simp
              with_reducible rfl
             rotate_left
             ·simp only [Act.put, List.setIfInBounds_toArray, List.set_cons_zero, List.set_cons_succ, i64_w, i32_w]
              rfl
             refine pure_ (i := 4) (N := some 36) (v := ?_) (a' := ?_) #[true, false, true, true, true, false, false, false, false, false, false, false, false] rfl rfl (any_of HT_.out (by kernel_rfl)) (fun _ _ _ h => h) (Or.inl ⟨by rfl, ?_⟩) ?_ ?_
             rotate_left
             ·intro w'
              go_simp
              with_reducible rfl
             rotate_left
             ·simp only [Act.put, List.setIfInBounds_toArray, List.set_cons_zero, List.set_cons_succ, i64_w, i32_w]
              rfl
             refine take_ (i := 1) (N := some 33) (v := ?_) (a' := ?_) #[true, true, true, true, true, false, false, false, false, false, false, false, false] rfl rfl (take_ofW HT_.out HW_.out (by kernel_rfl)) (fun _ _ _ h => h) (Or.inl ⟨by rfl, ?_⟩) hHeld ?_ ?_
             rotate_left
             ·rintro w' ⟨s0, s1, s2, s3, s4, s5, s6, s7⟩
              go_simp
              with_reducible rfl
             rotate_left
             ·simp only [Act.put, List.setIfInBounds_toArray, List.set_cons_zero, List.set_cons_succ, i64_w, i32_w]
              rfl
             refine take_ (i := 5) (N := some 37) (v := ?_) (a' := ?_) #[true, true, true, true, true, true, false, false, false, false, false, false, false] rfl rfl (take_ofW HT_.out HW_.out (by kernel_rfl)) (fun _ _ _ h => h) (Or.inl ⟨by rfl, ?_⟩) hHeld ?_ ?_
             rotate_left
             ·rintro w' ⟨s0, s1, s2, s3, s4, s5, s6, s7⟩
              go_simp
              with_reducible rfl
             rotate_left
             ·simp only [Act.put, List.setIfInBounds_toArray, List.set_cons_zero, List.set_cons_succ, i64_w, i32_w]
              rfl
             refine take_ (i := 10) (N := some 42) (v := ?_) (a' := ?_) #[true, true, true, true, true, true, false, false, false, false, true, false, false] rfl rfl (take_ofW HT_.out HW_.out (by kernel_rfl)) (fun _ _ _ h => h) (Or.inl ⟨by rfl, ?_⟩) hHeld ?_ ?_
             rotate_left
             ·rintro w' ⟨s0, s1, s2, s3, s4, s5, s6, s7⟩
              go_simp
              with_reducible rfl
             rotate_left
             ·simp only [Act.put, List.setIfInBounds_toArray, List.set_cons_zero, List.set_cons_succ, i64_w, i32_w]
              rfl
             refine one_ (i := 6) (N := some 38) #[true, true, true, true, true, true, true, false, false, false, true, false, false] rfl rfl (one_of HT_.out (by kernel_rfl)) (by decide) (fun K hK => ?_)
             refine goes_ Tryd.func38 (by kernel_rfl) rfl #[.slice (some ad137) l0.length c0, .int .i64 ((rd_T25 l1 x17_1).f0)] (by rfl) rfl rfl (by (try simp only [List.map_toArray, List.map_cons, List.map_nil]); first | done | rfl | (simp only [List.length_drop, List.length_take]; rfl)) ?_
             with_reducible refine (approval_signer.calls _ _ l0 ((rd_T25 l1 x17_1).f0) t136 _ ?side1 ?side2 A15.out).mono ?_
             (case side1 => repeat (first | exact (Kd.C_below HR0.out HB.out) | (with_reducible refine Kd.C_alloc ?_ _) | (with_reducible refine Kd.C_drewN ?_ _) | (with_reducible refine Kd.C_drew ?_)))
             (case side2 => exact HC0.out)
             rintro e w27 ⟨rfl, hb⟩
             refine ⟨_, rfl, ?_⟩
             have n0_ := Aside0.mk (blk_below (g := gb130) (o := .cells #[.int .i64 ((rd_T25 l1 x17_1).f0), .int .i64 ((rd_T25 l1 x17_1).f1), .string ((rd_T25 l1 x17_1).f2), .string ((rd_T25 l1 x17_1).f3)] 25 (0, 0)) (by (with_reducible repeat (first | refine blk_drewN ?_ _ | refine blk_drew ?_ | refine blk_alloc ?_ _)); exact BK130.out) hb)
             have n1_ := Aside0.mk (below_step (by repeat (first | (with_reducible first | exact HB.out | apply below_alloc | apply pw_below_drewN | apply below_drew1 | refine below_set ?_ GE130.out) | exact HB.out)) hb)
             clear BK130
             clear HB
             have BK130 := n0_
             have HB := n1_
             clear n0_ n1_
             (try clear hb)
             (try clear hb2)
             (try clear hk)
             (try clear hi)
             refine hK.out _ _ ⟨(blk_cell BK130.out 0).trans rfl, (blk_cell BK130.out 1).trans rfl, (blk_cell BK130.out 2).trans rfl, (blk_cell BK130.out 3).trans rfl, ((HB.out.cell (World.block_lt_of_cell? w _ hw137_0)).trans hw137_0), ((HB.out.cell (World.block_lt_of_cell? w _ hw137_1)).trans hw137_1), ((HB.out.cell (World.block_lt_of_cell? w _ hw137_2)).trans hw137_2), ((HB.out.cell (World.block_lt_of_cell? w _ hw137_3)).trans hw137_3)⟩ (fun hHeld => ?_)
             clear hK K
             refine norm_ (a' := ?_) ?_ ?_
             rotate_left
             ·show Act.put _ (some 38) _ = _
              simp only [Act.put, List.setIfInBounds_toArray, List.set_cons_zero, List.set_cons_succ, i64_w, i32_w]
              rfl
             refine pure_ (i := 7) (N := some 39) (v := ?_) (a' := ?_) #[true, true, true, true, true, true, true, true, false, false, true, false, false] rfl rfl (any_of HT_.out (by kernel_rfl)) (fun _ _ _ h => h) (Or.inl ⟨by rfl, ?_⟩) ?_ ?_
             rotate_left
             ·intro w'
              go_simp
              with_reducible rfl
             rotate_left
             ·simp only [Act.put, List.setIfInBounds_toArray, List.set_cons_zero, List.set_cons_succ, i64_w, i32_w]
              rfl
             refine pure_ (i := 8) (N := some 40) (v := ?_) (a' := ?_) #[true, true, true, true, true, true, true, true, true, false, true, false, false] rfl rfl (any_of HT_.out (by kernel_rfl)) (fun _ _ _ h => h) (Or.inl ⟨by rfl, ?_⟩) ?_ ?_
             rotate_left
             ·intro w'
              go_simp
              with_reducible rfl
             rotate_left
             ·simp only [Act.put, List.setIfInBounds_toArray, List.set_cons_zero, List.set_cons_succ, i64_w, i32_w]
              rfl
             refine take_ (i := 9) (N := some 41) (v := ?_) (a' := ?_) #[true, true, true, true, true, true, true, true, true, true, true, false, false] rfl rfl (take_ofW HT_.out HW_.out (by kernel_rfl)) (fun _ _ _ h => h) (Or.inl ⟨by rfl, ?_⟩) hHeld ?_ ?_
             rotate_left
             ·rintro w' ⟨s0, s1, s2, s3, s4, s5, s6, s7⟩
              go_simp
              with_reducible rfl
             rotate_left
             ·simp only [Act.put, List.setIfInBounds_toArray, List.set_cons_zero, List.set_cons_succ, i64_w, i32_w]
              rfl
             refine one_ (i := 11) (N := some 43) #[true, true, true, true, true, true, true, true, true, true, true, true, false] rfl rfl (one_of HT_.out (by kernel_rfl)) (by decide) (fun K hK => ?_)
             refine goes_ Tryd.func37 (by kernel_rfl) rfl #[.string ((rd_T33 l0 t136).f3), .agg #[.int .i64 ((rd_T25 l1 x17_1).f0), .int .i64 ((rd_T25 l1 x17_1).f1), .string ((rd_T25 l1 x17_1).f2), .string ((rd_T25 l1 x17_1).f3)]] (by rfl) rfl rfl (by (try simp only [List.map_toArray, List.map_cons, List.map_nil]); first | done | rfl | (simp only [List.length_drop, List.length_take]; rfl)) ?_
             with_reducible refine (approval_code.calls ((rd_T33 l0 t136).f3) ((rd_T25 l1 x17_1).f0) ((rd_T25 l1 x17_1).f1) ((rd_T25 l1 x17_1).f2) ((rd_T25 l1 x17_1).f3) t138 _ ?side1 A18.out).mono ?_
             (case side1 => exact HLW.out.below (by repeat (first | (with_reducible first | exact HB.out | apply below_alloc | apply pw_below_drewN | apply below_drew1 | refine below_set ?_ GE130.out) | exact HB.out)))
             rintro e w28 ⟨rfl, hb⟩
             refine ⟨_, rfl, ?_⟩
             have n0_ := Aside0.mk (blk_below (g := gb130) (o := .cells #[.int .i64 ((rd_T25 l1 x17_1).f0), .int .i64 ((rd_T25 l1 x17_1).f1), .string ((rd_T25 l1 x17_1).f2), .string ((rd_T25 l1 x17_1).f3)] 25 (0, 0)) (by (with_reducible repeat (first | refine blk_drewN ?_ _ | refine blk_drew ?_ | refine blk_alloc ?_ _)); exact BK130.out) hb)
             have n1_ := Aside0.mk (below_step (by repeat (first | (with_reducible first | exact HB.out | apply below_alloc | apply pw_below_drewN | apply below_drew1 | refine below_set ?_ GE130.out) | exact HB.out)) hb)
             clear BK130
             clear HB
             have BK130 := n0_
             have HB := n1_
             clear n0_ n1_
             (try clear hb)
             (try clear hb2)
             (try clear hk)
             (try clear hi)
             refine hK.out _ _ ⟨(blk_cell BK130.out 0).trans rfl, (blk_cell BK130.out 1).trans rfl, (blk_cell BK130.out 2).trans rfl, (blk_cell BK130.out 3).trans rfl, ((HB.out.cell (World.block_lt_of_cell? w _ hw137_0)).trans hw137_0), ((HB.out.cell (World.block_lt_of_cell? w _ hw137_1)).trans hw137_1), ((HB.out.cell (World.block_lt_of_cell? w _ hw137_2)).trans hw137_2), ((HB.out.cell (World.block_lt_of_cell? w _ hw137_3)).trans hw137_3)⟩ (fun hHeld => ?_)
             clear hK K
             refine norm_ (a' := ?_) ?_ ?_
             rotate_left
             ·show Act.put _ (some 43) _ = _
              simp only [Act.put, List.setIfInBounds_toArray, List.set_cons_zero, List.set_cons_succ, i64_w, i32_w]
              rfl
             refine pure_ (i := 12) (N := some 44) (v := ?_) (a' := ?_) #[true, true, true, true, true, true, true, true, true, true, true, true, true] rfl rfl (any_of HT_.out (by kernel_rfl)) (fun _ _ _ h => h) (Or.inl ⟨by rfl, ?_⟩) ?_ ?_
             rotate_left
             ·intro w'
              go_simp
              with_reducible rfl
             rotate_left
             ·simp only [Act.put, List.setIfInBounds_toArray, List.set_cons_zero, List.set_cons_succ, i64_w, i32_w]
              rfl
             refine done_ (done_of HT_.out (by kernel_rfl)) ?_
             try go_wp2
             go_roundg k1
             case measure => have := HK1.out; omega
             case rel => exact ⟨(wrap64 (x17_1 + 1)), (by first | rfl | (simp; done) | (simp [*]; done)), H', ⟨by have := HK1.out; omega⟩, ⟨by repeat (first | (with_reducible first | exact HB.out | apply below_alloc | apply pw_below_drewN | apply below_drew1 | refine below_set ?_ GE130.out) | exact HB.out)⟩⟩
            ·rw [if_neg c19] at H
             have c19b0 : (((rd_T25 l1 x17_1).f3).toList == t138.toList) = false := beq_eq_false_iff_ne.mpr c19
             have c19b1 : (((rd_T25 l1 x17_1).f3).toList != t138.toList) = true := bne_iff_ne.mpr c19
             simp only [Option.some.injEq, Prod.mk.injEq] at H
             obtain ⟨rfl, rfl⟩ := H
             have p129 : 0 ≤ (x17_1 : Int) := of_decide_eq_true (by first | (with_reducible assumption) | assumption)
             have q129 : x17_1 < (l1.length : Int) := of_decide_eq_true (by first | (with_reducible assumption) | assumption)
             obtain ⟨ad129, e129, hx129_0, hx129_1, hx129_2, hx129_3⟩ := at_T25 HR1.out x17_1 p129 q129
             cases e129
             replace hx129_0 := (HB.out.cell (World.block_lt_of_cell? w _ hx129_0)).trans hx129_0
             replace hx129_1 := (HB.out.cell (World.block_lt_of_cell? w _ hx129_1)).trans hx129_1
             replace hx129_2 := (HB.out.cell (World.block_lt_of_cell? w _ hx129_2)).trans hx129_2
             replace hx129_3 := (HB.out.cell (World.block_lt_of_cell? w _ hx129_3)).trans hx129_3
             replace p129 := eq_true p129
             replace q129 := eq_true q129
             try go_wp2_with (first | ((with_reducible refine gate_dst (N := 7) rfl ?_); refine box_event ?hg (N := 7) ?hd (cs := #[.int .i64 0, .int .i64 0, .string (⟨#[]⟩ : ByteArray), .string (⟨#[]⟩ : ByteArray)]) (t := 25) ?hr ?_; (case hd => rfl); (case hg => rfl); (case hr => first | (go_simp; done) | (go_simp; rfl)); intro gb130 hg w29 hbox hb; have n0_ := Aside0.mk (below_step (by repeat (first | (with_reducible first | exact HB.out | apply below_alloc | apply pw_below_drewN | apply below_drew1) | exact HB.out)) hb); have n1_ := Aside0.mk (hbox); have n2_ := Aside0.mk ((by rw [hg]; exact (below_size (by repeat (first | (with_reducible first | exact HB.out | apply below_alloc | apply pw_below_drewN | apply below_drew1) | exact HB.out))) : w.heap.size ≤ gb130)); have n3_ := Aside0.mk ((by rw [hg]; exact (below_size (by repeat (first | (with_reducible first | exact HB.out | apply below_alloc | apply pw_below_drewN | apply below_drew1) | exact HB.out))) : w.heap.size ≤ gb130)); clear HB; have HB := n0_; have BK130 := n1_; have GW130 := n2_; have GE130 := n3_; clear n0_ n1_ n2_ n3_; clear hb hbox hg; have hcz30_0 : w29.cell? ⟨gb130, 0, none⟩ = some (.int .i64 0) := (blk_cell BK130.out 0).trans rfl; have hcz30_1 : w29.cell? ⟨gb130, 1, none⟩ = some (.int .i64 0) := (blk_cell BK130.out 1).trans rfl; have hcz30_2 : w29.cell? ⟨gb130, 2, none⟩ = some (.string (⟨#[]⟩ : ByteArray)) := (blk_cell BK130.out 2).trans rfl; have hcz30_3 : w29.cell? ⟨gb130, 3, none⟩ = some (.string (⟨#[]⟩ : ByteArray)) := (blk_cell BK130.out 3).trans rfl; have hfz30_0 := blk_frozen BK130.out 0; have hfz30_1 := blk_frozen BK130.out 1; have hfz30_2 := blk_frozen BK130.out 2; have hfz30_3 := blk_frozen BK130.out 3))
             have n0_ : Aside0 (((((w29.setCell ⟨gb130, 0, none⟩ (.int .i64 ((rd_T25 l1 x17_1).f0))).setCell ⟨gb130, 1, none⟩ (.int .i64 ((rd_T25 l1 x17_1).f1))).setCell ⟨gb130, 2, none⟩ (.string ((rd_T25 l1 x17_1).f2))).setCell ⟨gb130, 3, none⟩ (.string ((rd_T25 l1 x17_1).f3))).heap[gb130]? = some (.cells #[.int .i64 ((rd_T25 l1 x17_1).f0), .int .i64 ((rd_T25 l1 x17_1).f1), .string ((rd_T25 l1 x17_1).f2), .string ((rd_T25 l1 x17_1).f3)] 25 (0, 0))) := ⟨by (with_reducible repeat (first | refine blk_drewN ?_ _ | refine blk_drew ?_ | refine blk_alloc ?_ _)); refine blk_put (cs := #[.int .i64 ((rd_T25 l1 x17_1).f0), .int .i64 ((rd_T25 l1 x17_1).f1), .string ((rd_T25 l1 x17_1).f2), .string (⟨#[]⟩ : ByteArray)]) ?_ 3 _ rfl; (with_reducible repeat (first | refine blk_drewN ?_ _ | refine blk_drew ?_ | refine blk_alloc ?_ _)); refine blk_put (cs := #[.int .i64 ((rd_T25 l1 x17_1).f0), .int .i64 ((rd_T25 l1 x17_1).f1), .string (⟨#[]⟩ : ByteArray), .string (⟨#[]⟩ : ByteArray)]) ?_ 2 _ rfl; (with_reducible repeat (first | refine blk_drewN ?_ _ | refine blk_drew ?_ | refine blk_alloc ?_ _)); refine blk_put (cs := #[.int .i64 ((rd_T25 l1 x17_1).f0), .int .i64 0, .string (⟨#[]⟩ : ByteArray), .string (⟨#[]⟩ : ByteArray)]) ?_ 1 _ rfl; (with_reducible repeat (first | refine blk_drewN ?_ _ | refine blk_drew ?_ | refine blk_alloc ?_ _)); refine blk_put (cs := #[.int .i64 0, .int .i64 0, .string (⟨#[]⟩ : ByteArray), .string (⟨#[]⟩ : ByteArray)]) ?_ 0 _ rfl; (with_reducible repeat (first | refine blk_drewN ?_ _ | refine blk_drew ?_ | refine blk_alloc ?_ _)); exact BK130.out⟩
             have n1_ : Aside0 (Below w.heap.size w ((((w29.setCell ⟨gb130, 0, none⟩ (.int .i64 ((rd_T25 l1 x17_1).f0))).setCell ⟨gb130, 1, none⟩ (.int .i64 ((rd_T25 l1 x17_1).f1))).setCell ⟨gb130, 2, none⟩ (.string ((rd_T25 l1 x17_1).f2))).setCell ⟨gb130, 3, none⟩ (.string ((rd_T25 l1 x17_1).f3)))) := ⟨by repeat (first | (with_reducible first | exact HB.out | apply below_alloc | apply pw_below_drewN | apply below_drew1 | refine below_set ?_ GE130.out) | exact HB.out)⟩
             (try clear BK130)
             (try clear HB)
             generalize ((((w29.setCell ⟨gb130, 0, none⟩ (.int .i64 ((rd_T25 l1 x17_1).f0))).setCell ⟨gb130, 1, none⟩ (.int .i64 ((rd_T25 l1 x17_1).f1))).setCell ⟨gb130, 2, none⟩ (.string ((rd_T25 l1 x17_1).f2))).setCell ⟨gb130, 3, none⟩ (.string ((rd_T25 l1 x17_1).f3))) = w31 at n0_ n1_ ⊢
             have BK130 := n0_
             have HB := n1_
             clear n0_ n1_
             have n0_ := Aside0.mk (blk_drew BK130.out)
             have n1_ := Aside0.mk (below_drew1 HB.out)
             clear BK130
             clear HB
             have BK130 := n0_
             have HB := n1_
             clear n0_ n1_
             have q33 : (x17_1 : Int) ≤ ((l1.length : Int) : Int) := of_decide_eq_true (by first | (with_reducible assumption) | assumption)
             obtain ⟨i033, hi033, _, hsz33, _⟩ := info_parts info25
             have hroom33 : l1.length ≤ c1 := HC1.out
             have hC33 : Kd.C k25 _ (some ad129) l1.length l1 := HR1.out
             have hcut33 := cut_to (P := Tryd.prog) 23 25 .i64 Tryd.underlying23 hi033 (some ad129) l1.length c1 x17_1 (of_decide_eq_true (by first | (with_reducible assumption) | assumption)) q33 hroom33
             have hr33 := Kd.C_take (m := (x17_1 : Int).toNat) hC33 (by omega)
             have hy33 : y131.length = (x17_1 : Int).toNat := (by rw [Ny131.out, List.length_take]; omega)
             rw [← Ny131.out] at hr33
             rw [← hy33] at hcut33
             have HR134 := Aside0.mk hr33
             have HC134 := Aside0.mk (show y131.length ≤ c1 from by omega)
             clear hr33 hC33 hroom33 hi033 hsz33
             have KY33 := Aside0.mk hy33
             clear hy33
             replace q33 := eq_true q33
             refine start_ (n := 7) (S := fun w' => w'.cell? ⟨gb130, 0, none⟩ = some (.int .i64 ((rd_T25 l1 x17_1).f0)) ∧ w'.cell? ⟨gb130, 1, none⟩ = some (.int .i64 ((rd_T25 l1 x17_1).f1)) ∧ w'.cell? ⟨gb130, 2, none⟩ = some (.string ((rd_T25 l1 x17_1).f2)) ∧ w'.cell? ⟨gb130, 3, none⟩ = some (.string ((rd_T25 l1 x17_1).f3))) (ds := []) #[false, false, false, false, false, false, false] (by kernel_rfl) rfl rfl ⟨(blk_cell BK130.out 0).trans rfl, (blk_cell BK130.out 1).trans rfl, (blk_cell BK130.out 2).trans rfl, (blk_cell BK130.out 3).trans rfl⟩ (fun hHeld => ?_)
             generalize w31.drew = w32 at BK130 HB HR134 hHeld ⊢
             refine pure_ (i := 0) (N := some 22) (v := ?_) (a' := ?_) #[true, false, false, false, false, false, false] rfl rfl (by kernel_rfl) (fun _ _ _ h => h) (Or.inl ⟨by rfl, ?_⟩) ?_ ?_
             rotate_left
             ·intro w'
              go_simp
              with_reducible rfl
             rotate_left
             ·simp only [Act.put, List.setIfInBounds_toArray, List.set_cons_zero, List.set_cons_succ, i64_w, i32_w]
              rfl
             refine pure_ (i := 1) (N := some 23) (v := ?_) (a' := ?_) #[true, true, false, false, false, false, false] rfl rfl (by kernel_rfl) (fun _ _ _ h => h) (Or.inl ⟨by rfl, ?_⟩) ?_ ?_
             rotate_left
             ·intro w'
              go_simp
              with_reducible rfl
             rotate_left
             ·simp only [Act.put, List.setIfInBounds_toArray, List.set_cons_zero, List.set_cons_succ, i64_w, i32_w]
              rfl
             refine pure_ (i := 2) (N := some 24) (v := ?_) (a' := ?_) #[true, true, true, false, false, false, false] rfl rfl (by kernel_rfl) (fun _ _ _ h => h) (Or.inl ⟨by rfl, ?_⟩) ?_ ?_
             rotate_left
             ·intro w'
              go_simp
              with_reducible rfl
             rotate_left
             ·simp only [Act.put, List.setIfInBounds_toArray, List.set_cons_zero, List.set_cons_succ, i64_w, i32_w]
              rfl
             refine pure_ (i := 3) (N := some 25) (v := ?_) (a' := ?_) #[true, true, true, true, false, false, false] rfl rfl (by kernel_rfl) (fun _ _ _ h => h) (Or.inl ⟨by rfl, ?_⟩) ?_ ?_
             rotate_left
             ·intro w'
              go_simp
              with_reducible rfl
             rotate_left
             ·simp only [Act.put, List.setIfInBounds_toArray, List.set_cons_zero, List.set_cons_succ, i64_w, i32_w]
              rfl
             refine take_ (i := 4) (N := some 26) (v := ?_) (a' := ?_) #[true, true, true, true, true, false, false] rfl rfl (by kernel_rfl) (fun _ _ _ h => h) (Or.inl ⟨by rfl, ?_⟩) hHeld ?_ ?_
             rotate_left
             ·rintro w' ⟨s0, s1, s2, s3⟩
              go_simp
              with_reducible rfl
             rotate_left
             ·simp only [Act.put, List.setIfInBounds_toArray, List.set_cons_zero, List.set_cons_succ, i64_w, i32_w]
              rfl
             refine one_ (i := 5) (N := some 27) #[true, true, true, true, true, true, false] rfl rfl (by kernel_rfl) (by decide) (fun K hK => ?_)
             refine goes_ Tryd.func36 (by kernel_rfl) rfl #[.slice A0 l0.length c0, .slice (some ad129) y131.length c1, .agg #[.int .i64 ((rd_T25 l1 x17_1).f0), .int .i64 ((rd_T25 l1 x17_1).f1), .string ((rd_T25 l1 x17_1).f2), .string ((rd_T25 l1 x17_1).f3)]] (by rfl) rfl rfl (by (try simp only [List.map_toArray, List.map_cons, List.map_nil]); first | done | rfl | (simp only [List.length_drop, List.length_take]; rfl)) ?_
             with_reducible refine (approval_fault.calls _ _ l0 _ _ y131 ((rd_T25 l1 x17_1).f0) ((rd_T25 l1 x17_1).f1) ((rd_T25 l1 x17_1).f2) ((rd_T25 l1 x17_1).f3) t135 _ ?side1 ?side2 ?side3 ?side4 A13.out).mono ?_
             (case side1 => repeat (first | exact (Kd.C_below HR0.out HB.out) | (with_reducible refine Kd.C_alloc ?_ _) | (with_reducible refine Kd.C_drewN ?_ _) | (with_reducible refine Kd.C_drew ?_)))
             (case side2 => exact HC0.out)
             (case side3 => repeat (first | exact (Kd.C_below HR134.out HB.out) | (with_reducible refine Kd.C_alloc ?_ _) | (with_reducible refine Kd.C_drewN ?_ _) | (with_reducible refine Kd.C_drew ?_)))
             (case side4 => exact HC134.out)
             rintro e w34 ⟨rfl, hb⟩
             refine ⟨_, rfl, ?_⟩
             have n0_ := Aside0.mk (blk_below (g := gb130) (o := .cells #[.int .i64 ((rd_T25 l1 x17_1).f0), .int .i64 ((rd_T25 l1 x17_1).f1), .string ((rd_T25 l1 x17_1).f2), .string ((rd_T25 l1 x17_1).f3)] 25 (0, 0)) (by (with_reducible repeat (first | refine blk_drewN ?_ _ | refine blk_drew ?_ | refine blk_alloc ?_ _)); exact BK130.out) hb)
             have n1_ := Aside0.mk (below_step (by repeat (first | (with_reducible first | exact HB.out | apply below_alloc | apply pw_below_drewN | apply below_drew1 | refine below_set ?_ GE130.out) | exact HB.out)) hb)
             clear BK130
             clear HB
             have BK130 := n0_
             have HB := n1_
             clear n0_ n1_
             (try clear hb)
             (try clear hb2)
             (try clear hk)
             (try clear hi)
             refine hK.out _ _ ⟨(blk_cell BK130.out 0).trans rfl, (blk_cell BK130.out 1).trans rfl, (blk_cell BK130.out 2).trans rfl, (blk_cell BK130.out 3).trans rfl⟩ (fun hHeld => ?_)
             clear hK K
             refine norm_ (a' := ?_) ?_ ?_
             rotate_left
             ·show Act.put _ (some 27) _ = _
              simp only [Act.put, List.setIfInBounds_toArray, List.set_cons_zero, List.set_cons_succ, i64_w, i32_w]
              rfl
             refine pure_ (i := 6) (N := some 8) (v := ?_) (a' := ?_) #[true, true, true, true, true, true, true] rfl rfl (by kernel_rfl) (fun _ _ _ h => h) (Or.inl ⟨by rfl, ?_⟩) ?_ ?_
             rotate_left
             ·intro w'
              go_simp
              with_reducible rfl
             rotate_left
             ·simp only [Act.put, List.setIfInBounds_toArray, List.set_cons_zero, List.set_cons_succ, i64_w, i32_w]
              rfl
             refine done_ (by kernel_rfl) ?_
             try go_wp2
             have n0_ := Aside0.mk (blk_drew BK130.out)
             have n1_ := Aside0.mk (below_drew1 HB.out)
             clear BK130
             clear HB
             have BK130 := n0_
             have HB := n1_
             clear n0_ n1_
             have p137 : 0 ≤ (t136 : Int) := of_decide_eq_true (by first | (with_reducible assumption) | assumption)
             have q137 : t136 < (l0.length : Int) := of_decide_eq_true (by first | (with_reducible assumption) | assumption)
             obtain ⟨ad137, e137, hx137_0, hx137_1, hx137_2, hx137_3⟩ := at_T33 HR0.out t136 p137 q137
             have hw137_3 := hx137_3
             have hw137_2 := hx137_2
             have hw137_1 := hx137_1
             have hw137_0 := hx137_0
             cases e137
             replace hx137_0 := (HB.out.cell (World.block_lt_of_cell? w _ hx137_0)).trans hx137_0
             replace hx137_1 := (HB.out.cell (World.block_lt_of_cell? w _ hx137_1)).trans hx137_1
             replace hx137_2 := (HB.out.cell (World.block_lt_of_cell? w _ hx137_2)).trans hx137_2
             replace hx137_3 := (HB.out.cell (World.block_lt_of_cell? w _ hx137_3)).trans hx137_3
             replace p137 := eq_true p137
             replace q137 := eq_true q137
             refine start_ (n := 13) (S := fun w' => w'.cell? ⟨gb130, 0, none⟩ = some (.int .i64 ((rd_T25 l1 x17_1).f0)) ∧ w'.cell? ⟨gb130, 1, none⟩ = some (.int .i64 ((rd_T25 l1 x17_1).f1)) ∧ w'.cell? ⟨gb130, 2, none⟩ = some (.string ((rd_T25 l1 x17_1).f2)) ∧ w'.cell? ⟨gb130, 3, none⟩ = some (.string ((rd_T25 l1 x17_1).f3)) ∧ w'.cell? (ad137.add ((t136).toNat * 4)) = some (.int .i64 ((rd_T33 l0 t136).f0)) ∧ w'.cell? ⟨(ad137.add ((t136).toNat * 4)).block, (ad137.add ((t136).toNat * 4)).off + 1, none⟩ = some (.int .i64 ((rd_T33 l0 t136).f1)) ∧ w'.cell? ⟨(ad137.add ((t136).toNat * 4)).block, (ad137.add ((t136).toNat * 4)).off + 2, none⟩ = some (.string ((rd_T33 l0 t136).f2)) ∧ w'.cell? ⟨(ad137.add ((t136).toNat * 4)).block, (ad137.add ((t136).toNat * 4)).off + 3, none⟩ = some (.string ((rd_T33 l0 t136).f3))) (ds := []) #[false, false, false, false, false, false, false, false, false, false, false, false, false] (by kernel_rfl) rfl rfl ⟨(blk_cell BK130.out 0).trans rfl, (blk_cell BK130.out 1).trans rfl, (blk_cell BK130.out 2).trans rfl, (blk_cell BK130.out 3).trans rfl, ((HB.out.cell (World.block_lt_of_cell? w _ hw137_0)).trans hw137_0), ((HB.out.cell (World.block_lt_of_cell? w _ hw137_1)).trans hw137_1), ((HB.out.cell (World.block_lt_of_cell? w _ hw137_2)).trans hw137_2), ((HB.out.cell (World.block_lt_of_cell? w _ hw137_3)).trans hw137_3)⟩ (fun hHeld => ?_); refine with_tabW approval_Check.tab11 approval_Check.bits11 (fun HT_ HW_ => ?_)
             generalize w34.drew = w35 at BK130 HB hx137_0 hx137_1 hx137_2 hx137_3 hHeld ⊢
             refine pure_ (i := 0) (N := some 32) (v := ?_) (a' := ?_) #[true, false, false, false, false, false, false, false, false, false, false, false, false] rfl rfl (any_of HT_.out (by kernel_rfl)) (fun _ _ _ h => h) (Or.inl ⟨by rfl, ?_⟩) ?_ ?_
             rotate_left
             ·intro w'
              go_simp
              with_reducible rfl
             rotate_left
             ·simp only [Act.put, List.setIfInBounds_toArray, List.set_cons_zero, List.set_cons_succ, i64_w, i32_w]
              rfl
             refine pure_ (i := 2) (N := some 34) (v := ?_) (a' := ?_) #[true, false, true, false, false, false, false, false, false, false, false, false, false] rfl rfl (any_of HT_.out (by kernel_rfl)) (fun _ _ _ h => h) (Or.inl ⟨by rfl, ?_⟩) ?_ ?_
             rotate_left
             ·intro w'
              go_simp
              with_reducible rfl
             rotate_left
             ·simp only [Act.put, List.setIfInBounds_toArray, List.set_cons_zero, List.set_cons_succ, i64_w, i32_w]
              rfl
             refine pure_ (i := 3) (N := some 35) (v := ?_) (a' := ?_) #[true, false, true, true, false, false, false, false, false, false, false, false, false] rfl rfl (any_of HT_.out (by kernel_rfl)) (fun _ _ _ h => h) (Or.inl ⟨by rfl, ?_⟩) ?_ ?_
             rotate_left
             ·intro w'
              go_simp
              with_reducible rfl
             rotate_left
             ·simp only [Act.put, List.setIfInBounds_toArray, List.set_cons_zero, List.set_cons_succ, i64_w, i32_w]
              rfl
             refine pure_ (i := 4) (N := some 36) (v := ?_) (a' := ?_) #[true, false, true, true, true, false, false, false, false, false, false, false, false] rfl rfl (any_of HT_.out (by kernel_rfl)) (fun _ _ _ h => h) (Or.inl ⟨by rfl, ?_⟩) ?_ ?_
             rotate_left
             ·intro w'
              go_simp
              with_reducible rfl
             rotate_left
             ·simp only [Act.put, List.setIfInBounds_toArray, List.set_cons_zero, List.set_cons_succ, i64_w, i32_w]
              rfl
             refine take_ (i := 1) (N := some 33) (v := ?_) (a' := ?_) #[true, true, true, true, true, false, false, false, false, false, false, false, false] rfl rfl (take_ofW HT_.out HW_.out (by kernel_rfl)) (fun _ _ _ h => h) (Or.inl ⟨by rfl, ?_⟩) hHeld ?_ ?_
             rotate_left
             ·rintro w' ⟨s0, s1, s2, s3, s4, s5, s6, s7⟩
              go_simp
              with_reducible rfl
             rotate_left
             ·simp only [Act.put, List.setIfInBounds_toArray, List.set_cons_zero, List.set_cons_succ, i64_w, i32_w]
              rfl
             refine take_ (i := 5) (N := some 37) (v := ?_) (a' := ?_) #[true, true, true, true, true, true, false, false, false, false, false, false, false] rfl rfl (take_ofW HT_.out HW_.out (by kernel_rfl)) (fun _ _ _ h => h) (Or.inl ⟨by rfl, ?_⟩) hHeld ?_ ?_
             rotate_left
             ·rintro w' ⟨s0, s1, s2, s3, s4, s5, s6, s7⟩
              go_simp
              with_reducible rfl
             rotate_left
             ·simp only [Act.put, List.setIfInBounds_toArray, List.set_cons_zero, List.set_cons_succ, i64_w, i32_w]
              rfl
             refine take_ (i := 10) (N := some 42) (v := ?_) (a' := ?_) #[true, true, true, true, true, true, false, false, false, false, true, false, false] rfl rfl (take_ofW HT_.out HW_.out (by kernel_rfl)) (fun _ _ _ h => h) (Or.inl ⟨by rfl, ?_⟩) hHeld ?_ ?_
             rotate_left
             ·rintro w' ⟨s0, s1, s2, s3, s4, s5, s6, s7⟩
              go_simp
              with_reducible rfl
             rotate_left
             ·simp only [Act.put, List.setIfInBounds_toArray, List.set_cons_zero, List.set_cons_succ, i64_w, i32_w]
              rfl
             refine one_ (i := 6) (N := some 38) #[true, true, true, true, true, true, true, false, false, false, true, false, false] rfl rfl (one_of HT_.out (by kernel_rfl)) (by decide) (fun K hK => ?_)
             refine goes_ Tryd.func38 (by kernel_rfl) rfl #[.slice (some ad137) l0.length c0, .int .i64 ((rd_T25 l1 x17_1).f0)] (by rfl) rfl rfl (by (try simp only [List.map_toArray, List.map_cons, List.map_nil]); first | done | rfl | (simp only [List.length_drop, List.length_take]; rfl)) ?_
             with_reducible refine (approval_signer.calls _ _ l0 ((rd_T25 l1 x17_1).f0) t136 _ ?side1 ?side2 A15.out).mono ?_
             (case side1 => repeat (first | exact (Kd.C_below HR0.out HB.out) | (with_reducible refine Kd.C_alloc ?_ _) | (with_reducible refine Kd.C_drewN ?_ _) | (with_reducible refine Kd.C_drew ?_)))
             (case side2 => exact HC0.out)
             rintro e w36 ⟨rfl, hb⟩
             refine ⟨_, rfl, ?_⟩
             have n0_ := Aside0.mk (blk_below (g := gb130) (o := .cells #[.int .i64 ((rd_T25 l1 x17_1).f0), .int .i64 ((rd_T25 l1 x17_1).f1), .string ((rd_T25 l1 x17_1).f2), .string ((rd_T25 l1 x17_1).f3)] 25 (0, 0)) (by (with_reducible repeat (first | refine blk_drewN ?_ _ | refine blk_drew ?_ | refine blk_alloc ?_ _)); exact BK130.out) hb)
             have n1_ := Aside0.mk (below_step (by repeat (first | (with_reducible first | exact HB.out | apply below_alloc | apply pw_below_drewN | apply below_drew1 | refine below_set ?_ GE130.out) | exact HB.out)) hb)
             clear BK130
             clear HB
             have BK130 := n0_
             have HB := n1_
             clear n0_ n1_
             (try clear hb)
             (try clear hb2)
             (try clear hk)
             (try clear hi)
             refine hK.out _ _ ⟨(blk_cell BK130.out 0).trans rfl, (blk_cell BK130.out 1).trans rfl, (blk_cell BK130.out 2).trans rfl, (blk_cell BK130.out 3).trans rfl, ((HB.out.cell (World.block_lt_of_cell? w _ hw137_0)).trans hw137_0), ((HB.out.cell (World.block_lt_of_cell? w _ hw137_1)).trans hw137_1), ((HB.out.cell (World.block_lt_of_cell? w _ hw137_2)).trans hw137_2), ((HB.out.cell (World.block_lt_of_cell? w _ hw137_3)).trans hw137_3)⟩ (fun hHeld => ?_)
             clear hK K
             refine norm_ (a' := ?_) ?_ ?_
             rotate_left
             ·show Act.put _ (some 38) _ = _
              simp only [Act.put, List.setIfInBounds_toArray, List.set_cons_zero, List.set_cons_succ, i64_w, i32_w]
              rfl
             refine pure_ (i := 7) (N := some 39) (v := ?_) (a' := ?_) #[true, true, true, true, true, true, true, true, false, false, true, false, false] rfl rfl (any_of HT_.out (by kernel_rfl)) (fun _ _ _ h => h) (Or.inl ⟨by rfl, ?_⟩) ?_ ?_
             rotate_left
             ·intro w'
              go_simp
              with_reducible rfl
             rotate_left
             ·simp only [Act.put, List.setIfInBounds_toArray, List.set_cons_zero, List.set_cons_succ, i64_w, i32_w]
              rfl
             refine pure_ (i := 8) (N := some 40) (v := ?_) (a' := ?_) #[true, true, true, true, true, true, true, true, true, false, true, false, false] rfl rfl (any_of HT_.out (by kernel_rfl)) (fun _ _ _ h => h) (Or.inl ⟨by rfl, ?_⟩) ?_ ?_
             rotate_left
             ·intro w'
              go_simp
              with_reducible rfl
             rotate_left
             ·simp only [Act.put, List.setIfInBounds_toArray, List.set_cons_zero, List.set_cons_succ, i64_w, i32_w]
              rfl
             refine take_ (i := 9) (N := some 41) (v := ?_) (a' := ?_) #[true, true, true, true, true, true, true, true, true, true, true, false, false] rfl rfl (take_ofW HT_.out HW_.out (by kernel_rfl)) (fun _ _ _ h => h) (Or.inl ⟨by rfl, ?_⟩) hHeld ?_ ?_
             rotate_left
             ·rintro w' ⟨s0, s1, s2, s3, s4, s5, s6, s7⟩
              go_simp
              with_reducible rfl
             rotate_left
             ·simp only [Act.put, List.setIfInBounds_toArray, List.set_cons_zero, List.set_cons_succ, i64_w, i32_w]
              rfl
             refine one_ (i := 11) (N := some 43) #[true, true, true, true, true, true, true, true, true, true, true, true, false] rfl rfl (one_of HT_.out (by kernel_rfl)) (by decide) (fun K hK => ?_)
             refine goes_ Tryd.func37 (by kernel_rfl) rfl #[.string ((rd_T33 l0 t136).f3), .agg #[.int .i64 ((rd_T25 l1 x17_1).f0), .int .i64 ((rd_T25 l1 x17_1).f1), .string ((rd_T25 l1 x17_1).f2), .string ((rd_T25 l1 x17_1).f3)]] (by rfl) rfl rfl (by (try simp only [List.map_toArray, List.map_cons, List.map_nil]); first | done | rfl | (simp only [List.length_drop, List.length_take]; rfl)) ?_
             with_reducible refine (approval_code.calls ((rd_T33 l0 t136).f3) ((rd_T25 l1 x17_1).f0) ((rd_T25 l1 x17_1).f1) ((rd_T25 l1 x17_1).f2) ((rd_T25 l1 x17_1).f3) t138 _ ?side1 A18.out).mono ?_
             (case side1 => exact HLW.out.below (by repeat (first | (with_reducible first | exact HB.out | apply below_alloc | apply pw_below_drewN | apply below_drew1 | refine below_set ?_ GE130.out) | exact HB.out)))
             rintro e w37 ⟨rfl, hb⟩
             refine ⟨_, rfl, ?_⟩
             have n0_ := Aside0.mk (blk_below (g := gb130) (o := .cells #[.int .i64 ((rd_T25 l1 x17_1).f0), .int .i64 ((rd_T25 l1 x17_1).f1), .string ((rd_T25 l1 x17_1).f2), .string ((rd_T25 l1 x17_1).f3)] 25 (0, 0)) (by (with_reducible repeat (first | refine blk_drewN ?_ _ | refine blk_drew ?_ | refine blk_alloc ?_ _)); exact BK130.out) hb)
             have n1_ := Aside0.mk (below_step (by repeat (first | (with_reducible first | exact HB.out | apply below_alloc | apply pw_below_drewN | apply below_drew1 | refine below_set ?_ GE130.out) | exact HB.out)) hb)
             clear BK130
             clear HB
             have BK130 := n0_
             have HB := n1_
             clear n0_ n1_
             (try clear hb)
             (try clear hb2)
             (try clear hk)
             (try clear hi)
             refine hK.out _ _ ⟨(blk_cell BK130.out 0).trans rfl, (blk_cell BK130.out 1).trans rfl, (blk_cell BK130.out 2).trans rfl, (blk_cell BK130.out 3).trans rfl, ((HB.out.cell (World.block_lt_of_cell? w _ hw137_0)).trans hw137_0), ((HB.out.cell (World.block_lt_of_cell? w _ hw137_1)).trans hw137_1), ((HB.out.cell (World.block_lt_of_cell? w _ hw137_2)).trans hw137_2), ((HB.out.cell (World.block_lt_of_cell? w _ hw137_3)).trans hw137_3)⟩ (fun hHeld => ?_)
             clear hK K
             refine norm_ (a' := ?_) ?_ ?_
             rotate_left
             ·show Act.put _ (some 43) _ = _
              simp only [Act.put, List.setIfInBounds_toArray, List.set_cons_zero, List.set_cons_succ, i64_w, i32_w]
              rfl
             refine pure_ (i := 12) (N := some 44) (v := ?_) (a' := ?_) #[true, true, true, true, true, true, true, true, true, true, true, true, true] rfl rfl (any_of HT_.out (by kernel_rfl)) (fun _ _ _ h => h) (Or.inl ⟨by rfl, ?_⟩) ?_ ?_
             rotate_left
             ·intro w'
              go_simp
              with_reducible rfl
             rotate_left
             ·simp only [Act.put, List.setIfInBounds_toArray, List.set_cons_zero, List.set_cons_succ, i64_w, i32_w]
              rfl
             refine done_ (done_of HT_.out (by kernel_rfl)) ?_
             try go_wp2
             go_ret2
             exact ⟨by first | rfl | (simp [errW_none, errW_some] <;> rfl) | (simp [*, errW_none, errW_some] <;> rfl), by repeat (first | (with_reducible first | exact HB.out | apply below_alloc | apply pw_below_drewN | apply below_drew1 | refine below_set ?_ GE130.out) | exact HB.out)⟩
           ·rw [if_neg c17] at H
            exact absurd H (by simp)
          ·rw [if_neg c16] at H
           exact absurd H (by simp)
         ·rw [if_neg c14] at H
          have c14b0 : (t135 == 0) = false := beq_eq_false_iff_ne.mpr c14
          have c14b1 : (t135 != 0) = true := bne_iff_ne.mpr c14
          simp only [Option.some.injEq, Prod.mk.injEq] at H
          obtain ⟨rfl, rfl⟩ := H
          have p129 : 0 ≤ (x17_1 : Int) := of_decide_eq_true (by first | (with_reducible assumption) | assumption)
          have q129 : x17_1 < (l1.length : Int) := of_decide_eq_true (by first | (with_reducible assumption) | assumption)
          obtain ⟨ad129, e129, hx129_0, hx129_1, hx129_2, hx129_3⟩ := at_T25 HR1.out x17_1 p129 q129
          cases e129
          replace hx129_0 := (HB.out.cell (World.block_lt_of_cell? w _ hx129_0)).trans hx129_0
          replace hx129_1 := (HB.out.cell (World.block_lt_of_cell? w _ hx129_1)).trans hx129_1
          replace hx129_2 := (HB.out.cell (World.block_lt_of_cell? w _ hx129_2)).trans hx129_2
          replace hx129_3 := (HB.out.cell (World.block_lt_of_cell? w _ hx129_3)).trans hx129_3
          replace p129 := eq_true p129
          replace q129 := eq_true q129
          try go_wp2_with (first | ((with_reducible refine gate_dst (N := 7) rfl ?_); refine box_event ?hg (N := 7) ?hd (cs := #[.int .i64 0, .int .i64 0, .string (⟨#[]⟩ : ByteArray), .string (⟨#[]⟩ : ByteArray)]) (t := 25) ?hr ?_; (case hd => rfl); (case hg => rfl); (case hr => first | (go_simp; done) | (go_simp; rfl)); intro gb130 hg w38 hbox hb; have n0_ := Aside0.mk (below_step (by repeat (first | (with_reducible first | exact HB.out | apply below_alloc | apply pw_below_drewN | apply below_drew1) | exact HB.out)) hb); have n1_ := Aside0.mk (hbox); have n2_ := Aside0.mk ((by rw [hg]; exact (below_size (by repeat (first | (with_reducible first | exact HB.out | apply below_alloc | apply pw_below_drewN | apply below_drew1) | exact HB.out))) : w.heap.size ≤ gb130)); have n3_ := Aside0.mk ((by rw [hg]; exact (below_size (by repeat (first | (with_reducible first | exact HB.out | apply below_alloc | apply pw_below_drewN | apply below_drew1) | exact HB.out))) : w.heap.size ≤ gb130)); clear HB; have HB := n0_; have BK130 := n1_; have GW130 := n2_; have GE130 := n3_; clear n0_ n1_ n2_ n3_; clear hb hbox hg; have hcz39_0 : w38.cell? ⟨gb130, 0, none⟩ = some (.int .i64 0) := (blk_cell BK130.out 0).trans rfl; have hcz39_1 : w38.cell? ⟨gb130, 1, none⟩ = some (.int .i64 0) := (blk_cell BK130.out 1).trans rfl; have hcz39_2 : w38.cell? ⟨gb130, 2, none⟩ = some (.string (⟨#[]⟩ : ByteArray)) := (blk_cell BK130.out 2).trans rfl; have hcz39_3 : w38.cell? ⟨gb130, 3, none⟩ = some (.string (⟨#[]⟩ : ByteArray)) := (blk_cell BK130.out 3).trans rfl; have hfz39_0 := blk_frozen BK130.out 0; have hfz39_1 := blk_frozen BK130.out 1; have hfz39_2 := blk_frozen BK130.out 2; have hfz39_3 := blk_frozen BK130.out 3))
          have n0_ : Aside0 (((((w38.setCell ⟨gb130, 0, none⟩ (.int .i64 ((rd_T25 l1 x17_1).f0))).setCell ⟨gb130, 1, none⟩ (.int .i64 ((rd_T25 l1 x17_1).f1))).setCell ⟨gb130, 2, none⟩ (.string ((rd_T25 l1 x17_1).f2))).setCell ⟨gb130, 3, none⟩ (.string ((rd_T25 l1 x17_1).f3))).heap[gb130]? = some (.cells #[.int .i64 ((rd_T25 l1 x17_1).f0), .int .i64 ((rd_T25 l1 x17_1).f1), .string ((rd_T25 l1 x17_1).f2), .string ((rd_T25 l1 x17_1).f3)] 25 (0, 0))) := ⟨by (with_reducible repeat (first | refine blk_drewN ?_ _ | refine blk_drew ?_ | refine blk_alloc ?_ _)); refine blk_put (cs := #[.int .i64 ((rd_T25 l1 x17_1).f0), .int .i64 ((rd_T25 l1 x17_1).f1), .string ((rd_T25 l1 x17_1).f2), .string (⟨#[]⟩ : ByteArray)]) ?_ 3 _ rfl; (with_reducible repeat (first | refine blk_drewN ?_ _ | refine blk_drew ?_ | refine blk_alloc ?_ _)); refine blk_put (cs := #[.int .i64 ((rd_T25 l1 x17_1).f0), .int .i64 ((rd_T25 l1 x17_1).f1), .string (⟨#[]⟩ : ByteArray), .string (⟨#[]⟩ : ByteArray)]) ?_ 2 _ rfl; (with_reducible repeat (first | refine blk_drewN ?_ _ | refine blk_drew ?_ | refine blk_alloc ?_ _)); refine blk_put (cs := #[.int .i64 ((rd_T25 l1 x17_1).f0), .int .i64 0, .string (⟨#[]⟩ : ByteArray), .string (⟨#[]⟩ : ByteArray)]) ?_ 1 _ rfl; (with_reducible repeat (first | refine blk_drewN ?_ _ | refine blk_drew ?_ | refine blk_alloc ?_ _)); refine blk_put (cs := #[.int .i64 0, .int .i64 0, .string (⟨#[]⟩ : ByteArray), .string (⟨#[]⟩ : ByteArray)]) ?_ 0 _ rfl; (with_reducible repeat (first | refine blk_drewN ?_ _ | refine blk_drew ?_ | refine blk_alloc ?_ _)); exact BK130.out⟩
          have n1_ : Aside0 (Below w.heap.size w ((((w38.setCell ⟨gb130, 0, none⟩ (.int .i64 ((rd_T25 l1 x17_1).f0))).setCell ⟨gb130, 1, none⟩ (.int .i64 ((rd_T25 l1 x17_1).f1))).setCell ⟨gb130, 2, none⟩ (.string ((rd_T25 l1 x17_1).f2))).setCell ⟨gb130, 3, none⟩ (.string ((rd_T25 l1 x17_1).f3)))) := ⟨by repeat (first | (with_reducible first | exact HB.out | apply below_alloc | apply pw_below_drewN | apply below_drew1 | refine below_set ?_ GE130.out) | exact HB.out)⟩
          (try clear BK130)
          (try clear HB)
          generalize ((((w38.setCell ⟨gb130, 0, none⟩ (.int .i64 ((rd_T25 l1 x17_1).f0))).setCell ⟨gb130, 1, none⟩ (.int .i64 ((rd_T25 l1 x17_1).f1))).setCell ⟨gb130, 2, none⟩ (.string ((rd_T25 l1 x17_1).f2))).setCell ⟨gb130, 3, none⟩ (.string ((rd_T25 l1 x17_1).f3))) = w40 at n0_ n1_ ⊢
          have BK130 := n0_
          have HB := n1_
          clear n0_ n1_
          have n0_ := Aside0.mk (blk_drew BK130.out)
          have n1_ := Aside0.mk (below_drew1 HB.out)
          clear BK130
          clear HB
          have BK130 := n0_
          have HB := n1_
          clear n0_ n1_
          have q42 : (x17_1 : Int) ≤ ((l1.length : Int) : Int) := of_decide_eq_true (by first | (with_reducible assumption) | assumption)
          obtain ⟨i042, hi042, _, hsz42, _⟩ := info_parts info25
          have hroom42 : l1.length ≤ c1 := HC1.out
          have hC42 : Kd.C k25 _ (some ad129) l1.length l1 := HR1.out
          have hcut42 := cut_to (P := Tryd.prog) 23 25 .i64 Tryd.underlying23 hi042 (some ad129) l1.length c1 x17_1 (of_decide_eq_true (by first | (with_reducible assumption) | assumption)) q42 hroom42
          have hr42 := Kd.C_take (m := (x17_1 : Int).toNat) hC42 (by omega)
          have hy42 : y131.length = (x17_1 : Int).toNat := (by rw [Ny131.out, List.length_take]; omega)
          rw [← Ny131.out] at hr42
          rw [← hy42] at hcut42
          have HR134 := Aside0.mk hr42
          have HC134 := Aside0.mk (show y131.length ≤ c1 from by omega)
          clear hr42 hC42 hroom42 hi042 hsz42
          have KY42 := Aside0.mk hy42
          clear hy42
          replace q42 := eq_true q42
          refine start_ (n := 7) (S := fun w' => w'.cell? ⟨gb130, 0, none⟩ = some (.int .i64 ((rd_T25 l1 x17_1).f0)) ∧ w'.cell? ⟨gb130, 1, none⟩ = some (.int .i64 ((rd_T25 l1 x17_1).f1)) ∧ w'.cell? ⟨gb130, 2, none⟩ = some (.string ((rd_T25 l1 x17_1).f2)) ∧ w'.cell? ⟨gb130, 3, none⟩ = some (.string ((rd_T25 l1 x17_1).f3))) (ds := []) #[false, false, false, false, false, false, false] (by kernel_rfl) rfl rfl ⟨(blk_cell BK130.out 0).trans rfl, (blk_cell BK130.out 1).trans rfl, (blk_cell BK130.out 2).trans rfl, (blk_cell BK130.out 3).trans rfl⟩ (fun hHeld => ?_)
          generalize w40.drew = w41 at BK130 HB HR134 hHeld ⊢
          refine pure_ (i := 0) (N := some 22) (v := ?_) (a' := ?_) #[true, false, false, false, false, false, false] rfl rfl (by kernel_rfl) (fun _ _ _ h => h) (Or.inl ⟨by rfl, ?_⟩) ?_ ?_
          rotate_left
          ·intro w'
           go_simp
           with_reducible rfl
          rotate_left
          ·simp only [Act.put, List.setIfInBounds_toArray, List.set_cons_zero, List.set_cons_succ, i64_w, i32_w]
           rfl
          refine pure_ (i := 1) (N := some 23) (v := ?_) (a' := ?_) #[true, true, false, false, false, false, false] rfl rfl (by kernel_rfl) (fun _ _ _ h => h) (Or.inl ⟨by rfl, ?_⟩) ?_ ?_
          rotate_left
          ·intro w'
           go_simp
           with_reducible rfl
          rotate_left
          ·simp only [Act.put, List.setIfInBounds_toArray, List.set_cons_zero, List.set_cons_succ, i64_w, i32_w]
           rfl
          refine pure_ (i := 2) (N := some 24) (v := ?_) (a' := ?_) #[true, true, true, false, false, false, false] rfl rfl (by kernel_rfl) (fun _ _ _ h => h) (Or.inl ⟨by rfl, ?_⟩) ?_ ?_
          rotate_left
          ·intro w'
           go_simp
           with_reducible rfl
          rotate_left
          ·simp only [Act.put, List.setIfInBounds_toArray, List.set_cons_zero, List.set_cons_succ, i64_w, i32_w]
           rfl
          refine pure_ (i := 3) (N := some 25) (v := ?_) (a' := ?_) #[true, true, true, true, false, false, false] rfl rfl (by kernel_rfl) (fun _ _ _ h => h) (Or.inl ⟨by rfl, ?_⟩) ?_ ?_
          rotate_left
          ·intro w'
           go_simp
           with_reducible rfl
          rotate_left
          ·simp only [Act.put, List.setIfInBounds_toArray, List.set_cons_zero, List.set_cons_succ, i64_w, i32_w]
           rfl
          refine take_ (i := 4) (N := some 26) (v := ?_) (a' := ?_) #[true, true, true, true, true, false, false] rfl rfl (by kernel_rfl) (fun _ _ _ h => h) (Or.inl ⟨by rfl, ?_⟩) hHeld ?_ ?_
          rotate_left
          ·rintro w' ⟨s0, s1, s2, s3⟩
           go_simp
           with_reducible rfl
          rotate_left
          ·simp only [Act.put, List.setIfInBounds_toArray, List.set_cons_zero, List.set_cons_succ, i64_w, i32_w]
           rfl
          refine one_ (i := 5) (N := some 27) #[true, true, true, true, true, true, false] rfl rfl (by kernel_rfl) (by decide) (fun K hK => ?_)
          refine goes_ Tryd.func36 (by kernel_rfl) rfl #[.slice A0 l0.length c0, .slice (some ad129) y131.length c1, .agg #[.int .i64 ((rd_T25 l1 x17_1).f0), .int .i64 ((rd_T25 l1 x17_1).f1), .string ((rd_T25 l1 x17_1).f2), .string ((rd_T25 l1 x17_1).f3)]] (by rfl) rfl rfl (by (try simp only [List.map_toArray, List.map_cons, List.map_nil]); first | done | rfl | (simp only [List.length_drop, List.length_take]; rfl)) ?_
          with_reducible refine (approval_fault.calls _ _ l0 _ _ y131 ((rd_T25 l1 x17_1).f0) ((rd_T25 l1 x17_1).f1) ((rd_T25 l1 x17_1).f2) ((rd_T25 l1 x17_1).f3) t135 _ ?side1 ?side2 ?side3 ?side4 A13.out).mono ?_
          (case side1 => repeat (first | exact (Kd.C_below HR0.out HB.out) | (with_reducible refine Kd.C_alloc ?_ _) | (with_reducible refine Kd.C_drewN ?_ _) | (with_reducible refine Kd.C_drew ?_)))
          (case side2 => exact HC0.out)
          (case side3 => repeat (first | exact (Kd.C_below HR134.out HB.out) | (with_reducible refine Kd.C_alloc ?_ _) | (with_reducible refine Kd.C_drewN ?_ _) | (with_reducible refine Kd.C_drew ?_)))
          (case side4 => exact HC134.out)
          rintro e w43 ⟨rfl, hb⟩
          refine ⟨_, rfl, ?_⟩
          have n0_ := Aside0.mk (blk_below (g := gb130) (o := .cells #[.int .i64 ((rd_T25 l1 x17_1).f0), .int .i64 ((rd_T25 l1 x17_1).f1), .string ((rd_T25 l1 x17_1).f2), .string ((rd_T25 l1 x17_1).f3)] 25 (0, 0)) (by (with_reducible repeat (first | refine blk_drewN ?_ _ | refine blk_drew ?_ | refine blk_alloc ?_ _)); exact BK130.out) hb)
          have n1_ := Aside0.mk (below_step (by repeat (first | (with_reducible first | exact HB.out | apply below_alloc | apply pw_below_drewN | apply below_drew1 | refine below_set ?_ GE130.out) | exact HB.out)) hb)
          clear BK130
          clear HB
          have BK130 := n0_
          have HB := n1_
          clear n0_ n1_
          (try clear hb)
          (try clear hb2)
          (try clear hk)
          (try clear hi)
          refine hK.out _ _ ⟨(blk_cell BK130.out 0).trans rfl, (blk_cell BK130.out 1).trans rfl, (blk_cell BK130.out 2).trans rfl, (blk_cell BK130.out 3).trans rfl⟩ (fun hHeld => ?_)
          clear hK K
          refine norm_ (a' := ?_) ?_ ?_
          rotate_left
          ·show Act.put _ (some 27) _ = _
           simp only [Act.put, List.setIfInBounds_toArray, List.set_cons_zero, List.set_cons_succ, i64_w, i32_w]
           rfl
          refine pure_ (i := 6) (N := some 8) (v := ?_) (a' := ?_) #[true, true, true, true, true, true, true] rfl rfl (by kernel_rfl) (fun _ _ _ h => h) (Or.inl ⟨by rfl, ?_⟩) ?_ ?_
          rotate_left
          ·intro w'
           go_simp
           with_reducible rfl
          rotate_left
          ·simp only [Act.put, List.setIfInBounds_toArray, List.set_cons_zero, List.set_cons_succ, i64_w, i32_w]
           rfl
          refine done_ (by kernel_rfl) ?_
          try go_wp2
          go_ret2
          exact ⟨by first | rfl | (simp [errW_none, errW_some] <;> rfl) | (simp [*, errW_none, errW_some] <;> rfl), by repeat (first | (with_reducible first | exact HB.out | apply below_alloc | apply pw_below_drewN | apply below_drew1 | refine below_set ?_ GE130.out) | exact HB.out)⟩
        ·rw [if_neg c12] at H
         exact absurd H (by simp)
       ·rw [if_neg c10] at H
        exact absurd H (by simp)
      ·rw [if_neg c9] at H
       exact absurd H (by simp)
     ·rw [if_neg c8] at H
      have c8b0 : decide (x17_1 < (l1.length : Int)) = false := decide_eq_false c8
      clear c8
      simp only [Option.some.injEq, Prod.mk.injEq] at H
      obtain ⟨rfl, rfl⟩ := H
      go_wp2
      go_ret2
      exact ⟨by first | rfl | (simp [errW_none, errW_some] <;> rfl) | (simp [*, errW_none, errW_some] <;> rfl), by repeat (first | (with_reducible first | exact HB.out | apply below_alloc | apply pw_below_drewN | apply below_drew1) | exact HB.out)⟩
 ·replace c4 := Bool.eq_false_iff.mpr c4
  subst c4
  have H1 : (some ((-1), 1)) = some (r1, r2) := by rw [if_neg (show ¬ (false = true) by decide)] at H; exact H
  clear H
  have H := H1
  clear H1
  simp only [Option.some.injEq, Prod.mk.injEq] at H
  obtain ⟨rfl, rfl⟩ := H
  go_enter Tryd.func11, Tryd.ntmps11
  go_wp2_with (first | ((with_reducible refine gate_callee (f := 35) rfl ?_); refine goesL_ (some 10) rfl rfl Tryd.func35 (by kernel_rfl) rfl #[.slice A0 l0.length c0] rfl (by (try simp only [List.map_toArray, List.map_cons, List.map_nil]); first | done | rfl | (simp only [List.length_drop, List.length_take]; rfl)) ?_; (with_reducible refine (approval_right.calls _ _ l0 false _ ?side1 ?side2 A3.out).mono ?_); (case side1 => repeat (first | exact HR0.out | (with_reducible refine Kd.C_alloc ?_ _) | (with_reducible refine Kd.C_drewN ?_ _) | (with_reducible refine Kd.C_drew ?_))); (case side2 => exact HC0.out); rintro e w44 ⟨rfl, hb⟩; refine ⟨_, rfl, ?_⟩; have n0_ := Aside0.mk (below_step (by repeat (first | (with_reducible first | exact HB.out | apply below_alloc | apply pw_below_drewN | apply below_drew1) | exact HB.out)) hb); clear HB; have HB := n0_; clear n0_; (try clear hb); (try clear hb2); (try clear hk); (try clear hi)))
  go_ret2
  exact ⟨by first | rfl | (simp [errW_none, errW_some] <;> rfl) | (simp [*, errW_none, errW_some] <;> rfl), by repeat (first | (with_reducible first | exact HB.out | apply below_alloc | apply pw_below_drewN | apply below_drew1) | exact HB.out)⟩
end Go.Proofs.YtbfimjncophcaaaDoor.Pr
namespace Go.Proofs.YtbfimjncophcaaaDoor.Pr
set_option linter.unusedVariables false
set_option linter.unusedSimpArgs false
open Go.RowKit Go.Proofs.YtbfimjncophcaaaDoorW.PrintWords
theorem sha_size (data : ByteArray) : (shaSum data).size = 32 := by
 unfold shaSum
 rw [strOfNums_size, outTo_length _ 8 (by omega)]
def itoaB (n : Int) : ByteArray := ⟨(Lib.itoa n).toArray⟩
def padS (key : ByteArray) (b : Int) : ByteArray := strOfNums (padN key b 64)
def spB : ByteArray := ⟨#[32]⟩
def textOf (s t : Int) (sub : ByteArray) : ByteArray := (((itoaB s ++ spB) ++ itoaB t) ++ spB) ++ sub
def codeOf (key : ByteArray) (s t : Int) (sub : ByteArray) : ByteArray := shaSum (padS key 92 ++ shaSum (padS key 54 ++ textOf s t sub))
theorem code_size (key : ByteArray) (s t : Int) (sub : ByteArray) : (codeOf key s t sub).size = 32 := sha_size _
def i64B (n : Int) : Prop := -9223372036854775808 ≤ n ∧ n ≤ 9223372036854775807
theorem itoaB_size (n : Int) (h : i64B n) : (itoaB n).size ≤ 21 := Lib.itoa_length_le n h.1 h.2
theorem padS_size (key : ByteArray) (b : Int) : (padS key b).size = 64 := by
 unfold padS
 rw [strOfNums_size, padN_length]
theorem itoa_f (n : Int) (h : i64B n) : strconv_Itoa_59.f n = some (itoaB n) := by
 unfold i64B at h
 unfold strconv_Itoa_59.f
 rw [if_pos h]
 rfl
theorem pad_f (key : ByteArray) (b : Int) (h : key.size ≤ 9223372036854775807) : approval_pad.f key b = some (padS key b) := by
 unfold approval_pad.f
 rw [if_pos h]
 rfl
theorem sum_f (s : ByteArray) (h : s.size ≤ 1048576) : record_Sum.f s = some (shaSum s) := by
 unfold record_Sum.f
 rw [if_pos h]
theorem code_f (key : ByteArray) (s t : Int) (sub c : ByteArray) (hk : key.size ≤ 9223372036854775807) (hs : i64B s) (ht : i64B t) (hsub : sub.size ≤ 1000000) :
  approval_code.f key s t sub c = some (codeOf key s t sub) := by
 have h1 := itoaB_size s hs
 have h2 := itoaB_size t ht
 have hsp : (⟨#[32]⟩ : ByteArray) = spB := rfl
 have hs1 : spB.size = 1 := rfl
 have hp1 := padS_size key 92
 have hp2 := padS_size key 54
 have e1 : ((itoaB s ++ spB) ++ itoaB t).size ≤ 50 := by simp only [ByteArray.size_append, hs1]; omega
 have e2 : (textOf s t sub).size ≤ 1000060 := by unfold textOf; simp only [ByteArray.size_append, hs1]; omega
 unfold approval_code.f
 rw [itoa_f s hs, itoa_f t ht, pad_f key 92 hk, pad_f key 54 hk, hsp]
 simp only [Option.bind_some]
 rw [if_pos (by omega), if_pos (by simp only [ByteArray.size_append, hs1]; omega), if_pos (by omega), if_pos (by simp only [ByteArray.size_append, hs1]; omega)]
 rw [show (((itoaB s ++ spB) ++ itoaB t) ++ spB) ++ sub = textOf s t sub from rfl]
 rw [if_pos (by omega), sum_f _ (by rw [ByteArray.size_append]; omega)]
 simp only [Option.bind_some]
 rw [if_pos (by rw [hp1, sha_size]; omega), sum_f _ (by rw [ByteArray.size_append, hp1, sha_size]; omega)]
 rfl
end Go.Proofs.YtbfimjncophcaaaDoor.Pr
namespace Go.Proofs.YtbfimjncophcaaaDoor.Pr
open Go.RowKit Go.Proofs.YtbfimjncophcaaaDoorW.PrintWords Go.Proofs.YtbfimjncophcaaaDoorW.PrintLast Go.Proofs.YtbfimjncophcaaaDoorW.PrintMore
attribute [local go_sem] max2_int min2_int max_two min_two max_three min_three max_four min_four
set_option linter.unusedVariables false
set_option linter.unusedSimpArgs false
mutual
def garboardref58_Few.l0 : Nat → List (S33) → List (S25) → Int → Option (Bool)
 | 0, _, _, _ => none
 | k + 1, x0, x1, x5 => if x5 < (x0.length : Int) then (if 0 ≤ x5 then (if (((rd_T33 x0 x5).f2).size : Int) > 70 then (some false) else (if (((rd_T33 x0 x5).f3).size : Int) > 70 then (some false) else (garboardref58_Few.l0 k x0 x1 (wrap64 (x5 + 1))))) else (none)) else (garboardref58_Few.l1 k x0 x1 0)
def garboardref58_Few.l1 : Nat → List (S33) → List (S25) → Int → Option (Bool)
 | 0, _, _, _ => none
 | k + 1, x0, x1, x6 => if x6 < (x1.length : Int) then (if 0 ≤ x6 then (if (((rd_T25 x1 x6).f2).size : Int) > 40 then (some false) else (if (((rd_T25 x1 x6).f3).size : Int) > 40 then (some false) else (garboardref58_Few.l1 k x0 x1 (wrap64 (x6 + 1))))) else (none)) else (if (x0.length : Int) ≤ 17 then (some (decide ((x1.length : Int) ≤ 12))) else (some false))
end
def garboardref58_Few.f (k : Nat) (l0 : List (S33)) (l1 : List (S25)) : Option (Bool) := garboardref58_Few.l0 k l0 l1 0
theorem garboardref58_Few.mono_l : ∀ k, (∀ y0 y1 y2, LeO (garboardref58_Few.l0 k y0 y1 y2) (garboardref58_Few.l0 (k + 1) y0 y1 y2)) ∧ (∀ y0 y1 y2, LeO (garboardref58_Few.l1 k y0 y1 y2) (garboardref58_Few.l1 (k + 1) y0 y1 y2))
 | 0 => ⟨fun _ _ _ r h => by simp [garboardref58_Few.l0] at h, fun _ _ _ r h => by simp [garboardref58_Few.l1] at h⟩
 | k + 1 => by
  obtain ⟨ih0, ih1⟩ := garboardref58_Few.mono_l k
  refine ⟨?_, ?_⟩
  ·intro y0 y1 y2
   unfold garboardref58_Few.l0
   repeat' first
   | (with_reducible exact ih0 _ _ _)
   | (with_reducible exact ih1 _ _ _)
   | (with_reducible exact LeO.refl _)
   | (with_reducible exact LeO.none _)
   | (with_reducible refine LeO.ite ?_ ?_)
   | (with_reducible refine LeO.bind ?_ (fun _ => ?_))
   | exact ih0 _ _ _
   | exact ih1 _ _ _
   | exact LeO.none _
   | refine LeO.ite ?_ ?_
   | refine LeO.bind ?_ (fun _ => ?_)
  ·intro y0 y1 y2
   unfold garboardref58_Few.l1
   repeat' first
   | (with_reducible exact ih0 _ _ _)
   | (with_reducible exact ih1 _ _ _)
   | (with_reducible exact LeO.refl _)
   | (with_reducible exact LeO.none _)
   | (with_reducible refine LeO.ite ?_ ?_)
   | (with_reducible refine LeO.bind ?_ (fun _ => ?_))
   | exact ih0 _ _ _
   | exact ih1 _ _ _
   | exact LeO.none _
   | refine LeO.ite ?_ ?_
   | refine LeO.bind ?_ (fun _ => ?_)
theorem garboardref58_Few.mono : ∀ a0 a1 k, LeO (garboardref58_Few.f k a0 a1) (garboardref58_Few.f (k + 1) a0 a1) := by
 intro a0 a1 k
 obtain ⟨ih0, ih1⟩ := garboardref58_Few.mono_l k
 unfold garboardref58_Few.f
 repeat' first
   | (with_reducible exact ih0 _ _ _)
   | (with_reducible exact ih1 _ _ _)
   | (with_reducible exact LeO.refl _)
   | (with_reducible exact LeO.none _)
   | (with_reducible refine LeO.ite ?_ ?_)
   | (with_reducible refine LeO.bind ?_ (fun _ => ?_))
   | exact ih0 _ _ _
   | exact ih1 _ _ _
   | exact LeO.none _
   | refine LeO.ite ?_ ?_
   | refine LeO.bind ?_ (fun _ => ?_)
set_option maxHeartbeats 8000000 in
set_option maxRecDepth 100000 in
theorem garboardref58_Few.calls (k : Nat) (A0 : Option Addr) (c0 : Nat) (l0 : List (S33)) (A1 : Option Addr) (c1 : Nat) (l1 : List (S25)) (r : Bool) (w : World) (hr0 : Kd.C k33 w A0 l0.length l0) (hc0 : l0.length ≤ c0) (hr1 : Kd.C k25 w A1 l1.length l1) (hc1 : l1.length ≤ c1) (h : garboardref58_Few.f k l0 l1 = some r) :
  Calls Tryd.prog 10 #[.slice A0 l0.length c0, .slice A1 l1.length c1] w fun e w' => e = .returned (.bool r) ∧ Drawn0 w w' := by
 have HR0 := Aside0.mk hr0
 have HC0 := Aside0.mk hc0
 clear hr0 hc0
 have HR1 := Aside0.mk hr1
 have HC1 := Aside0.mk hc1
 clear hr1 hc1
 have H : (garboardref58_Few.l0 k l0 l1 0) = some r := h
 clear h
 have H' := Aside0.mk H
 clear H
 go_enter Tryd.func10, Tryd.ntmps10
 go_wp2
 go_loopg [5] k (fun kq v5 w' => ∃ (x5_1 : Int), v5 = .int .i64 x5_1 ∧ Aside0 (garboardref58_Few.l0 kq l0 l1 x5_1 = some r) ∧ Aside0 (kq ≤ k) ∧ Drawn0 w w')
 case atStart => exact ⟨(0), (by first | rfl | (simp; done) | (simp [*]; done)), H', ⟨Nat.le_refl _⟩, by repeat (first | exact Drawn0.refl _ | apply Drawn0.step)⟩
 case round =>
  clear H'
  try clear c1
  try clear p2
  obtain ⟨x5_1, rfl, HA, HK1, ⟨m1, rfl⟩⟩ := hrel
  cases gk with
  | zero => exact absurd HA.out (by simp [garboardref58_Few.l0])
  | succ k1 =>
   have H := HA.out
   clear HA
   simp only [garboardref58_Few.l0] at H
   by_cases c3 : x5_1 < (l0.length : Int)
   ·rw [if_pos c3] at H
    have c3b0 : decide (x5_1 < (l0.length : Int)) = true := decide_eq_true c3
    clear c3
    by_cases c4 : 0 ≤ x5_1
    ·rw [if_pos c4] at H
     have c4b0 : decide (0 ≤ x5_1) = true := decide_eq_true c4
     clear c4
     by_cases c5 : (((rd_T33 l0 x5_1).f2).size : Int) > 70
     ·rw [if_pos c5] at H
      have c5b0 : decide (70 < (((rd_T33 l0 x5_1).f2).size : Int)) = true := decide_eq_true c5
      have c5b1 : decide (70 < ((rd_T33 l0 x5_1).f2).size) = true := decide_eq_true (by omega)
      clear c5
      obtain rfl := Option.some.inj H
      have p171 : 0 ≤ (x5_1 : Int) := of_decide_eq_true (by first | (with_reducible assumption) | assumption)
      have q171 : x5_1 < (l0.length : Int) := of_decide_eq_true (by first | (with_reducible assumption) | assumption)
      obtain ⟨ad171, e171, hx171_0, hx171_1, hx171_2, hx171_3⟩ := at_T33 HR0.out x5_1 p171 q171
      cases e171
      replace p171 := eq_true p171
      replace q171 := eq_true q171
      go_wp2
      go_ret
      exact ⟨by first | rfl | (simp; done) | (simp [*]; done), by repeat (first | exact Drawn0.refl _ | apply Drawn0.step)⟩
     ·rw [if_neg c5] at H
      have c5b0 : decide (70 < (((rd_T33 l0 x5_1).f2).size : Int)) = false := decide_eq_false c5
      have c5b1 : decide (70 < ((rd_T33 l0 x5_1).f2).size) = false := decide_eq_false (by omega)
      clear c5
      by_cases c6 : (((rd_T33 l0 x5_1).f3).size : Int) > 70
      ·rw [if_pos c6] at H
       have c6b0 : decide (70 < (((rd_T33 l0 x5_1).f3).size : Int)) = true := decide_eq_true c6
       have c6b1 : decide (70 < ((rd_T33 l0 x5_1).f3).size) = true := decide_eq_true (by omega)
       clear c6
       obtain rfl := Option.some.inj H
       have p171 : 0 ≤ (x5_1 : Int) := of_decide_eq_true (by first | (with_reducible assumption) | assumption)
       have q171 : x5_1 < (l0.length : Int) := of_decide_eq_true (by first | (with_reducible assumption) | assumption)
       obtain ⟨ad171, e171, hx171_0, hx171_1, hx171_2, hx171_3⟩ := at_T33 HR0.out x5_1 p171 q171
       cases e171
       replace p171 := eq_true p171
       replace q171 := eq_true q171
       have p172 : 0 ≤ (x5_1 : Int) := of_decide_eq_true (by first | (with_reducible assumption) | assumption)
       have q172 : x5_1 < (l0.length : Int) := of_decide_eq_true (by first | (with_reducible assumption) | assumption)
       obtain ⟨ad172, e172, hx172_0, hx172_1, hx172_2, hx172_3⟩ := at_T33 HR0.out x5_1 p172 q172
       obtain rfl : ad171 = ad172 := (by injection e172)
       replace p172 := eq_true p172
       replace q172 := eq_true q172
       go_wp2
       go_ret
       exact ⟨by first | rfl | (simp; done) | (simp [*]; done), by repeat (first | exact Drawn0.refl _ | apply Drawn0.step)⟩
      ·rw [if_neg c6] at H
       have c6b0 : decide (70 < (((rd_T33 l0 x5_1).f3).size : Int)) = false := decide_eq_false c6
       have c6b1 : decide (70 < ((rd_T33 l0 x5_1).f3).size) = false := decide_eq_false (by omega)
       clear c6
       have H' := Aside0.mk H
       clear H
       have p171 : 0 ≤ (x5_1 : Int) := of_decide_eq_true (by first | (with_reducible assumption) | assumption)
       have q171 : x5_1 < (l0.length : Int) := of_decide_eq_true (by first | (with_reducible assumption) | assumption)
       obtain ⟨ad171, e171, hx171_0, hx171_1, hx171_2, hx171_3⟩ := at_T33 HR0.out x5_1 p171 q171
       cases e171
       replace p171 := eq_true p171
       replace q171 := eq_true q171
       have p172 : 0 ≤ (x5_1 : Int) := of_decide_eq_true (by first | (with_reducible assumption) | assumption)
       have q172 : x5_1 < (l0.length : Int) := of_decide_eq_true (by first | (with_reducible assumption) | assumption)
       obtain ⟨ad172, e172, hx172_0, hx172_1, hx172_2, hx172_3⟩ := at_T33 HR0.out x5_1 p172 q172
       obtain rfl : ad171 = ad172 := (by injection e172)
       replace p172 := eq_true p172
       replace q172 := eq_true q172
       go_wp2
       go_roundg k1
       case measure => have := HK1.out; omega
       case rel => exact ⟨(wrap64 (x5_1 + 1)), (by first | rfl | (simp; done) | (simp [*]; done)), H', ⟨by have := HK1.out; omega⟩, by repeat (first | exact Drawn0.refl _ | apply Drawn0.step)⟩
    ·rw [if_neg c4] at H
     exact absurd H (by simp)
   ·rw [if_neg c3] at H
    have c3b0 : decide (x5_1 < (l0.length : Int)) = false := decide_eq_false c3
    clear c3
    have H' := Aside0.mk H
    clear H
    go_wp2
    go_loopg [6] k1 (fun kq v6 w' => ∃ (x6_2 : Int), v6 = .int .i64 x6_2 ∧ Aside0 (garboardref58_Few.l1 kq l0 l1 x6_2 = some r) ∧ Aside0 (kq ≤ k1) ∧ Drawn0 w w')
    case atStart => exact ⟨(0), (by first | rfl | (simp; done) | (simp [*]; done)), H', ⟨Nat.le_refl _⟩, by repeat (first | exact Drawn0.refl _ | apply Drawn0.step)⟩
    case round =>
     clear H'
     try clear c1
     try clear p1
     try clear q1
     try clear hx1
     try clear p2
     try clear c3
     try clear c3b0
     try clear c4
     try clear c4b0
     try clear c5
     try clear c5b0
     try clear c5b1
     try clear c6
     try clear c6b0
     try clear c6b1
     try clear p6
     try clear hx171_0
     try clear hx171_1
     try clear hx171_2
     try clear hx171_3
     try clear hx172_0
     try clear hx172_1
     try clear hx172_2
     try clear hx172_3
     try clear p171
     try clear p172
     try clear p2
     try clear q171
     try clear q172
     obtain ⟨x6_2, rfl, HA, HK2, ⟨m2, rfl⟩⟩ := hrel
     cases gk with
     | zero => exact absurd HA.out (by simp [garboardref58_Few.l1])
     | succ k2 =>
      have H := HA.out
      clear HA
      simp only [garboardref58_Few.l1] at H
      by_cases c7 : x6_2 < (l1.length : Int)
      ·rw [if_pos c7] at H
       have c7b0 : decide (x6_2 < (l1.length : Int)) = true := decide_eq_true c7
       clear c7
       by_cases c8 : 0 ≤ x6_2
       ·rw [if_pos c8] at H
        have c8b0 : decide (0 ≤ x6_2) = true := decide_eq_true c8
        clear c8
        by_cases c9 : (((rd_T25 l1 x6_2).f2).size : Int) > 40
        ·rw [if_pos c9] at H
         have c9b0 : decide (40 < (((rd_T25 l1 x6_2).f2).size : Int)) = true := decide_eq_true c9
         have c9b1 : decide (40 < ((rd_T25 l1 x6_2).f2).size) = true := decide_eq_true (by omega)
         clear c9
         obtain rfl := Option.some.inj H
         have p173 : 0 ≤ (x6_2 : Int) := of_decide_eq_true (by first | (with_reducible assumption) | assumption)
         have q173 : x6_2 < (l1.length : Int) := of_decide_eq_true (by first | (with_reducible assumption) | assumption)
         obtain ⟨ad173, e173, hx173_0, hx173_1, hx173_2, hx173_3⟩ := at_T25 HR1.out x6_2 p173 q173
         cases e173
         replace p173 := eq_true p173
         replace q173 := eq_true q173
         go_wp2
         go_ret
         exact ⟨by first | rfl | (simp; done) | (simp [*]; done), by repeat (first | exact Drawn0.refl _ | apply Drawn0.step)⟩
        ·rw [if_neg c9] at H
         have c9b0 : decide (40 < (((rd_T25 l1 x6_2).f2).size : Int)) = false := decide_eq_false c9
         have c9b1 : decide (40 < ((rd_T25 l1 x6_2).f2).size) = false := decide_eq_false (by omega)
         clear c9
         by_cases c10 : (((rd_T25 l1 x6_2).f3).size : Int) > 40
         ·rw [if_pos c10] at H
          have c10b0 : decide (40 < (((rd_T25 l1 x6_2).f3).size : Int)) = true := decide_eq_true c10
          have c10b1 : decide (40 < ((rd_T25 l1 x6_2).f3).size) = true := decide_eq_true (by omega)
          clear c10
          obtain rfl := Option.some.inj H
          have p173 : 0 ≤ (x6_2 : Int) := of_decide_eq_true (by first | (with_reducible assumption) | assumption)
          have q173 : x6_2 < (l1.length : Int) := of_decide_eq_true (by first | (with_reducible assumption) | assumption)
          obtain ⟨ad173, e173, hx173_0, hx173_1, hx173_2, hx173_3⟩ := at_T25 HR1.out x6_2 p173 q173
          cases e173
          replace p173 := eq_true p173
          replace q173 := eq_true q173
          have p174 : 0 ≤ (x6_2 : Int) := of_decide_eq_true (by first | (with_reducible assumption) | assumption)
          have q174 : x6_2 < (l1.length : Int) := of_decide_eq_true (by first | (with_reducible assumption) | assumption)
          obtain ⟨ad174, e174, hx174_0, hx174_1, hx174_2, hx174_3⟩ := at_T25 HR1.out x6_2 p174 q174
          obtain rfl : ad173 = ad174 := (by injection e174)
          replace p174 := eq_true p174
          replace q174 := eq_true q174
          go_wp2
          go_ret
          exact ⟨by first | rfl | (simp; done) | (simp [*]; done), by repeat (first | exact Drawn0.refl _ | apply Drawn0.step)⟩
         ·rw [if_neg c10] at H
          have c10b0 : decide (40 < (((rd_T25 l1 x6_2).f3).size : Int)) = false := decide_eq_false c10
          have c10b1 : decide (40 < ((rd_T25 l1 x6_2).f3).size) = false := decide_eq_false (by omega)
          clear c10
          have H' := Aside0.mk H
          clear H
          have p173 : 0 ≤ (x6_2 : Int) := of_decide_eq_true (by first | (with_reducible assumption) | assumption)
          have q173 : x6_2 < (l1.length : Int) := of_decide_eq_true (by first | (with_reducible assumption) | assumption)
          obtain ⟨ad173, e173, hx173_0, hx173_1, hx173_2, hx173_3⟩ := at_T25 HR1.out x6_2 p173 q173
          cases e173
          replace p173 := eq_true p173
          replace q173 := eq_true q173
          have p174 : 0 ≤ (x6_2 : Int) := of_decide_eq_true (by first | (with_reducible assumption) | assumption)
          have q174 : x6_2 < (l1.length : Int) := of_decide_eq_true (by first | (with_reducible assumption) | assumption)
          obtain ⟨ad174, e174, hx174_0, hx174_1, hx174_2, hx174_3⟩ := at_T25 HR1.out x6_2 p174 q174
          obtain rfl : ad173 = ad174 := (by injection e174)
          replace p174 := eq_true p174
          replace q174 := eq_true q174
          go_wp2
          go_roundg k2
          case measure => have := HK1.out; have := HK2.out; omega
          case rel => exact ⟨(wrap64 (x6_2 + 1)), (by first | rfl | (simp; done) | (simp [*]; done)), H', ⟨by have := HK1.out; have := HK2.out; omega⟩, by repeat (first | exact Drawn0.refl _ | apply Drawn0.step)⟩
       ·rw [if_neg c8] at H
        exact absurd H (by simp)
      ·rw [if_neg c7] at H
       have c7b0 : decide (x6_2 < (l1.length : Int)) = false := decide_eq_false c7
       clear c7
       by_cases c11 : (l0.length : Int) ≤ 17
       ·rw [if_pos c11] at H
        have c11b0 : decide ((l0.length : Int) ≤ 17) = true := decide_eq_true c11
        have c11b1 : decide (l0.length ≤ 17) = true := decide_eq_true (by omega)
        clear c11
        obtain rfl := Option.some.inj H
        go_wp2
        go_ret
        exact ⟨by first | rfl | (simp; done) | (simp [*]; done), by repeat (first | exact Drawn0.refl _ | apply Drawn0.step)⟩
       ·rw [if_neg c11] at H
        have c11b0 : decide ((l0.length : Int) ≤ 17) = false := decide_eq_false c11
        have c11b1 : decide (l0.length ≤ 17) = false := decide_eq_false (by omega)
        clear c11
        obtain rfl := Option.some.inj H
        go_wp2
        go_ret
        exact ⟨by first | rfl | (simp; done) | (simp [*]; done), by repeat (first | exact Drawn0.refl _ | apply Drawn0.step)⟩
end Go.Proofs.YtbfimjncophcaaaDoor.Pr
namespace Go.Proofs.YtbfimjncophcaaaDoor.Pr
set_option linter.unusedVariables false
set_option linter.unusedSimpArgs false
open Go.RowKit Go.Proofs.YtbfimjncophcaaaDoorW.PrintWords Go.Proofs.YtbfimjncophcaaaDoorW.PrintLast Go.Proofs.YtbfimjncophcaaaDoorW.PrintMore
def api_Signer_12.f (xs : List S33) : Option (List S33) := if xs.length * 48 ≤ 140737488355328 then some xs else none
set_option maxRecDepth 100000 in
theorem api_Signer_12.calls (A0 : Option Addr) (c0 : Nat) (l0 r : List S33) (w : World) (hr0 : Kd.C k33 w A0 l0.length l0) (hc0 : l0.length ≤ c0) (h : api_Signer_12.f l0 = some r) :
  Calls Tryd.prog 12 #[.slice A0 l0.length c0] w fun e w' => ∃ v, e = .returned v ∧ Kd.R k33 33 w' w.heap.size (fun _ => True) v r ∧ Below w.heap.size w w' := by
 unfold api_Signer_12.f at h
 by_cases hc : l0.length * 48 ≤ 140737488355328
 case neg => rw [if_neg hc] at h; cases h
 rw [if_pos hc] at h
 injection h with h
 subst h
 have HC := Aside0.mk hr0
 clear hr0 hc0
 rcases A0 with _ | ad
 ·have hl : l0 = [] := by
   rcases l0 with _ | ⟨x, l⟩
   ·rfl
   ·obtain ⟨a, ha, _⟩ := HC.out.2.2 (by simp)
    cases ha
  subst hl
  clear hc HC
  have he : ∀ W : World, (binOp .eql 22 (.slice none ([] : List Int).length c0) (.slice none 0 0)).run Tryd.prog W = .ok (.bool true) W := fun _ => rfl
  simp only [List.length_nil] at he
  go_enter Tryd.func12, Tryd.ntmps12
  go_wp2_with fail
  go_ret
  exact ⟨_, rfl, Kd.R_nil _ _ _ _ _, Below.refl _ _⟩
 ·have HH := Aside0.mk hc
  clear hc
  have HB := Aside0.mk (Below.refl w.heap.size w)
  have he : ∀ W : World, (binOp .eql 22 (.slice (some ad) l0.length c0) (.slice none 0 0)).run Tryd.prog W = .ok (.bool false) W := fun _ => rfl
  go_enter Tryd.func12, Tryd.ntmps12
  go_wp2_with (first
   | ((with_reducible refine gate_dst (N := 5) rfl ?_); go_loud (refine Kd.R_lit (k33) (w0 := w) w.heap.size 33 ?hg (N := 5) ?hd (xs := ([] : List S33)) (inner := []) (ok := fun _ => True) (okp := fun _ => False) ?hr ?hp (fun _ hk => hk.elim) trivial ?hB ?hS (by simp) ?_); (case hd => rfl); (case hg => rfl); (case hr => first | (go_simp; done) | (go_simp; rfl)); (case hp => exact Reps.none _ _); (case hB => exact HB.out); (case hS => exact Nat.le_refl _); intro v1 w1 ho hb hg_ hn_; have HO := Aside0.mk ho; have HB1 := Aside0.mk hb; have HC1 := Aside0.mk (Kd.C_below HC.out hb); clear ho hb hg_ hn_)
   | ((with_reducible refine gate_builtin (b := .append) (xs := #[.tmp 5, .tmp 6]) rfl ?_); at_builtin; go_loud (refine Kd.R_append_rows (k33) (w0 := w) w.heap.size rfl (.tmp 5) (.tmp 6) 22 33 (.agg #[(.int .i64 0), (.int .i64 0), (.string ⟨#[]⟩), (.string ⟨#[]⟩)]) 48 rfl Tryd.underlying22 info33 rfl (by decide) (by decide) v1 [] l0 (some ad) l0.length c0 (fun _ => True) (fun _ => False) rfl rfl HO.out HC1.out (fun _ _ h => h) (fun _ h => h.elim) (fun _ _ => trivial) HB1.out HB1.out.size ?aL ?_); (case aL => have := HH.out; simp only [List.length_nil, Nat.zero_add]; exact this); intro v2 w2 ho hb hg_ hat; have HO2 := Aside0.mk ho; have HB2 := Aside0.mk hb; clear ho hb hg_ hat))
  go_ret
  exact ⟨_, rfl, by have h := HO2.out; rw [List.nil_append] at h; exact h, HB2.out⟩
def api_Approval_13.f (xs : List S25) : Option (List S25) := if xs.length * 48 ≤ 140737488355328 then some xs else none
set_option maxRecDepth 100000 in
theorem api_Approval_13.calls (A0 : Option Addr) (c0 : Nat) (l0 r : List S25) (w : World) (hr0 : Kd.C k25 w A0 l0.length l0) (hc0 : l0.length ≤ c0) (h : api_Approval_13.f l0 = some r) :
  Calls Tryd.prog 13 #[.slice A0 l0.length c0] w fun e w' => ∃ v, e = .returned v ∧ Kd.R k25 25 w' w.heap.size (fun _ => True) v r ∧ Below w.heap.size w w' := by
 unfold api_Approval_13.f at h
 by_cases hc : l0.length * 48 ≤ 140737488355328
 case neg => rw [if_neg hc] at h; cases h
 rw [if_pos hc] at h
 injection h with h
 subst h
 have HC := Aside0.mk hr0
 clear hr0 hc0
 rcases A0 with _ | ad
 ·have hl : l0 = [] := by
   rcases l0 with _ | ⟨x, l⟩
   ·rfl
   ·obtain ⟨a, ha, _⟩ := HC.out.2.2 (by simp)
    cases ha
  subst hl
  clear hc HC
  have he : ∀ W : World, (binOp .eql 23 (.slice none ([] : List Int).length c0) (.slice none 0 0)).run Tryd.prog W = .ok (.bool true) W := fun _ => rfl
  simp only [List.length_nil] at he
  go_enter Tryd.func13, Tryd.ntmps13
  go_wp2_with fail
  go_ret
  exact ⟨_, rfl, Kd.R_nil _ _ _ _ _, Below.refl _ _⟩
 ·have HH := Aside0.mk hc
  clear hc
  have HB := Aside0.mk (Below.refl w.heap.size w)
  have he : ∀ W : World, (binOp .eql 23 (.slice (some ad) l0.length c0) (.slice none 0 0)).run Tryd.prog W = .ok (.bool false) W := fun _ => rfl
  go_enter Tryd.func13, Tryd.ntmps13
  go_wp2_with (first
   | ((with_reducible refine gate_dst (N := 5) rfl ?_); go_loud (refine Kd.R_lit (k25) (w0 := w) w.heap.size 25 ?hg (N := 5) ?hd (xs := ([] : List S25)) (inner := []) (ok := fun _ => True) (okp := fun _ => False) ?hr ?hp (fun _ hk => hk.elim) trivial ?hB ?hS (by simp) ?_); (case hd => rfl); (case hg => rfl); (case hr => first | (go_simp; done) | (go_simp; rfl)); (case hp => exact Reps.none _ _); (case hB => exact HB.out); (case hS => exact Nat.le_refl _); intro v1 w1 ho hb hg_ hn_; have HO := Aside0.mk ho; have HB1 := Aside0.mk hb; have HC1 := Aside0.mk (Kd.C_below HC.out hb); clear ho hb hg_ hn_)
   | ((with_reducible refine gate_builtin (b := .append) (xs := #[.tmp 5, .tmp 6]) rfl ?_); at_builtin; go_loud (refine Kd.R_append_rows (k25) (w0 := w) w.heap.size rfl (.tmp 5) (.tmp 6) 23 25 (.agg #[(.int .i64 0), (.int .i64 0), (.string ⟨#[]⟩), (.string ⟨#[]⟩)]) 48 rfl Tryd.underlying23 info25 rfl (by decide) (by decide) v1 [] l0 (some ad) l0.length c0 (fun _ => True) (fun _ => False) rfl rfl HO.out HC1.out (fun _ _ h => h) (fun _ h => h.elim) (fun _ _ => trivial) HB1.out HB1.out.size ?aL ?_); (case aL => have := HH.out; simp only [List.length_nil, Nat.zero_add]; exact this); intro v2 w2 ho hb hg_ hat; have HO2 := Aside0.mk ho; have HB2 := Aside0.mk hb; clear ho hb hg_ hat))
  go_ret
  exact ⟨_, rfl, by have h := HO2.out; rw [List.nil_append] at h; exact h, HB2.out⟩
end Go.Proofs.YtbfimjncophcaaaDoor.Pr
