/- Part 3 of 6: walks and laws of functions that the last part joins. The words of the print (W..) are the kit's, cut down by program to what is used here. -/
import Derived.Shelf.Strings.Builder1
import Derived.Shelf.Strings.Builder2
import Derived.Shelf.Small.Wraps
import Derived.Shelf.Strings.BuilderF
import Derived.Shelf.Strings.BuilderK
import Derived.Shelf.Strings.Builder2Cap
import Derived.Shelf.Strconv.Itoa0
import Derived.Shelf.Strconv.Itoa1
import Derived.Shelf.LaysM
import Derived.Shelf.Strconv.Itoa2
import Derived.Shelf.Strconv.Itoa3
import Derived.Shelf.Strconv.Clone
import Derived.Shelf.Strconv.SyntaxError
import Derived.Shelf.Strconv.Lower
import Derived.Shelf.Strconv.ParseUint10
import Derived.Shelf.Strconv.ParseUint10Empty
import Derived.Shelf.Strconv.RangeError
import Derived.Shelf.Strconv.ParseUintEmpty
import Derived.Shelf.Strconv.ParseUint10b64
import Derived.Shelf.Strconv.ParseUint10b32
import Derived.Shelf.Strconv.ParseUint10b16
import Derived.Shelf.Strconv.ParseUint10b8
import Derived.Shelf.Strings.Prefix
import Derived.Shelf.Bits.Mul64
import Derived.Shelf.Strings.Repeat
import Derived.Ground.Names2Prog
import Derived.Shelf.Slices.SearchI
import Derived.Test.YtcmbggahndfnnaaGreatDoorProg
import Derived.Lib.Walk
import Derived.Lib.ItoaMem
import Derived.WalkKit
import Derived.BigCall
import Derived.BigGuard
import Derived.Below
import Derived.Deep.Draws
import Derived.Deep.AppendLies
import Derived.Maps.AppendAt
import Derived.OwnWalk
import Derived.Laws.BytesArg
import Derived.Laws.MakeOwn
import Derived.Laws.OwnMore
import Derived.Deep.OwnRows
import Derived.Tactics
import Derived.Lib.ConvBytes
import Derived.Laws.Slices
import Derived.KernelRfl
import Derived.RowKit3
import Derived.Deep.LoopGhost
import Derived.Deep.QuietTactic
import Derived.BigQuiet
import Derived.WideLaws
import Derived.Deep.DeepCutAuto
import Derived.Deep.CutBlock
import Derived.Deep.RegionHeld3
import Derived.Laws.Rows
import Derived.Lib.AppendStr
import Derived.ArgAppend
import Derived.Laws.IdiomCopy
import Derived.OrdersHeld
import Derived.Laws.BitsLemmas
import Derived.RowKit
import Derived.Shelf.Strings.Search1
import Derived.Shelf.Strings.Cut
import Derived.IntWalk
import Derived.Test.YtcmbggahndfnnaaGreatDoorEz2
set_option linter.unusedVariables false
set_option linter.unusedSimpArgs false
namespace Go.Proofs
open Go.Shelf
def Tryz.lays169_ren:Go.Shelf.Ren:=⟨fun|169=>49|n=>n,fun|70=>71|9=>9|0=>0|72=>73|37=>57|127=>114|3=>3|5=>5|n=>n,fun|n=>n⟩
theorem Tryz.lays169:Go.Proofs.Lays.n169 Tryz.prog Tryz.lays169_ren:={
 mixed:=by kernel_rfl
 f169:=Tryz.func49.trans (congrArg some (by kernel_rfl))
 t0:=Tryz.underlying0
 a0:=Tryz.isAgg0
 z0:=Tryz.sizeOf0
 v0:=Tryz.zeroValue0
 t3:=Tryz.underlying3
 a3:=Tryz.isAgg3
 z3:=Tryz.sizeOf3
 v3:=Tryz.zeroValue3
 t9:=Tryz.underlying9
 a9:=Tryz.isAgg9
 z9:=Tryz.sizeOf9
 v9:=Tryz.zeroValue9
 t37:=Tryz.underlying57
 a37:=Tryz.isAgg57
 z37:=Tryz.sizeOf57
 v37:=Tryz.zeroValue57
 t70:=Tryz.underlying71
 a70:=Tryz.isAgg71
 z70:=Tryz.sizeOf71
 v70:=Tryz.zeroValue71
 t72:=Tryz.underlying73
 a72:=Tryz.isAgg73
 z72:=Tryz.sizeOf73
 v72:=Tryz.zeroValue73
 t127:=Tryz.underlying114
 a127:=Tryz.isAgg114
 z127:=Tryz.sizeOf114
 v127:=Tryz.zeroValue114 }
theorem Tryz.Builder_Extra_169:Builder.Extra Tryz.prog Tryz.lays169_ren:={
 sizeBuilder:=by kernel_rfl
 liesBuilder:=by kernel_rfl
 t5:=Tryz.underlying5
 a5:=Tryz.isAgg5
 z5:=Tryz.sizeOf5
 v5:=Tryz.zeroValue5
 infoByte:=by kernel_rfl
 cellsByte:=by kernel_rfl
 sizeByte:=by kernel_rfl
 neB5:=by decide }
open Go.RowKit in
theorem Tryz.Builder_String_any_k (B b:Nat) (l:List UInt8) (w:World) (h:Lib.IsBuilderF 73 5 B b (Lib.byteCells l) w) (hBw:B≤w.heap.size) :
  Calls Tryz.prog 49 #[.pointer (some ⟨b,0,none⟩)] w fun e w'=>e = .returned (.string ⟨l.toArray⟩)∧(Lib.IsBuilderF 73 5 B b (Lib.byteCells l) w'∧Below B w w'∧Lib.OthersKept 5 (some b) w w'):=Any.Builder_String_any_k Tryz.lays169 Tryz.Builder_Extra_169 B b l w h hBw
def Tryz.lays283_ren:Go.Shelf.Ren:=⟨fun|283=>161|n=>n,fun|3=>3|9=>9|4=>4|n=>n,fun|n=>n⟩
theorem Tryz.lays283:Go.Proofs.Lays.n283 Tryz.prog Tryz.lays283_ren:={
 mixed:=by kernel_rfl
 f283:=Tryz.func161.trans (congrArg some (by kernel_rfl))
 t3:=Tryz.underlying3
 a3:=Tryz.isAgg3
 z3:=Tryz.sizeOf3
 v3:=Tryz.zeroValue3
 t4:=Tryz.underlying4
 a4:=Tryz.isAgg4
 z4:=Tryz.sizeOf4
 v4:=Tryz.zeroValue4
 t9:=Tryz.underlying9
 a9:=Tryz.isAgg9
 z9:=Tryz.sizeOf9
 v9:=Tryz.zeroValue9 }
open Go.Lib in
theorem Tryz.internal_strconv_small (i:Nat) (h:i < 100) (w:World) :
  Calls Tryz.prog 161 #[.int .i64 i] w fun e w'=>e = .returned (.string ⟨(Lib.decDigits i).toArray⟩)∧w' = w:=Any.internal_strconv_small Tryz.lays283 i h w
def Tryz.laysM284_ren:Go.Shelf.Ren:=⟨fun|284=>162|129=>174|317=>173|318=>175|n=>n,fun|53=>104|3=>3|212=>218|0=>0|4=>4|46=>106|5=>5|9=>9|n=>n,fun|17=>3|n=>n⟩
theorem Tryz.laysM284:Go.Proofs.LaysM.n284 Tryz.prog Tryz.laysM284_ren:={
 mixed:=by kernel_rfl
 f129:=Tryz.func174.trans (congrArg some (by kernel_rfl))
 f284:=Tryz.func162.trans (congrArg some (by kernel_rfl))
 f317:=Tryz.func173.trans (congrArg some (by kernel_rfl))
 f318:=Tryz.func175.trans (congrArg some (by kernel_rfl))
 t0:=Tryz.underlying0
 a0:=Tryz.isAgg0
 z0:=Tryz.sizeOf0
 v0:=Tryz.zeroValue0
 t3:=Tryz.underlying3
 a3:=Tryz.isAgg3
 z3:=Tryz.sizeOf3
 v3:=Tryz.zeroValue3
 t4:=Tryz.underlying4
 a4:=Tryz.isAgg4
 z4:=Tryz.sizeOf4
 v4:=Tryz.zeroValue4
 t5:=Tryz.underlying5
 a5:=Tryz.isAgg5
 z5:=Tryz.sizeOf5
 v5:=Tryz.zeroValue5
 t9:=Tryz.underlying9
 a9:=Tryz.isAgg9
 z9:=Tryz.sizeOf9
 v9:=Tryz.zeroValue9
 t46:=Tryz.underlying106
 a46:=Tryz.isAgg106
 z46:=Tryz.sizeOf106
 v46:=Tryz.zeroValue106
 t53:=Tryz.underlying104
 a53:=Tryz.isAgg104
 z53:=Tryz.sizeOf104
 v53:=Tryz.zeroValue104
 t212:=Tryz.underlying218
 a212:=Tryz.isAgg218
 z212:=Tryz.sizeOf218
 v212:=Tryz.zeroValue218
 g17:=by kernel_rfl
 i0:=by kernel_rfl
 i3:=by kernel_rfl
 i4:=by kernel_rfl
 i5:=by kernel_rfl
 i9:=by kernel_rfl
 i46:=by kernel_rfl
 i53:=by kernel_rfl
 i212:=by kernel_rfl
 m17:=by kernel_rfl }
open Go.Lib in
theorem Tryz.internal_strconv_numDigits (u:Nat) (h1:1≤u) (h2:u < 18446744073709551616) (w:World) (htab:Lib.TabIs Tryz.prog w "internal/strconv.uint64pow10" .u64 Lib.pow10Tab) :
  Calls Tryz.prog 162 #[.int .u64 u] w fun e w'=>e = .returned (.int .i64 (Lib.nDigits u))∧w' = w:=Any.internal_strconv_numDigits Tryz.laysM284 u h1 h2 w htab
def Tryz.lays285_ren:Go.Shelf.Ren:=⟨fun|285=>163|n=>n,fun|37=>57|53=>104|3=>3|4=>4|51=>101|9=>9|5=>5|0=>0|n=>n,fun|n=>n⟩
theorem Tryz.lays285:Go.Proofs.Lays.n285 Tryz.prog Tryz.lays285_ren:={
 mixed:=by kernel_rfl
 f285:=Tryz.func163.trans (congrArg some (by kernel_rfl))
 t0:=Tryz.underlying0
 a0:=Tryz.isAgg0
 z0:=Tryz.sizeOf0
 v0:=Tryz.zeroValue0
 t3:=Tryz.underlying3
 a3:=Tryz.isAgg3
 z3:=Tryz.sizeOf3
 v3:=Tryz.zeroValue3
 t4:=Tryz.underlying4
 a4:=Tryz.isAgg4
 z4:=Tryz.sizeOf4
 v4:=Tryz.zeroValue4
 t5:=Tryz.underlying5
 a5:=Tryz.isAgg5
 z5:=Tryz.sizeOf5
 v5:=Tryz.zeroValue5
 t9:=Tryz.underlying9
 a9:=Tryz.isAgg9
 z9:=Tryz.sizeOf9
 v9:=Tryz.zeroValue9
 t37:=Tryz.underlying57
 a37:=Tryz.isAgg57
 z37:=Tryz.sizeOf57
 v37:=Tryz.zeroValue57
 t51:=Tryz.underlying101
 a51:=Tryz.isAgg101
 z51:=Tryz.sizeOf101
 v51:=Tryz.zeroValue101
 t53:=Tryz.underlying104
 a53:=Tryz.isAgg104
 z53:=Tryz.sizeOf104
 v53:=Tryz.zeroValue104 }
open Go.RowKit Go.Sort Go.Lib in
theorem Tryz.internal_strconv_formatBase10 (blk off cap:Nat) (u:Nat) (d:Array UInt8) (w:World) (hH:Holds (fun (b:UInt8)=>Value.int .u8 (b.toNat:Int)) w blk off d) (hu:u < 10 ^ d.size) (hu64:u < 18446744073709551616) (hsz:d.size < 4611686018427387904) :
  Calls Tryz.prog 163 #[.slice (some ⟨blk,off,none⟩) d.size cap,.int .u64 u] w fun e w' =>
   e = .returned (.tuple #[])∧∃ (n v':Nat) (dk:Array UInt8),w' = (putRow (fun (b:UInt8)=>Value.int .u8 (b.toNat:Int)) w blk off dk).drewN n∧FmtInv d.size u 0 v' dk:=Any.internal_strconv_formatBase10 Tryz.lays285 blk off cap u d w hH hu hu64 hsz
def Tryz.lays105_ren:Go.Shelf.Ren:=⟨fun|105=>141|212=>149|99=>150|165=>151|166=>45|170=>152|169=>49|263=>165|264=>166|206=>135|240=>75|241=>167|276=>88|277=>178|n=>n,fun|9=>9|3=>3|4=>4|20=>20|0=>0|46=>106|109=>195|5=>5|72=>73|76=>76|51=>101|146=>179|53=>104|148=>211|70=>71|37=>57|75=>75|127=>114|164=>133|80=>80|n=>n,fun|n=>n⟩
theorem Tryz.lays105:Go.Proofs.Lays.n105 Tryz.prog Tryz.lays105_ren:={
 mixed:=by kernel_rfl
 f99:=Tryz.func150.trans (congrArg some (by kernel_rfl))
 f105:=Tryz.func141.trans (congrArg some (by kernel_rfl))
 f165:=Tryz.func151.trans (congrArg some (by kernel_rfl))
 f166:=Tryz.func45.trans (congrArg some (by kernel_rfl))
 f169:=Tryz.func49.trans (congrArg some (by kernel_rfl))
 f170:=Tryz.func152.trans (congrArg some (by kernel_rfl))
 f206:=Tryz.func135.trans (congrArg some (by kernel_rfl))
 f212:=Tryz.func149.trans (congrArg some (by kernel_rfl))
 f240:=Tryz.func75.trans (congrArg some (by kernel_rfl))
 f241:=Tryz.func167.trans (congrArg some (by kernel_rfl))
 f263:=Tryz.func165.trans (congrArg some (by kernel_rfl))
 f264:=Tryz.func166.trans (congrArg some (by kernel_rfl))
 f276:=Tryz.func88.trans (congrArg some (by kernel_rfl))
 f277:=Tryz.func178.trans (congrArg some (by kernel_rfl))
 t0:=Tryz.underlying0
 a0:=Tryz.isAgg0
 z0:=Tryz.sizeOf0
 v0:=Tryz.zeroValue0
 t3:=Tryz.underlying3
 a3:=Tryz.isAgg3
 z3:=Tryz.sizeOf3
 v3:=Tryz.zeroValue3
 t4:=Tryz.underlying4
 a4:=Tryz.isAgg4
 z4:=Tryz.sizeOf4
 v4:=Tryz.zeroValue4
 t5:=Tryz.underlying5
 a5:=Tryz.isAgg5
 z5:=Tryz.sizeOf5
 v5:=Tryz.zeroValue5
 t9:=Tryz.underlying9
 a9:=Tryz.isAgg9
 z9:=Tryz.sizeOf9
 v9:=Tryz.zeroValue9
 t20:=Tryz.underlying20
 a20:=Tryz.isAgg20
 z20:=Tryz.sizeOf20
 v20:=Tryz.zeroValue20
 t37:=Tryz.underlying57
 a37:=Tryz.isAgg57
 z37:=Tryz.sizeOf57
 v37:=Tryz.zeroValue57
 t46:=Tryz.underlying106
 a46:=Tryz.isAgg106
 z46:=Tryz.sizeOf106
 v46:=Tryz.zeroValue106
 t51:=Tryz.underlying101
 a51:=Tryz.isAgg101
 z51:=Tryz.sizeOf101
 v51:=Tryz.zeroValue101
 t53:=Tryz.underlying104
 a53:=Tryz.isAgg104
 z53:=Tryz.sizeOf104
 v53:=Tryz.zeroValue104
 t70:=Tryz.underlying71
 a70:=Tryz.isAgg71
 z70:=Tryz.sizeOf71
 v70:=Tryz.zeroValue71
 t72:=Tryz.underlying73
 a72:=Tryz.isAgg73
 z72:=Tryz.sizeOf73
 v72:=Tryz.zeroValue73
 t75:=Tryz.underlying75
 a75:=Tryz.isAgg75
 z75:=Tryz.sizeOf75
 v75:=Tryz.zeroValue75
 t76:=Tryz.underlying76
 a76:=Tryz.isAgg76
 z76:=Tryz.sizeOf76
 v76:=Tryz.zeroValue76
 t109:=Tryz.underlying195
 a109:=Tryz.isAgg195
 z109:=Tryz.sizeOf195
 v109:=Tryz.zeroValue195
 t127:=Tryz.underlying114
 a127:=Tryz.isAgg114
 z127:=Tryz.sizeOf114
 v127:=Tryz.zeroValue114
 t146:=Tryz.underlying179
 a146:=Tryz.isAgg179
 z146:=Tryz.sizeOf179
 v146:=Tryz.zeroValue179
 t148:=Tryz.underlying211
 a148:=Tryz.isAgg211
 z148:=Tryz.sizeOf211
 v148:=Tryz.zeroValue211
 t164:=Tryz.underlying133
 a164:=Tryz.isAgg133
 z164:=Tryz.sizeOf133
 v164:=Tryz.zeroValue133 }
theorem Tryz.Builder_Extra_105:Builder.Extra Tryz.prog Tryz.lays105_ren:={
 sizeBuilder:=by kernel_rfl
 liesBuilder:=by kernel_rfl
 t5:=Tryz.underlying5
 a5:=Tryz.isAgg5
 z5:=Tryz.sizeOf5
 v5:=Tryz.zeroValue5
 infoByte:=by kernel_rfl
 cellsByte:=by kernel_rfl
 sizeByte:=by kernel_rfl
 neB5:=by decide }
open Go.RowKit Go.Lib in
theorem Tryz.strings_Repeat (s:ByteArray) (c:Nat) (w:World) (hc:c≤9223372036854775807) (hlen:s.size * c≤140737488355328) :
  Calls Tryz.prog 141 #[.string s,.int .i64 c] w fun e w'=>e = .returned (.string ⟨(Lib.repeatL s.data.toList c).toArray⟩)∧Below w.heap.size w w':=Any.strings_Repeat Tryz.lays105 Tryz.Builder_Extra_105 s c w hc hlen
open Go.RowKit Go.Sort Go.Lib
theorem fin_pos0 (w:World) (o:Obj) (dk:Array UInt8) (k:Nat):∃ os,(putRow (fun (b:UInt8)=>Value.int .u8 (b.toNat:Int)) (w.alloc o) w.heap.size 0 dk).drewN k = grow (w.drewN k) os:=by
 rw [alloc_eq_grow]
 obtain ⟨os',_,e⟩:=putRow_grow_new (fun (b:UInt8)=>Value.int .u8 (b.toNat:Int)) w #[o] w.heap.size 0 dk (Nat.le_refl _)
 exact ⟨os',by rw [e];rfl⟩
set_option maxHeartbeats 6400000 in
set_option maxRecDepth 100000 in
theorem Tryz.internal_FormatUint (u:Nat) (hu64:u < 18446744073709551616) (w:World) (htab:Lib.TabIs Tryz.prog w "internal/strconv.uint64pow10" .u64 Lib.pow10Tab) :
  Calls Tryz.prog 148 #[.int .u64 u,.int .i64 10] w fun e w'=>e = .returned (.string ⟨(Lib.decDigits u).toArray⟩)∧Below w.heap.size w w':=by
 by_cases hs:u < 100
 ·have hsb:decide ((u:Int) < 100) = true:=decide_eq_true (by omega)
  have hwr:wrap64 (u:Int) = (u:Int):=by unfold wrap64;omega
  go_enter Tryz.func148,Tryz.ntmps148
  go_wp2_with (go_at_call 161;refine (Tryz.internal_strconv_small u hs _).mono ?_;rintro e w' ⟨rfl,rfl⟩)
  go_ret
  exact ⟨rfl,Below.refl _ _⟩
 ·have hsb:decide ((u:Int) < 100) = false:=decide_eq_false (by omega)
  have Ac:1≤u:=by omega
  have Ad:Lib.nDigits u≤20:=by have:=Lib.numDigits_eq u Ac hu64;split at this<;>omega
  have Ag:Lib.nDigits u≤24:=by omega
  have hal:Tryz.prog.arrayLen 205 = 24:=by simp [Program.arrayLen,Tryz.underlying205]
  have Ae:∀ W,(Instr.sliceAt 205 (.pointer (some ⟨w.heap.size,0,none⟩)) none (some (.int .i64 (Lib.nDigits u:Int))) none).run Tryz.prog W = .ok (.slice (some ⟨w.heap.size,0,none⟩) (Lib.nDigits u) 24) W:=fun W=>by
   rw [run_sliceAt_array_h W 205 ⟨w.heap.size,0,none⟩ (by simp [Program.arrayLen,Program.elem,Tryz.underlying205]) .i64 (Lib.nDigits u:Int) (by omega) (by rw [hal];omega)]
   go_simp
  have Ab:=Lib.holds_zero0 w 205 (Lib.nDigits u) (by omega)
  have Aa:=Tryz.internal_strconv_formatBase10 w.heap.size 0 24 u (Array.replicate (Lib.nDigits u) 0) (w.alloc (.cells Lib.zeros24 205)) Ab (by rw [Array.size_replicate];exact Lib.lt_pow_nDigits u) hu64 (by rw [Array.size_replicate];omega)
  rw [Array.size_replicate] at Aa
  have Af:=Lib.hid Ab
  clear Ab hal
  go_enter Tryz.func148,Tryz.ntmps148
  go_wp2_with (first
   | (go_at_call 162;refine (Tryz.internal_strconv_numDigits u Ac hu64 _ (Lib.tabIs_alloc htab _)).mono ?_;rintro e w' ⟨rfl,rfl⟩))
  go_at_call 163
  refine Aa.mono ?_
  rintro e w' ⟨rfl,k,v',dk,rfl,hF⟩
  have hcv:(convert 57 9 (.slice (some ⟨w.heap.size,0,none⟩) (Lib.nDigits u) 24)).run Tryz.prog ((putRow (fun (b:UInt8)=>Value.int .u8 (b.toNat:Int)) (w.alloc (.cells Lib.zeros24 205)) w.heap.size 0 dk).drewN k) = .ok (.string ⟨(Lib.decDigits u).toArray⟩) ((putRow (fun (b:UInt8)=>Value.int .u8 (b.toNat:Int)) (w.alloc (.cells Lib.zeros24 205)) w.heap.size 0 dk).drewN k):=by
   have h:=run_convert_bytes_back (P:=Tryz.prog) ((putRow (fun (b:UInt8)=>Value.int .u8 (b.toNat:Int)) (w.alloc (.cells Lib.zeros24 205)) w.heap.size 0 dk).drewN k) 57 9 5 ⟨w.heap.size,0,none⟩ 24 (Lib.decDigits u) Tryz.underlying57 Tryz.underlying5 Tryz.underlying9 (fun j hj=>by
    rw [Lib.row_is_numeral hF j hj,Lib.add_plain,World.cell?_drewN]
    exact cell?_putRow (fun (b:UInt8)=>Value.int .u8 (b.toNat:Int)) _ w.heap.size 0 _ dk Af.out (by rw [hF.size,Array.size_replicate]) j (by rw [hF.size];rw [Lib.decDigits_length] at hj;exact hj))
   rw [Lib.decDigits_length] at h
   exact h
  go_wp2
  go_ret
  obtain ⟨os,eo⟩:=fin_pos0 w (.cells Lib.zeros24 205) dk k
  exact ⟨rfl,by rw [eo];exact below_grow _ _ (Nat.le_refl _) k os⟩
theorem Tryz.FormatUint (u:Nat) (hu64:u < 18446744073709551616) (w:World) (htab:Lib.TabIs Tryz.prog w "internal/strconv.uint64pow10" .u64 Lib.pow10Tab) :
  Calls Tryz.prog 140 #[.int .u64 u,.int .i64 10] w fun e w'=>e = .returned (.string ⟨(Lib.decDigits u).toArray⟩)∧Below w.heap.size w w':=by
 go_enter Tryz.func140,Tryz.ntmps140
 go_wp2_with (go_at_call 148;refine (Tryz.internal_FormatUint u hu64 _ htab).mono ?_;rintro e w' ⟨rfl,hb⟩)
 go_ret
 exact ⟨rfl,hb⟩
end Go.Proofs
namespace Go.Proofs
open Go.Shelf
theorem Tryz.lays166:Go.Proofs.Lays.n166 Tryz.prog Tryz.lays105_ren:={
 mixed:=by kernel_rfl
 f166:=Tryz.func45.trans (congrArg some (by kernel_rfl))
 f240:=Tryz.func75.trans (congrArg some (by kernel_rfl))
 f276:=Tryz.func88.trans (congrArg some (by kernel_rfl))
 t0:=Tryz.underlying0
 a0:=Tryz.isAgg0
 z0:=Tryz.sizeOf0
 v0:=Tryz.zeroValue0
 t3:=Tryz.underlying3
 a3:=Tryz.isAgg3
 z3:=Tryz.sizeOf3
 v3:=Tryz.zeroValue3
 t4:=Tryz.underlying4
 a4:=Tryz.isAgg4
 z4:=Tryz.sizeOf4
 v4:=Tryz.zeroValue4
 t9:=Tryz.underlying9
 a9:=Tryz.isAgg9
 z9:=Tryz.sizeOf9
 v9:=Tryz.zeroValue9
 t20:=Tryz.underlying20
 a20:=Tryz.isAgg20
 z20:=Tryz.sizeOf20
 v20:=Tryz.zeroValue20
 t37:=Tryz.underlying57
 a37:=Tryz.isAgg57
 z37:=Tryz.sizeOf57
 v37:=Tryz.zeroValue57
 t70:=Tryz.underlying71
 a70:=Tryz.isAgg71
 z70:=Tryz.sizeOf71
 v70:=Tryz.zeroValue71
 t72:=Tryz.underlying73
 a72:=Tryz.isAgg73
 z72:=Tryz.sizeOf73
 v72:=Tryz.zeroValue73
 t75:=Tryz.underlying75
 a75:=Tryz.isAgg75
 z75:=Tryz.sizeOf75
 v75:=Tryz.zeroValue75
 t164:=Tryz.underlying133
 a164:=Tryz.isAgg133
 z164:=Tryz.sizeOf133
 v164:=Tryz.zeroValue133 }
open Go.RowKit Go.Lib in
theorem Tryz.Builder_WriteString_k (B b:Nat) (bs:List Value) (s:ByteArray) (w:World) (h:Lib.IsBuilderF 73 5 B b bs w) (hlen:bs.length + s.size≤140737488355328) (hBw:B≤w.heap.size) :
  Calls Tryz.prog 45 #[.pointer (some ⟨b,0,none⟩),.string s] w fun e w'=>e = .returned (.tuple #[.int .i64 s.size,.nilIface])∧(Lib.BuilderAtF 73 5 B b (.pointer (some ⟨b,0,none⟩)) (bs ++ Lib.strCells s) w'∧Below B w w'∧Lib.OthersKept 5 (some b) w w'):=Any.Builder_WriteString_k Tryz.lays166 Tryz.Builder_Extra_105 B b bs s w h hlen hBw
end Go.Proofs
namespace Go.Proofs.YtcmbggahndfnnaaGreatDoor.Pr
open Go.RowKit Go.Lib Go.Proofs.YtcmbggahndfnnaaGreatDoorW.PrintWords Go.Proofs.YtcmbggahndfnnaaGreatDoorW.PrintLast Go.Proofs.YtcmbggahndfnnaaGreatDoorW.PrintMore
def strings_Repeat.f (s:ByteArray) (c:Int):Option ByteArray :=
 if 0≤c∧c≤9223372036854775807∧s.size * c.toNat≤140737488355328 then some ⟨(Lib.repeatL s.data.toList c.toNat).toArray⟩ else none
theorem strings_Repeat.calls (a0:ByteArray) (a1:Int) (r:ByteArray) (w:World) (h:strings_Repeat.f a0 a1 = some r) :
  Calls Tryz.prog 141 #[.string a0,.int .i64 a1] w fun e w'=>e = .returned (.string r)∧Below w.heap.size w w':=by
 unfold strings_Repeat.f at h
 by_cases hc:0≤a1∧a1≤9223372036854775807∧a0.size * a1.toNat≤140737488355328
 case neg=>rw [if_neg hc] at h;cases h
 rw [if_pos hc] at h
 injection h with h
 subst h
 obtain ⟨n,rfl⟩:=Int.eq_ofNat_of_zero_le hc.1
 have h2:=hc.2.2
 have h1:=hc.2.1
 simp only [Int.toNat_natCast] at h2 ⊢
 exact Tryz.strings_Repeat a0 n w (by omega) h2
open Go.Shelf Go.Proofs.YtcmbggahndfnnaaGreatDoor.NatTh
def piece (len:Int) (x:Int × Int):List UInt8:=(if clI x.1 < len - 1 then List.replicate (9 - (decDigits (clW x.2).toNat).length) 48 else []) ++ decDigits (clW x.2).toNat
def accT (len:Int) (pre:List (Int × Int)):List UInt8:=pre.foldl (fun a x=>a ++ piece len x) []
theorem accT_snoc (len:Int) (pre:List (Int × Int)) (x:Int × Int):accT len (pre ++ [x]) = accT len pre ++ piece len x:=by simp [accT]
theorem dec_len (v:Nat) (h:v < 1000000000):(decDigits v).length≤9:=by
 rw [decDigits_length]
 exact nDigits_le 9 v (by omega) (by omega)
theorem piece_len (len:Int) (x:Int × Int):(piece len x).length≤9:=by
 have h:=dec_len (clW x.2).toNat (by have:=clW_in x.2;omega)
 unfold piece
 rw [List.length_append]
 split
 ·rw [List.length_replicate];omega
 ·simpa using h
theorem accT_len (len:Int) (pre:List (Int × Int)):(accT len pre).length≤9 * pre.length:=by
 suffices H:∀ (n:Nat) (pre:List (Int × Int)),pre.length = n→(accT len pre).length≤9 * n from H _ pre rfl
 intro n
 induction n with
 | zero =>
  intro pre h
  have:pre = []:=List.eq_nil_of_length_eq_zero h
  subst this
  simp [accT]
 | succ n ih =>
  intro pre h
  rcases List.eq_nil_or_concat pre with rfl|⟨a,c,rfl⟩
  ·simp at h
  ·rw [List.concat_eq_append] at h ⊢
   rw [accT_snoc,List.length_append]
   have h1:=ih a (by simpa using h)
   have h2:=piece_len len c
   omega
theorem accT_downs (zs:List Int) (hz:∀ x ∈ zs,0≤x∧x < 1000000000) (hb:zs.length < 1152921504606846976):∀ k,k≤zs.length→accT zs.length (downs zs k) = txt (zs.drop (zs.length - k)):=by
 intro k
 induction k with
 | zero =>
  intro _
  rw [Nat.sub_zero,List.drop_length]
  rfl
 | succ k ih =>
  intro hk
  rw [downs_succ,accT_snoc,ih (by omega)]
  have hi:zs.length - (k + 1) < zs.length:=by omega
  have e1:((zs.length:Int) - 1 - k) = ((zs.length - (k + 1):Nat):Int):=by omega
  have e2:rd zs ((zs.length:Int) - 1 - k) = zs[zs.length - (k + 1)]:=by
   rw [e1]
   unfold rd
   rw [Int.toNat_natCast,List.getD_eq_getElem?_getD,List.getElem?_eq_getElem hi]
   rfl
  have hw:=hz _ (List.getElem_mem hi)
  rw [List.drop_eq_getElem_cons hi,show zs.length - (k + 1) + 1 = zs.length - k by omega]
  unfold piece
  simp only []
  rw [e2,clW_eq hw,e1,clI_eq (by omega) (by omega)]
  generalize zs[zs.length - (k + 1)] = z at hw ⊢
  by_cases h0:k = 0
  ·subst h0
   rw [Nat.sub_zero,List.drop_length,if_neg (by omega)]
   rfl
  ·rw [if_pos (by omega)]
   obtain ⟨y,l,hy⟩:∃ y l,zs.drop (zs.length - k) = y :: l:=List.exists_cons_of_ne_nil (by
    intro e
    have:=congrArg List.length e
    rw [List.length_drop] at this
    simp at this
    omega)
   rw [hy,txt,← hy,pad_eq 9 z.toNat (by omega) (by omega)]
theorem grown_below {w w':World} (h:Below w.heap.size w w'):w.grownBy w' none:=⟨h.os,h.tape,h.output,h.size,fun k hk _=>h.block k hk⟩
theorem builder_kept {B b:Nat} {bs:List Value} {w w':World} {row:Option Nat} (h:Lib.IsBuilderF 73 5 B b bs w) (hg:w.grownBy w' row) (hr:∀ r,row = some r→∃ o:Obj,w.heap[r]? = some o∧o.isCells = false):Lib.IsBuilderF 73 5 B b bs w':=by
 have key:∀ p,Lib.BuilderAtF 73 5 B b p bs w→Lib.BuilderAtF 73 5 B b p bs w':=by
  rintro p ⟨hB,v,hb,Aa,hne⟩
  have nr:∀ k c t fz,w.heap[k]? = some (.cells c t fz)→some k≠row:=fun k c t fz hk e=>by
   obtain ⟨o,ho,hc⟩:=hr k e.symm
   rw [hk] at ho
   cases ho
   simp [Obj.isCells] at hc
  refine ⟨hB,v,(hg.block b (Array.getElem?_eq_some_iff.1 hb).1 (nr _ _ _ _ hb)).trans hb,Aa.kept hg ?_,hne⟩
  cases hv:v.ownBlock with
  | none=>exact .inl rfl
  | some g =>
   obtain ⟨c,fz,hgc⟩:=Lib.ownsRowF_kind Aa g hv
   exact .inr (nr _ _ _ _ hgc)
 exact h.elim (fun x=>.inl (key _ x)) (fun x=>.inr (key _ x))
theorem heap_kept {k:Nat} {c:Array Value} {t:TypeId} {fz:Nat × Nat} {w w':World} {row:Option Nat} (hk:w.heap[k]? = some (.cells c t fz)) (hg:w.grownBy w' row) (hr:∀ r,row = some r→∃ o:Obj,w.heap[r]? = some o∧o.isCells = false):w'.heap[k]? = w.heap[k]? :=
 hg.block k (Array.getElem?_eq_some_iff.1 hk).1 (fun e=>by
  obtain ⟨o,ho,hc⟩:=hr k e.symm
  rw [hk] at ho
  cases ho
  simp [Obj.isCells] at hc)
theorem builder_below {B b:Nat} {bs:List Value} {w w':World} (h:Lib.IsBuilderF 73 5 B b bs w) (hb:Below w.heap.size w w'):Lib.IsBuilderF 73 5 B b bs w':=builder_kept h (grown_below hb) (fun r e=>by cases e)
structure StepT (b:Nat) (W W':World):Prop where
 others:Lib.OthersKept 5 (some b) W W'
 below:Below b W W'
theorem StepT.of_below {b:Nat} {W W':World} (h:Below W.heap.size W W') (hb:b≤W.heap.size):StepT b W W' :=
 ⟨fun k o hk _ _=>(h.block k (Array.getElem?_eq_some_iff.1 hk).1).trans hk,h.mono hb⟩
theorem StepT.trans {b:Nat} {A B C:World} (h:StepT b A B) (k:StepT b B C):StepT b A C:=⟨h.others.trans k.others,h.below.trans k.below⟩
theorem builder_heap {T e:TypeId} {B b:Nat} {bs:List Value} {w:World} (h:Lib.IsBuilderF T e B b bs w):∃ c,w.heap[b]? = some (.cells c T (0,0)):=by
 rcases h with ⟨_,v,hb,_⟩|⟨_,v,hb,_⟩
 ·exact ⟨_,hb⟩
 ·exact ⟨_,hb⟩
theorem StepT.keeps {b:Nat} {W W':World} {c:Array Value} {t:TypeId} {fz:Nat × Nat} (h:StepT b W W') (hb:W.heap[b]? = some (.cells c t fz)):KeepsOthers W W' :=
 ⟨h.below.size,fun k o hk ho=>h.others k o hk (fun e=>by
  injection e with e
  subst e
  rw [hb] at hk
  cases hk
  simp [Obj.isCells] at ho) (fun c fz e=>by
  subst e
  simp [Obj.isCells] at ho)⟩
attribute [local go_sem] Oper.semAt_some
def natural_num_text.f (l:List Int):Option ByteArray :=
 if l.length≤1099511627776∧(∀ x ∈ l,0≤x∧x < 1000000000) then some ⟨(text l).toArray⟩ else none
theorem repeatL_one (c:UInt8) (n:Nat):Lib.repeatL [c] n = List.replicate n c:=by
 induction n with
 | zero=>rfl
 | succ n ih=>simp_all [Lib.repeatL,List.replicate_succ]
set_option maxRecDepth 100000 in
set_option maxHeartbeats 2000000 in
theorem text_walk (A0:Option Addr) (c0:Nat) (l0:List Int) (w:World) (hlen:l0.length≤1099511627776) (hz:∀ x ∈ l0,0≤x∧x < 1000000000) (hne:l0≠[]) (hr0:Kd.C (Kd.int .u32) w A0 l0.length l0) (hL:LaidW w) :
  Calls Tryz.prog 129 #[.slice A0 l0.length c0] w fun e w'=>e = .returned (.string ⟨(txt l0).toArray⟩)∧Below w.heap.size w w':=by
 have Bf:0 < l0.length:=List.length_pos_iff.2 hne
 have Bo:((l0.length:Int) == 0) = false:=by simpa using (by omega:¬ l0.length = 0)
 have Bn:decide ((l0.length:Int) = 0) = false:=by simpa using (by omega:¬ l0.length = 0)
 refine (callsIn_wide (n:=3)).1 ?_
 refine callsIn_of_wp_marks Tryz.func129 rfl trivial ?_ rfl
 simp only [Tryz.ntmps129,List.size_toArray,List.length_cons,List.length_nil,Nat.reduceAdd,Nat.reduceSub,Array.replicate_succ,Array.replicate_zero,List.push_toArray,List.append_toArray,List.nil_append,List.cons_append]
 gi_wp2_with (refine ⟨trivial,?_⟩;gi_at_call 139;refine (back_in Fence.wide _ trivial rfl _ _ _ _).mono ?_;rintro e w' ⟨rfl,rfl⟩)
 obtain ⟨W0,hW0⟩:∃ W0,((w.alloc (.cells #[.slice A0 l0.length c0] 161)).alloc (.cells #[.pointer none,.slice none 0 0] 73)).alloc (.cells #[.slice A0 l0.length c0] 161) = W0:=⟨_,rfl⟩
 have hsz:W0.heap.size = w.heap.size + 3:=by rw [← hW0];simp
 have Bc:Below w.heap.size w W0:=by
  rw [← hW0]
  exact (((Below.refl _ w).alloc (Nat.le_refl _) _).alloc (by simp) _).alloc (by simp;omega) _
 have Bh:W0.heap[w.heap.size]? = some (.cells #[.slice A0 l0.length c0] 161 (0,0)):=by
  rw [← hW0]
  exact (Below.heap_alloc _ _ _ (by simp;omega)).trans ((Below.heap_alloc _ _ _ (by simp)).trans (World.alloc_heap_new w _))
 have Ay:W0.heap[w.heap.size + 1 + 1]? = some (.cells #[.slice A0 l0.length c0] 161 (0,0)):=by
  rw [← hW0]
  have:=World.alloc_heap_new ((w.alloc (.cells #[.slice A0 l0.length c0] 161)).alloc (.cells #[.pointer none,.slice none 0 0] 73)) (.cells #[.slice A0 l0.length c0] 161)
  rwa [World.size_alloc,World.size_alloc] at this
 have An:Lib.IsBuilderF 73 5 (w.heap.size + 1) (w.heap.size + 1) (Lib.byteCells (accT l0.length [])) W0:=by
  rw [← hW0]
  refine Lib.IsBuilderF.alloc ?_ _
  have hn:=World.alloc_heap_new (w.alloc (.cells #[.slice A0 l0.length c0] 161)) (.cells #[.pointer none,.slice none 0 0] 73)
  rw [World.size_alloc] at hn
  refine .inl ⟨Nat.le_refl _,.slice none 0 0,hn,World.ownsRowF_nil _ _ _ _,by simp [Value.ownBlock]⟩
 rw [hW0]
 refine wpIn_rangeFunc_ownF rfl (by omega) (gf:=147) (lb:=#[.pointer (some ⟨w.heap.size + 1 + 1,0,none⟩)]) rfl trivial (enters_of Tryz.func147 (by kernel_rfl) rfl)
  (back_stops Fence.wide _ trivial rfl (by omega) (w.heap.size + 1 + 1) w A0 c0 l0 (by omega) hz hr0 W0 Bc Ay) KpB.t (KpB.b (by omega) (by omega)) (Below.refl _ _) (fun _=>rfl)
  (fun pre W=>(Lib.IsBuilderF 73 5 (w.heap.size + 1) (w.heap.size + 1) (Lib.byteCells (accT l0.length pre)) W∧W.heap[w.heap.size]? = some (.cells #[.slice A0 l0.length c0] 161 (0,0))∧W.heap[w.heap.size + 1 + 1]? = some (.cells #[.slice A0 l0.length c0] 161 (0,0)))∧Below w.heap.size w W)
  (fun _ _ _=>False)
  (OwnFrom.and (Own.from (fun s A B row hs hg hr=>⟨builder_kept hs.1 hg hr,(heap_kept hs.2.1 hg hr).trans hs.2.1,(heap_kept hs.2.2 hg hr).trans hs.2.2⟩) _) (ownFrom_below (Nat.le_refl _) (by omega)))
  (fun _ _ _ _ _ hs _ _=>hs)
  ⟨⟨An,Bh,Ay⟩,Bc⟩
  (fun x=>{ tmps:=#[Value.slice A0 l0.length c0,Value.pointer (some { block:=w.heap.size,off:=0 }),
     Value.string { data:=#[] },Value.pointer (some { block:=w.heap.size + 1,off:=0 }),.int .i64 (clI x.1),.int .u32 (clW x.2),
     undef,Value.slice A0 l0.length c0,Value.int IntKind.i64 l0.length,Value.bool false,
     Value.slice A0 l0.length c0,
     Value.func (Fn.func 147) #[] #[Value.pointer (some { block:=w.heap.size + 1 + 1,off:=0 })],.int .i64 (clI x.1),.int .u32 (clW x.2),
     undef,undef,undef,undef,undef,undef,undef,undef,undef,undef,undef,undef,undef,undef,undef,
     undef],defers:=[] }) ?assign ?body ?done ?stop
 case assign =>
  intro l x W K hK
  gi_wp2
  exact hK
 case body =>
  rintro l pre x W ⟨⟨hI,Ah,Al⟩,hB⟩ hlt
  have hal:=accT_len l0.length pre
  have hpl:=piece_len l0.length x
  have hps:piece l0.length x = (if clI x.1 < (l0.length:Int) - 1 then List.replicate (9 - (decDigits (clW x.2).toNat).length) 48 else []) ++ decDigits (clW x.2).toNat:=rfl
  have Aj:=accT_snoc l0.length pre x
  have hi:=clI_in x.1
  have hwd:=clW_in x.2
  generalize clI x.1 = i at *
  obtain ⟨v,hv⟩:∃ v:Nat,clW x.2 = v:=⟨(clW x.2).toNat,by omega⟩
  rw [hv] at hwd hps ⊢
  rw [Int.toNat_natCast] at hps
  obtain ⟨sv,hsv⟩:∃ sv:ByteArray,sv = ⟨(decDigits v).toArray⟩:=⟨_,rfl⟩
  have hsl:sv.size = (decDigits v).length:=by rw [hsv];rfl
  have hsc:Lib.strCells sv = Lib.byteCells (decDigits v):=by rw [hsv];rfl
  have hdl:=dec_len v (by omega)
  have hLW:LaidW W:=hL.below hB
  have hF:Calls Tryz.prog 140 #[.int .u64 v,.int .i64 10] W fun e w'=>e = .returned (.string sv)∧Below W.heap.size W w':=by
   rw [hsv]
   exact Tryz.FormatUint v (by omega) W hLW
  have hwr:IntKind.u64.wrap (v:Int) = v:=by rw [IntKind.wrap_u64];omega
  have hwl:wrap64 ((l0.length:Int) - 1) = (l0.length:Int) - 1:=by unfold wrap64;omega
  have Ab:W.cell? ⟨w.heap.size,0,none⟩ = some (.slice A0 l0.length c0):=by rw [Lib.cell_of_heap Ah];rfl
  have HI:=Lib.hid hI
  have HPS:=Lib.hid hps
  have Au:=Lib.hid Aj
  have HSL:=Lib.hid hsl
  have HSC:=Lib.hid hsc
  have HV:=Lib.hid hv
  clear hI hps Aj hsl hsc hv hsv
  have hBW:w.heap.size + 1≤W.heap.size:=by
   have:=(Array.getElem?_eq_some_iff.1 Al).1
   omega
  have Ai:∀ (W5:World) (new:List UInt8),StepT (w.heap.size + 1) W W5→Lib.IsBuilderF 73 5 (w.heap.size + 1) (w.heap.size + 1) (Lib.byteCells (accT l0.length pre) ++ Lib.byteCells new) W5→new = piece l0.length x →
    KeepsOthers W W5∧KpB w.heap.size (w.heap.size + 1 + 1) W W5∧(Lib.IsBuilderF 73 5 (w.heap.size + 1) (w.heap.size + 1) (Lib.byteCells (accT l0.length (pre ++ [x]))) W5∧W5.heap[w.heap.size]? = some (.cells #[.slice A0 l0.length c0] 161 (0,0))∧W5.heap[w.heap.size + 1 + 1]? = some (.cells #[.slice A0 l0.length c0] 161 (0,0)))∧Below w.heap.size w W5:=by
   intro W5 new hst Af Am
   obtain ⟨cb,hcb⟩:=builder_heap HI.out
   have k2:=hst.others _ _ Al (by simp) (by intro c fz e;cases e)
   have hb':=hst.below.mono (Nat.le_succ w.heap.size)
   refine ⟨hst.keeps hcb,⟨hb',fun o ho=>?_⟩,⟨?_,(hst.below.block _ (by omega)).trans Ah,k2⟩,hB.trans hb'⟩
   ·rw [Al] at ho
    cases ho
    exact k2
   ·rw [Au.out,byteCells_append,← Am]
    exact Af
  by_cases Ad:i < (l0.length:Int) - 1
  ·have Bg:decide (i < (l0.length:Int) - 1) = true:=decide_eq_true Ad
   have hwz:wrap64 (9 - (sv.size:Int)) = 9 - (sv.size:Int):=by
    have:=HSL.out
    unfold wrap64
    omega
   obtain ⟨rs,hrs⟩:∃ rs:ByteArray,rs = ⟨(Lib.repeatL [48] (9 - sv.size)).toArray⟩:=⟨_,rfl⟩
   have hrl:Lib.repeatL [48] (9 - sv.size) = List.replicate (9 - sv.size) 48:=repeatL_one _ _
   have hrz:rs.size = 9 - sv.size:=by
    rw [hrs,hrl]
    show (List.replicate (9 - sv.size) (48:UInt8)).toArray.size = _
    rw [List.size_toArray,List.length_replicate]
   have hrc:Lib.strCells rs = Lib.byteCells (List.replicate (9 - sv.size) 48):=by rw [hrs,hrl];rfl
   have hR:∀ W2,Calls Tryz.prog 141 #[.string ⟨#[48]⟩,.int .i64 (9 - (sv.size:Int))] W2 fun e w'=>e = .returned (.string rs)∧Below W2.heap.size W2 w':=fun W2=>by
    have:=HSL.out
    refine strings_Repeat.calls ⟨#[48]⟩ (9 - (sv.size:Int)) rs W2 ?_
    unfold strings_Repeat.f
    rw [if_pos ⟨by omega,by omega,by
     rw [show (⟨#[48]⟩:ByteArray).size = 1 from rfl]
     omega⟩,hrs,show (9 - (sv.size:Int)).toNat = 9 - sv.size by omega]
   have HRZ:=Lib.hid hrz
   have HRC:=Lib.hid hrc
   clear hrl hrz hrc hrs
   gi_wp2_with (first|(refine ⟨trivial,?_⟩;gi_at_call 140;refine (CallsIn.inRound l (callsIn_wide.2 hF)).mono ?_;rintro e W2 ⟨rfl,Aa⟩;have Ae:=(Aa.cell (p:=⟨w.heap.size,0,none⟩) (Array.getElem?_eq_some_iff.1 Ah).1).trans Ab;have Aq:=Lib.hid (builder_below HI.out Aa);have Ac:=Lib.hid Aa;clear Aa))
   (refine ⟨trivial,?_⟩;gi_at_call 141;refine (CallsIn.inRound l (callsIn_wide.2 (hR _))).mono ?_;rintro e W3 ⟨rfl,Ao⟩)
   have Bm:=Lib.hid (builder_below Aq.out Ao)
   have At:=Lib.hid Ao
   clear Ao Ae hwz
   gi_wp2_with fail
   (refine ⟨trivial,?_⟩;gi_at_call 45;refine (CallsIn.inRound l (callsIn_wide.2 (Tryz.Builder_WriteString_k _ _ _ rs _ Bm.out (by rw [byteCells_length,HRZ.out];omega) (by have:=Ac.out.size;have:=At.out.size;omega)))).mono ?_;rintro e W4 ⟨rfl,Bd,Ba,Aw⟩)
   have Bl:=Lib.hid (.inr Bd:Lib.IsBuilderF 73 5 (w.heap.size + 1) (w.heap.size + 1) _ W4)
   have Be:=Lib.hid Ba
   have Bj:=Lib.hid Aw
   clear Bd Ba Aw
   gi_wp2_with fail
   (refine ⟨trivial,?_⟩;gi_at_call 45;refine (CallsIn.inRound l (callsIn_wide.2 (Tryz.Builder_WriteString_k _ _ _ sv _ Bl.out (by rw [List.length_append,byteCells_length,Lib.strCells_length,HRZ.out];have:=HSL.out;omega) (by have:=Ac.out.size;have:=At.out.size;have:=Be.out.size;omega)))).mono ?_;rintro e W5 ⟨rfl,Ak,Af,Ag⟩)
   have Av:=Lib.hid Ak
   have As:=Lib.hid Af
   have Ap:=Lib.hid Ag
   clear Ak Af Ag
   gi_wp2
   refine Ai W5 (List.replicate (9 - sv.size) 48 ++ decDigits v) ?_ ?_ ?_
   ·exact (((StepT.of_below Ac.out hBW).trans (StepT.of_below At.out (by have:=Ac.out.size;omega))).trans ⟨Bj.out,Be.out⟩).trans ⟨Ap.out,As.out⟩
   ·rw [byteCells_append,← HRC.out,← HSC.out,← List.append_assoc]
    exact .inr Av.out
   ·rw [HPS.out,if_pos Ad,HSL.out]
  ·have Bg:decide (i < (l0.length:Int) - 1) = false:=decide_eq_false Ad
   gi_wp2_with (first|(refine ⟨trivial,?_⟩;gi_at_call 140;refine (CallsIn.inRound l (callsIn_wide.2 hF)).mono ?_;rintro e W2 ⟨rfl,Aa⟩;have Ae:=(Aa.cell (p:=⟨w.heap.size,0,none⟩) (Array.getElem?_eq_some_iff.1 Ah).1).trans Ab;have Aq:=Lib.hid (builder_below HI.out Aa);have Ac:=Lib.hid Aa;clear Aa))
   (refine ⟨trivial,?_⟩;gi_at_call 45;refine (CallsIn.inRound l (callsIn_wide.2 (Tryz.Builder_WriteString_k _ _ _ sv _ Aq.out (by rw [byteCells_length];have:=HSL.out;omega) (by have:=Ac.out.size;omega)))).mono ?_;rintro e W5 ⟨rfl,Ak,Af,Ag⟩)
   have Av:=Lib.hid Ak
   have As:=Lib.hid Af
   have Ap:=Lib.hid Ag
   clear Ak Af Ag Ae
   gi_wp2
   refine Ai W5 (decDigits v) ?_ ?_ ?_
   ·exact (StepT.of_below Ac.out hBW).trans ⟨Ap.out,As.out⟩
   ·rw [← HSC.out]
    exact .inr Av.out
   ·rw [HPS.out,if_neg (by omega),List.nil_append]
 case done =>
  rintro D ys W hD rfl ⟨⟨hI,Ah,Al⟩,hB⟩ hK
  have Bi:=(Array.getElem?_eq_some_iff.1 hK).1
  obtain ⟨cb,hcb⟩:=builder_heap hI
  have HI:=Lib.hid hI
  have HB:=Lib.hid hB
  clear hI hB
  gi_wp2_with (first|(refine ⟨trivial,?_⟩;gi_at_call 49;refine (callsIn_wide.2 (Tryz.Builder_String_any_k _ _ _ _ HI.out (by omega))).mono ?_;rintro e W2 ⟨rfl,_,Aa,Ax⟩;have Ac:=Lib.hid Aa;have Bk:=Lib.hid Ax;clear Aa Ax))
  have Bb:W2.heap[D]? = some (.deferred (some [])):=Bk.out D _ hK (fun e=>by
   injection e with e
   subst e
   rw [hcb] at hK
   cases hK) (fun c fz e=>by cases e)
  refine ⟨by simp,.inl ⟨_,_,rfl,run_takeDeferred Bb,?_⟩⟩
  refine ⟨_,results_tmp rfl _ _ _,?_,(HB.out.trans (Ac.out.mono (Nat.le_succ _))).trans (belowK_b (w:=w) (Nat.le_refl _) W2 D _ _ (by omega) Bb rfl rfl)⟩
  rw [accT_downs l0 hz (by omega) l0.length (Nat.le_refl _),Nat.sub_self,List.drop_zero]
  rfl
 case stop =>
  rintro D c pre W _ _ h _
  exact h.elim
set_option maxHeartbeats 1000000 in
theorem natural_num_text.calls (A0:Option Addr) (c0:Nat) (l0:List Int) (r:ByteArray) (w:World) (hr0:Kd.C (Kd.int .u32) w A0 l0.length l0) (hc0:l0.length≤c0) (hL:LaidW w) (h:natural_num_text.f l0 = some r) :
  Calls Tryz.prog 129 #[.slice A0 l0.length c0] w fun e w'=>e = .returned (.string r)∧Below w.heap.size w w':=by
 unfold natural_num_text.f at h
 by_cases hc:l0.length≤1099511627776∧(∀ x ∈ l0,0≤x∧x < 1000000000)
 case neg=>rw [if_neg hc] at h;cases h
 rw [if_pos hc] at h
 injection h with h
 subst h
 by_cases hne:l0 = []
 ·subst hne
  have ht:text [] = [48]:=rfl
  rw [ht]
  clear hr0 hc hc0
  go_enter Tryz.func129,Tryz.ntmps129
  go_wp2
  go_ret
  exact ⟨rfl,(Below.refl _ _).alloc (Nat.le_refl _) _⟩
 ·have ht:text l0 = txt l0:=by
   unfold text
   rw [if_neg hne]
  rw [ht]
  exact text_walk A0 c0 l0 w hc.1 hc.2 hne hr0 hL
end Go.Proofs.YtcmbggahndfnnaaGreatDoor.Pr
namespace Go.Proofs.YtcmbggahndfnnaaGreatDoor.Pr
open Go.RowKit Go.Lib Go.Proofs.YtcmbggahndfnnaaGreatDoorW.PrintWords Go.Proofs.YtcmbggahndfnnaaGreatDoorW.PrintLast Go.Proofs.YtcmbggahndfnnaaGreatDoorW.PrintMore Go.Proofs.YtcmbggahndfnnaaGreatDoor.NatTh
def num (n:Nat):ByteArray:=⟨(decDigits n).toArray⟩
theorem text_eq (n:Nat) (h:Ok (numOf n)):natural_num_text.f (numOf n) = some (num n):=by
 unfold Ok at h
 unfold natural_num_text.f
 rw [if_pos ⟨h,fun x hx=>by have:=(num_numOf n).1 x hx;rw [BB] at this;exact this⟩,text_numOf]
 rfl
end Go.Proofs.YtcmbggahndfnnaaGreatDoor.Pr
namespace Go.Proofs.YtcmbggahndfnnaaGreatDoor.Pr
open Go.RowKit Go.Proofs.YtcmbggahndfnnaaGreatDoorW.PrintWords Go.Proofs.YtcmbggahndfnnaaGreatDoorW.PrintLast Go.Proofs.YtcmbggahndfnnaaGreatDoorW.PrintMore Go.Proofs.YtcmbggahndfnnaaGreatDoor.NatTh
def nm (l:List Int):Nat:=(val l).toNat
def can (l:List Int):Prop:=l = numOf (nm l)∧l.length≤549755813888
instance (l:List Int):Decidable (can l):=by
 unfold can
 infer_instance
theorem nm_numOf (a:Nat):nm (numOf a) = a:=by
 unfold nm
 rw [val_numOf,Int.toNat_natCast]
theorem can_numOf {a:Nat} (h:(numOf a).length≤549755813888):can (numOf a):=⟨by rw [nm_numOf],h⟩
theorem V_of_C {w:World} {A:Option Addr} {c:Nat} {xs:List Int} (h:Kd.C (Kd.int .u32) w A xs.length xs) (hc:xs.length≤c):Kd.V (Kd.int .u32) 101 w w.heap.size (fun _=>True) (.slice A xs.length c) xs:=by
 refine ⟨A,c,rfl,hc,fun W' hW=>?_⟩
 obtain ⟨h1,h2,h3⟩:=h
 refine ⟨h1,h2,fun hn=>?_⟩
 obtain ⟨ad,e,Aa⟩:=h3 hn
 refine ⟨ad,e,fun j x hx=>?_⟩
 obtain ⟨cs,hl,hK,hcc⟩:=Aa j x hx
 refine ⟨cs,hl,hK,fun i u hu=>?_⟩
 have h4:=hcc i u hu
 exact (World.cell?_of_block (hW _ trivial (World.block_lt_of_cell? w _ h4))).trans h4
attribute [local go_sem] max2_int min2_int max_two min_two max_three min_three max_four min_four
set_option maxHeartbeats 8000000
set_option maxRecDepth 100000
def natural_both.j0:Nat→ByteArray→ByteArray→Bool→Option (List Int × List Int × Int)
 | 0,_,_,_=>none
 | k + 1,x0,x1,x14=>if x14 = true then (some (([]:List Int),([]:List Int),1)) else ((natural_read.f x0).bind fun t184=>((natural_read.f x1).bind fun t187=>(some (t184,t187,0))))
def natural_both.f (k:Nat) (a0:ByteArray) (a1:ByteArray):Option (List Int × List Int × Int):=(natural_Valid.f k a0).bind fun t182=>(if t182 = true then ((natural_Valid.f k a1).bind fun t183=>(natural_both.j0 k a0 a1 (!t183))) else (natural_both.j0 k a0 a1 true))
theorem natural_both.calls (k:Nat) (a0:ByteArray) (a1:ByteArray) (r1:List Int) (r2:List Int) (r3:Int) (w:World) (h:natural_both.f k a0 a1 = some (r1,r2,r3)) :
  Calls Tryz.prog 115 #[.string a0,.string a1] w fun e w'=>∃ v0_ v1_:Value,e = .returned (.tuple #[v0_,v1_,.int .i64 r3])∧Kd.R (Kd.int .u32) 101 w' w.heap.size (fun k_=>some k_≠(v1_:Value).ownBlock) v0_ r1∧Kd.R (Kd.int .u32) 101 w' w.heap.size (fun k_=>some k_≠(v0_:Value).ownBlock) v1_ r2∧Below w.heap.size w w':=by
 have HB:=Aside0.mk (Below.refl w.heap.size w)
 have H:=h;clear h;unfold natural_both.f at H
 have Ai:=Aside0.mk H
 clear H
 go_enter Tryz.func115,Tryz.ntmps115
 go_upto_region 1 with (fail)
 go_cut [14] (fun Al wc=>∃ (kq:Nat) (Aa:Bool),Al = .bool Aa∧Aside0 (natural_both.j0 kq a0 a1 Aa = some (r1,r2,r3))∧Aside0 (kq≤k)∧Aside0 (Below w.heap.size w wc))
 case first =>
  have H:=Ai.out
  clear Ai
  obtain ⟨Ah,A4,H⟩:=bn_ H
  by_cases c5:Ah = true
  ·subst c5
   have H1:((natural_Valid.f k a1).bind fun Ac=>(natural_both.j0 k a0 a1 (!Ac))) = some (r1,r2,r3):=by rw [if_pos rfl] at H;exact H
   clear H
   have H:=H1
   clear H1
   obtain ⟨Ac,A6,H⟩:=bn_ H
   have H':=Aside0.mk H
   clear H
   go_wp2_with (first|((with_reducible refine gate_callee (f:=86) rfl ?_);refine gm_ (some 8) Tryz.func86 #[.string a0] ?_;(with_reducible refine (natural_Valid.calls k a0 true _ A4.out).mono ?_);rintro e w' ⟨rfl,⟨nd,rfl⟩⟩;refine ⟨_,rfl,?_⟩)|(go_at_call 86;(with_reducible refine (natural_Valid.calls k a1 Ac _ A6.out).mono ?_);rintro e w' ⟨rfl,⟨nd,rfl⟩⟩))
   go_meet
   case rel=>exact ⟨_,(!Ac),rg_,H',⟨by first|omega|exact Nat.le_refl _⟩,⟨bx_⟩⟩
  ·replace c5:=Bool.eq_false_iff.mpr c5
   subst c5
   have H1:(natural_both.j0 k a0 a1 true) = some (r1,r2,r3):=by rw [if_neg (show ¬ (false = true) by decide)] at H;exact H
   clear H
   have H:=H1
   clear H1
   have H':=Aside0.mk H
   clear H
   go_wp2_with (first|((with_reducible refine gate_callee (f:=86) rfl ?_);refine gm_ (some 8) Tryz.func86 #[.string a0] ?_;(with_reducible refine (natural_Valid.calls k a0 false _ A4.out).mono ?_);rintro e w' ⟨rfl,⟨nd,rfl⟩⟩;refine ⟨_,rfl,?_⟩))
   go_meet
   case rel=>exact ⟨_,(true),rg_,H',⟨by first|omega|exact Nat.le_refl _⟩,⟨bx_⟩⟩
 case rest =>
  clear Ai
  obtain ⟨kq,Aa,rfl,HA,Ao,HB⟩:=hcut
  cases kq with
  | zero=>exact absurd HA.out (by simp [natural_both.j0])
  | succ kj2 =>
   have H:=HA.out
   clear HA
   simp only [natural_both.j0] at H
   by_cases c7:Aa = true
   ·subst c7
    have H1:(some (([]:List Int),([]:List Int),1)) = some (r1,r2,r3):=by rw [if_pos rfl] at H;exact H
    clear H
    have H:=H1
    clear H1
    simp only [Option.some.injEq,Prod.mk.injEq] at H
    obtain ⟨rfl,rfl,rfl⟩:=H
    go_wp2
    go_ret3
    exact ⟨_,_,rf_,by first|exact Kd.R_nil _ _ _ _ _|exact Kd.N_nil _ _ _ _ _|exact Kd.V_nil _ _ _ _ _|exact Kd.Q_nil _ _ _ _ _|exact Kd.S_nil _ _ _ _ _,by first|exact Kd.R_nil _ _ _ _ _|exact Kd.N_nil _ _ _ _ _|exact Kd.V_nil _ _ _ _ _|exact Kd.Q_nil _ _ _ _ _|exact Kd.S_nil _ _ _ _ _,bx_⟩
   ·replace c7:=Bool.eq_false_iff.mpr c7
    subst c7
    have H1:((natural_read.f a0).bind fun Ae=>((natural_read.f a1).bind fun Ad=>(some (Ae,Ad,0)))) = some (r1,r2,r3):=by rw [if_neg (show ¬ (false = true) by decide)] at H;exact H
    clear H
    have H:=H1
    clear H1
    obtain ⟨Ae,A8,H⟩:=bn_ H
    obtain ⟨Ad,A9,H⟩:=bn_ H
    simp only [Option.some.injEq,Prod.mk.injEq] at H
    obtain ⟨rfl,rfl,rfl⟩:=H
    go_wp2_with (first|((with_reducible refine gate_callee (f:=128) rfl ?_);refine gm_ (some 16) Tryz.func128 #[.string a0] ?_;(with_reducible refine (natural_read.calls a0 Ae _ A8.out).mono ?_);rintro e An ⟨Ak,rfl,Af,hb⟩;refine ⟨_,rfl,?_⟩;have Ab:=Aside0.mk (Kd.R_lower Af (below_size bx_));replace HB:=bs_ hb;(try clear hb);(try clear Af))|((with_reducible refine gate_callee (f:=128) rfl ?_);refine gm_ (some 18) Tryz.func128 #[.string a1] ?_;(with_reducible refine (natural_read.calls a1 Ad _ A9.out).mono ?_);rintro e Am ⟨Aj,rfl,Af,hb⟩;refine ⟨_,rfl,?_⟩;have Ag:=Aside0.mk (Kd.R_lower (Kd.R_new' Af (Kd.R_lt (by (with_reducible repeat (first|apply Kd.R_alloc|apply Kd.R_drewN|apply Kd.R_drew));exact Ab.out))) (below_size bx_));replace Ab:=Aside0.mk (Kd.R_elder' (by (with_reducible repeat (first|apply Kd.R_alloc|apply Kd.R_drewN|apply Kd.R_drew));exact Ab.out) (Kd.R_base Af) hb);replace HB:=bs_ hb;(try clear hb);(try clear Af)))
    go_ret3
    exact ⟨_,_,rf_,by (with_reducible repeat (first|apply Kd.R_alloc|apply Kd.R_drewN|apply Kd.R_drew));exact Kd.R_mono Ab.out (fun _ hk=>hk.2),by (with_reducible repeat (first|apply Kd.R_alloc|apply Kd.R_drewN|apply Kd.R_drew));exact Kd.R_mono Ag.out (fun _ hk=>hk.2),bx_⟩
def Sh (a:ByteArray):Prop:=a.size≤274877906944
instance (a:ByteArray):Decidable (Sh a):=by
 unfold Sh
 infer_instance
def bothV (a b:ByteArray):List Int × List Int × Int:=if (nv a && nv b) = true then (numOf (nat a),numOf (nat b),0) else ([],[],1)
theorem both_ev (a b:ByteArray) (ha:Sh a) (hb:Sh b):Ev (fun k=>natural_both.f k a b) (bothV a b):=by
 unfold Sh at ha hb
 have va:=Valid_ev a (by omega)
 have vb:=Valid_ev b (by omega)
 unfold bothV
 cases hna:nv a with
 | false =>
  rw [hna] at va
  rw [Bool.false_and,if_neg (by simp)]
  refine Ev.congr (f:=fun k=>(natural_Valid.f k a).bind fun t=>(if t = true then ((natural_Valid.f k b).bind fun Aa=>(natural_both.j0 k a b (!Aa))) else (natural_both.j0 k a b true))) (fun k=>rfl) (Ev.bind va ?_)
  refine Ev.congr (f:=fun k=>natural_both.j0 k a b true) (fun k=>if_neg (by simp)) ?_
  refine Ev.step (f:=fun k=>some ([],[],1)) (fun k=>?_) (Ev.now _)
  rw [natural_both.j0,if_pos (by rfl)]
 | true =>
  rw [hna] at va
  rw [Bool.true_and]
  refine Ev.congr (f:=fun k=>(natural_Valid.f k a).bind fun t=>(if t = true then ((natural_Valid.f k b).bind fun Aa=>(natural_both.j0 k a b (!Aa))) else (natural_both.j0 k a b true))) (fun k=>rfl) (Ev.bind va ?_)
  refine Ev.congr (f:=fun k=>((natural_Valid.f k b).bind fun Aa=>(natural_both.j0 k a b (!Aa)))) (fun k=>if_pos rfl) (Ev.bind vb ?_)
  cases hnb:nv b with
  | false =>
   rw [if_neg (by simp)]
   refine Ev.step (f:=fun k=>some ([],[],1)) (fun k=>?_) (Ev.now _)
   rw [natural_both.j0,if_pos (by rfl)]
  | true =>
   rw [if_pos rfl]
   refine Ev.step (f:=fun k=>some (numOf (nat a),numOf (nat b),0)) (fun k=>?_) (Ev.now _)
   rw [natural_both.j0,if_neg (by simp),read_eq a (by omega) hna,read_eq b (by omega) hnb]
   rfl
theorem nat_can (a:ByteArray) (h:nv a = true) (ha:Sh a):(numOf (nat a)).length≤274877906944:=Nat.le_trans (nat_len a h) ha
end Go.Proofs.YtcmbggahndfnnaaGreatDoor.Pr
namespace Go.Proofs.YtcmbggahndfnnaaGreatDoor.Pa
open Go.RowKit Go.Proofs.YtcmbggahndfnnaaGreatDoorW.PrintWords Go.Proofs.YtcmbggahndfnnaaGreatDoorW.PrintLast Go.Proofs.YtcmbggahndfnnaaGreatDoorW.PrintMore
attribute [local go_sem] max2_int min2_int max_two min_two max_three min_three max_four min_four
def errW:Option Int→Value
 | none=>.nilIface
 | some c=>.iface 200 (.int .i64 c)
theorem errW_none:errW none = .nilIface:=rfl
theorem errW_some (c:Int):errW (some c) = .iface 200 (.int .i64 c):=rfl
theorem info101:(Tryz.prog.info? 101).map (fun i=>(i.zero,i.size,i.bytes)) = some (some (.int .u32 0),1,4):=by kernel_rfl
def LaidW (w:World):Prop:=Pr.LaidW w
theorem LaidW.below {w w':World} (h:LaidW w) (hb:Below w.heap.size w w'):LaidW w':=Pr.LaidW.below h hb
def natural_both.f (k:Nat) (a0 a1:ByteArray):Option (List Int × List Int × Int):=Pr.natural_both.f k a0 a1
theorem natural_both.calls (k:Nat) (a0:ByteArray) (a1:ByteArray) (r1:List Int) (r2:List Int) (r3:Int) (w:World) (h:natural_both.f k a0 a1 = some (r1,r2,r3)) :
  Calls Tryz.prog 115 #[.string a0,.string a1] w fun e w'=>∃ v0_ v1_:Value,e = .returned (.tuple #[v0_,v1_,.int .i64 r3])∧Kd.R (Kd.int .u32) 101 w' w.heap.size (fun k_=>some k_≠(v1_:Value).ownBlock) v0_ r1∧Kd.R (Kd.int .u32) 101 w' w.heap.size (fun k_=>some k_≠(v0_:Value).ownBlock) v1_ r2∧Below w.heap.size w w':=Pr.natural_both.calls k a0 a1 r1 r2 r3 w h
def natural_num_compare.f (k:Nat) (l0 l1:List Int):Option Int:=Pr.natural_num_compare.f k l0 l1
theorem natural_num_compare.calls (k:Nat) (A0:Option Addr) (c0:Nat) (l0:List Int) (A1:Option Addr) (c1:Nat) (l1:List Int) (r:Int) (w:World) (hr0:Kd.C (Kd.int .u32) w A0 l0.length l0) (hc0:l0.length≤c0) (hr1:Kd.C (Kd.int .u32) w A1 l1.length l1) (hc1:l1.length≤c1) (h:natural_num_compare.f k l0 l1 = some r) :
  Calls Tryz.prog 142 #[.slice A0 l0.length c0,.slice A1 l1.length c1] w fun e w'=>e = .returned (.int .i64 r)∧Drawn0 w w':=Pr.natural_num_compare.calls k A0 c0 l0 A1 c1 l1 r w hr0 hc0 hr1 hc1 h
end Go.Proofs.YtcmbggahndfnnaaGreatDoor.Pa
namespace Go.Proofs.YtcmbggahndfnnaaGreatDoor.Pr
open Go.RowKit Go.Shelf Go.Lib Go.Proofs.YtcmbggahndfnnaaGreatDoor.NatTh Go.Proofs.YtcmbggahndfnnaaGreatDoorW.PrintWords Go.Proofs.YtcmbggahndfnnaaGreatDoorW.PrintLast Go.Proofs.YtcmbggahndfnnaaGreatDoorW.PrintMore
def Gives (r:List Int) (w:World) (e:Ending) (w':World):Prop:=∃ A c,e = .returned (.slice A r.length c)∧Kd.C (Kd.int .u32) w' A r.length r∧r.length≤c∧Below w.heap.size w w'
set_option maxHeartbeats 1000000 in
theorem apply48 (vn vm:Value) (r:List Int) (s:ByteArray) (w:World) (hL:LaidW w) (hm:Calls Tryz.prog 117 #[vn,vm] w (Gives r w)) (ht:natural_num_text.f r = some s) :
  Calls Tryz.prog 116 #[.func (.func 117) #[vn] #[],vm] w fun e w'=>e = .returned (.tuple #[.string s,.int .i64 0])∧Below w.heap.size w w':=by
 have HT:=Lib.hid ht
 have HL:=Lib.hid hL
 clear ht hL
 go_enter Tryz.func116,Tryz.ntmps116
 go_wp2_with (first|(go_at_call 117;refine hm.mono ?_;rintro e w1 ⟨A,c,rfl,hC,hc,hb⟩;have HB:=Lib.hid hb;have HC:=Lib.hid hC;have Hc:=Lib.hid hc;clear hb hC hc)|(go_at_call 129;refine (natural_num_text.calls _ _ r s _ HC.out Hc.out (HL.out.below HB.out) HT.out).mono ?_;rintro e w2 ⟨rfl,Aa⟩;have Ab:=Lib.hid Aa;clear Aa))
 go_ret2
 exact ⟨rfl,below_step HB.out Ab.out⟩
end Go.Proofs.YtcmbggahndfnnaaGreatDoor.Pr
namespace Go.Proofs.YtcmbggahndfnnaaGreatDoor.Pr
open Go.RowKit Go.Proofs.YtcmbggahndfnnaaGreatDoor.NatTh
def findBlock (n:Nat):Code→Option Code
 | .block m c=>if m = n then some (.block m c) else findBlock n c
 | .seq a b=>match findBlock n a with
  | some c=>some c
  | none=>findBlock n b
 | .loop c=>findBlock n c
 | .cond _ a b=>match findBlock n a with
  | some c=>some c
  | none=>findBlock n b
 | _=>none
noncomputable def blk (n:Nat):Code:=(Tryz.f132.body.bind (findBlock n)).getD .skip
noncomputable def blkIn (n:Nat):Code :=
 match blk n with
 | .block _ c=>c
 | c=>c
theorem w64n {x:Int} {n:Nat} (h:x = n) (hn:n < 9223372036854775808):wrap64 x = n:=by
 rw [h]
 exact w64 (by omega) (by omega)
structure GN (u v:List Int) (j a1 a2 b0 b2:Nat) (x1 x2 y2:Int):Prop where
 i1:wrap64 ((v.length:Int) - 1) = (a1:Int)
 i2:wrap64 ((v.length:Int) - 2) = (a2:Int)
 i3:wrap64 ((j:Int) + (v.length:Int)) = (b0:Int)
 i4:wrap64 ((b0:Int) - 2) = (b2:Int)
 l1:a1 < v.length
 l2:a2 < v.length
 l3:b2 < u.length
 e1:a1 = v.length - 1
 e2:a2 = v.length - 2
 e3:b2 = j + v.length - 2
 x1e:v.getD a1 0 = x1
 x2e:v.getD a2 0 = x2
 y2e:u.getD b2 0 = y2
 x10:0 < x1
 x11:x1 < 1000000000
 x20:0≤x2
 x21:x2 < 1000000000
 y20:0≤y2
 y21:y2 < 1000000000
 wx1:IntKind.u64.wrap x1 = x1
 wx2:IntKind.u64.wrap x2 = x2
 wy2:IntKind.u64.wrap y2 = y2
theorem gn (u v:List Int) (j:Nat) (hP:NatTh.Place u v j) (hs:u.length < 1099511627776):∃ a1 a2 b0 b2 x1 x2 y2,GN u v j a1 a2 b0 b2 x1 x2 y2:=by
 have Ab:=hP.k2
 have Aa:=hP.fit
 have v1:=hP.wv.getD (v.length - 1)
 have v2:=hP.wv.getD (v.length - 2)
 have u2:=hP.wu.getD (j + v.length - 2)
 have ht:=hP.top
 rw [BB] at v1 v2 u2
 exact ⟨v.length - 1,v.length - 2,j + v.length,j + v.length - 2,_,_,_,w64n (by omega) (by omega),w64n (by omega) (by omega),w64n (by omega) (by omega),w64n (by omega) (by omega),by omega,by omega,by omega,rfl,rfl,rfl,rfl,rfl,rfl,ht,v1.2,v2.1,v2.2,u2.1,u2.2,u64w (by omega) (by omega),u64w (by omega) (by omega),u64w (by omega) (by omega)⟩
theorem guess_dec {u v:List Int} {j:Nat} {g r:Int} (h:NatTh.Guess u v j g r) (hg:1≤g):IntKind.u64.wrap (g - 1) = g - 1:=by
 have:=h.hi
 rw [BB] at this
 exact u64w (by omega) (by omega)
theorem guess_rest {r x:Int} (h1:0≤r) (h2:r < B) (h3:0 < x) (h4:x < 1000000000):IntKind.u64.wrap (r + x) = r + x:=by
 rw [BB] at h2
 exact u64w (by omega) (by omega)
theorem guess_mul {g x:Int} (h1:0≤g) (h2:g≤2 * B) (h3:0≤x) (h4:x < 1000000000):IntKind.u64.wrap (g * x) = g * x:=by
 rw [BB] at h2
 have h5:=Int.mul_nonneg h1 h3
 have h6:g * x≤2000000000 * 1000000000:=Int.mul_le_mul (by omega) (by omega) h3 (by decide)
 exact u64w h5 (by omega)
theorem guess_rb {r:Int} (h1:0≤r) (h2:r < B):IntKind.u64.wrap (r * 1000000000) = r * 1000000000:=by
 rw [BB] at h2
 exact u64w (by omega) (by omega)
theorem guess_rby {r y:Int} (h1:0≤r) (h2:r < B) (h3:0≤y) (h4:y < 1000000000):IntKind.u64.wrap (r * 1000000000 + y) = r * 1000000000 + y:=by
 rw [BB] at h2
 exact u64w (by omega) (by omega)
theorem guess_lt {x:Int} (h:¬ 1000000000≤x):x < B:=by
 rw [BB]
 omega
theorem guess_meas {g:Int} (h:1≤g):(intOf (.int .u64 (g - 1))).toNat < (intOf (.int .u64 g)).toNat:=by
 simp [intOf]
 omega
open Go.Proofs.YtcmbggahndfnnaaGreatDoorW.PrintWords Go.Proofs.YtcmbggahndfnnaaGreatDoorW.PrintLast Go.Proofs.YtcmbggahndfnnaaGreatDoorW.PrintMore
set_option maxRecDepth 1000000 in
set_option maxHeartbeats 4000000 in
theorem guess_loop (K:Act→World→Prop) (Q0:Exit→Act→World→Prop) (w:World) (gu cu gv cv j:Nat) (u v:List Int) (g0 r0:Int) (u0 u1 u2 u3 u4 u5 u6 u7 u8 u9 u10 u14 u16 u19 u20 u21 u22 u23 u24 u25 u26 u27 u28 u29 u30 u31 u32 u33 u34 u35 u36 u37 u38 u39 u40 u41 u42 u43 u44 u45 u46 u47 u48 u49 u50 u51 u52 u53 u54 u55 u56 u57 u58 u59 u60 u61 u62 u63 u64 u65 u66 u67 u68 u69 u70 u71 u72 u73 u74 u75 u76 u77 u78 u79 u80 u81 u82 u83 u84 u85 u86 u87 u88 u89 u90 u91 u92 u93 u94 u95 u96 u97 u98 u99 u100 u101 u102 u103 u104 u105 u106 u107 u108 u109 u110 u111 u112 u113 u114 u115 u116 u117 u118 u119 u120 u121 u122 u123 u124 u125 u126 u127 u128 u129 u130 u131 u132 u133 u134 u135 u136 u137 u138 u139 u140 u141 u142 u143 u144 u145 u146 u147 u148 u149 u150 u151 u152 u153 u154 u155 u156 u157 u158 u159 u160 u161 u162 u163 u164 u165 u166 u167 u168 u169 u170 u171 u172 u173 u174 u175 u176 u177 u178 u179 u180 u181 u182 u183 u184 u185 u186 u187 u188 u189 u190 u191 u192 u193 u194 u195 u196 u197 u198 u199 u200 u201 u202 u203 u204 u205 u206 u207 u208 u209 u210 u211 u212 u213 u214 u215 u216 u217 u218 u219 u220 u221 u222 u223 u224 u225 u226 u227 u228 u229 u230 u231 u232 u233 u234 u235 u236 u237 u238 u239 u240 u241 u242 u243 u244 u245 u246 u247 u248 u249 u250 u251 u252 u253 u254 u255 u256 u257 u258 u259 u260 u261 u262 u263 u264 u265 u266 u267 u268 u269 u270 u271 u272 u273 u274 u275 u276 u277 u278 u279 u280 u281 u282 u283 u284 u285 u286 u287 u288 u289 u290 u291 u292 u293 u294 u295 u296 u297 u298:Value)
  (hP:NatTh.Place u v j) (hs:u.length < 1099511627776) (hG:Guess u v j g0 r0) (hr:r0 < B)
  (hcu:∀ i,i < u.length→w.cell? ⟨gu,i,none⟩ = some (.int .u32 (u.getD i 0))) (hcv:∀ i,i < v.length→w.cell? ⟨gv,i,none⟩ = some (.int .u32 (v.getD i 0)))
  (hK:∀ (m:Nat) (g:Int) (y18 y144 y145 y146 y147 y148 y149 y150 y151 y152 y153 y154 y155 y156 y157 y158 y159 y160 y161 y162 y163 y164 y165 y166 y167 y168 y169 y170 y171 y172 y173 y174 y175 y176 y177 y178 y179:Value),g = qw u v j ∨ g = qw u v j + 1→K ⟨#[u0,u1,u2,u3,u4,u5,u6,u7,u8,u9,u10,.slice (some ⟨gu,0,none⟩) u.length cu,.slice (some ⟨gv,0,none⟩) v.length cv,.int .i64 v.length,u14,.int .i64 j,u16,.int .u64 g,y18,u19,u20,u21,u22,u23,u24,u25,u26,u27,u28,u29,u30,u31,u32,u33,u34,u35,u36,u37,u38,u39,u40,u41,u42,u43,u44,u45,u46,u47,u48,u49,u50,u51,u52,u53,u54,u55,u56,u57,u58,u59,u60,u61,u62,u63,u64,u65,u66,u67,u68,u69,u70,u71,u72,u73,u74,u75,u76,u77,u78,u79,u80,u81,u82,u83,u84,u85,u86,u87,u88,u89,u90,u91,u92,u93,u94,u95,u96,u97,u98,u99,u100,u101,u102,u103,u104,u105,u106,u107,u108,u109,u110,u111,u112,u113,u114,u115,u116,u117,u118,u119,u120,u121,u122,u123,u124,u125,u126,u127,u128,u129,u130,u131,u132,u133,u134,u135,u136,u137,u138,u139,u140,u141,u142,u143,y144,y145,y146,y147,y148,y149,y150,y151,y152,y153,y154,y155,y156,y157,y158,y159,y160,y161,y162,y163,y164,y165,y166,y167,y168,y169,y170,y171,y172,y173,y174,y175,y176,y177,y178,y179,u180,u181,u182,u183,u184,u185,u186,u187,u188,u189,u190,u191,u192,u193,u194,u195,u196,u197,u198,u199,u200,u201,u202,u203,u204,u205,u206,u207,u208,u209,u210,u211,u212,u213,u214,u215,u216,u217,u218,u219,u220,u221,u222,u223,u224,u225,u226,u227,u228,u229,u230,u231,u232,u233,u234,u235,u236,u237,u238,u239,u240,u241,u242,u243,u244,u245,u246,u247,u248,u249,u250,u251,u252,u253,u254,u255,u256,u257,u258,u259,u260,u261,u262,u263,u264,u265,u266,u267,u268,u269,u270,u271,u272,u273,u274,u275,u276,u277,u278,u279,u280,u281,u282,u283,u284,u285,u286,u287,u288,u289,u290,u291,u292,u293,u294,u295,u296,u297,u298],[]⟩ (w.drewN m)) :
  Code.wp Tryz.prog (blkIn 3) (Exit.inBlock 3 (Exit.then K Q0)) ⟨#[u0,u1,u2,u3,u4,u5,u6,u7,u8,u9,u10,.slice (some ⟨gu,0,none⟩) u.length cu,.slice (some ⟨gv,0,none⟩) v.length cv,.int .i64 v.length,u14,.int .i64 j,u16,.int .u64 g0,.int .u64 r0,u19,u20,u21,u22,u23,u24,u25,u26,u27,u28,u29,u30,u31,u32,u33,u34,u35,u36,u37,u38,u39,u40,u41,u42,u43,u44,u45,u46,u47,u48,u49,u50,u51,u52,u53,u54,u55,u56,u57,u58,u59,u60,u61,u62,u63,u64,u65,u66,u67,u68,u69,u70,u71,u72,u73,u74,u75,u76,u77,u78,u79,u80,u81,u82,u83,u84,u85,u86,u87,u88,u89,u90,u91,u92,u93,u94,u95,u96,u97,u98,u99,u100,u101,u102,u103,u104,u105,u106,u107,u108,u109,u110,u111,u112,u113,u114,u115,u116,u117,u118,u119,u120,u121,u122,u123,u124,u125,u126,u127,u128,u129,u130,u131,u132,u133,u134,u135,u136,u137,u138,u139,u140,u141,u142,u143,u144,u145,u146,u147,u148,u149,u150,u151,u152,u153,u154,u155,u156,u157,u158,u159,u160,u161,u162,u163,u164,u165,u166,u167,u168,u169,u170,u171,u172,u173,u174,u175,u176,u177,u178,u179,u180,u181,u182,u183,u184,u185,u186,u187,u188,u189,u190,u191,u192,u193,u194,u195,u196,u197,u198,u199,u200,u201,u202,u203,u204,u205,u206,u207,u208,u209,u210,u211,u212,u213,u214,u215,u216,u217,u218,u219,u220,u221,u222,u223,u224,u225,u226,u227,u228,u229,u230,u231,u232,u233,u234,u235,u236,u237,u238,u239,u240,u241,u242,u243,u244,u245,u246,u247,u248,u249,u250,u251,u252,u253,u254,u255,u256,u257,u258,u259,u260,u261,u262,u263,u264,u265,u266,u267,u268,u269,u270,u271,u272,u273,u274,u275,u276,u277,u278,u279,u280,u281,u282,u283,u284,u285,u286,u287,u288,u289,u290,u291,u292,u293,u294,u295,u296,u297,u298],[]⟩ w:=by
 conv=>arg 2;whnf
 have HCU:=Aside0.mk hcu
 have HCV:=Aside0.mk hcv
 have HKK:=Aside0.mk hK
 clear hcu hcv hK
 go_wp2
 go_loopw [17,18] (fun a b wr=>∃ g r:Int,a = .int .u64 g∧b = .int .u64 r∧Aside0 (Guess u v j g r)∧Aside0 (r < B)∧∃ m:Nat,wr = w.drewN m) (fun a _ _=>(intOf a).toNat)
 case atStart=>exact ⟨g0,r0,rfl,rfl,⟨hG⟩,⟨hr⟩,0,(World.drewN_zero _).symm⟩
 case round =>
  obtain ⟨g,r,rfl,rfl,HG,HR,m,rfl⟩:=hrel
  obtain ⟨a1,a2,b0,b2,x1,x2,y2,N⟩:=gn u v j hP hs
  have c1:w.cell? ⟨gv,a1,none⟩ = some (.int .u32 x1):=by rw [← N.x1e];exact HCV.out a1 N.l1
  have c2:w.cell? ⟨gv,a2,none⟩ = some (.int .u32 x2):=by rw [← N.x2e];exact HCV.out a2 N.l2
  have c3:w.cell? ⟨gu,b2,none⟩ = some (.int .u32 y2):=by rw [← N.y2e];exact HCU.out b2 N.l3
  have i1:=N.i1
  have i2:=N.i2
  have i3:=N.i3
  have i4:=N.i4
  have q1:IntKind.i64.wrap ((v.length:Int) - 1) = (a1:Int):=(i64_w _).trans N.i1
  have q2:IntKind.i64.wrap ((v.length:Int) - 2) = (a2:Int):=(i64_w _).trans N.i2
  have q3:IntKind.i64.wrap ((j:Int) + (v.length:Int)) = (b0:Int):=(i64_w _).trans N.i3
  have q4:IntKind.i64.wrap ((b0:Int) - 2) = (b2:Int):=(i64_w _).trans N.i4
  have l1:=N.l1
  have l2:=N.l2
  have l3:=N.l3
  have s1:=N.wx1
  have s2:=N.wx2
  have s3:=N.wy2
  have s5:IntKind.u64.wrap (r + x1) = r + x1:=by
   have h1:=HG.out.r0
   have h2:=HR.out
   have h3:=N.x10
   have h4:=N.x11
   exact guess_rest h1 h2 h3 h4
  have Ab:∀ (hc:B≤g ∨ r * B + y2 < g * x2),Guess u v j (g - 1) (r + x1)∧1≤g:=by
   intro hc
   have h:=HG.out.step hP
   rw [← N.e1,← N.e2,← N.e3,N.x1e,N.x2e,N.y2e] at h
   exact h hc
  have Aa:∀ (g' r':Int),Guess u v j g' r'→(B≤r' ∨ (g' < B∧g' * x2≤r' * B + y2))→g' = qw u v j ∨ g' = qw u v j + 1:=by
   intro g' r' hG' hc
   have h:=hG'.done hP
   rw [← N.e2,← N.e3,N.x2e,N.y2e] at h
   exact h hc
  have HC:=Aside0.mk Ab
  have HD:=Aside0.mk Aa
  clear Ab Aa
  have s6:IntKind.u64.wrap (g * x2) = g * x2:=guess_mul HG.out.g0 HG.out.hi N.x20 N.x21
  have s7:IntKind.u64.wrap (r * 1000000000) = r * 1000000000:=guess_rb HG.out.r0 HR.out
  have s8:IntKind.u64.wrap (r * 1000000000 + y2) = r * 1000000000 + y2:=guess_rby HG.out.r0 HR.out N.y20 N.y21
  by_cases hB:1000000000≤g
  ·have hd:decide (1000000000≤g) = true:=decide_eq_true hB
   have s4:IntKind.u64.wrap (g - 1) = g - 1:=guess_dec HG.out (Int.le_trans (by decide) hB)
   have hst:=HC.out (.inl hB)
   have HST:=Aside0.mk hst
   clear hst
   go_wp2
   go_quiet (fail)
   by_cases hR:1000000000≤r + x1
   ·have Ad:decide (1000000000≤r + x1) = true:=decide_eq_true hR
    go_wp2
    exact HKK.out _ _ _ _ _ _ _ _ _ _ _ _ _ _ _ _ _ _ _ _ _ _ _ _ _ _ _ _ _ _ _ _ _ _ _ _ _ _ _ (HD.out _ _ HST.out.1 (.inl hR))
   ·have Ad:decide (1000000000≤r + x1) = false:=decide_eq_false hR
    go_wp2
    go_roundw
    case rel=>exact ⟨g - 1,r + x1,rfl,rfl,⟨HST.out.1⟩,⟨guess_lt hR⟩,_,rfl⟩
    case measure=>exact guess_meas HST.out.2
  ·have hd:decide (1000000000≤g) = false:=decide_eq_false hB
   by_cases hX:r * 1000000000 + y2 < g * x2
   ·have Af:decide (r * 1000000000 + y2 < g * x2) = true:=decide_eq_true hX
    have hst:=HC.out (.inr hX)
    have HST:=Aside0.mk hst
    clear hst
    have s4:IntKind.u64.wrap (g - 1) = g - 1:=guess_dec HG.out HST.out.2
    go_wp2
    go_quiet (fail)
    by_cases hR:1000000000≤r + x1
    ·have Ad:decide (1000000000≤r + x1) = true:=decide_eq_true hR
     go_wp2
     exact HKK.out _ _ _ _ _ _ _ _ _ _ _ _ _ _ _ _ _ _ _ _ _ _ _ _ _ _ _ _ _ _ _ _ _ _ _ _ _ _ _ (HD.out _ _ HST.out.1 (.inl hR))
    ·have Ad:decide (1000000000≤r + x1) = false:=decide_eq_false hR
     go_wp2
     go_roundw
     case rel=>exact ⟨g - 1,r + x1,rfl,rfl,⟨HST.out.1⟩,⟨guess_lt hR⟩,_,rfl⟩
     case measure=>exact guess_meas HST.out.2
   ·have Af:decide (r * 1000000000 + y2 < g * x2) = false:=decide_eq_false hX
    have Ac:=HD.out _ _ HG.out (.inr ⟨Int.not_le.1 hB,Int.not_lt.1 hX⟩)
    have Ae:=Aside0.mk Ac
    clear Ac
    go_wp2
    go_quiet (fail)
    go_wp2
    rw [World.drewN_drewN]
    exact HKK.out _ _ _ _ _ _ _ _ _ _ _ _ _ _ _ _ _ _ _ _ _ _ _ _ _ _ _ _ _ _ _ _ _ _ _ _ _ _ _ Ae.out
def Rw (W:World) (base g c:Nat) (l:List Int):Prop:=Kd.R (Kd.int .u32) 101 W base (fun k=>k = g) (.slice (some ⟨g,0,none⟩) l.length c) l
theorem Rw.cell {W:World} {base g c:Nat} {l:List Int} (h:Rw W base g c l) (i:Nat) (hi:i < l.length):W.cell? ⟨g,i,none⟩ = some (.int .u32 (l.getD i 0))∧W.frozen? ⟨g,i,none⟩ = false:=by
 have h1:=Kd.R_celln 0 h (i:Int) (by omega) (by omega)
 rw [Int.toNat_natCast] at h1
 refine ⟨h1.1.trans ?_,h1.2⟩
 rw [show rdOf 0 l (i:Int) = rd l (i:Int) from rfl,rd_eq]
theorem Rw.put {W:World} {base g c:Nat} {l:List Int} (h:Rw W base g c l) (i:Nat) (x:Int):Rw (W.setCell ⟨g,i,none⟩ (.int .u32 x)) base g c (l.set i x):=by
 have h1:=(Kd.R_putg h (i:Int) x).1
 rw [Int.toNat_natCast] at h1
 unfold Rw
 rw [List.length_set]
 exact h1
theorem Rw.far {W:World} {base g c g':Nat} {l:List Int} (h:Rw W base g c l) (hne:g≠g') (i:Nat) (x:Value):Rw (W.setCell ⟨g',i,none⟩ x) base g c l :=
 Kd.R_far (p:=⟨g',i,none⟩) h (fun k hk=>by rw [hk];exact hne) x
theorem Rw.drewN {W:World} {base g c:Nat} {l:List Int} (h:Rw W base g c l) (m:Nat):Rw (W.drewN m) base g c l:=Kd.R_drewN h m
theorem Rw.base {W:World} {base g c:Nat} {l:List Int} (h:Rw W base g c l):base≤g:=by
 obtain ⟨_,Aa,ho,_⟩:=h
 exact own_base ho g rfl
theorem Rw.of {W:World} {base g c:Nat} {ok:Nat→Prop} {l:List Int} (h:Kd.R (Kd.int .u32) 101 W base ok (.slice (some ⟨g,0,none⟩) l.length c) l):Rw W base g c l:=by
 obtain ⟨h0,Aa,Ab,hr⟩:=h
 refine ⟨fun k hk=>?_,Aa,Ab,hr.imp_ (fun _ _ hm=>hm)⟩
 have:g = k:=by simpa [Value.ownBlock] using hk
 exact this.symm
theorem ne_own {g g' n c:Nat} (h:some g≠(Value.slice (some ⟨g',0,none⟩) n c).ownBlock):g≠g':=fun e=>h (by rw [e];rfl)
structure DW (base:Nat) (w W:World) (gu cu gv cv gq cq:Nat) (u v q:List Int):Prop where
 ru:Rw W base gu cu u
 rv:Rw W base gv cv v
 rq:Rw W base gq cq q
 uv:gu≠gv
 uq:gu≠gq
 vq:gv≠gq
 below:Below base w W
 rest:∀ k,k≠gu→k≠gq→k < w.heap.size→W.heap[k]? = w.heap[k]?
theorem DW.drewN {base:Nat} {w W:World} {gu cu gv cv gq cq:Nat} {u v q:List Int} (h:DW base w W gu cu gv cv gq cq u v q) (m:Nat):DW base w (W.drewN m) gu cu gv cv gq cq u v q :=
 ⟨h.ru.drewN m,h.rv.drewN m,h.rq.drewN m,h.uv,h.uq,h.vq,pw_below_drewN h.below m,h.rest⟩
theorem DW.setU {base:Nat} {w W:World} {gu cu gv cv gq cq:Nat} {u v q:List Int} (h:DW base w W gu cu gv cv gq cq u v q) (i:Nat) (x:Int):DW base w (W.setCell ⟨gu,i,none⟩ (.int .u32 x)) gu cu gv cv gq cq (u.set i x) v q :=
 ⟨h.ru.put i x,h.rv.far h.uv.symm i _,h.rq.far h.uq.symm i _,h.uv,h.uq,h.vq,h.below.setCell (p:=⟨gu,i,none⟩) h.ru.base _,fun k h1 h2 h3=>(Below.heap_setCell _ _ _ k h1).trans (h.rest k h1 h2 h3)⟩
theorem DW.setQ {base:Nat} {w W:World} {gu cu gv cv gq cq:Nat} {u v q:List Int} (h:DW base w W gu cu gv cv gq cq u v q) (i:Nat) (x:Int):DW base w (W.setCell ⟨gq,i,none⟩ (.int .u32 x)) gu cu gv cv gq cq u v (q.set i x) :=
 ⟨h.ru.far h.uq i _,h.rv.far h.vq i _,h.rq.put i x,h.uv,h.uq,h.vq,h.below.setCell (p:=⟨gq,i,none⟩) h.rq.base _,fun k h1 h2 h3=>(Below.heap_setCell _ _ _ k h2).trans (h.rest k h1 h2 h3)⟩
structure SN (g x c y b p c' d0 e:Int):Prop where
 wg:wrap64 g = g
 wx:wrap64 x = x
 wgx:wrap64 (g * x) = g * x
 hp:g * x + c = p
 wp:wrap64 p = p
 qp:Int.tdiv p 1000000000 = c'
 rp:Int.tmod p 1000000000 = d0
 qp':p / 1000000000 = c'
 rp':p % 1000000000 = d0
 wc:wrap64 c' = c'
 wy:wrap64 y = y
 wd:wrap64 (y - d0) = y - d0
 he:y - d0 - b = e
 we:wrap64 e = e
 wB:wrap64 (e + 1000000000) = e + 1000000000
 c0:0≤c'
 c1:c'≤1000000000
 e0:-1000000000≤e
 e1:e < 1000000000
 eq:e + 1000000000 * (-c') = y - c - b - g * x
theorem sn (g x c y b:Int) (hg:0≤g) (hg2:g≤1000000000) (hx:0≤x) (hx2:x < 1000000000) (hc:0≤c) (hc2:c≤1000000000) (hy:0≤y) (hy2:y < 1000000000) (hb:b = 0 ∨ b = 1):∃ p c' d0 e,SN g x c y b p c' d0 e:=by
 have h1:=Int.mul_nonneg hg hx
 have h2:g * x≤1000000000 * 999999999:=Int.mul_le_mul hg2 (by omega) hx (by decide)
 refine ⟨g * x + c,(g * x + c) / 1000000000,(g * x + c) % 1000000000,y - (g * x + c) % 1000000000 - b,?_⟩
 exact ⟨w64 (by omega) (by omega),w64 (by omega) (by omega),w64 (by omega) (by omega),rfl,w64 (by omega) (by omega),Int.tdiv_eq_ediv_of_nonneg (by omega),Int.tmod_eq_emod_of_nonneg (by omega),rfl,rfl,w64 (by omega) (by omega),w64 (by omega) (by omega),w64 (by omega) (by omega),rfl,w64 (by omega) (by omega),w64 (by omega) (by omega),by omega,by omega,by omega,by omega,by omega⟩
structure SubI (u v u':List Int) (j i:Nat) (g c b:Int):Prop where
 run:Run u u' (j + i) (-(g * val (v.take i) * B ^ j)) (-(c + b))
 c0:0≤c
 c1:c≤1000000000
 bb:b = 0 ∨ b = 1
theorem SubI.start {u v:List Int} (hu:Wd u) (j:Nat) (g:Int):SubI u v u j 0 g 0 0:=by
 refine ⟨?_,by omega,by omega,.inl rfl⟩
 rw [List.take_zero,Nat.add_zero]
 have:=Run.start hu j
 simpa [val] using this
theorem sub_ring (g x a P Q:Int):-(g * a * P) + Q * P * -(g * x) = -(g * (a + Q * x) * P):=by grind
theorem SubI.step {u v u':List Int} {j i:Nat} {g c b p c' d0 e:Int} (h:SubI u v u' j i g c b) (hi:j + i < u.length) (hv:Wd v) (N:SN g (v.getD i 0) c (u'.getD (j + i) 0) b p c' d0 e) (d b':Int) (hd:(e < 0→d = e + 1000000000∧b' = 1)∧(0≤e→d = e∧b' = 0)) :
  SubI u v (u'.set (j + i) d) j (i + 1) g c' b':=by
 have heq:=N.eq
 have Aa:=h.run.get
 have e0:=N.e0
 have e1:=N.e1
 have hdb:0≤d∧d < B∧(b' = 0 ∨ b' = 1)∧d + B * (-(c' + b')) = u.getD (j + i) 0 + -(c + b) + -(g * v.getD i 0):=by
  rw [BB,← Aa]
  by_cases hn:e < 0
  ·obtain ⟨rfl,rfl⟩:=hd.1 hn
   exact ⟨by omega,by omega,.inr rfl,by omega⟩
  ·obtain ⟨rfl,rfl⟩:=hd.2 (by omega)
   exact ⟨by omega,by omega,.inl rfl,by omega⟩
 have hs:=h.run.step hi ⟨hdb.1,hdb.2.1⟩ hdb.2.2.2
 refine ⟨?_,N.c0,N.c1,hdb.2.2.1⟩
 have hr:-(g * val (v.take i) * B ^ j) + B ^ (j + i) * -(g * v.getD i 0) = -(g * val (v.take (i + 1)) * B ^ j):=by
  rw [val_take_more,Nat.add_comm j i,Bpow_add]
  exact sub_ring _ _ _ _ _
 rw [hr] at hs
 exact hs
theorem sub_open {u v u':List Int} {j i n:Nat} {g c b x y:Int} (hv:Wd v) (h:SubI u v u' j i g c b) (hg:0≤g) (hg2:g≤1000000000) (hx:v.getD i 0 = x) (hy:u'.getD n 0 = y):∃ p c' d0 e,SN g x c y b p c' d0 e:=by
 have h1:=hv.getD i
 have h2:=h.run.wd.getD n
 rw [BB,hx] at h1
 rw [BB,hy] at h2
 exact sn g x c y b hg hg2 h1.1 h1.2 h.c0 h.c1 h2.1 h2.2 h.bb
theorem sub_idx {i j n l:Nat} (hn:n = j + i) (h:n < l) (hl:l < 1099511627776):wrap64 ((i:Int) + (j:Int)) = (n:Int):=w64n (by omega) (by omega)
theorem sub_next {i j k l:Nat} (h:i < k) (hj:j + k < l) (hl:l < 1099511627776):wrap64 ((i:Int) + 1) = ((i + 1:Nat):Int):=w64n (by omega) (by omega)
theorem sub_m1 {g x c y b p c' d0 e:Int} (N:SN g x c y b p c' d0 e) (he:e < 0):(e + 1000000000) % 4294967296 = e + 1000000000:=by
 have:=N.e0
 exact Int.emod_eq_of_lt (by omega) (by omega)
theorem sub_m2 {g x c y b p c' d0 e:Int} (N:SN g x c y b p c' d0 e) (he:¬ e < 0):e % 4294967296 = e:=by
 have:=N.e1
 exact Int.emod_eq_of_lt (by omega) (by omega)
theorem sub_meas {i k:Nat} (h:i < k):k - (intOf (.int .i64 ((i + 1:Nat):Int))).toNat < k - (intOf (.int .i64 (i:Int))).toNat:=by
 simp [intOf]
 omega
structure AN (up y x s up' d:Int):Prop where
 wy:IntKind.u64.wrap y = y
 wx:IntKind.u64.wrap x = x
 wyx:IntKind.u64.wrap (y + x) = y + x
 hs:up + (y + x) = s
 ws:IntKind.u64.wrap s = s
 qs:Int.tdiv s 1000000000 = up'
 rs:Int.tmod s 1000000000 = d
 qs':s / 1000000000 = up'
 rs':s % 1000000000 = d
 wq:IntKind.u64.wrap up' = up'
 wr:IntKind.u64.wrap d = d
 wd:d % 4294967296 = d
 u0:0≤up'
 u1:up'≤2
 d0:0≤d
 d1:d < 1000000000
 eq:d + 1000000000 * up' = y + up + x
theorem an (up y x:Int) (hu:0≤up) (hu2:up≤2) (hy:0≤y) (hy2:y < 1000000000) (hx:0≤x) (hx2:x < 1000000000):∃ s up' d,AN up y x s up' d:=by
 refine ⟨up + (y + x),(up + (y + x)) / 1000000000,(up + (y + x)) % 1000000000,?_⟩
 exact ⟨u64w (by omega) (by omega),u64w (by omega) (by omega),u64w (by omega) (by omega),rfl,u64w (by omega) (by omega),Int.tdiv_eq_ediv_of_nonneg (by omega),Int.tmod_eq_emod_of_nonneg (by omega),rfl,rfl,u64w (by omega) (by omega),u64w (by omega) (by omega),Int.emod_eq_of_lt (by omega) (by omega),by omega,by omega,by omega,by omega,by omega⟩
structure AddI (u v u':List Int) (j i:Nat) (up:Int):Prop where
 run:Run u u' (j + i) (val (v.take i) * B ^ j) up
 c0:0≤up
 c1:up≤2
theorem add_open {u v u':List Int} {j i n:Nat} {up x y:Int} (hv:Wd v) (h:AddI u v u' j i up) (hx:v.getD i 0 = x) (hy:u'.getD n 0 = y):∃ s up' d,AN up y x s up' d:=by
 have h1:=hv.getD i
 have h2:=h.run.wd.getD n
 rw [BB,hx] at h1
 rw [BB,hy] at h2
 exact an up y x h.c0 h.c1 h2.1 h2.2 h1.1 h1.2
theorem AddI.start {u v:List Int} (hu:Wd u) (j:Nat):AddI u v u j 0 0:=by
 refine ⟨?_,by omega,by omega⟩
 rw [List.take_zero,Nat.add_zero]
 have:=Run.start hu j
 simpa [val] using this
theorem add_ring (x a P Q:Int):a * P + Q * P * x = (a + Q * x) * P:=by grind
theorem AddI.step {u v u':List Int} {j i:Nat} {up s up' d:Int} (h:AddI u v u' j i up) (hi:j + i < u.length) (N:AN up (u'.getD (j + i) 0) (v.getD i 0) s up' d):AddI u v (u'.set (j + i) d) j (i + 1) up':=by
 have Aa:=h.run.get
 have heq:=N.eq
 have hs:=h.run.step hi ⟨N.d0,by rw [BB];exact N.d1⟩ (show d + B * up' = u.getD (j + i) 0 + up + v.getD i 0 by rw [BB,← Aa];omega)
 refine ⟨?_,N.u0,N.u1⟩
 have hr:val (v.take i) * B ^ j + B ^ (j + i) * v.getD i 0 = val (v.take (i + 1)) * B ^ j:=by
  rw [val_take_more,Nat.add_comm j i,Bpow_add]
  exact add_ring _ _ _ _
 rw [hr] at hs
 exact hs
set_option maxRecDepth 1000000 in
set_option maxHeartbeats 4000000 in
theorem sub_loop (K:Act→World→Prop) (Q0:Exit→Act→World→Prop) (base:Nat) (w0 w:World) (gu cu gv cv gq cq j:Nat) (u v q:List Int) (g:Int) (u0 u1 u2 u3 u4 u5 u6 u7 u8 u9 u10 u14 u16 u18 u21 u22 u23 u24 u25 u26 u27 u28 u29 u30 u31 u32 u33 u34 u35 u36 u37 u38 u39 u40 u41 u42 u43 u44 u45 u46 u47 u48 u49 u50 u51 u52 u53 u54 u55 u56 u57 u58 u59 u60 u61 u62 u63 u64 u65 u66 u67 u68 u69 u70 u71 u72 u73 u74 u75 u76 u77 u78 u79 u80 u81 u82 u83 u84 u85 u86 u87 u88 u89 u90 u91 u92 u93 u94 u95 u96 u97 u98 u99 u100 u101 u102 u103 u104 u105 u106 u107 u108 u109 u110 u111 u112 u113 u114 u115 u116 u117 u118 u119 u120 u121 u122 u123 u124 u125 u126 u127 u128 u129 u130 u131 u132 u133 u134 u135 u136 u137 u138 u139 u140 u141 u142 u143 u144 u145 u146 u147 u148 u149 u150 u151 u152 u153 u154 u155 u156 u157 u158 u159 u160 u161 u162 u163 u164 u165 u166 u167 u168 u169 u170 u171 u172 u173 u174 u175 u176 u177 u178 u179 u182 u183 u184 u185 u186 u187 u188 u189 u190 u191 u192 u193 u194 u195 u196 u197 u198 u199 u200 u201 u202 u203 u204 u205 u206 u207 u208 u209 u210 u211 u212 u213 u214 u215 u216 u217 u218 u219 u220 u221 u222 u223 u224 u225 u226 u227 u228 u229 u230 u231 u232 u233 u234 u235 u236 u237 u238 u239 u240 u241 u242 u243 u244 u245 u246 u247 u248 u249 u250 u251 u252 u253 u254 u255 u256 u257 u258 u259 u260 u261 u262 u263 u264 u265 u266 u267 u268 u269 u270 u271 u272 u273 u274 u275 u276 u277 u278 u279 u280 u281 u282 u283 u284 u285 u286 u287 u288 u289 u290 u291 u292 u293 u294 u295 u296 u297 u298:Value)
  (hu:Wd u) (hv:Wd v) (hj:j + v.length < u.length) (hs:u.length < 1099511627776) (hg:0≤g) (hg2:g≤1000000000)
  (hD:DW base w0 w gu cu gv cv gq cq u v q)
  (hK:∀ (W:World) (u':List Int) (c b:Int) (y21 y22 y23 y181 y182 y183 y184 y185 y186 y187 y188 y189 y190 y191 y192 y193 y194 y195 y196 y197 y198 y199 y200 y201 y202 y203 y204 y205 y206 y207 y208 y209 y210 y211 y212 y213 y214 y215 y216 y217 y218 y219:Value),DW base w0 W gu cu gv cv gq cq u' v q→SubI u v u' j v.length g c b→K ⟨#[u0,u1,u2,u3,u4,u5,u6,u7,u8,u9,u10,.slice (some ⟨gu,0,none⟩) u.length cu,.slice (some ⟨gv,0,none⟩) v.length cv,.int .i64 v.length,u14,.int .i64 j,u16,.int .u64 g,u18,.int .i64 c,.int .i64 b,y21,y22,y23,u24,u25,u26,u27,u28,u29,u30,u31,u32,u33,u34,u35,u36,u37,u38,u39,u40,u41,u42,u43,u44,u45,u46,u47,u48,u49,u50,u51,u52,u53,u54,u55,u56,u57,u58,u59,u60,u61,u62,u63,u64,u65,u66,u67,u68,u69,u70,u71,u72,u73,u74,u75,u76,u77,u78,u79,u80,u81,u82,u83,u84,u85,u86,u87,u88,u89,u90,u91,u92,u93,u94,u95,u96,u97,u98,u99,u100,u101,u102,u103,u104,u105,u106,u107,u108,u109,u110,u111,u112,u113,u114,u115,u116,u117,u118,u119,u120,u121,u122,u123,u124,u125,u126,u127,u128,u129,u130,u131,u132,u133,u134,u135,u136,u137,u138,u139,u140,u141,u142,u143,u144,u145,u146,u147,u148,u149,u150,u151,u152,u153,u154,u155,u156,u157,u158,u159,u160,u161,u162,u163,u164,u165,u166,u167,u168,u169,u170,u171,u172,u173,u174,u175,u176,u177,u178,u179,.int .i64 v.length,y181,y182,y183,y184,y185,y186,y187,y188,y189,y190,y191,y192,y193,y194,y195,y196,y197,y198,y199,y200,y201,y202,y203,y204,y205,y206,y207,y208,y209,y210,y211,y212,y213,y214,y215,y216,y217,y218,y219,u220,u221,u222,u223,u224,u225,u226,u227,u228,u229,u230,u231,u232,u233,u234,u235,u236,u237,u238,u239,u240,u241,u242,u243,u244,u245,u246,u247,u248,u249,u250,u251,u252,u253,u254,u255,u256,u257,u258,u259,u260,u261,u262,u263,u264,u265,u266,u267,u268,u269,u270,u271,u272,u273,u274,u275,u276,u277,u278,u279,u280,u281,u282,u283,u284,u285,u286,u287,u288,u289,u290,u291,u292,u293,u294,u295,u296,u297,u298],[]⟩ W) :
  Code.wp Tryz.prog (blkIn 5) (Exit.inBlock 5 (Exit.then K Q0)) ⟨#[u0,u1,u2,u3,u4,u5,u6,u7,u8,u9,u10,.slice (some ⟨gu,0,none⟩) u.length cu,.slice (some ⟨gv,0,none⟩) v.length cv,.int .i64 v.length,u14,.int .i64 j,u16,.int .u64 g,u18,.int .i64 0,.int .i64 0,u21,u22,u23,u24,u25,u26,u27,u28,u29,u30,u31,u32,u33,u34,u35,u36,u37,u38,u39,u40,u41,u42,u43,u44,u45,u46,u47,u48,u49,u50,u51,u52,u53,u54,u55,u56,u57,u58,u59,u60,u61,u62,u63,u64,u65,u66,u67,u68,u69,u70,u71,u72,u73,u74,u75,u76,u77,u78,u79,u80,u81,u82,u83,u84,u85,u86,u87,u88,u89,u90,u91,u92,u93,u94,u95,u96,u97,u98,u99,u100,u101,u102,u103,u104,u105,u106,u107,u108,u109,u110,u111,u112,u113,u114,u115,u116,u117,u118,u119,u120,u121,u122,u123,u124,u125,u126,u127,u128,u129,u130,u131,u132,u133,u134,u135,u136,u137,u138,u139,u140,u141,u142,u143,u144,u145,u146,u147,u148,u149,u150,u151,u152,u153,u154,u155,u156,u157,u158,u159,u160,u161,u162,u163,u164,u165,u166,u167,u168,u169,u170,u171,u172,u173,u174,u175,u176,u177,u178,u179,.int .i64 v.length,.int .i64 0,u182,u183,u184,u185,u186,u187,u188,u189,u190,u191,u192,u193,u194,u195,u196,u197,u198,u199,u200,u201,u202,u203,u204,u205,u206,u207,u208,u209,u210,u211,u212,u213,u214,u215,u216,u217,u218,u219,u220,u221,u222,u223,u224,u225,u226,u227,u228,u229,u230,u231,u232,u233,u234,u235,u236,u237,u238,u239,u240,u241,u242,u243,u244,u245,u246,u247,u248,u249,u250,u251,u252,u253,u254,u255,u256,u257,u258,u259,u260,u261,u262,u263,u264,u265,u266,u267,u268,u269,u270,u271,u272,u273,u274,u275,u276,u277,u278,u279,u280,u281,u282,u283,u284,u285,u286,u287,u288,u289,u290,u291,u292,u293,u294,u295,u296,u297,u298],[]⟩ w:=by
 conv=>arg 2;whnf
 have HU:=Aside0.mk hu
 have HV:=Aside0.mk hv
 have HKK:=Aside0.mk hK
 have HD:=Aside0.mk hD
 have HJ:=Aside0.mk hj
 have HS:=Aside0.mk hs
 have Ad:=Aside0.mk hg
 have Ac:=Aside0.mk hg2
 clear hu hv hK hD hj hs hg hg2
 go_wp2
 go_loopw [19,20,181] (fun a0 a1 a2 wr=>∃ (i:Nat) (c b:Int) (u':List Int),a0 = .int .i64 c∧a1 = .int .i64 b∧a2 = .int .i64 i∧Aside0 (i≤v.length)∧Aside0 (SubI u v u' j i g c b)∧Aside0 (DW base w0 wr gu cu gv cv gq cq u' v q)) (fun _ _ a2 _=>v.length - (intOf a2).toNat)
 case atStart=>exact ⟨0,0,0,u,rfl,rfl,rfl,⟨Nat.zero_le _⟩,⟨SubI.start HU.out j g⟩,HD⟩
 case round =>
  clear HD
  obtain ⟨i,c,b,u',rfl,rfl,rfl,HI,HR,HD⟩:=hrel
  obtain ⟨n,hn⟩:∃ n:Nat,n = j + i:=⟨_,rfl⟩
  have Aa:u'.length = u.length:=HR.out.run.len
  by_cases hlt:i < v.length
  ·obtain ⟨x,hx⟩:∃ x,v.getD i 0 = x:=⟨_,rfl⟩
   obtain ⟨y,hy⟩:∃ y,u'.getD n 0 = y:=⟨_,rfl⟩
   obtain ⟨p,c',d0,e,N⟩:∃ p c' d0 e,SN g x c y b p c' d0 e:=sub_open HV.out HR.out Ad.out Ac.out hx hy
   have hnl:n < u.length:=by rw [hn];exact Nat.lt_of_lt_of_le (Nat.add_lt_add_left hlt j) (Nat.le_of_lt HJ.out)
   have Ab:n < u'.length:=by rw [Aa];exact hnl
   have cx:wr.cell? ⟨gv,i,none⟩ = some (.int .u32 x):=by rw [← hx];exact (HD.out.rv.cell i hlt).1
   have cy:wr.cell? ⟨gu,n,none⟩ = some (.int .u32 y):=by rw [← hy];exact (HD.out.ru.cell n Ab).1
   have fy:wr.frozen? ⟨gu,n,none⟩ = false:=(HD.out.ru.cell n Ab).2
   have hst:∀ d b',((e < 0→d = e + 1000000000∧b' = 1)∧(0≤e→d = e∧b' = 0))→SubI u v (u'.set n d) j (i + 1) g c' b':=by
    rw [← hx,← hy,hn] at N
    rw [hn]
    exact fun d b'=>HR.out.step (by rw [← hn];exact hnl) HV.out N d b'
   have HST:=Aside0.mk hst
   have e1:=N.wg
   have e2:=N.wx
   have e3:=N.wgx
   have e4:=N.hp
   have e5:=N.wp
   have e6:=N.qp
   have e7:=N.rp
   have e8:=N.qp'
   have e9:=N.rp'
   have f1:=N.wc
   have f2:=N.wy
   have f3:=N.wd
   have f4:=N.he
   have f5:=N.we
   have f6:=N.wB
   have f7:wrap64 ((i:Int) + (j:Int)) = (n:Int):=sub_idx hn hnl HS.out
   have f8:wrap64 ((i:Int) + 1) = ((i + 1:Nat):Int):=sub_next hlt HJ.out HS.out
   have HN:=Aside0.mk N
   have HX:=Aside0.mk hx
   have HY:=Aside0.mk hy
   have HNN:=Aside0.mk hn
   have HL:=Aside0.mk Aa
   clear hst N hx hy hn Aa Ab
   by_cases he:e < 0
   ·have hd:decide (e < 0) = true:=decide_eq_true he
    have hm:(e + 1000000000) % 4294967296 = e + 1000000000:=sub_m1 HN.out he
    go_wp2
    go_roundw
    case rel=>exact ⟨i + 1,c',1,u'.set n (e + 1000000000),(by first|rfl|exact congrArg _ f1),rfl,(by first|rfl|exact congrArg _ f8),⟨hlt⟩,⟨HST.out _ _ ⟨fun _=>⟨rfl,rfl⟩,fun h=>absurd he (Int.not_lt.2 h)⟩⟩,⟨HD.out.setU n _⟩⟩
    case measure=>first|exact sub_meas hlt|(rw [f8];exact sub_meas hlt)
   ·have hd:decide (e < 0) = false:=decide_eq_false he
    have hm:e % 4294967296 = e:=sub_m2 HN.out he
    go_wp2
    go_roundw
    case rel=>exact ⟨i + 1,c',0,u'.set n e,(by first|rfl|exact congrArg _ f1),rfl,(by first|rfl|exact congrArg _ f8),⟨hlt⟩,⟨HST.out _ _ ⟨fun h=>absurd h he,fun _=>⟨rfl,rfl⟩⟩⟩,⟨HD.out.setU n _⟩⟩
    case measure=>first|exact sub_meas hlt|(rw [f8];exact sub_meas hlt)
  ·have hie:i = v.length:=Nat.le_antisymm HI.out (Nat.not_lt.1 hlt)
   subst hie
   clear Aa hn
   go_wp2
   exact HKK.out _ u' c b _ _ _ _ _ _ _ _ _ _ _ _ _ _ _ _ _ _ _ _ _ _ _ _ _ _ _ _ _ _ _ _ _ _ _ _ _ _ _ _ _ _ HD.out HR.out
set_option maxRecDepth 1000000 in
set_option maxHeartbeats 4000000 in
theorem add_loop (K:Act→World→Prop) (Q0:Exit→Act→World→Prop) (base:Nat) (w0 w:World) (gu cu gv cv gq cq j lu:Nat) (u v q:List Int) (u0 u1 u2 u3 u4 u5 u6 u7 u8 u9 u10 u14 u16 u17 u18 u19 u20 u21 u22 u23 u24 u26 u27 u28 u29 u30 u31 u32 u33 u34 u35 u36 u37 u38 u39 u40 u41 u42 u43 u44 u45 u46 u47 u48 u49 u50 u51 u52 u53 u54 u55 u56 u57 u58 u59 u60 u61 u62 u63 u64 u65 u66 u67 u68 u69 u70 u71 u72 u73 u74 u75 u76 u77 u78 u79 u80 u81 u82 u83 u84 u85 u86 u87 u88 u89 u90 u91 u92 u93 u94 u95 u96 u97 u98 u99 u100 u101 u102 u103 u104 u105 u106 u107 u108 u109 u110 u111 u112 u113 u114 u115 u116 u117 u118 u119 u120 u121 u122 u123 u124 u125 u126 u127 u128 u129 u130 u131 u132 u133 u134 u135 u136 u137 u138 u139 u140 u141 u142 u143 u144 u145 u146 u147 u148 u149 u150 u151 u152 u153 u154 u155 u156 u157 u158 u159 u160 u161 u162 u163 u164 u165 u166 u167 u168 u169 u170 u171 u172 u173 u174 u175 u176 u177 u178 u179 u180 u181 u182 u183 u184 u185 u186 u187 u188 u189 u190 u191 u192 u193 u194 u195 u196 u197 u198 u199 u200 u201 u202 u203 u204 u205 u206 u207 u208 u209 u210 u211 u212 u213 u214 u215 u216 u217 u218 u219 u220 u221 u222 u223 u224 u225 u226 u227 u228 u229 u230 u231 u232 u233 u234 u237 u238 u239 u240 u241 u242 u243 u244 u245 u246 u247 u248 u249 u250 u251 u252 u253 u254 u255 u256 u257 u258 u259 u260 u261 u262 u263 u264 u265 u266 u267 u268 u269 u270 u271 u272 u273 u274 u275 u276 u277 u278 u279 u280 u281 u282 u283 u284 u285 u286 u287 u288 u289 u290 u291 u292 u293 u294 u295 u296 u297 u298:Value) (hlu:u.length = lu)
  (hu:Wd u) (hv:Wd v) (hj:j + v.length < u.length) (hs:u.length < 1099511627776)
  (hD:DW base w0 w gu cu gv cv gq cq u v q)
  (hK:∀ (W:World) (u':List Int) (up:Int) (y26 y236 y237 y238 y239 y240 y241 y242 y243 y244 y245 y246 y247 y248 y249 y250 y251 y252 y253 y254 y255 y256 y257 y258 y259 y260 y261 y262 y263 y264:Value),DW base w0 W gu cu gv cv gq cq u' v q→AddI u v u' j v.length up→K ⟨#[u0,u1,u2,u3,u4,u5,u6,u7,u8,u9,u10,.slice (some ⟨gu,0,none⟩) lu cu,.slice (some ⟨gv,0,none⟩) v.length cv,.int .i64 v.length,u14,.int .i64 j,u16,u17,u18,u19,u20,u21,u22,u23,u24,.int .u64 up,y26,u27,u28,u29,u30,u31,u32,u33,u34,u35,u36,u37,u38,u39,u40,u41,u42,u43,u44,u45,u46,u47,u48,u49,u50,u51,u52,u53,u54,u55,u56,u57,u58,u59,u60,u61,u62,u63,u64,u65,u66,u67,u68,u69,u70,u71,u72,u73,u74,u75,u76,u77,u78,u79,u80,u81,u82,u83,u84,u85,u86,u87,u88,u89,u90,u91,u92,u93,u94,u95,u96,u97,u98,u99,u100,u101,u102,u103,u104,u105,u106,u107,u108,u109,u110,u111,u112,u113,u114,u115,u116,u117,u118,u119,u120,u121,u122,u123,u124,u125,u126,u127,u128,u129,u130,u131,u132,u133,u134,u135,u136,u137,u138,u139,u140,u141,u142,u143,u144,u145,u146,u147,u148,u149,u150,u151,u152,u153,u154,u155,u156,u157,u158,u159,u160,u161,u162,u163,u164,u165,u166,u167,u168,u169,u170,u171,u172,u173,u174,u175,u176,u177,u178,u179,u180,u181,u182,u183,u184,u185,u186,u187,u188,u189,u190,u191,u192,u193,u194,u195,u196,u197,u198,u199,u200,u201,u202,u203,u204,u205,u206,u207,u208,u209,u210,u211,u212,u213,u214,u215,u216,u217,u218,u219,u220,u221,u222,u223,u224,u225,u226,u227,u228,u229,u230,u231,u232,u233,u234,.int .i64 v.length,y236,y237,y238,y239,y240,y241,y242,y243,y244,y245,y246,y247,y248,y249,y250,y251,y252,y253,y254,y255,y256,y257,y258,y259,y260,y261,y262,y263,y264,u265,u266,u267,u268,u269,u270,u271,u272,u273,u274,u275,u276,u277,u278,u279,u280,u281,u282,u283,u284,u285,u286,u287,u288,u289,u290,u291,u292,u293,u294,u295,u296,u297,u298],[]⟩ W) :
  Code.wp Tryz.prog (blkIn 7) (Exit.inBlock 7 (Exit.then K Q0)) ⟨#[u0,u1,u2,u3,u4,u5,u6,u7,u8,u9,u10,.slice (some ⟨gu,0,none⟩) lu cu,.slice (some ⟨gv,0,none⟩) v.length cv,.int .i64 v.length,u14,.int .i64 j,u16,u17,u18,u19,u20,u21,u22,u23,u24,.int .u64 0,u26,u27,u28,u29,u30,u31,u32,u33,u34,u35,u36,u37,u38,u39,u40,u41,u42,u43,u44,u45,u46,u47,u48,u49,u50,u51,u52,u53,u54,u55,u56,u57,u58,u59,u60,u61,u62,u63,u64,u65,u66,u67,u68,u69,u70,u71,u72,u73,u74,u75,u76,u77,u78,u79,u80,u81,u82,u83,u84,u85,u86,u87,u88,u89,u90,u91,u92,u93,u94,u95,u96,u97,u98,u99,u100,u101,u102,u103,u104,u105,u106,u107,u108,u109,u110,u111,u112,u113,u114,u115,u116,u117,u118,u119,u120,u121,u122,u123,u124,u125,u126,u127,u128,u129,u130,u131,u132,u133,u134,u135,u136,u137,u138,u139,u140,u141,u142,u143,u144,u145,u146,u147,u148,u149,u150,u151,u152,u153,u154,u155,u156,u157,u158,u159,u160,u161,u162,u163,u164,u165,u166,u167,u168,u169,u170,u171,u172,u173,u174,u175,u176,u177,u178,u179,u180,u181,u182,u183,u184,u185,u186,u187,u188,u189,u190,u191,u192,u193,u194,u195,u196,u197,u198,u199,u200,u201,u202,u203,u204,u205,u206,u207,u208,u209,u210,u211,u212,u213,u214,u215,u216,u217,u218,u219,u220,u221,u222,u223,u224,u225,u226,u227,u228,u229,u230,u231,u232,u233,u234,.int .i64 v.length,.int .i64 0,u237,u238,u239,u240,u241,u242,u243,u244,u245,u246,u247,u248,u249,u250,u251,u252,u253,u254,u255,u256,u257,u258,u259,u260,u261,u262,u263,u264,u265,u266,u267,u268,u269,u270,u271,u272,u273,u274,u275,u276,u277,u278,u279,u280,u281,u282,u283,u284,u285,u286,u287,u288,u289,u290,u291,u292,u293,u294,u295,u296,u297,u298],[]⟩ w:=by
 subst hlu
 conv=>arg 2;whnf
 have HU:=Aside0.mk hu
 have HV:=Aside0.mk hv
 have HKK:=Aside0.mk hK
 have HD:=Aside0.mk hD
 have HJ:=Aside0.mk hj
 have HS:=Aside0.mk hs
 clear hu hv hK hD hj hs
 go_wp2
 go_loopw [25,236] (fun a0 a2 wr=>∃ (i:Nat) (up:Int) (u':List Int),a0 = .int .u64 up∧a2 = .int .i64 i∧Aside0 (i≤v.length)∧Aside0 (AddI u v u' j i up)∧Aside0 (DW base w0 wr gu cu gv cv gq cq u' v q)) (fun _ a2 _=>v.length - (intOf a2).toNat)
 case atStart=>exact ⟨0,0,u,rfl,rfl,⟨Nat.zero_le _⟩,⟨AddI.start HU.out j⟩,HD⟩
 case round =>
  clear HD
  obtain ⟨i,up,u',rfl,rfl,HI,HR,HD⟩:=hrel
  obtain ⟨n,hn⟩:∃ n:Nat,n = j + i:=⟨_,rfl⟩
  have Aa:u'.length = u.length:=HR.out.run.len
  by_cases hlt:i < v.length
  ·obtain ⟨x,hx⟩:∃ x,v.getD i 0 = x:=⟨_,rfl⟩
   obtain ⟨y,hy⟩:∃ y,u'.getD n 0 = y:=⟨_,rfl⟩
   obtain ⟨s,up',d,N⟩:∃ s up' d,AN up y x s up' d:=add_open HV.out HR.out hx hy
   have hnl:n < u.length:=by rw [hn];exact Nat.lt_of_lt_of_le (Nat.add_lt_add_left hlt j) (Nat.le_of_lt HJ.out)
   have Ab:n < u'.length:=by rw [Aa];exact hnl
   have cx:wr.cell? ⟨gv,i,none⟩ = some (.int .u32 x):=by rw [← hx];exact (HD.out.rv.cell i hlt).1
   have cy:wr.cell? ⟨gu,n,none⟩ = some (.int .u32 y):=by rw [← hy];exact (HD.out.ru.cell n Ab).1
   have fy:wr.frozen? ⟨gu,n,none⟩ = false:=(HD.out.ru.cell n Ab).2
   have hst:AddI u v (u'.set n d) j (i + 1) up':=by
    rw [← hx,← hy,hn] at N
    rw [hn]
    exact HR.out.step (by rw [← hn];exact hnl) N
   have HST:=Aside0.mk hst
   have e1:=N.wy
   have e2:=N.wx
   have e3:=N.wyx
   have e4:=N.hs
   have e5:=N.ws
   have e6:=N.qs
   have e7:=N.rs
   have e8:=N.qs'
   have e9:=N.rs'
   have f1:=N.wq
   have f2:=N.wr
   have f3:=N.wd
   have f7:wrap64 ((i:Int) + (j:Int)) = (n:Int):=sub_idx hn hnl HS.out
   have f9:IntKind.i64.wrap ((i:Int) + (j:Int)) = (n:Int):=(i64_w _).trans f7
   have f8:wrap64 ((i:Int) + 1) = ((i + 1:Nat):Int):=sub_next hlt HJ.out HS.out
   have HX:=Aside0.mk hx
   have HY:=Aside0.mk hy
   have HNN:=Aside0.mk hn
   have HL:=Aside0.mk Aa
   clear hst N hx hy hn Aa Ab
   go_wp2
   go_quiet (fail)
   go_wp2
   go_roundw
   case rel=>exact ⟨i + 1,up',u'.set n d,(by first|rfl|exact congrArg _ f1),(by first|rfl|exact congrArg _ f8),⟨hlt⟩,HST,⟨(HD.out.drewN nq).setU n _⟩⟩
   case measure=>first|exact sub_meas hlt|(rw [f8];exact sub_meas hlt)
  ·have hie:i = v.length:=Nat.le_antisymm HI.out (Nat.not_lt.1 hlt)
   subst hie
   clear Aa hn
   go_wp2
   exact HKK.out _ u' up _ _ _ _ _ _ _ _ _ _ _ _ _ _ _ _ _ _ _ _ _ _ _ _ _ _ _ _ _ _ HD.out HR.out
end Go.Proofs.YtcmbggahndfnnaaGreatDoor.Pr
namespace Go.Proofs.YtcmbggahndfnnaaGreatDoor.Pr
open Go.RowKit Go.Proofs.YtcmbggahndfnnaaGreatDoor.NatTh Go.Proofs.YtcmbggahndfnnaaGreatDoorW.PrintWords Go.Proofs.YtcmbggahndfnnaaGreatDoorW.PrintLast Go.Proofs.YtcmbggahndfnnaaGreatDoorW.PrintMore
structure OutI (U0:Int) (lu:Nat) (u v q:List Int) (n:Nat):Prop where
 wu:Wd u
 wv:Wd v
 wq:Wd q
 k2:2≤v.length
 top:0 < v.getD (v.length - 1) 0
 llu:u.length = lu
 lq:q.length + v.length = lu
 nq:n≤q.length
 small:lu < 1099511627776
 eq:U0 = val u + val v * B ^ n * val (q.drop n)
 low:val u < val v * B ^ n
namespace OutI
variable {U0 : Int} {lu : Nat} {u v q : List Int} {j : Nat}
theorem place (h:OutI U0 lu u v q (j + 1)):NatTh.Place u v j:=by
 have h1:=h.nq
 have h2:=h.lq
 have h3:=h.llu
 exact ⟨h.wu,h.wv,h.k2,by omega,h.top,h.low⟩
theorem hj (h:OutI U0 lu u v q (j + 1)):j + v.length < u.length:=h.place.fit
theorem hjq (h:OutI U0 lu u v q (j + 1)):j < q.length:=h.nq
theorem hsm (h:OutI U0 lu u v q (j + 1)):u.length < 1099511627776:=by rw [h.llu];exact h.small
theorem g0 (h:OutI U0 lu u v q (j + 1)) {g:Int} (hg:g = qw u v j ∨ g = qw u v j + 1):0≤g:=by
 have:=h.place.qw_nonneg
 omega
theorem g1 (h:OutI U0 lu u v q (j + 1)) {g:Int} (hg:g = qw u v j ∨ g = qw u v j + 1):g≤1000000000:=by
 have:=h.place.qw_lt
 rw [BB] at this
 omega
theorem ring5 (V P Q D u q:Int):u + V * (B * P) * D = u - q * (V * P) + V * P * (q + B * D):=by grind
theorem next (h:OutI U0 lu u v q (j + 1)) {u':List Int} (hw:Wd u') (hl:u'.length = u.length) (hv:val u' = val u - qw u v j * (val v * B ^ j)):OutI U0 lu u' v (q.set j (qw u v j)) j:=by
 have hj:=h.hjq
 have Ac:=h.place.qw_nonneg
 have Ab:=h.place.qw_lt
 have Aa:=h.place.qw_gt
 rw [Int.add_mul,Int.one_mul] at Aa
 refine ⟨hw,h.wv,h.wq.set j ⟨Ac,Ab⟩,h.k2,h.top,by rw [hl,h.llu],by rw [List.length_set,h.lq],by rw [List.length_set];omega,h.small,?_,by omega⟩
 rw [val_drop_succ _ _ (by rw [List.length_set];exact hj),drop_set_succ,h.eq,hv,Bpow_succ,show (q.set j (qw u v j)).getD j 0 = qw u v j by simp [List.getD,hj]]
 exact ring5 _ _ 0 _ _ _
end OutI
theorem last_of {U0:Int} {lu:Nat} {u v q u':List Int} {j:Nat} (h:OutI U0 lu u v q (j + 1)) {g c b:Int} (hg:g = qw u v j ∨ g = qw u v j + 1) (S:SubI u v u' j v.length g c b) :
    ∃ (n:Nat) (y t0 t:Int),wrap64 ((j:Int) + (v.length:Int)) = (n:Int)∧n = j + v.length∧n < u.length∧n < u'.length∧u'.length = u.length∧u'.getD n 0 = y∧wrap64 y = y∧y - c = t0∧wrap64 t0 = t0∧t0 - b = t∧wrap64 t = t ∧
      ((t = 0∧g = qw u v j∧OutI U0 lu (u'.set n 0) v (q.set j g) j∧0≤g∧g < 1000000000) ∨
       (t = -1∧g = qw u v j + 1∧0≤g - 1∧g - 1 < 1000000000∧∀ u'' up,AddI u' v u'' j v.length up→up = 1∧u''.length = u.length∧OutI U0 lu (u''.set n 0) v (q.set j (g - 1)) j)):=by
  have hP:=h.place
  have Ab:=hP.fit
  have hsm:=h.hsm
  have Ad:=hP.qw_nonneg
  have Ac:=hP.qw_lt
  have hc:=S.c0
  have Af:=S.c1
  have hb:=S.bb
  have hR:=S.run
  have Aa:=hR.len
  have hgl:u'.getD (j + v.length) 0 = u.getD (j + v.length) 0:=hR.get
  have hy:=h.wu.getD (j + v.length)
  rw [BB] at hy Ac
  rw [List.take_length,show g * val v * B ^ j = g * (val v * B ^ j) from Int.mul_assoc _ _ _] at hR
  have hd:=sub_done hP hg hR
  have hz:(0:Int)≤0∧(0:Int) < B:=⟨by decide,B_pos⟩
  refine ⟨j + v.length,_,_,_,w64n (by omega) (by omega),rfl,Ab,by omega,Aa,rfl,w64 (by rw [hgl];omega) (by rw [hgl];omega),rfl,w64 (by rw [hgl];omega) (by rw [hgl];omega),rfl,w64 (by rw [hgl];omega) (by rw [hgl];omega),?_⟩
  rcases hd with ⟨h1,h2,h3⟩|⟨h1,h2,h3⟩
  · left
    have ho:=h.next (hR.wd.set (j + v.length) hz) (by rw [List.length_set,Aa]) h3
    rw [← h2] at ho
    exact ⟨by rw [hgl];omega,h2,ho,by omega,by omega⟩
  · right
    refine ⟨by rw [hgl];omega,h2,by omega,by omega,fun u'' up A=>?_⟩
    have hA:=A.run
    rw [List.take_length] at hA
    obtain ⟨h4,h5⟩:=h3 u'' up hA
    have Ae:=hA.len
    have ho:=h.next (hA.wd.set (j + v.length) hz) (by rw [List.length_set];omega) h5
    rw [show qw u v j = g - 1 by omega] at ho
    exact ⟨h4,by omega,ho⟩
theorem out_dec {U0:Int} {lu:Nat} {u v q:List Int} {j:Nat} (h:OutI U0 lu u v q (j + 1)):wrap64 ((j:Int) - 1) = (j:Int) - 1:=by
 have h1:=h.hj
 have h2:=h.hsm
 exact w64 (by omega) (by omega)
theorem out_meas {j:Nat} {z:Int} (hz:z = (j:Int) - 1):(intOf (.int .i64 z) + 1).toNat < (intOf (.int .i64 (j:Int)) + 1).toNat:=by
 subst hz
 show ((j:Int) - 1 + 1).toNat < ((j:Int) + 1).toNat
 omega
theorem u32w {g:Int} (h0:0≤g) (h1:g < 1000000000):IntKind.u32.wrap g = g:=by
 have:g % 4294967296 = g:=Int.emod_eq_of_lt h0 (by omega)
 exact this
theorem u32m {g:Int} (h0:0≤g) (h1:g < 1000000000):g % 4294967296 = g:=Int.emod_eq_of_lt h0 (by omega)
theorem u64w' {g:Int} (h0:0≤g) (h1:g < 1000000000):IntKind.u64.wrap g = g:=u64w (by omega) (by omega)
structure TN (u v:List Int) (j b0 b1 a1:Nat) (y1 y0 x1 p s g r:Int):Prop where
 i1:wrap64 ((j:Int) + (v.length:Int)) = (b0:Int)
 i2:wrap64 ((b0:Int) - 1) = (b1:Int)
 i3:wrap64 ((v.length:Int) - 1) = (a1:Int)
 l1:b0 < u.length
 l2:b1 < u.length
 l3:a1 < v.length
 y1e:u.getD b0 0 = y1
 y0e:u.getD b1 0 = y0
 x1e:v.getD a1 0 = x1
 wy1:IntKind.u64.wrap y1 = y1
 wy0:IntKind.u64.wrap y0 = y0
 wx1:IntKind.u64.wrap x1 = x1
 hp:y1 * 1000000000 = p
 wp:IntKind.u64.wrap p = p
 hs:p + y0 = s
 ws:IntKind.u64.wrap s = s
 xn:x1≠0
 qg:Int.tdiv s x1 = g
 rg:Int.tmod s x1 = r
 qg':s / x1 = g
 rg':s % x1 = r
 wg:IntKind.u64.wrap g = g
 wr:IntKind.u64.wrap r = r
 G:Guess u v j g r
 rB:r < B
theorem tn (u v:List Int) (j:Nat) (hP:NatTh.Place u v j) (hs:u.length < 1099511627776):∃ b0 b1 a1 y1 y0 x1 p s g r,TN u v j b0 b1 a1 y1 y0 x1 p s g r:=by
 have Ab:=hP.k2
 have Aa:=hP.fit
 have v1:=hP.wv.getD (v.length - 1)
 have u1:=hP.wu.getD (j + v.length)
 have u2:=hP.wu.getD (j + v.length - 1)
 have ht:=hP.top
 have G:=Guess.start hP
 have g0:=G.g0
 have g1:=G.hi
 have r0:=G.r0
 have hr:=Int.emod_lt_of_pos (u.getD (j + v.length) 0 * B + u.getD (j + v.length - 1) 0) ht
 rw [BB] at v1 u1 u2 g0 g1 r0 hr
 have hG:=G
 rw [BB] at hG
 refine ⟨j + v.length,j + v.length - 1,v.length - 1,_,_,_,_,_,_,_,w64n (by omega) (by omega),w64n (by omega) (by omega),w64n (by omega) (by omega),Aa,by omega,by omega,rfl,rfl,rfl,u64w (by omega) (by omega),u64w (by omega) (by omega),u64w (by omega) (by omega),rfl,u64w (by omega) (by omega),rfl,u64w (by omega) (by omega),by omega,Int.tdiv_eq_ediv_of_nonneg (by omega),Int.tmod_eq_emod_of_nonneg (by omega),rfl,rfl,u64w (by omega) (by omega),u64w (by omega) (by omega),hG,?_⟩
 rw [BB]
 omega
end Go.Proofs.YtcmbggahndfnnaaGreatDoor.Pr
namespace Go.Proofs.YtcmbggahndfnnaaGreatDoor.Pr
open Go.RowKit Go.Proofs.YtcmbggahndfnnaaGreatDoor.NatTh Go.Proofs.YtcmbggahndfnnaaGreatDoorW.PrintWords Go.Proofs.YtcmbggahndfnnaaGreatDoorW.PrintLast Go.Proofs.YtcmbggahndfnnaaGreatDoorW.PrintMore
set_option maxRecDepth 1000000 in
set_option maxHeartbeats 4000000 in
theorem outer_loop (K:Act→World→Prop) (Q0:Exit→Act→World→Prop) (base:Nat) (w0 w:World) (gu cu gv cv gq cq lu lq:Nat) (u v q:List Int) (U0 z:Int) (u0 u1 u2 u3 u4 u5 u6 u7 u8 u9 u10 u16 u17 u18 u19 u20 u21 u22 u23 u24 u25 u26 u27 u28 u29 u30 u31 u32 u33 u34 u35 u36 u37 u38 u39 u40 u41 u42 u43 u44 u45 u46 u47 u48 u49 u50 u51 u52 u53 u54 u55 u56 u57 u58 u59 u60 u61 u62 u63 u64 u65 u66 u67 u68 u69 u70 u71 u72 u73 u74 u75 u76 u77 u78 u79 u80 u81 u82 u83 u84 u85 u86 u87 u88 u89 u90 u91 u92 u93 u94 u95 u96 u97 u98 u99 u100 u101 u102 u103 u104 u105 u106 u107 u108 u109 u110 u111 u112 u113 u114 u115 u116 u117 u118 u119 u120 u121 u122 u123 u124 u125 u126 u127 u128 u129 u130 u131 u132 u133 u134 u135 u136 u137 u138 u139 u140 u141 u142 u143 u144 u145 u146 u147 u148 u149 u150 u151 u152 u153 u154 u155 u156 u157 u158 u159 u160 u161 u162 u163 u164 u165 u166 u167 u168 u169 u170 u171 u172 u173 u174 u175 u176 u177 u178 u179 u180 u181 u182 u183 u184 u185 u186 u187 u188 u189 u190 u191 u192 u193 u194 u195 u196 u197 u198 u199 u200 u201 u202 u203 u204 u205 u206 u207 u208 u209 u210 u211 u212 u213 u214 u215 u216 u217 u218 u219 u220 u221 u222 u223 u224 u225 u226 u227 u228 u229 u230 u231 u232 u233 u234 u235 u236 u237 u238 u239 u240 u241 u242 u243 u244 u245 u246 u247 u248 u249 u250 u251 u252 u253 u254 u255 u256 u257 u258 u259 u260 u261 u262 u263 u264 u265 u266 u267 u268 u269 u270 u271 u272 u273 u274 u275 u276 u277 u278 u279 u280 u281 u282 u283 u284 u285 u286 u287 u288 u289 u290 u291 u292 u293 u294 u295 u296 u297 u298:Value)
  (hz:z = (q.length:Int) - 1) (hlq:q.length = lq) (hO:OutI U0 lu u v q q.length) (hD:DW base w0 w gu cu gv cv gq cq u v q)
  (hK:∀ (W:World) (u' q':List Int) (y15 y16 y17 y18 y19 y20 y21 y22 y23 y24 y25 y26 y107 y108 y109 y110 y111 y112 y113 y114 y115 y116 y117 y118 y119 y120 y121 y122 y123 y124 y125 y126 y127 y128 y129 y130 y131 y132 y133 y134 y135 y136 y137 y138 y139 y140 y141 y142 y143 y144 y145 y146 y147 y148 y149 y150 y151 y152 y153 y154 y155 y156 y157 y158 y159 y160 y161 y162 y163 y164 y165 y166 y167 y168 y169 y170 y171 y172 y173 y174 y175 y176 y177 y178 y179 y180 y181 y182 y183 y184 y185 y186 y187 y188 y189 y190 y191 y192 y193 y194 y195 y196 y197 y198 y199 y200 y201 y202 y203 y204 y205 y206 y207 y208 y209 y210 y211 y212 y213 y214 y215 y216 y217 y218 y219 y220 y221 y222 y223 y224 y225 y226 y227 y228 y229 y230 y231 y232 y233 y234 y235 y236 y237 y238 y239 y240 y241 y242 y243 y244 y245 y246 y247 y248 y249 y250 y251 y252 y253 y254 y255 y256 y257 y258 y259 y260 y261 y262 y263 y264 y265 y266 y267 y268 y269 y270 y271 y272 y273 y274 y275 y276 y277 y278 y279 y280 y281:Value),DW base w0 W gu cu gv cv gq cq u' v q'→OutI U0 lu u' v q' 0→q'.length = lq→K ⟨#[u0,u1,u2,u3,u4,u5,u6,u7,u8,u9,u10,.slice (some ⟨gu,0,none⟩) lu cu,.slice (some ⟨gv,0,none⟩) v.length cv,.int .i64 v.length,.slice (some ⟨gq,0,none⟩) lq cq,y15,y16,y17,y18,y19,y20,y21,y22,y23,y24,y25,y26,u27,u28,u29,u30,u31,u32,u33,u34,u35,u36,u37,u38,u39,u40,u41,u42,u43,u44,u45,u46,u47,u48,u49,u50,u51,u52,u53,u54,u55,u56,u57,u58,u59,u60,u61,u62,u63,u64,u65,u66,u67,u68,u69,u70,u71,u72,u73,u74,u75,u76,u77,u78,u79,u80,u81,u82,u83,u84,u85,u86,u87,u88,u89,u90,u91,u92,u93,u94,u95,u96,u97,u98,u99,u100,u101,u102,u103,u104,u105,u106,y107,y108,y109,y110,y111,y112,y113,y114,y115,y116,y117,y118,y119,y120,y121,y122,y123,y124,y125,y126,y127,y128,y129,y130,y131,y132,y133,y134,y135,y136,y137,y138,y139,y140,y141,y142,y143,y144,y145,y146,y147,y148,y149,y150,y151,y152,y153,y154,y155,y156,y157,y158,y159,y160,y161,y162,y163,y164,y165,y166,y167,y168,y169,y170,y171,y172,y173,y174,y175,y176,y177,y178,y179,y180,y181,y182,y183,y184,y185,y186,y187,y188,y189,y190,y191,y192,y193,y194,y195,y196,y197,y198,y199,y200,y201,y202,y203,y204,y205,y206,y207,y208,y209,y210,y211,y212,y213,y214,y215,y216,y217,y218,y219,y220,y221,y222,y223,y224,y225,y226,y227,y228,y229,y230,y231,y232,y233,y234,y235,y236,y237,y238,y239,y240,y241,y242,y243,y244,y245,y246,y247,y248,y249,y250,y251,y252,y253,y254,y255,y256,y257,y258,y259,y260,y261,y262,y263,y264,y265,y266,y267,y268,y269,y270,y271,y272,y273,y274,y275,y276,y277,y278,y279,y280,y281,u282,u283,u284,u285,u286,u287,u288,u289,u290,u291,u292,u293,u294,u295,u296,u297,u298],[]⟩ W) :
  Code.wp Tryz.prog (blkIn 1) (Exit.inBlock 1 (Exit.then K Q0)) ⟨#[u0,u1,u2,u3,u4,u5,u6,u7,u8,u9,u10,.slice (some ⟨gu,0,none⟩) lu cu,.slice (some ⟨gv,0,none⟩) v.length cv,.int .i64 v.length,.slice (some ⟨gq,0,none⟩) lq cq,.int .i64 z,u16,u17,u18,u19,u20,u21,u22,u23,u24,u25,u26,u27,u28,u29,u30,u31,u32,u33,u34,u35,u36,u37,u38,u39,u40,u41,u42,u43,u44,u45,u46,u47,u48,u49,u50,u51,u52,u53,u54,u55,u56,u57,u58,u59,u60,u61,u62,u63,u64,u65,u66,u67,u68,u69,u70,u71,u72,u73,u74,u75,u76,u77,u78,u79,u80,u81,u82,u83,u84,u85,u86,u87,u88,u89,u90,u91,u92,u93,u94,u95,u96,u97,u98,u99,u100,u101,u102,u103,u104,u105,u106,u107,u108,u109,u110,u111,u112,u113,u114,u115,u116,u117,u118,u119,u120,u121,u122,u123,u124,u125,u126,u127,u128,u129,u130,u131,u132,u133,u134,u135,u136,u137,u138,u139,u140,u141,u142,u143,u144,u145,u146,u147,u148,u149,u150,u151,u152,u153,u154,u155,u156,u157,u158,u159,u160,u161,u162,u163,u164,u165,u166,u167,u168,u169,u170,u171,u172,u173,u174,u175,u176,u177,u178,u179,u180,u181,u182,u183,u184,u185,u186,u187,u188,u189,u190,u191,u192,u193,u194,u195,u196,u197,u198,u199,u200,u201,u202,u203,u204,u205,u206,u207,u208,u209,u210,u211,u212,u213,u214,u215,u216,u217,u218,u219,u220,u221,u222,u223,u224,u225,u226,u227,u228,u229,u230,u231,u232,u233,u234,u235,u236,u237,u238,u239,u240,u241,u242,u243,u244,u245,u246,u247,u248,u249,u250,u251,u252,u253,u254,u255,u256,u257,u258,u259,u260,u261,u262,u263,u264,u265,u266,u267,u268,u269,u270,u271,u272,u273,u274,u275,u276,u277,u278,u279,u280,u281,u282,u283,u284,u285,u286,u287,u288,u289,u290,u291,u292,u293,u294,u295,u296,u297,u298],[]⟩ w:=by
 conv=>arg 2;whnf
 have HKK:=Aside0.mk hK
 have HD:=Aside0.mk hD
 have HO:=Aside0.mk hO
 have HZ:=Aside0.mk hz
 have HQ:=Aside0.mk hlq
 clear hK hD hO hz hlq
 go_wp2
 go_loopw [15] (fun El wr=>∃ (n:Nat) (u' q':List Int) (z:Int),El = .int .i64 z∧Aside0 (q'.length = lq)∧Aside0 (z = (n:Int) - 1)∧Aside0 (OutI U0 lu u' v q' n)∧Aside0 (DW base w0 wr gu cu gv cv gq cq u' v q')) (fun a _=>(intOf a + 1).toNat)
 case atStart=>exact ⟨q.length,u,q,z,rfl,HQ,HZ,HO,HD⟩
 case round =>
  clear HD HO HZ HQ
  obtain ⟨n,u1,q1,z,rfl,HQ,HZ,HO,HD⟩:=hrel
  rcases n with _|j
  ·have Ad:z = -1:=by rw [HZ.out];rfl
   subst Ad
   go_wp2
   exact HKK.out _ u1 q1 _ _ _ _ _ _ _ _ _ _ _ _ _ _ _ _ _ _ _ _ _ _ _ _ _ _ _ _ _ _ _ _ _ _ _ _ _ _ _ _ _ _ _ _ _ _ _ _ _ _ _ _ _ _ _ _ _ _ _ _ _ _ _ _ _ _ _ _ _ _ _ _ _ _ _ _ _ _ _ _ _ _ _ _ _ _ _ _ _ _ _ _ _ _ _ _ _ _ _ _ _ _ _ _ _ _ _ _ _ _ _ _ _ _ _ _ _ _ _ _ _ _ _ _ _ _ _ _ _ _ _ _ _ _ _ _ _ _ _ _ _ _ _ _ _ _ _ _ _ _ _ _ _ _ _ _ _ _ _ _ _ _ _ _ _ _ _ _ _ _ _ _ _ _ _ _ _ _ _ _ _ _ _ _ _ _ _ HD.out HO.out HQ.out
  ·have Ad:z = (j:Int):=by rw [HZ.out];omega
   subst Ad
   obtain rfl:u1.length = lu:=HO.out.llu
   have hjq:j < lq:=by rw [← HQ.out];exact HO.out.hjq
   obtain ⟨b0,b1,a1,y1,y0,x1,p,s,g,r,N⟩:=tn u1 v j HO.out.place HO.out.hsm
   have Ak:wr.cell? ⟨gu,b0,none⟩ = some (.int .u32 y1):=by rw [← N.y1e];exact (HD.out.ru.cell b0 N.l1).1
   have Al:wr.cell? ⟨gu,b1,none⟩ = some (.int .u32 y0):=by rw [← N.y0e];exact (HD.out.ru.cell b1 N.l2).1
   have Am:wr.cell? ⟨gv,a1,none⟩ = some (.int .u32 x1):=by rw [← N.x1e];exact (HD.out.rv.cell a1 N.l3).1
   have i1:=N.i1
   have i2:=N.i2
   have i3:=N.i3
   have j1:IntKind.i64.wrap ((j:Int) + (v.length:Int)) = (b0:Int):=(i64_w _).trans N.i1
   have j2:IntKind.i64.wrap ((b0:Int) - 1) = (b1:Int):=(i64_w _).trans N.i2
   have j3:IntKind.i64.wrap ((v.length:Int) - 1) = (a1:Int):=(i64_w _).trans N.i3
   have l1:=N.l1
   have l2:=N.l2
   have l3:=N.l3
   have s1:=N.wy1
   have s2:=N.wy0
   have s3:=N.wx1
   have s4:=N.hp
   have s5:=N.wp
   have s6:=N.hs
   have s7:=N.ws
   have s8:=N.xn
   have s9:=N.qg
   have t1:=N.rg
   have t2:=N.qg'
   have t3:=N.rg'
   have t4:=N.wg
   have t5:=N.wr
   have HN:=Aside0.mk N
   clear N
   go_wp2
   go_quiet (fail)
   go_wp2
   go_quiet (fail)
   go_wp2
   refine guess_loop _ _ _ _ _ _ _ j u1 v g r _ _ _ _ _ _ _ _ _ _ _ _ _ _ _ _ _ _ _ _ _ _ _ _ _ _ _ _ _ _ _ _ _ _ _ _ _ _ _ _ _ _ _ _ _ _ _ _ _ _ _ _ _ _ _ _ _ _ _ _ _ _ _ _ _ _ _ _ _ _ _ _ _ _ _ _ _ _ _ _ _ _ _ _ _ _ _ _ _ _ _ _ _ _ _ _ _ _ _ _ _ _ _ _ _ _ _ _ _ _ _ _ _ _ _ _ _ _ _ _ _ _ _ _ _ _ _ _ _ _ _ _ _ _ _ _ _ _ _ _ _ _ _ _ _ _ _ _ _ _ _ _ _ _ _ _ _ _ _ _ _ _ _ _ _ _ _ _ _ _ _ _ _ _ _ _ _ _ _ _ _ _ _ _ _ _ _ _ _ _ _ _ _ _ _ _ _ _ _ _ _ _ _ _ _ _ _ _ _ _ _ _ _ _ _ _ _ _ _ _ _ _ _ _ _ _ _ _ _ _ _ _ _ _ _ _ _ _ _ _ _ _ _ _ _ _ _ _ _ _ _ _ _ _ _ _ _ _ _ _ _ _ _ _ _ _ _ _ _ _ _ _ _ _ _ _ _ _ _ _ _ _ _ _ _ _ _ _ _ _ _ _ _ HO.out.place HO.out.hsm HN.out.G HN.out.rB (fun i hi=>by first|exact (HD.out.ru.cell i hi).1|exact ((HD.out.drewN _).ru.cell i hi).1) (fun i hi=>by first|exact (HD.out.rv.cell i hi).1|exact ((HD.out.drewN _).rv.cell i hi).1) ?_
   intro m1 g2 Fi Et Es Er Ep Eo Em Ek Ej Ei Eh Eg Ef Ee Ed Ec Eb Ea Dz Dy Dx Dw Dv Du Dt Ds Dr Dq Dp Do Dn Dm Dl Dk Dj Di Dh hg
   have HG:=Aside0.mk hg
   clear hg i1 i2 i3 j1 j2 j3 l1 l2 l3 s1 s2 s3 s4 s5 s6 s7 s8 s9 t1 t2 t3 t4 t5 Ak Al Am HN
   have Aj:Aside0 (DW base w0 (wr.drewN m1) gu cu gv cv gq cq u1 v q1):=⟨HD.out.drewN m1⟩
   go_wp2
   refine sub_loop _ _ base w0 _ gu cu gv cv gq cq j u1 v q1 g2 _ _ _ _ _ _ _ _ _ _ _ _ _ _ _ _ _ _ _ _ _ _ _ _ _ _ _ _ _ _ _ _ _ _ _ _ _ _ _ _ _ _ _ _ _ _ _ _ _ _ _ _ _ _ _ _ _ _ _ _ _ _ _ _ _ _ _ _ _ _ _ _ _ _ _ _ _ _ _ _ _ _ _ _ _ _ _ _ _ _ _ _ _ _ _ _ _ _ _ _ _ _ _ _ _ _ _ _ _ _ _ _ _ _ _ _ _ _ _ _ _ _ _ _ _ _ _ _ _ _ _ _ _ _ _ _ _ _ _ _ _ _ _ _ _ _ _ _ _ _ _ _ _ _ _ _ _ _ _ _ _ _ _ _ _ _ _ _ _ _ _ _ _ _ _ _ _ _ _ _ _ _ _ _ _ _ _ _ _ _ _ _ _ _ _ _ _ _ _ _ _ _ _ _ _ _ _ _ _ _ _ _ _ _ _ _ _ _ _ _ _ _ _ _ _ _ _ _ _ _ _ _ _ _ _ _ _ _ _ _ _ _ _ _ _ _ _ _ _ _ _ _ _ _ _ _ _ _ _ _ _ _ _ _ _ _ _ _ _ _ _ _ _ _ _ _ _ _ _ _ _ _ _ _ _ _ _ _ _ _ HO.out.wu HO.out.wv HO.out.hj HO.out.hsm (HO.out.g0 HG.out) (HO.out.g1 HG.out) (by first|exact HD.out.drewN _|exact Aj.out) ?_
   intro w2 u2 c b Fh Fg Ff Dg Df De Dd Dc Db Da Cz Cy Cx Cw Cv Cu Ct Cs Cr Cq Cp Co Cn Cm Cl Ck Cj Ci Ch Cg Cf Ce Cc Cb Ca Bz By Bx Bw Bv Bu Bt Ai hS
   have Ab:=Aside0.mk Ai
   have HS:=Aside0.mk hS
   clear Ai hS Aj HD
   obtain ⟨n,y,t0,t,k1,HNN,k2,k3,hl,hy,k4,k5,k6,k7,k8,Aa⟩:=last_of HO.out HG.out HS.out
   have HC:=Aside0.mk Aa
   have HY:=Aside0.mk hy
   have Ez:IntKind.i64.wrap ((j:Int) + (v.length:Int)) = (n:Int):=(i64_w _).trans k1
   have cy:w2.cell? ⟨gu,n,none⟩ = some (.int .u32 y):=by rw [← hy];exact (Ab.out.ru.cell n k3).1
   have fy:w2.frozen? ⟨gu,n,none⟩ = false:=(Ab.out.ru.cell n k3).2
   have HL:=Aside0.mk hl
   have Ex:=Aside0.mk HNN
   clear Aa hy hl HNN k3
   have fq:w2.frozen? ⟨gq,j,none⟩ = false:=(Ab.out.rq.cell j HO.out.hjq).2
   have cq':w2.cell? ⟨gq,j,none⟩ = some (.int .u32 (q1.getD j 0)):=(Ab.out.rq.cell j HO.out.hjq).1
   have nuq:gu≠gq:=Ab.out.uq
   have nqu:gq≠gu:=Ab.out.uq.symm
   have ez:wrap64 ((j:Int) - 1) = (j:Int) - 1:=out_dec HO.out
   rcases HC.out with ⟨rfl,hg2,hO2,hg0,hg1⟩|⟨rfl,hg2,hg0,hg1,hadd⟩
   ·have Ew:=Aside0.mk hO2
    have Ey:=Aside0.mk hg2
    have m1:IntKind.u32.wrap g2 = g2:=u32w hg0 hg1
    have m2:g2 % 4294967296 = g2:=u32m hg0 hg1
    clear hO2 hg2
    go_wp2
    go_roundw
    case rel=>exact ⟨j,u2.set n 0,q1.set j g2,(j:Int) - 1,(by first|rfl|exact congrArg _ ez),⟨List.length_set.trans HQ.out⟩,⟨rfl⟩,Ew,⟨(Ab.out.setU n 0).setQ j g2⟩⟩
    case measure=>first|exact out_meas rfl|(rw [ez];exact out_meas rfl)
   ·have Ey:=Aside0.mk hg2
    have Af:=Aside0.mk hadd
    have m0:IntKind.u64.wrap (g2 - 1) = g2 - 1:=u64w' hg0 hg1
    have m1:IntKind.u32.wrap (g2 - 1) = g2 - 1:=u32w hg0 hg1
    have m2:(g2 - 1) % 4294967296 = g2 - 1:=u32m hg0 hg1
    clear hadd hg2
    go_wp2
    refine add_loop _ _ base w0 _ gu cu gv cv gq cq j u1.length u2 v q1 _ _ _ _ _ _ _ _ _ _ _ _ _ _ _ _ _ _ _ _ _ _ _ _ _ _ _ _ _ _ _ _ _ _ _ _ _ _ _ _ _ _ _ _ _ _ _ _ _ _ _ _ _ _ _ _ _ _ _ _ _ _ _ _ _ _ _ _ _ _ _ _ _ _ _ _ _ _ _ _ _ _ _ _ _ _ _ _ _ _ _ _ _ _ _ _ _ _ _ _ _ _ _ _ _ _ _ _ _ _ _ _ _ _ _ _ _ _ _ _ _ _ _ _ _ _ _ _ _ _ _ _ _ _ _ _ _ _ _ _ _ _ _ _ _ _ _ _ _ _ _ _ _ _ _ _ _ _ _ _ _ _ _ _ _ _ _ _ _ _ _ _ _ _ _ _ _ _ _ _ _ _ _ _ _ _ _ _ _ _ _ _ _ _ _ _ _ _ _ _ _ _ _ _ _ _ _ _ _ _ _ _ _ _ _ _ _ _ _ _ _ _ _ _ _ _ _ _ _ _ _ _ _ _ _ _ _ _ _ _ _ _ _ _ _ _ _ _ _ _ _ _ _ _ _ _ _ _ _ _ _ _ _ _ _ _ _ _ _ _ _ _ _ _ _ _ _ _ _ _ _ _ _ _ _ _ _ _ _ _ _ _ HL.out HS.out.run.wd HO.out.wv (by rw [HL.out];exact HO.out.hj) (by rw [HL.out];exact HO.out.hsm) Ab.out ?_
    intro w3 u3 up Fe Br Bq Bp Bo Bn Bm Bl Bk Bj Bi Bh Bg Bf Be Bd Bc Bb Ba Ay Ax Aw Av Au At As Aq Ap Ao An Ah hA
    obtain ⟨rfl,Ae,Ag⟩:=Af.out u3 up hA
    have Ac:=Aside0.mk Ah
    have Eu:=Aside0.mk Ag
    have Fj:=Aside0.mk Ae
    have k9:n < u3.length:=by rw [Ae];exact k2
    have Fc:w3.cell? ⟨gu,n,none⟩ = some (.int .u32 (u3.getD n 0)):=(Ac.out.ru.cell n k9).1
    have Fa:w3.frozen? ⟨gu,n,none⟩ = false:=(Ac.out.ru.cell n k9).2
    have Fb:w3.frozen? ⟨gq,j,none⟩ = false:=(Ac.out.rq.cell j HO.out.hjq).2
    have Fd:w3.cell? ⟨gq,j,none⟩ = some (.int .u32 (q1.getD j 0)):=(Ac.out.rq.cell j HO.out.hjq).1
    clear Ah hA Ag Ae k9
    go_wp2
    go_roundw
    case rel=>exact ⟨j,u3.set n 0,q1.set j (g2 - 1),(j:Int) - 1,(by first|rfl|exact congrArg _ ez),⟨List.length_set.trans HQ.out⟩,⟨rfl⟩,Eu,⟨(Ac.out.setU n 0).setQ j (g2 - 1)⟩⟩
    case measure=>first|exact out_meas rfl|(rw [ez];exact out_meas rfl)
attribute [local go_sem] max2_int min2_int max_two min_two max_three min_three max_four min_four
set_option maxHeartbeats 8000000 in
set_option maxRecDepth 100000 in
theorem of_own (k:Nat) (a0:Int) (r:List Int) (w:World) (h:natural_of.f k a0 = some r) :
  Calls Tryz.prog 131 #[.int .u64 a0] w fun e w'=>∃ v0_:Value,e = .returned (v0_)∧Kd.R (Kd.int .u32) 101 w' w.heap.size (fun k_=>(w.heap.size≤k_)) v0_ r∧Below w.heap.size w w':=by
 have HB:=Aside0.mk (Below.refl w.heap.size w)
 have H:((natural_num_trim.f k (([(Int.tmod a0 1000000000) % 4294967296,(IntKind.u64.wrap (Int.tdiv a0 1000000000)) % 4294967296]:List Int))).bind fun Ab=>(some Ab)) = some r:=h
 clear h
 obtain ⟨y182,hy182⟩:∃ y_:List Int,y_ = (([(Int.tmod a0 1000000000) % 4294967296,(IntKind.u64.wrap (Int.tdiv a0 1000000000)) % 4294967296]:List Int)):=⟨_,rfl⟩
 replace H:((natural_num_trim.f k y182).bind fun Ab=>(some Ab)) = some r:=by first|(rw [hy182];with_reducible exact H)|(have Ah:=(Option.bind_some _ _).symm.trans H;rw [hy182];with_reducible exact Ah)|(have Ah:=(Option.bind_some _ _).symm.trans H;with_reducible exact Ah)|with_reducible exact H|(rw [hy182];exact H)|exact H
 have Ac:=Aside0.mk hy182
 clear hy182
 replace H:=Option.bind_eq_some_iff.mp H
 obtain ⟨Ab,Al,H⟩:=H
 replace H:(some Ab) = some r:=H
 have A2:=Aside0.mk Al
 clear Al
 obtain rfl:=Option.some.inj H
 go_enter Tryz.func131,Tryz.ntmps131
 go_wp2_with (first|((with_reducible refine gate_dst (N:=9) rfl ?_);refine Kd.R_lit (Kd.int .u32) _ 101 ?hg (N:=9) ?hd (xs:=([(Int.tmod a0 1000000000) % 4294967296,(IntKind.u64.wrap (Int.tdiv a0 1000000000)) % 4294967296]:List Int)) (inner:=[.int .u32 ((Int.tmod a0 1000000000) % 4294967296),.int .u32 ((IntKind.u64.wrap (Int.tdiv a0 1000000000)) % 4294967296)]) (ok:=fun _=>True) (okp:=fun _=>True) ?hr ?hp (fun _ hk=>hk) trivial (Below.refl _ _) (Nat.le_refl _) (by simp) ?_;(case hd=>rfl);(case hg=>rfl);(case hr=>first|(go_simp;done)|(go_simp;rfl));(case hp=>exact (Reps.one (show Kd.M (Kd.int .u32) _ _ _ ((Int.tmod a0 1000000000) % 4294967296) [.int .u32 ((Int.tmod a0 1000000000) % 4294967296)] from rfl) (Reps.one (show Kd.M (Kd.int .u32) _ _ _ ((IntKind.u64.wrap (Int.tdiv a0 1000000000)) % 4294967296) [.int .u32 ((IntKind.u64.wrap (Int.tdiv a0 1000000000)) % 4294967296)] from rfl) (Reps.none _ _))));intro An w3 Ae hb Ao Af;clear Ao Af;(first|rw [← Ac.out] at Ae|(simp only [Int.reduceToNat] at Ae;rw [← Ac.out] at Ae));have Aj:=Aside0.mk (Kd.R_lower (Kd.R_newM (M:=fun k_=>(w.heap.size≤k_)) Ae (below_size (by repeat (first|(with_reducible first|exact HB.out|apply below_alloc|apply pw_below_drewN|apply below_drew1)|exact HB.out))) (fun k_ h_=>h_)) (below_size (by repeat (first|(with_reducible first|exact HB.out|apply below_alloc|apply pw_below_drewN|apply below_drew1)|exact HB.out))));have Ad:=Aside0.mk (below_step (by repeat (first|(with_reducible first|exact HB.out|apply below_alloc|apply pw_below_drewN|apply below_drew1)|exact HB.out)) hb);clear HB;have Aa:=Aj;have HB:=Ad;clear Aj Ad;clear hb Ae;obtain ⟨As,Aq,Ap⟩:=Kd.R_slice Aa.out;subst Ap)|((with_reducible refine gate_callee (f:=138) rfl ?_);refine goesL_ (some 10) rfl rfl Tryz.func138 (by kernel_rfl) rfl #[.slice As y182.length Aq] rfl (by (try simp only [List.map_toArray,List.map_cons,List.map_nil]);first|done|rfl|(simp only [List.length_drop,List.length_take];rfl)) ?_;(refine (trim_own k w.heap.size (fun k_=>(w.heap.size≤k_)) _ _ y182 Ab _ ?side1 A2.out).mono ?_);(case side1=>(with_reducible repeat (first|apply Kd.R_alloc|apply Kd.R_drewN|apply Kd.R_drew));first|exact Aa.out|exact Kd.R_mono Aa.out (fun _ hk=>hk.1));rintro e w6 ⟨Am,rfl,Ak,hb⟩;refine ⟨_,rfl,?_⟩;have Ad:=Aside0.mk Ak;have Ai:=Aside0.mk (below_step (by repeat (first|(with_reducible first|exact HB.out|apply below_alloc|apply pw_below_drewN|apply below_drew1)|exact HB.out)) hb);clear Aa;clear HB;have Ag:=Ad;have HB:=Ai;clear Ad Ai;(try clear hb);(try clear hb2);(try clear hk);(try clear hi);(try clear Ak)))
 go_ret
 exact ⟨_,by first|rfl|(simp [errW_none,errW_some]<;>rfl)|(simp [*,errW_none,errW_some]<;>rfl),by (with_reducible repeat (first|apply Kd.R_alloc|apply Kd.R_drewN|apply Kd.R_drew));exact Ag.out,by repeat (first|(with_reducible first|exact HB.out|apply below_alloc|apply pw_below_drewN|apply below_drew1)|exact HB.out)⟩
set_option maxHeartbeats 8000000 in
set_option maxRecDepth 100000 in
theorem by_own (k:Nat) (A0:Option Addr) (c0:Nat) (l0:List Int) (a1:Int) (r1:List Int) (r2:List Int) (w:World) (hr0:Kd.C (Kd.int .u32) w A0 l0.length l0) (hc0:l0.length≤c0) (h:natural_num_by.f k l0 a1 = some (r1,r2)) :
  Calls Tryz.prog 143 #[.slice A0 l0.length c0,.int .u64 a1] w fun e w'=>∃ v0_ v1_:Value,e = .returned (.tuple #[v0_,v1_])∧Kd.R (Kd.int .u32) 101 w' w.heap.size (fun k_=>(w.heap.size≤k_)) v0_ r1∧Kd.V (Kd.int .u32) 101 w' w.heap.size (fun k_=>(w.heap.size≤k_)∧some k_≠(v0_:Value).ownBlock) v1_ r2∧Below w.heap.size w w':=by
 have Cn:=Aside0.mk hr0
 have Ct:=Aside0.mk hc0
 clear hr0 hc0
 have HB:=Aside0.mk (Below.refl w.heap.size w)
 have H:(if 0≤(l0.length:Int) then (if ((l0.length:Int):Int).toNat≤70368744177664 then (natural_num_by.l0 k l0 a1 (List.replicate ((l0.length:Int):Int).toNat 0) 0 (wrap64 ((l0.length:Int) - 1))) else (none)) else (none)) = some (r1,r2):=h
 clear h
 by_cases c3:0≤(l0.length:Int)
 ·rw [if_pos c3] at H
  have By:=eq_true c3
  have Bx:decide (0≤(l0.length:Int)) = true:=decide_eq_true c3
  clear c3
  by_cases c4:((l0.length:Int):Int).toNat≤70368744177664
  ·rw [if_pos c4] at H
   have Bw:=eq_true c4
   have Bv:decide (((l0.length:Int):Int).toNat≤70368744177664) = true:=decide_eq_true c4
   clear c4
   obtain ⟨y188,hy188⟩:∃ y_:List Int,y_ = (List.replicate ((l0.length:Int):Int).toNat 0):=⟨_,rfl⟩
   replace H:(natural_num_by.l0 k l0 a1 y188 0 (wrap64 ((l0.length:Int) - 1))) = some (r1,r2):=by first|(rw [hy188];with_reducible exact H)|(have Ap:=(Option.bind_some _ _).symm.trans H;rw [hy188];with_reducible exact Ap)|(have Ap:=(Option.bind_some _ _).symm.trans H;with_reducible exact Ap)|with_reducible exact H|(rw [hy188];exact H)|exact H
   have Aj:=Aside0.mk hy188
   clear hy188
   have H':=Aside0.mk H
   clear H
   go_enter Tryz.func143,Tryz.ntmps143
   go_wp2_with (first|((with_reducible refine gate_dst (N:=11) rfl ?_);refine Kd.R_make (Kd.int .u32) _ 101 rfl (N:=11) rfl 161 _ _ rfl (l0.length:Int) rfl rfl Tryz.underlying161 (.int .u32 0) 4 info101 rfl (by decide) (by omega) 0 (ok:=fun _=>True) (okp:=fun _=>True) rfl (fun _ hk=>hk) trivial (of_decide_eq_true (by first|(with_reducible assumption)|assumption)) (Nat.le_trans (Nat.mul_le_mul_right _ (of_decide_eq_true (by first|(with_reducible assumption)|assumption):(l0.length:Int).toNat≤70368744177664)) (by omega)) (Below.refl _ _) (Nat.le_refl _) ?_;intro Bj w5 At hb Cj Av;clear Cj Av;(first|rw [← Aj.out] at At|(simp only [Int.reduceToNat] at At;rw [← Aj.out] at At));have As:=Aside0.mk (Kd.R_lower (Kd.R_newM (M:=fun k_=>(w.heap.size≤k_)) At (below_size (by repeat (first|(with_reducible first|exact HB.out|apply below_alloc|apply pw_below_drewN|apply below_drew1)|exact HB.out))) (fun k_ h_=>h_)) (below_size (by repeat (first|(with_reducible first|exact HB.out|apply below_alloc|apply pw_below_drewN|apply below_drew1)|exact HB.out))));have Ag:=Aside0.mk (below_step (by repeat (first|(with_reducible first|exact HB.out|apply below_alloc|apply pw_below_drewN|apply below_drew1)|exact HB.out)) hb);clear HB;have Ba:=As;have HB:=Ag;clear As Ag;clear hb At))
   go_loopg [7,8] k (fun kq v7 v8 w'=>∃ (Ad:List Int) (Ab:Int) (Aa:Int),v7 = .int .u64 Ab∧v8 = .int .i64 Aa∧Aside0 (natural_num_by.l0 kq l0 a1 Ad Ab Aa = some (r1,r2))∧Aside0 (kq≤k)∧Aside0 (Kd.R (Kd.int .u32) 101 w' w.heap.size (fun k_=>(w.heap.size≤k_)) Bj Ad)∧Aside0 (Below w.heap.size w w'))
   case atStart=>exact ⟨(y188),(0),(wrap64 ((l0.length:Int) - 1)),(by first|rfl|(simp;done)|(simp [*];done)),(by first|rfl|(simp;done)|(simp [*];done)),H',⟨Nat.le_refl _⟩,⟨by (with_reducible repeat (first|apply Kd.R_alloc|apply Kd.R_drewN|apply Kd.R_drew));exact Kd.R_mono Ba.out (fun _ hk=>hk.1)⟩,⟨by repeat (first|(with_reducible first|exact HB.out|apply below_alloc|apply pw_below_drewN|apply below_drew1)|exact HB.out)⟩⟩
   case round =>
    clear H'
    try clear p2
    try clear c3
    try clear By
    try clear Bx
    try clear c4
    try clear Bw
    try clear Bv
    try clear c5
    try clear p6
    obtain ⟨Ad,Ab,Aa,rfl,rfl,HA,Ch,Ac,HB⟩:=hrel
    cases gk with
    | zero=>exact absurd HA.out (by simp [natural_num_by.l0])
    | succ k1 =>
     have H:=HA.out
     clear HA
     simp only [natural_num_by.l0] at H
     by_cases c7:Aa ≥ 0
     ·rw [if_pos c7] at H
      have Bu:decide (0≤Aa) = true:=decide_eq_true c7
      clear c7
      by_cases c8:0≤Aa
      ·rw [if_pos c8] at H
       have Cm:decide (0≤Aa) = true:=decide_eq_true c8
       clear c8
       by_cases c9:Aa < (l0.length:Int)
       ·rw [if_pos c9] at H
        have Cl:decide (Aa < (l0.length:Int)) = true:=decide_eq_true c9
        clear c9
        by_cases Bg:a1 = 0
        ·rw [if_pos Bg] at H
         exact absurd H (by simp)
        ·rw [if_neg Bg] at H
         have Cf:(a1 == 0) = false:=beq_eq_false_iff_ne.mpr Bg
         have Ce:(a1 != 0) = true:=bne_iff_ne.mpr Bg
         by_cases Bf:Aa < (Ad.length:Int)
         ·rw [if_pos Bf] at H
          have Cc:decide (Aa < (Ad.length:Int)) = true:=decide_eq_true Bf
          clear Bf
          obtain ⟨y192,hy192⟩:∃ y_:List Int,y_ = (Ad.set (Aa:Int).toNat ((IntKind.u64.wrap (Int.tdiv (IntKind.u64.wrap ((IntKind.u64.wrap (Ab * 1000000000)) + (IntKind.u64.wrap (rd l0 Aa)))) a1)) % 4294967296)):=⟨_,rfl⟩
          replace H:(natural_num_by.l0 k1 l0 a1 y192 (Int.tmod (IntKind.u64.wrap ((IntKind.u64.wrap (Ab * 1000000000)) + (IntKind.u64.wrap (rd l0 Aa)))) a1) (wrap64 (Aa - 1))) = some (r1,r2):=by first|(rw [hy192];with_reducible exact H)|(have Ap:=(Option.bind_some _ _).symm.trans H;rw [hy192];with_reducible exact Ap)|(have Ap:=(Option.bind_some _ _).symm.trans H;with_reducible exact Ap)|with_reducible exact H|(rw [hy192];exact H)|exact H
          have Ah:=Aside0.mk hy192
          clear hy192
          have H':=Aside0.mk H
          clear H
          have Am:0≤(Aa:Int):=of_decide_eq_true (by first|(with_reducible assumption)|assumption)
          have Al:Aa < (l0.length:Int):=of_decide_eq_true (by first|(with_reducible assumption)|assumption)
          obtain ⟨Cg,Bq,Ae⟩:=Kd.at_int Cn.out Aa Am Al
          cases Bq
          replace Ae:=(HB.out.cell (World.block_lt_of_cell? w _ Ae)).trans Ae
          replace Am:=eq_true Am
          replace Al:=eq_true Al
          have Bl:0≤(Aa:Int):=of_decide_eq_true (by first|(with_reducible assumption)|assumption)
          have Bk:(Aa:Int) < ((Ad.length:Int):Int):=of_decide_eq_true (by first|(with_reducible assumption)|assumption)
          obtain ⟨An,Bt,Ax,Aw,Bo,Ck,Bb⟩:=Kd.R_form Ac.out (by omega)
          (first|cases Ax|(injection Ax with ea_ en_ ec_;(first|subst ea_|(injection ea_ with ea_;subst ea_));subst ec_;clear en_))
          have Bc:=Aside0.mk Aw
          have Co:=Aside0.mk Bb
          clear Aw Bo Bb
          obtain ⟨Bm,Bn⟩:=Kd.R_celln 0 Ac.out (Aa:Int) Bl Bk
          replace Bl:=eq_true Bl
          replace Bk:=eq_true Bk
          have Ao:=Kd.R_putg Ac.out (Aa:Int) ((IntKind.u64.wrap (Int.tdiv (IntKind.u64.wrap ((IntKind.u64.wrap (Ab * 1000000000)) + (IntKind.u64.wrap (rd l0 Aa)))) a1)) % 4294967296)
          go_wp2_with (first|((with_reducible refine gate_store (t:=101) (p:=33) rfl ?_);refine store_event (t:=101) (p:=33) (v:=?vo_w14) (w1:=(wr.setCell ⟨An,(Aa:Int).toNat,none⟩ (.int .u32 ((IntKind.u64.wrap (Int.tdiv (IntKind.u64.wrap ((IntKind.u64.wrap (Ab * 1000000000)) + (IntKind.u64.wrap (rd l0 Aa)))) a1)) % 4294967296)))) ?hg ?ho ?hn ?hr ?_;(case ho=>rfl);(case hg=>rfl);(case hn=>rfl);(case hr=>first|(go_simp;done)|(go_simp;rfl));intro Bh hw;have hg:wr.grownBy Bh (some An):=(by rw [hw];exact Ao.2);have Cb:Kd.R (Kd.int .u32) 101 Bh w.heap.size (fun k_=>(w.heap.size≤k_)) (.slice (some ⟨An,0,none⟩) Ad.length Bt) y192:=(by rw [hw,Ah.out];exact Ao.1);clear Ao;have As:=Aside0.mk (Cb);have Ag:=Aside0.mk ((by rw [hw];exact below_set (HB.out) Bc.out:Below w.heap.size w Bh));clear Ac;clear HB;have Ac:=As;have HB:=Ag;clear As Ag;clear hg hw Cb))
          go_roundg k1
          case measure=>have:=Ch.out;omega
          case rel=>exact ⟨(y192),(Int.tmod (IntKind.u64.wrap ((IntKind.u64.wrap (Ab * 1000000000)) + (IntKind.u64.wrap (rd l0 Aa)))) a1),(wrap64 (Aa - 1)),(by first|rfl|(simp;done)|(simp [*];done)),(by first|rfl|(simp;done)|(simp [*];done)),H',⟨by have:=Ch.out;omega⟩,⟨by (with_reducible repeat (first|apply Kd.R_alloc|apply Kd.R_drewN|apply Kd.R_drew));first|exact Ac.out|(rw [Ah.out];exact (Kd.R_putg (by first|exact Kd.R_drewN Ac.out _|(apply Kd.R_drewN;exact Ac.out)) (Aa:Int) ((IntKind.u64.wrap (Int.tdiv (IntKind.u64.wrap ((IntKind.u64.wrap (Ab * 1000000000)) + (IntKind.u64.wrap (rd l0 Aa)))) a1)) % 4294967296)).1)|(rw [Ah.out];exact (Kd.R_putg Ac.out (Aa:Int) ((IntKind.u64.wrap (Int.tdiv (IntKind.u64.wrap ((IntKind.u64.wrap (Ab * 1000000000)) + (IntKind.u64.wrap (rd l0 Aa)))) a1)) % 4294967296)).1)⟩,⟨by first|(exact below_set (by repeat (first|(with_reducible first|exact HB.out|apply below_alloc|apply pw_below_drewN|apply below_drew1)|exact HB.out)) Bc.out)|(repeat (first|(with_reducible first|exact HB.out|apply below_alloc|apply pw_below_drewN|apply below_drew1)|exact HB.out))⟩⟩
         ·rw [if_neg Bf] at H
          exact absurd H (by simp)
       ·rw [if_neg c9] at H
        exact absurd H (by simp)
      ·rw [if_neg c8] at H
       exact absurd H (by simp)
     ·rw [if_neg c7] at H
      have Bu:decide (0≤Aa) = false:=decide_eq_false c7
      clear c7
      replace H:=Option.bind_eq_some_iff.mp H
      obtain ⟨Ak,Be,H⟩:=H
      replace H:((natural_of.f k1 Ab).bind fun Ai=>(some (Ak,Ai))) = some (r1,r2):=H
      have Cq:=Aside0.mk Be
      clear Be
      replace H:=Option.bind_eq_some_iff.mp H
      obtain ⟨Ai,Bd,H⟩:=H
      replace H:(some (Ak,Ai)) = some (r1,r2):=H
      have Cp:=Aside0.mk Bd
      clear Bd
      simp only [Option.some.injEq,Prod.mk.injEq] at H
      obtain ⟨rfl,rfl⟩:=H
      obtain ⟨Bz,Br,Bp⟩:=Kd.R_slice Ac.out
      subst Bp
      go_wp2_with (first|((with_reducible refine gate_callee (f:=138) rfl ?_);refine goesL_ (some 38) rfl rfl Tryz.func138 (by kernel_rfl) rfl #[.slice Bz Ad.length Br] rfl (by (try simp only [List.map_toArray,List.map_cons,List.map_nil]);first|done|rfl|(simp only [List.length_drop,List.length_take];rfl)) ?_;(refine (trim_own k1 w.heap.size (fun k_=>(w.heap.size≤k_)) _ _ Ad Ak _ ?side1 Cq.out).mono ?_);(case side1=>(with_reducible repeat (first|apply Kd.R_alloc|apply Kd.R_drewN|apply Kd.R_drew));exact Ac.out);rintro e Cs ⟨Bi,rfl,Au,hb⟩;refine ⟨_,rfl,?_⟩;have Ag:=Aside0.mk Au;have Aq:=Aside0.mk (below_step (by repeat (first|(with_reducible first|exact HB.out|apply below_alloc|apply pw_below_drewN|apply below_drew1)|exact HB.out)) hb);clear Ac;clear HB;have Af:=Ag;have HB:=Aq;clear Ag Aq;(try clear hb);(try clear hb2);(try clear hk);(try clear hi);(try clear Au))|((with_reducible refine gate_callee (f:=131) rfl ?_);refine goesL_ (some 40) rfl rfl Tryz.func131 (by kernel_rfl) rfl #[.int .u64 Ab] rfl (by (try simp only [List.map_toArray,List.map_cons,List.map_nil]);first|done|rfl|(simp only [List.length_drop,List.length_take];rfl)) ?_;(with_reducible refine (natural_of.calls k1 Ab Ai _ Cp.out).mono ?_);rintro e Cr ⟨Ci,rfl,Au,hb⟩;refine ⟨_,rfl,?_⟩;have Ag:=Aside0.mk (Kd.R_below (by (with_reducible repeat (first|apply Kd.R_alloc|apply Kd.R_drewN|apply Kd.R_drew));exact Af.out) hb);have Aq:=Aside0.mk (Kd.V_lower (Kd.V_mono (ok':=fun k_=>(w.heap.size≤k_)∧some k_≠(Bi:Value).ownBlock) Au (fun k_ hk_=>⟨(Nat.le_trans (below_size (by repeat (first|(with_reducible first|exact HB.out|apply below_alloc|apply pw_below_drewN|apply below_drew1)|exact HB.out))) hk_),(Kd.fresh' (Kd.R_lt (by (with_reducible repeat (first|apply Kd.R_alloc|apply Kd.R_drewN|apply Kd.R_drew));exact Af.out)) k_ hk_)⟩)) (below_size (by repeat (first|(with_reducible first|exact HB.out|apply below_alloc|apply pw_below_drewN|apply below_drew1)|exact HB.out))));have Ca:=Aside0.mk (below_step (by repeat (first|(with_reducible first|exact HB.out|apply below_alloc|apply pw_below_drewN|apply below_drew1)|exact HB.out)) hb);clear Af;clear HB;have Af:=Ag;have Ay:=Aq;have HB:=Ca;clear Ag Aq Ca;(try clear hb);(try clear hb2);(try clear hk);(try clear hi);(try clear Au)))
      go_ret2
      exact ⟨_,_,by first|rfl|(simp [errW_none,errW_some]<;>rfl)|(simp [*,errW_none,errW_some]<;>rfl),by (with_reducible repeat (first|apply Kd.R_alloc|apply Kd.R_drewN|apply Kd.R_drew));exact Af.out,by (with_reducible repeat (first|apply Kd.V_alloc|apply Kd.V_drewN|apply Kd.V_drew));exact Ay.out,by repeat (first|(with_reducible first|exact HB.out|apply below_alloc|apply pw_below_drewN|apply below_drew1)|exact HB.out)⟩
  ·rw [if_neg c4] at H
   exact absurd H (by simp)
 ·rw [if_neg c3] at H
  exact absurd H (by simp)
set_option maxHeartbeats 8000000 in
set_option maxRecDepth 100000 in
theorem times_own (k:Nat) (A0:Option Addr) (c0:Nat) (l0:List Int) (A1:Option Addr) (c1:Nat) (l1:List Int) (r:List Int) (w:World) (hr0:Kd.C (Kd.int .u32) w A0 l0.length l0) (hc0:l0.length≤c0) (hr1:Kd.C (Kd.int .u32) w A1 l1.length l1) (hc1:l1.length≤c1) (h:natural_num_times.f k l0 l1 = some r) :
  Calls Tryz.prog 144 #[.slice A0 l0.length c0,.slice A1 l1.length c1] w fun e w'=>∃ v0_:Value,e = .returned (v0_)∧Kd.R (Kd.int .u32) 101 w' w.heap.size (fun k_=>(w.heap.size≤k_)) v0_ r∧Below w.heap.size w w':=by
 have Ec:=Aside0.mk hr0
 have Ej:=Aside0.mk hc0
 clear hr0 hc0
 have Eb:=Aside0.mk hr1
 have Ei:=Aside0.mk hc1
 clear hr1 hc1
 have HB:=Aside0.mk (Below.refl w.heap.size w)
 have H:(if 0≤(wrap64 ((l0.length:Int) + (l1.length:Int))) then (if (wrap64 ((l0.length:Int) + (l1.length:Int)):Int).toNat≤70368744177664 then (natural_num_times.l0 k l1 (List.replicate (wrap64 ((l0.length:Int) + (l1.length:Int)):Int).toNat 0) l0 (l0.length:Int) 0) else (none)) else (none)) = some r:=h
 clear h
 obtain ⟨ji3,hji3⟩:∃ j_:Int,(wrap64 ((l0.length:Int) + (l1.length:Int))) = j_:=⟨_,rfl⟩
 replace H:(if 0≤(ji3) then (if (ji3:Int).toNat≤70368744177664 then (natural_num_times.l0 k l1 (List.replicate (ji3:Int).toNat 0) l0 (l0.length:Int) 0) else (none)) else (none)) = some r:=by first|(rw [hji3] at H;exact H)|(simp only [hji3] at H ⊢;exact H)
 have Dk:(IntKind.i64.wrap ((l0.length:Int) + (l1.length:Int))) = ji3:=(i64_w _).trans hji3
 by_cases c4:0≤(ji3)
 ·rw [if_pos c4] at H
  have Bp:=eq_true c4
  have Bo:decide (0≤(ji3)) = true:=decide_eq_true c4
  clear c4
  by_cases c5:(ji3:Int).toNat≤70368744177664
  ·rw [if_pos c5] at H
   have Bn:=eq_true c5
   have Bm:decide ((ji3:Int).toNat≤70368744177664) = true:=decide_eq_true c5
   clear c5
   obtain ⟨y171,hy171⟩:∃ y_:List Int,y_ = (List.replicate (ji3:Int).toNat 0):=⟨_,rfl⟩
   replace H:(natural_num_times.l0 k l1 y171 l0 (l0.length:Int) 0) = some r:=by first|(rw [hy171];with_reducible exact H)|(have Al:=(Option.bind_some _ _).symm.trans H;rw [hy171];with_reducible exact Al)|(have Al:=(Option.bind_some _ _).symm.trans H;with_reducible exact Al)|with_reducible exact H|(rw [hy171];exact H)|exact H
   have Aq:=Aside0.mk hy171
   clear hy171
   have H':=Aside0.mk H
   clear H
   go_enter Tryz.func144,Tryz.ntmps144
   go_wp2_with (first|((with_reducible refine gate_dst (N:=16) rfl ?_);refine Kd.R_make (Kd.int .u32) _ 101 rfl (N:=16) rfl 161 _ _ rfl ji3 rfl rfl Tryz.underlying161 (.int .u32 0) 4 info101 rfl (by decide) (by omega) 0 (ok:=fun _=>True) (okp:=fun _=>True) rfl (fun _ hk=>hk) trivial (of_decide_eq_true (by first|(with_reducible assumption)|assumption)) (Nat.le_trans (Nat.mul_le_mul_right _ (of_decide_eq_true (by first|(with_reducible assumption)|assumption):ji3.toNat≤70368744177664)) (by omega)) (Below.refl _ _) (Nat.le_refl _) ?_;intro Bc w6 Bf hb Dx Bg;clear Dx Bg;(first|rw [← Aq.out] at Bf|(simp only [Int.reduceToNat] at Bf;rw [← Aq.out] at Bf));have Ap:=Aside0.mk (Kd.R_lower (Kd.R_newM (M:=fun k_=>(w.heap.size≤k_)) Bf (below_size (by repeat (first|(with_reducible first|exact HB.out|apply below_alloc|apply pw_below_drewN|apply below_drew1)|exact HB.out))) (fun k_ h_=>h_)) (below_size (by repeat (first|(with_reducible first|exact HB.out|apply below_alloc|apply pw_below_drewN|apply below_drew1)|exact HB.out))));have Ai:=Aside0.mk (below_step (by repeat (first|(with_reducible first|exact HB.out|apply below_alloc|apply pw_below_drewN|apply below_drew1)|exact HB.out)) hb);clear HB;have Bv:=Ap;have HB:=Ai;clear Ap Ai;clear hb Bf))
   go_loopg [19] k (fun kq Dv w'=>∃ (Ah:List Int) (Aa:Int),Dv = .int .i64 Aa∧Aside0 (natural_num_times.l0 kq l1 Ah l0 (l0.length:Int) Aa = some r)∧Aside0 (kq≤k)∧Aside0 (Kd.R (Kd.int .u32) 101 w' w.heap.size (fun k_=>(w.heap.size≤k_)) Bc Ah)∧Aside0 (Below w.heap.size w w'))
   case atStart=>exact ⟨(y171),(0),(by first|rfl|(simp;done)|(simp [*];done)),H',⟨Nat.le_refl _⟩,⟨by (with_reducible repeat (first|apply Kd.R_alloc|apply Kd.R_drewN|apply Kd.R_drew));exact Kd.R_mono Bv.out (fun _ hk=>hk.1)⟩,⟨by repeat (first|(with_reducible first|exact HB.out|apply below_alloc|apply pw_below_drewN|apply below_drew1)|exact HB.out)⟩⟩
   case round =>
    clear H'
    try clear c1
    try clear p2
    try clear c4
    try clear Bp
    try clear Bo
    try clear c5
    try clear Bn
    try clear Bm
    try clear p6
    obtain ⟨Ah,Aa,rfl,HA,Cj,Ad,HB⟩:=hrel
    cases gk with
    | zero=>exact absurd HA.out (by simp [natural_num_times.l0])
    | succ k1 =>
     have H:=HA.out
     clear HA
     simp only [natural_num_times.l0] at H
     by_cases c8:Aa < (l0.length:Int)
     ·rw [if_pos c8] at H
      have Bl:decide (Aa < (l0.length:Int)) = true:=decide_eq_true c8
      clear c8
      by_cases c9:0≤Aa
      ·rw [if_pos c9] at H
       have Dg:decide (0≤Aa) = true:=decide_eq_true c9
       clear c9
       by_cases Bt:Aa < (l0.length:Int)
       ·rw [if_pos Bt] at H
        have Br:decide (Aa < (l0.length:Int)) = true:=decide_eq_true Bt
        clear Bt
        have H':=Aside0.mk H
        clear H
        have An:0≤(Aa:Int):=of_decide_eq_true (by first|(with_reducible assumption)|assumption)
        have Am:Aa < (l0.length:Int):=of_decide_eq_true (by first|(with_reducible assumption)|assumption)
        obtain ⟨Dt,Dc,Af⟩:=Kd.at_int Ec.out Aa An Am
        cases Dc
        replace Af:=(HB.out.cell (World.block_lt_of_cell? w _ Af)).trans Af
        replace An:=eq_true An
        replace Am:=eq_true Am
        go_wp2
        go_loopg [8,26] k1 (fun kq v8 Du w'=>∃ (Ac:List Int) (Ae:Int) (Ab:Int),v8 = .int .u64 Ae∧Du = .int .i64 Ab∧Aside0 (natural_num_times.l1 kq l1 Ac Aa (rd l0 Aa) Ae l0 (l0.length:Int) Aa l1 (l1.length:Int) Ab = some r)∧Aside0 (kq≤k1)∧Aside0 (Kd.R (Kd.int .u32) 101 w' w.heap.size (fun k_=>(w.heap.size≤k_)) Bc Ac)∧Aside0 (Below w.heap.size w w'))
        case atStart=>exact ⟨(Ah),(0),(0),(by first|rfl|(simp;done)|(simp [*];done)),(by first|rfl|(simp;done)|(simp [*];done)),H',⟨Nat.le_refl _⟩,⟨by (with_reducible repeat (first|apply Kd.R_alloc|apply Kd.R_drewN|apply Kd.R_drew));exact Ad.out⟩,⟨by repeat (first|(with_reducible first|exact HB.out|apply below_alloc|apply pw_below_drewN|apply below_drew1)|exact HB.out)⟩⟩
        case round =>
         clear H'
         try clear c1
         try clear p1
         try clear q1
         try clear hx1
         try clear p2
         try clear c4
         try clear Bp
         try clear Bo
         try clear c5
         try clear Bn
         try clear Bm
         try clear p6
         try clear c8
         try clear Bl
         try clear c9
         try clear Dg
         try clear Bt
         try clear Br
         try clear Af
         try clear An
         try clear p2
         try clear p6
         try clear Am
         obtain ⟨Ac,Ae,Ab,rfl,rfl,HA,Ci,Ad,HB⟩:=hrel
         cases gk with
         | zero=>exact absurd HA.out (by simp [natural_num_times.l1])
         | succ k2 =>
          have H:=HA.out
          clear HA
          simp only [natural_num_times.l1] at H
          by_cases Bb:Ab < (l1.length:Int)
          ·rw [if_pos Bb] at H
           have Bq:decide (Ab < (l1.length:Int)) = true:=decide_eq_true Bb
           clear Bb
           by_cases Ch:0≤Ab
           ·rw [if_pos Ch] at H
            have Dq:decide (0≤Ab) = true:=decide_eq_true Ch
            clear Ch
            by_cases Cg:Ab < (l1.length:Int)
            ·rw [if_pos Cg] at H
             have Dp:decide (Ab < (l1.length:Int)) = true:=decide_eq_true Cg
             clear Cg
             obtain ⟨ji14,hji14⟩:∃ j_:Int,(wrap64 (Aa + Ab)) = j_:=⟨_,rfl⟩
             replace H:(if 0≤(ji14) then (if (ji14) < (Ac.length:Int) then (natural_num_times.l1 k2 l1 (Ac.set ((ji14):Int).toNat ((Int.tmod (IntKind.u64.wrap (Ae + (IntKind.u64.wrap ((IntKind.u64.wrap ((IntKind.u64.wrap ((rd l0 Aa))) * (IntKind.u64.wrap (rd l1 Ab)))) + (IntKind.u64.wrap (rd Ac (ji14))))))) 1000000000) % 4294967296)) Aa (rd l0 Aa) (IntKind.u64.wrap (Int.tdiv (IntKind.u64.wrap (Ae + (IntKind.u64.wrap ((IntKind.u64.wrap ((IntKind.u64.wrap ((rd l0 Aa))) * (IntKind.u64.wrap (rd l1 Ab)))) + (IntKind.u64.wrap (rd Ac (ji14))))))) 1000000000)) l0 (l0.length:Int) Aa l1 (l1.length:Int) (wrap64 (Ab + 1))) else (none)) else (none)) = some r:=by first|(rw [hji14] at H;exact H)|(simp only [hji14] at H ⊢;exact H)
             have Ct:(IntKind.i64.wrap (Aa + Ab)) = ji14:=(i64_w _).trans hji14
             by_cases Cf:0≤(ji14)
             ·rw [if_pos Cf] at H
              have Do:decide (0≤(ji14)) = true:=decide_eq_true Cf
              clear Cf
              by_cases Ce:(ji14) < (Ac.length:Int)
              ·rw [if_pos Ce] at H
               have Dn:decide ((ji14) < (Ac.length:Int)) = true:=decide_eq_true Ce
               clear Ce
               obtain ⟨y180,hy180⟩:∃ y_:List Int,y_ = (Ac.set ((ji14):Int).toNat ((Int.tmod (IntKind.u64.wrap (Ae + (IntKind.u64.wrap ((IntKind.u64.wrap ((IntKind.u64.wrap ((rd l0 Aa))) * (IntKind.u64.wrap (rd l1 Ab)))) + (IntKind.u64.wrap (rd Ac (ji14))))))) 1000000000) % 4294967296)):=⟨_,rfl⟩
               replace H:(natural_num_times.l1 k2 l1 y180 Aa (rd l0 Aa) (IntKind.u64.wrap (Int.tdiv (IntKind.u64.wrap (Ae + (IntKind.u64.wrap ((IntKind.u64.wrap ((IntKind.u64.wrap ((rd l0 Aa))) * (IntKind.u64.wrap (rd l1 Ab)))) + (IntKind.u64.wrap (rd Ac (ji14))))))) 1000000000)) l0 (l0.length:Int) Aa l1 (l1.length:Int) (wrap64 (Ab + 1))) = some r:=by first|(rw [hy180];with_reducible exact H)|(have Al:=(Option.bind_some _ _).symm.trans H;rw [hy180];with_reducible exact Al)|(have Al:=(Option.bind_some _ _).symm.trans H;with_reducible exact Al)|with_reducible exact H|(rw [hy180];exact H)|exact H
               have Ak:=Aside0.mk hy180
               clear hy180
               have H':=Aside0.mk H
               clear H
               have Av:0≤(Ab:Int):=of_decide_eq_true (by first|(with_reducible assumption)|assumption)
               have At:Ab < (l1.length:Int):=of_decide_eq_true (by first|(with_reducible assumption)|assumption)
               obtain ⟨Ds,Db,Ag⟩:=Kd.at_int Eb.out Ab Av At
               cases Db
               replace Ag:=(HB.out.cell (World.block_lt_of_cell? w _ Ag)).trans Ag
               replace Av:=eq_true Av
               replace At:=eq_true At
               obtain ⟨Ef,Df,Cz⟩:=Kd.R_slice Ad.out
               subst Cz
               have Au:0≤((ji14):Int):=of_decide_eq_true (by first|(with_reducible assumption)|assumption)
               have As:(ji14) < (Ac.length:Int):=of_decide_eq_true (by first|(with_reducible assumption)|assumption)
               obtain ⟨Dr,Da,Ao⟩:=Kd.at_int (Kd.R_reads' Ad.out).2.2 (ji14) Au As
               cases Da
               replace Au:=eq_true Au
               replace As:=eq_true As
               have Cp:0≤((ji14):Int):=of_decide_eq_true (by first|(with_reducible assumption)|assumption)
               have Cn:((ji14):Int) < ((Ac.length:Int):Int):=of_decide_eq_true (by first|(with_reducible assumption)|assumption)
               obtain ⟨Ax,Dy,Bk,Bi,Cx,Ea,Bx⟩:=Kd.R_form Ad.out (by omega)
               (first|cases Bk|(injection Bk with ea_ en_ ec_;(first|subst ea_|(injection ea_ with ea_;subst ea_));subst ec_;clear en_))
               have Bz:=Aside0.mk Bi
               have Ee:=Aside0.mk Bx
               clear Bi Cx Bx
               (first|simp only [add_plain] at Ao|skip)
               obtain ⟨Cr,Cv⟩:=Kd.R_celln 0 Ad.out ((ji14):Int) Cp Cn
               replace Cp:=eq_true Cp
               replace Cn:=eq_true Cn
               have Ba:=Kd.R_putg Ad.out ((ji14):Int) ((Int.tmod (IntKind.u64.wrap (Ae + (IntKind.u64.wrap ((IntKind.u64.wrap ((IntKind.u64.wrap ((rd l0 Aa))) * (IntKind.u64.wrap (rd l1 Ab)))) + (IntKind.u64.wrap (rd Ac (ji14))))))) 1000000000) % 4294967296)
               go_wp2_with (first|((with_reducible refine gate_store (t:=101) (p:=53) rfl ?_);refine store_event (t:=101) (p:=53) (v:=?vo_w20) (w1:=(wr.setCell ⟨Ax,((ji14):Int).toNat,none⟩ (.int .u32 ((Int.tmod (IntKind.u64.wrap (Ae + (IntKind.u64.wrap ((IntKind.u64.wrap ((IntKind.u64.wrap ((rd l0 Aa))) * (IntKind.u64.wrap (rd l1 Ab)))) + (IntKind.u64.wrap (rd Ac (ji14))))))) 1000000000) % 4294967296)))) ?hg ?ho ?hn ?hr ?_;(case ho=>rfl);(case hg=>rfl);(case hn=>rfl);(case hr=>first|(go_simp;done)|(go_simp;rfl));intro Cl hw;have hg:wr.grownBy Cl (some Ax):=(by rw [hw];exact Ba.2);have Be:Kd.R (Kd.int .u32) 101 Cl w.heap.size (fun k_=>(w.heap.size≤k_)) (.slice (some ⟨Ax,0,none⟩) Ac.length Df) y180:=(by rw [hw,Ak.out];exact Ba.1);clear Ba;have Ap:=Aside0.mk (Be);have Ai:=Aside0.mk ((by rw [hw];exact below_set (HB.out) Bz.out:Below w.heap.size w Cl));clear Ad;clear HB;have Ad:=Ap;have HB:=Ai;clear Ap Ai;clear hg hw Be))
               go_roundg k2
               case measure=>have:=Cj.out;have:=Ci.out;omega
               case rel=>exact ⟨(y180),(IntKind.u64.wrap (Int.tdiv (IntKind.u64.wrap (Ae + (IntKind.u64.wrap ((IntKind.u64.wrap ((IntKind.u64.wrap ((rd l0 Aa))) * (IntKind.u64.wrap (rd l1 Ab)))) + (IntKind.u64.wrap (rd Ac (ji14))))))) 1000000000)),(wrap64 (Ab + 1)),(by first|rfl|(simp;done)|(simp only [← hji14]<;>(first|rfl|simp))|(simp [*];done)),(by first|rfl|(simp;done)|(simp [*];done)),H',⟨by have:=Cj.out;have:=Ci.out;omega⟩,⟨by (with_reducible repeat (first|apply Kd.R_alloc|apply Kd.R_drewN|apply Kd.R_drew));first|exact Ad.out|(rw [Ak.out];exact (Kd.R_putg (by first|exact Kd.R_drewN Ad.out _|(apply Kd.R_drewN;exact Ad.out)) ((ji14):Int) ((Int.tmod (IntKind.u64.wrap (Ae + (IntKind.u64.wrap ((IntKind.u64.wrap ((IntKind.u64.wrap ((rd l0 Aa))) * (IntKind.u64.wrap (rd l1 Ab)))) + (IntKind.u64.wrap (rd Ac (ji14))))))) 1000000000) % 4294967296)).1)|(rw [Ak.out];exact (Kd.R_putg Ad.out ((ji14):Int) ((Int.tmod (IntKind.u64.wrap (Ae + (IntKind.u64.wrap ((IntKind.u64.wrap ((IntKind.u64.wrap ((rd l0 Aa))) * (IntKind.u64.wrap (rd l1 Ab)))) + (IntKind.u64.wrap (rd Ac (ji14))))))) 1000000000) % 4294967296)).1)⟩,⟨by first|(exact below_set (by repeat (first|(with_reducible first|exact HB.out|apply below_alloc|apply pw_below_drewN|apply below_drew1)|exact HB.out)) Bz.out)|(repeat (first|(with_reducible first|exact HB.out|apply below_alloc|apply pw_below_drewN|apply below_drew1)|exact HB.out))⟩⟩
              ·rw [if_neg Ce] at H
               exact absurd H (by simp)
             ·rw [if_neg Cf] at H
              exact absurd H (by simp)
            ·rw [if_neg Cg] at H
             exact absurd H (by simp)
           ·rw [if_neg Ch] at H
            exact absurd H (by simp)
          ·rw [if_neg Bb] at H
           have Bq:decide (Ab < (l1.length:Int)) = false:=decide_eq_false Bb
           clear Bb
           obtain ⟨ji21,hji21⟩:∃ j_:Int,(wrap64 (Aa + (l1.length:Int))) = j_:=⟨_,rfl⟩
           replace H:(if 0≤(ji21) then (if (ji21) < (Ac.length:Int) then (natural_num_times.l0 k2 l1 (Ac.set ((ji21):Int).toNat ((Ae) % 4294967296)) l0 (l0.length:Int) (wrap64 (Aa + 1))) else (none)) else (none)) = some r:=by first|(rw [hji21] at H;exact H)|(simp only [hji21] at H ⊢;exact H)
           have Cs:(IntKind.i64.wrap (Aa + (l1.length:Int))) = ji21:=(i64_w _).trans hji21
           by_cases Cc:0≤(ji21)
           ·rw [if_pos Cc] at H
            have Dm:decide (0≤(ji21)) = true:=decide_eq_true Cc
            clear Cc
            by_cases Cb:(ji21) < (Ac.length:Int)
            ·rw [if_pos Cb] at H
             have Dl:decide ((ji21) < (Ac.length:Int)) = true:=decide_eq_true Cb
             clear Cb
             obtain ⟨y181,hy181⟩:∃ y_:List Int,y_ = (Ac.set ((ji21):Int).toNat ((Ae) % 4294967296)):=⟨_,rfl⟩
             replace H:(natural_num_times.l0 k2 l1 y181 l0 (l0.length:Int) (wrap64 (Aa + 1))) = some r:=by first|(rw [hy181];with_reducible exact H)|(have Al:=(Option.bind_some _ _).symm.trans H;rw [hy181];with_reducible exact Al)|(have Al:=(Option.bind_some _ _).symm.trans H;with_reducible exact Al)|with_reducible exact H|(rw [hy181];exact H)|exact H
             have Aj:=Aside0.mk hy181
             clear hy181
             have H':=Aside0.mk H
             clear H
             have Co:0≤((ji21):Int):=of_decide_eq_true (by first|(with_reducible assumption)|assumption)
             have Cm:((ji21):Int) < ((Ac.length:Int):Int):=of_decide_eq_true (by first|(with_reducible assumption)|assumption)
             obtain ⟨Aw,De,Bj,Bh,Cw,Dz,Bw⟩:=Kd.R_form Ad.out (by omega)
             (first|cases Bj|(injection Bj with ea_ en_ ec_;(first|subst ea_|(injection ea_ with ea_;subst ea_));subst ec_;clear en_))
             have By:=Aside0.mk Bh
             have Ed:=Aside0.mk Bw
             clear Bh Cw Bw
             obtain ⟨Cq,Cu⟩:=Kd.R_celln 0 Ad.out ((ji21):Int) Co Cm
             replace Co:=eq_true Co
             replace Cm:=eq_true Cm
             have Ay:=Kd.R_putg Ad.out ((ji21):Int) ((Ae) % 4294967296)
             go_wp2_with (first|((with_reducible refine gate_store (t:=101) (p:=64) rfl ?_);refine store_event (t:=101) (p:=64) (v:=?vo_w26) (w1:=(wr.setCell ⟨Aw,((ji21):Int).toNat,none⟩ (.int .u32 ((Ae) % 4294967296)))) ?hg ?ho ?hn ?hr ?_;(case ho=>rfl);(case hg=>rfl);(case hn=>rfl);(case hr=>first|(go_simp;done)|(go_simp;rfl));intro Ck hw;have hg:wr.grownBy Ck (some Aw):=(by rw [hw];exact Ay.2);have Be:Kd.R (Kd.int .u32) 101 Ck w.heap.size (fun k_=>(w.heap.size≤k_)) (.slice (some ⟨Aw,0,none⟩) Ac.length De) y181:=(by rw [hw,Aj.out];exact Ay.1);clear Ay;have Ap:=Aside0.mk (Be);have Ai:=Aside0.mk ((by rw [hw];exact below_set (HB.out) By.out:Below w.heap.size w Ck));clear Ad;clear HB;have Ad:=Ap;have HB:=Ai;clear Ap Ai;clear hg hw Be))
             go_roundg k2
             case measure=>have:=Cj.out;have:=Ci.out;omega
             case rel=>exact ⟨(y181),(wrap64 (Aa + 1)),(by first|rfl|(simp;done)|(simp [*];done)),H',⟨by have:=Cj.out;have:=Ci.out;omega⟩,⟨by (with_reducible repeat (first|apply Kd.R_alloc|apply Kd.R_drewN|apply Kd.R_drew));first|exact Ad.out|(rw [Aj.out];exact (Kd.R_putg (by first|exact Kd.R_drewN Ad.out _|(apply Kd.R_drewN;exact Ad.out)) ((ji21):Int) ((Ae) % 4294967296)).1)|(rw [Aj.out];exact (Kd.R_putg Ad.out ((ji21):Int) ((Ae) % 4294967296)).1)⟩,⟨by first|(exact below_set (by repeat (first|(with_reducible first|exact HB.out|apply below_alloc|apply pw_below_drewN|apply below_drew1)|exact HB.out)) By.out)|(repeat (first|(with_reducible first|exact HB.out|apply below_alloc|apply pw_below_drewN|apply below_drew1)|exact HB.out))⟩⟩
            ·rw [if_neg Cb] at H
             exact absurd H (by simp)
           ·rw [if_neg Cc] at H
            exact absurd H (by simp)
       ·rw [if_neg Bt] at H
        exact absurd H (by simp)
      ·rw [if_neg c9] at H
       exact absurd H (by simp)
     ·rw [if_neg c8] at H
      have Bl:decide (Aa < (l0.length:Int)) = false:=decide_eq_false c8
      clear c8
      replace H:=Option.bind_eq_some_iff.mp H
      obtain ⟨Bd,Ca,H⟩:=H
      replace H:(some Bd) = some r:=H
      have Eg:=Aside0.mk Ca
      clear Ca
      obtain rfl:=Option.some.inj H
      obtain ⟨Dh,Dd,Cy⟩:=Kd.R_slice Ad.out
      subst Cy
      go_wp2_with (first|((with_reducible refine gate_callee (f:=138) rfl ?_);refine goesL_ (some 67) rfl rfl Tryz.func138 (by kernel_rfl) rfl #[.slice Dh Ah.length Dd] rfl (by (try simp only [List.map_toArray,List.map_cons,List.map_nil]);first|done|rfl|(simp only [List.length_drop,List.length_take];rfl)) ?_;refine (trim_own k1 w.heap.size (fun k_=>(w.heap.size≤k_)) _ _ Ah Bd _ ?side1 Eg.out).mono ?_;(case side1=>(with_reducible repeat (first|apply Kd.R_alloc|apply Kd.R_drewN|apply Kd.R_drew));exact Ad.out);rintro e Eh ⟨Dw,rfl,Dj,hb⟩;refine ⟨_,rfl,?_⟩;have Ai:=Aside0.mk Dj;have Di:=Aside0.mk (below_step (by repeat (first|(with_reducible first|exact HB.out|apply below_alloc|apply pw_below_drewN|apply below_drew1)|exact HB.out)) hb);clear Ad;clear HB;have Bu:=Ai;have HB:=Di;clear Ai Di;(try clear hb);(try clear hb2);(try clear hk);(try clear hi);(try clear Dj)))
      go_ret
      exact ⟨_,by first|rfl|(simp [errW_none,errW_some]<;>rfl)|(simp only [← hji3];first|rfl|(simp [errW_none,errW_some]<;>rfl))|(simp [*,errW_none,errW_some]<;>rfl),by (with_reducible repeat (first|apply Kd.R_alloc|apply Kd.R_drewN|apply Kd.R_drew));exact Bu.out,by repeat (first|(with_reducible first|exact HB.out|apply below_alloc|apply pw_below_drewN|apply below_drew1)|exact HB.out)⟩
  ·rw [if_neg c5] at H
   exact absurd H (by simp)
 ·rw [if_neg c4] at H
  exact absurd H (by simp)
theorem ok_len {a:Nat} (h:(numOf a).length≤549755813888):Ok (numOf a):=by
 unfold Ok
 omega
structure BigN (a b:Nat) (l0 l1:List Int) (tp:Int) (n1 f:Nat):Prop where
 n1e:wrap64 ((l1.length:Int) - 1) = (n1:Int)
 n1l:n1 < l1.length
 te:rd l1 (n1:Int) = tp
 wt:IntKind.u64.wrap tp = tp
 wt1:IntKind.u64.wrap (tp + 1) = tp + 1
 tn:tp + 1≠0
 df:Int.tdiv 1000000000 (tp + 1) = (f:Int)
 wf:IntKind.u64.wrap (f:Int) = (f:Int)
 f0:0 < f
 f1:f≤500000000
 k0:∃ k,natural_of.f k (f:Int) = some (numOf f)
 k1:∃ k,natural_num_times.f k l0 (numOf f) = some (numOf (a * f))
 k2:∃ k,natural_num_times.f k l1 (numOf f) = some (numOf (b * f))
 lim:(numOf (a * f)).length < 35184372088832
 ne:(numOf (a * f)).length + 1≠l0.length
 kl:2≤(numOf (b * f)).length
 le:(numOf (b * f)).length≤(numOf (a * f)).length
 bl:(numOf (b * f)).length≤549755813889
 O:OutI ((a * f:Nat):Int) ((numOf (a * f)).length + 1) (numOf (a * f) ++ [0]) (numOf (b * f)) (List.replicate ((numOf (a * f)).length + 1 - (numOf (b * f)).length) 0) ((numOf (a * f)).length + 1 - (numOf (b * f)).length)
theorem len_one {f:Nat} (h0:0 < f) (h1:f < 1000000000):(numOf f).length = 1:=by
 rw [numOf_one h1 h0]
 rfl
theorem bigN {a b:Nat} (hba:b≤a) (h0:(numOf a).length≤549755813888) (h1:2≤(numOf b).length):∃ tp n1 f,BigN a b (numOf a) (numOf b) tp n1 f:=by
 have Ai:=len_mono hba
 have hb:0 < b:=by
  by_cases e:b = 0
  ·rw [e,numOf_zero] at h1
   simp at h1
  ·omega
 have ht:=top_pos b hb
 have hw:=(num_numOf b).1.getD ((numOf b).length - 1)
 rw [BB] at hw
 obtain ⟨t,hte⟩:∃ t:Nat,(numOf b).getD ((numOf b).length - 1) 0 = (t:Int):=⟨((numOf b).getD ((numOf b).length - 1) 0).toNat,by omega⟩
 rw [hte] at ht hw
 have Aa:0 < 1000000000 / (t + 1):=Nat.div_pos (by omega) (by omega)
 have Ab:1000000000 / (t + 1)≤500000000:=by
  have:1000000000 / (t + 1)≤1000000000 / 2:=Nat.div_le_div_left (by omega) (by decide)
  omega
 obtain ⟨f,hf⟩:∃ f,f = 1000000000 / (t + 1):=⟨_,rfl⟩
 rw [← hf] at Aa Ab
 have hlf:=len_one Aa (by omega)
 have Ah:=len_mul a f
 have Ag:=len_mul b f
 have Af:a≤a * f:=Nat.le_mul_of_pos_right a Aa
 have Ae:b≤b * f:=Nat.le_mul_of_pos_right b Aa
 have Ad:b * f≤a * f:=Nat.mul_le_mul_right f hba
 have Ak:=len_mono Af
 have Aj:=len_mono Ae
 have Ac:=len_mono Ad
 refine ⟨t,(numOf b).length - 1,f,?_⟩
 have htd:Int.tdiv 1000000000 ((t:Int) + 1) = (f:Int):=by
  rw [Int.tdiv_eq_ediv_of_nonneg (by decide),hf,Int.natCast_ediv]
  rfl
 refine ⟨w64n (by omega) (by omega),by omega,by rw [rd_eq];exact hte,u64w (by omega) (by omega),u64w (by omega) (by omega),by omega,htd,u64w (by omega) (by omega),Aa,Ab,(of_ev f (by omega)).rounds,(times_ev a f (ok_len h0) (ok_len (by omega))).1.rounds,(times_ev b f (ok_len (by omega)) (ok_len (by omega))).1.rounds,by omega,by omega,by omega,Ac,by omega,?_⟩
 have hz:(0:Int)≤0∧(0:Int) < B:=⟨by decide,B_pos⟩
 refine ⟨(num_numOf _).1.append (Wd.cons hz Wd.nil),(num_numOf _).1,Wd.zeros _,by omega,top_pos _ (by omega),by simp,by rw [List.length_replicate];omega,by rw [List.length_replicate];exact Nat.le_refl _,by omega,?_,?_⟩
 ·rw [val_snoc,val_numOf,List.drop_replicate,Nat.sub_self,List.replicate_zero]
  simp [val]
 ·rw [val_snoc,val_numOf]
  have e1:=lt_len (a * f)
  have e2:B ^ ((numOf (b * f)).length - 1)≤val (numOf (b * f)):=(num_numOf (b * f)).ge (by rw [ne_eq,numOf_nil];omega)
  have e3:=Int.mul_le_mul_of_nonneg_right e2 (Int.le_of_lt (Bpow_pos ((numOf (a * f)).length + 1 - (numOf (b * f)).length)))
  rw [← Bpow_add,show (numOf (b * f)).length - 1 + ((numOf (a * f)).length + 1 - (numOf (b * f)).length) = (numOf (a * f)).length by omega] at e3
  rw [Int.mul_zero,Int.add_zero]
  omega
structure EndN (a b f:Nat) (u v q:List Int):Prop where
 k1:∃ k,natural_num_trim.f k (u.take v.length) = some (numOf (a % b * f))
 k2:∃ k,natural_num_by.f k (numOf (a % b * f)) (f:Int) = some (numOf (a % b),[])
 k3:∃ k,natural_num_trim.f k q = some (numOf (a / b))
 k4:natural_num_small.f (numOf f) = some ((f:Int),true)
 le:v.length≤u.length
theorem endN {a b f lu:Nat} {u q:List Int} (hb:0 < b) (hf0:0 < f) (hf1:f≤500000000) (h0:(numOf a).length≤549755813888) (h1:(numOf b).length≤549755813888) (h:OutI ((a * f:Nat):Int) lu u (numOf (b * f)) q 0):EndN a b f u (numOf (b * f)) q:=by
 have hsm:=h.small
 have hlu:=h.llu
 have hlq:=h.lq
 have heq:=h.eq
 have Ab:=h.low
 rw [List.drop_zero,Int.pow_zero,Int.mul_one,val_numOf] at heq
 rw [Int.pow_zero,Int.mul_one,val_numOf] at Ab
 have Af:=val_nonneg h.wu
 have Ag:=val_nonneg h.wq
 obtain ⟨x,hx⟩:∃ x:Nat,val u = (x:Int):=⟨(val u).toNat,by omega⟩
 obtain ⟨y,hy⟩:∃ y:Nat,val q = (y:Int):=⟨(val q).toNat,by omega⟩
 rw [hx,hy] at heq
 rw [hx] at Ab
 have Ac:a * f = x + b * f * y:=by exact_mod_cast heq
 have Aa:x < b * f:=by exact_mod_cast Ab
 have hbf:0 < b * f:=Nat.mul_pos hb hf0
 have hxe:x = a % b * f:=by
  have:a * f % (b * f) = x:=by rw [Ac,Nat.add_mul_mod_self_left,Nat.mod_eq_of_lt Aa]
  rw [Nat.mul_mod_mul_right] at this
  exact this.symm
 have hye:y = a / b:=by
  have:a * f / (b * f) = y:=by rw [Ac,Nat.add_mul_div_left _ _ hbf,Nat.div_eq_of_lt Aa,Nat.zero_add]
  rw [Nat.mul_div_mul_right _ _ hf0] at this
  exact this.symm
 have hlf:=len_one hf0 (by omega)
 have hlt:val u < B ^ (numOf (b * f)).length:=by
  have:=lt_len (b * f)
  rw [hx]
  omega
 have htk:=(val_high h.wu (numOf (b * f)).length (by omega) hlt).2
 have Ae:trimL (u.take (numOf (b * f)).length) = numOf (a % b * f):=trim_numOf (h.wu.take _) (by rw [← htk,hx,hxe])
 have Ad:trimL q = numOf (a / b):=trim_numOf h.wq (by rw [hy,hye])
 have hm:a % b * f≤b * f:=Nat.mul_le_mul_right f (Nat.le_of_lt (Nat.mod_lt _ hb))
 have Ai:=len_mono hm
 have Ah:=len_mul b f
 refine ⟨?_,?_,?_,?_,by omega⟩
 ·have:=(trim_ev (l:=u.take (numOf (b * f)).length) (by rw [List.length_take];omega)).rounds
  rw [Ae] at this
  exact this
 ·have:=(by_ev (a % b * f) f hf0 (by omega) (show Ok (numOf (a % b * f)) by unfold Ok;omega)).1.rounds
  rw [Nat.mul_div_cancel _ hf0,Nat.mul_mod_left,numOf_zero] at this
  exact this
 ·have:=(trim_ev (l:=q) (by omega)).rounds
  rw [Ad] at this
  exact this
 ·rw [small_eq,if_pos (by omega)]
set_option maxHeartbeats 8000000 in
set_option maxRecDepth 100000 in
theorem divide_less (P0_:Nat→Prop) (A0:Option Addr) (c0:Nat) (l0:List Int) (A1:Option Addr) (c1:Nat) (l1:List Int) (a b:Nat) (w:World) (hs0:Kd.V (Kd.int .u32) 101 w w.heap.size (fun k_=>P0_ k_) (.slice A0 l0.length c0) l0) (hr1:Kd.C (Kd.int .u32) w A1 l1.length l1) (hc1:l1.length≤c1) (h0:l0.length≤549755813888) (h1:l1.length≤549755813888) (e0:l0 = numOf a) (e1:l1 = numOf b) (hb0:0 < b) (hlt:a < b) :
  Calls Tryz.prog 132 #[.slice A0 l0.length c0,.slice A1 l1.length c1] w fun e w'=>∃ v0_ v1_:Value,e = .returned (.tuple #[v0_,v1_])∧Kd.R (Kd.int .u32) 101 w' w.heap.size (fun _=>True) v0_ (numOf (a / b))∧Kd.V (Kd.int .u32) 101 w' w.heap.size (fun k_=>(P0_ k_ ∨ w.heap.size≤k_)∧some k_≠(v0_:Value).ownBlock) v1_ (numOf (a % b))∧Below w.heap.size w w':=by
 have Aa:=(Kd.V_reads' hs0).2.2
 have Ab:=(Kd.V_reads' hs0).2.1
 have Ad:=Aside0.mk hs0
 have Af:=Aside0.mk Aa
 have Ah:=Aside0.mk Ab
 have Ae:=Aside0.mk hr1
 have Ag:=Aside0.mk hc1
 have HB:=Aside0.mk (Below.refl w.heap.size w)
 obtain ⟨kc,A3⟩:∃ k,natural_num_compare.f k l0 l1 = some (ord a b):=by rw [e0,e1];exact (compare_ev a b (ok_len (by rw [← e0];exact h0)) (ok_len (by rw [← e1];exact h1))).1.rounds
 have E0:=Aside0.mk e0
 have E1:=Aside0.mk e1
 clear hs0 Aa Ab hr1 hc1 e0 e1
 obtain ⟨t137,ht⟩:∃ t,ord a b = t:=⟨_,rfl⟩
 rw [ht] at A3
 have Ac:decide (t137 < 0) = true:=by rw [← ht];unfold ord;rw [if_pos hlt];rfl
 have ed:numOf (a / b) = []:=by rw [Nat.div_eq_of_lt hlt,numOf_zero]
 have em:numOf (a % b) = l0:=by rw [Nat.mod_eq_of_lt hlt];exact E0.out.symm
 rw [ed,em]
 replace A3:=Aside0.mk A3
 clear ht ed em
 go_enter Tryz.func132,Tryz.ntmps132
 go_wp2_with (first|((with_reducible refine gate_callee (f:=142) rfl ?_);refine goesL_ (some 33) rfl rfl Tryz.func142 (by kernel_rfl) rfl #[.slice A0 l0.length c0,.slice A1 l1.length c1] rfl (by (try simp only [List.map_toArray,List.map_cons,List.map_nil]);first|done|rfl|(simp only [List.length_drop,List.length_take];rfl)|(simp [*];done)) ?_;(with_reducible refine (natural_num_compare.calls kc _ _ l0 _ _ l1 t137 _ ?side1 ?side2 ?side3 ?side4 A3.out).mono ?_);(case side1=>repeat (first|exact Af.out|(with_reducible refine Kd.C_alloc ?_ _)|(with_reducible refine Kd.C_drewN ?_ _)|(with_reducible refine Kd.C_drew ?_)));(case side2=>exact Ah.out);(case side3=>repeat (first|exact Ae.out|(with_reducible refine Kd.C_alloc ?_ _)|(with_reducible refine Kd.C_drewN ?_ _)|(with_reducible refine Kd.C_drew ?_)));(case side4=>exact Ag.out);rintro e w' ⟨rfl,⟨nd,rfl⟩⟩;refine ⟨_,rfl,?_⟩))
 go_ret2
 refine ⟨_,_,rfl,Kd.R_nil _ _ _ _ _,Kd.V_mono (by (with_reducible repeat (first|apply Kd.V_alloc|apply Kd.V_drewN|apply Kd.V_drew));exact Ad.out) (fun k hk=>⟨.inl hk,by simp [Value.ownBlock]⟩),(by repeat (first|(with_reducible first|exact HB.out|apply below_alloc|apply pw_below_drewN|apply below_drew1)|exact HB.out))⟩
theorem one_word {l1:List Int} {b:Nat} (e:l1 = numOf b) (hb:0 < b) (h:l1.length = 1):b < 1000000000∧rd l1 0 = (b:Int)∧IntKind.u64.wrap (b:Int) = (b:Int):=by
 have h1:=lt_len b
 rw [← e,h,Int.pow_succ,Int.pow_zero,Int.one_mul,BB] at h1
 have h2:b < 1000000000:=by omega
 refine ⟨h2,?_,u64w (by omega) (by omega)⟩
 rw [e,numOf_one h2 hb]
 rfl
set_option maxHeartbeats 8000000 in
set_option maxRecDepth 100000 in
theorem divide_one (P0_:Nat→Prop) (A0:Option Addr) (c0:Nat) (l0:List Int) (A1:Option Addr) (c1:Nat) (l1:List Int) (a b:Nat) (w:World) (hs0:Kd.V (Kd.int .u32) 101 w w.heap.size (fun k_=>P0_ k_) (.slice A0 l0.length c0) l0) (hr1:Kd.C (Kd.int .u32) w A1 l1.length l1) (hc1:l1.length≤c1) (h0:l0.length≤549755813888) (h1:l1.length≤549755813888) (e0:l0 = numOf a) (e1:l1 = numOf b) (hb0:0 < b) (hlt:¬ a < b) (hx0:¬ l0.length≤2) (hx1:l1.length = 1) :
  Calls Tryz.prog 132 #[.slice A0 l0.length c0,.slice A1 l1.length c1] w fun e w'=>∃ v0_ v1_:Value,e = .returned (.tuple #[v0_,v1_])∧Kd.R (Kd.int .u32) 101 w' w.heap.size (fun _=>True) v0_ (numOf (a / b))∧Kd.V (Kd.int .u32) 101 w' w.heap.size (fun k_=>(P0_ k_ ∨ w.heap.size≤k_)∧some k_≠(v0_:Value).ownBlock) v1_ (numOf (a % b))∧Below w.heap.size w w':=by
 have Aj:=(Kd.V_reads' hs0).2.2
 have Am:=(Kd.V_reads' hs0).2.1
 have Au:=Aside0.mk hs0
 have Af:=Aside0.mk Aj
 have Ag:=Aside0.mk Am
 have Ae:=Aside0.mk hr1
 have An:=Aside0.mk hc1
 have HB:=Aside0.mk (Below.refl w.heap.size w)
 obtain ⟨kc,A3⟩:∃ k,natural_num_compare.f k l0 l1 = some (ord a b):=by rw [e0,e1];exact (compare_ev a b (ok_len (by rw [← e0];exact h0)) (ok_len (by rw [← e1];exact h1))).1.rounds
 have E0:=Aside0.mk e0
 have E1:=Aside0.mk e1
 clear hs0 Aj Am hr1 hc1 e0 e1
 obtain ⟨t137,ht⟩:∃ t,ord a b = t:=⟨_,rfl⟩
 rw [ht] at A3
 have Aq:decide (t137 < 0) = false:=decide_eq_false (by rw [← ht];unfold ord;rw [if_neg hlt];split<;>decide)
 replace A3:=Aside0.mk A3
 clear ht
 obtain ⟨t138,t139,A5,rfl⟩:∃ t s,natural_num_small.f l0 = some (t,s)∧s = false:=⟨0,false,by rw [E0.out,small_eq,if_neg (by rw [← E0.out];exact hx0)],rfl⟩
 obtain ⟨t140,t141,A6⟩:∃ t s,natural_num_small.f l1 = some (t,s):=⟨_,_,by rw [E1.out,small_eq,if_pos (by rw [← E1.out,hx1];decide)]⟩
 have hw:=one_word E1.out hb0 hx1
 obtain ⟨kb,AB⟩:∃ k,natural_num_by.f k l0 (b:Int) = some (numOf (a / b),numOf (a % b)):=by rw [E0.out];exact (by_ev a b hb0 (by have:=hw.1;omega) (ok_len (by rw [← E0.out];exact h0))).1.rounds
 replace A5:=Aside0.mk A5
 replace A6:=Aside0.mk A6
 replace AB:=Aside0.mk AB
 obtain ⟨ad,ead,Aa⟩:=Kd.at_int Ae.out 0 (by decide) (by rw [hx1];decide)
 subst ead
 rw [show ((0:Int)).toNat = 0 from rfl,Addr.add_zero'] at Aa
 rw [hw.2.1] at Aa
 have At:((l1.length:Int) == 1) = true:=by rw [hx1];rfl
 have Ap:(0 < (l1.length:Int)) = True:=eq_true (by rw [hx1];decide)
 have Ah:(0 < l1.length) = True:=eq_true (by rw [hx1];decide)
 have wb:IntKind.u64.wrap (b:Int) = (b:Int):=hw.2.2
 clear hx1 hw
 go_enter Tryz.func132,Tryz.ntmps132
 go_wp2_with (first|((with_reducible refine gate_callee (f:=142) rfl ?_);refine goesL_ (some 33) rfl rfl Tryz.func142 (by kernel_rfl) rfl #[.slice A0 l0.length c0,.slice (some ad) l1.length c1] rfl (by (try simp only [List.map_toArray,List.map_cons,List.map_nil]);first|done|rfl|(simp only [List.length_drop,List.length_take];rfl)|(simp [*];done)) ?_;(with_reducible refine (natural_num_compare.calls kc _ _ l0 _ _ l1 t137 _ ?side1 ?side2 ?side3 ?side4 A3.out).mono ?_);(case side1=>repeat (first|exact Af.out|(with_reducible refine Kd.C_alloc ?_ _)|(with_reducible refine Kd.C_drewN ?_ _)|(with_reducible refine Kd.C_drew ?_)));(case side2=>exact Ag.out);(case side3=>repeat (first|exact Ae.out|(with_reducible refine Kd.C_alloc ?_ _)|(with_reducible refine Kd.C_drewN ?_ _)|(with_reducible refine Kd.C_drew ?_)));(case side4=>exact An.out);rintro e w' ⟨rfl,⟨nd,rfl⟩⟩;refine ⟨_,rfl,?_⟩)|((with_reducible refine gate_callee (f:=130) rfl ?_);refine goesL_ (some 38) rfl rfl Tryz.func130 (by kernel_rfl) rfl #[.slice A0 l0.length c0] rfl (by (try simp only [List.map_toArray,List.map_cons,List.map_nil]);first|done|rfl|(simp only [List.length_drop,List.length_take];rfl)|(simp [*];done)) ?_;(with_reducible refine (natural_num_small.calls _ _ l0 t138 false _ ?side1 ?side2 A5.out).mono ?_);(case side1=>repeat (first|exact Af.out|(with_reducible refine Kd.C_alloc ?_ _)|(with_reducible refine Kd.C_drewN ?_ _)|(with_reducible refine Kd.C_drew ?_)));(case side2=>exact Ag.out);rintro e w' ⟨rfl,⟨nd,rfl⟩⟩;refine ⟨_,rfl,?_⟩)|((with_reducible refine gate_callee (f:=130) rfl ?_);refine goesL_ (some 43) rfl rfl Tryz.func130 (by kernel_rfl) rfl #[.slice (some ad) l1.length c1] rfl (by (try simp only [List.map_toArray,List.map_cons,List.map_nil]);first|done|rfl|(simp only [List.length_drop,List.length_take];rfl)|(simp [*];done)) ?_;(with_reducible refine (natural_num_small.calls _ _ l1 t140 t141 _ ?side1 ?side2 A6.out).mono ?_);(case side1=>repeat (first|exact Ae.out|(with_reducible refine Kd.C_alloc ?_ _)|(with_reducible refine Kd.C_drewN ?_ _)|(with_reducible refine Kd.C_drew ?_)));(case side2=>exact An.out);rintro e w' ⟨rfl,⟨nd,rfl⟩⟩;refine ⟨_,rfl,?_⟩)|((with_reducible refine gate_callee (f:=143) rfl ?_);refine goesL_ (some 68) rfl rfl Tryz.func143 (by kernel_rfl) rfl #[.slice A0 l0.length c0,.int .u64 (b:Int)] rfl (by (try simp only [List.map_toArray,List.map_cons,List.map_nil]);first|done|rfl|(simp only [List.length_drop,List.length_take];rfl)|(simp [*];done)) ?_;(with_reducible refine (by_own kb _ _ l0 (b:Int) _ _ _ ?side1 ?side2 AB.out).mono ?_);(case side1=>repeat (first|exact Af.out|(with_reducible refine Kd.C_alloc ?_ _)|(with_reducible refine Kd.C_drewN ?_ _)|(with_reducible refine Kd.C_drew ?_)));(case side2=>exact Ag.out);rintro e As ⟨Ad,Ao,rfl,Al,Ak,hb⟩;refine ⟨_,rfl,?_⟩;have Ac:=Aside0.mk (Kd.R_lower Al (below_size (by repeat (first|(with_reducible first|exact HB.out|apply below_alloc|apply pw_below_drewN|apply below_drew1)|exact HB.out))));have Ab:=Aside0.mk (Kd.V_lower (Kd.V_mono (ok':=fun k_=>(w.heap.size≤k_)∧some k_≠(Ad:Value).ownBlock) Ak (fun k_ hk_=>⟨Nat.le_trans (below_size (by repeat (first|(with_reducible first|exact HB.out|apply below_alloc|apply pw_below_drewN|apply below_drew1)|exact HB.out))) hk_.1,hk_.2⟩)) (below_size (by repeat (first|(with_reducible first|exact HB.out|apply below_alloc|apply pw_below_drewN|apply below_drew1)|exact HB.out))));have Ai:=Aside0.mk (below_step (by repeat (first|(with_reducible first|exact HB.out|apply below_alloc|apply pw_below_drewN|apply below_drew1)|exact HB.out)) hb);clear HB;have HB:=Ai;clear Ai;clear Al Ak hb))
 go_ret2
 refine ⟨_,_,rfl,Kd.R_mono (by (with_reducible repeat (first|apply Kd.R_alloc|apply Kd.R_drewN|apply Kd.R_drew));exact Ac.out) (fun _ _=>trivial),Kd.V_mono Ab.out (fun k hk=>⟨.inr hk.1,hk.2⟩),(by repeat (first|(with_reducible first|exact HB.out|apply below_alloc|apply pw_below_drewN|apply below_drew1)|exact HB.out))⟩
def divide_T6:Bool × List (List Nat × List Nat):=(true,[([],[]),([],[]),([0,1],[0,1]),([2],[2]),([],[]),([],[]),([4,5],[4,5]),([6,3],[6]),([3,7,0,1,2,3],[3]),([7,8,0,1,2,3,4,5,6,7,8],[7])])
def divide_B6:List Nat:=[0,0,3,7,0,0,48,127,255,511]
theorem divide_tab6:rtab .any (opsOf Tryz.f132 6) = divide_T6:=by kernel_rfl
theorem divide_bits6:waitsOk divide_T6.2 divide_B6 = true:=by kernel_rfl
theorem small_words {l:List Int} {a:Nat} (e:l = numOf a) (h:l.length≤2):a < 1000000000000000000:=by
 have h1:=lt_len a
 have h2:=Bpow_le (show (numOf a).length≤2 by rw [← e];exact h)
 rw [show B ^ 2 = 1000000000000000000 by decide] at h2
 omega
set_option maxHeartbeats 8000000 in
set_option maxRecDepth 100000 in
theorem divide_small (P0_:Nat→Prop) (A0:Option Addr) (c0:Nat) (l0:List Int) (A1:Option Addr) (c1:Nat) (l1:List Int) (a b:Nat) (w:World) (hs0:Kd.V (Kd.int .u32) 101 w w.heap.size (fun k_=>P0_ k_) (.slice A0 l0.length c0) l0) (hr1:Kd.C (Kd.int .u32) w A1 l1.length l1) (hc1:l1.length≤c1) (h0:l0.length≤549755813888) (h1:l1.length≤549755813888) (e0:l0 = numOf a) (e1:l1 = numOf b) (hb0:0 < b) (hlt:¬ a < b) (hx0:l0.length≤2) (hx1:l1.length≤2) :
  Calls Tryz.prog 132 #[.slice A0 l0.length c0,.slice A1 l1.length c1] w fun e w'=>∃ v0_ v1_:Value,e = .returned (.tuple #[v0_,v1_])∧Kd.R (Kd.int .u32) 101 w' w.heap.size (fun _=>True) v0_ (numOf (a / b))∧Kd.V (Kd.int .u32) 101 w' w.heap.size (fun k_=>(P0_ k_ ∨ w.heap.size≤k_)∧some k_≠(v0_:Value).ownBlock) v1_ (numOf (a % b))∧Below w.heap.size w w':=by
 have An:=(Kd.V_reads' hs0).2.2
 have Ao:=(Kd.V_reads' hs0).2.1
 have Bf:=Aside0.mk hs0
 have Au:=Aside0.mk An
 have Aw:=Aside0.mk Ao
 have At:=Aside0.mk hr1
 have Av:=Aside0.mk hc1
 have HB:=Aside0.mk (Below.refl w.heap.size w)
 obtain ⟨kc,A3⟩:∃ k,natural_num_compare.f k l0 l1 = some (ord a b):=by rw [e0,e1];exact (compare_ev a b (ok_len (by rw [← e0];exact h0)) (ok_len (by rw [← e1];exact h1))).1.rounds
 have E0:=Aside0.mk e0
 have E1:=Aside0.mk e1
 clear hs0 An Ao hr1 hc1 e0 e1
 obtain ⟨t137,ht⟩:∃ t,ord a b = t:=⟨_,rfl⟩
 rw [ht] at A3
 have Bb:decide (t137 < 0) = false:=decide_eq_false (by rw [← ht];unfold ord;rw [if_neg hlt];split<;>decide)
 replace A3:=Aside0.mk A3
 clear ht
 have Ba:=small_words E0.out hx0
 have Aj:=small_words E1.out hx1
 obtain ⟨t138,h138⟩:∃ t:Int,t = (a:Int):=⟨_,rfl⟩
 obtain ⟨t140,h140⟩:∃ t:Int,t = (b:Int):=⟨_,rfl⟩
 have A5:natural_num_small.f l0 = some (t138,true):=by rw [E0.out,small_eq,if_pos (by rw [← E0.out];exact hx0),h138]
 have A6:natural_num_small.f l1 = some (t140,true):=by rw [E1.out,small_eq,if_pos (by rw [← E1.out];exact hx1),h140]
 have hd:IntKind.u64.wrap (Int.tdiv t138 t140) = ((a / b:Nat):Int):=by
  rw [h138,h140,Int.tdiv_eq_ediv_of_nonneg (Int.natCast_nonneg a),← Int.natCast_ediv]
  have:=Nat.div_le_self a b
  generalize a / b = x at *
  exact u64w (Int.natCast_nonneg _) (by omega)
 have hm:Int.tmod t138 t140 = ((a % b:Nat):Int):=by
  rw [h138,h140,Int.tmod_eq_emod_of_nonneg (Int.natCast_nonneg a),← Int.natCast_emod]
 obtain ⟨k11,Al⟩:∃ k,natural_of.f k (IntKind.u64.wrap (Int.tdiv t138 t140)) = some (numOf (a / b)):=by
  rw [hd]
  exact (of_ev (a / b) (by have:=Nat.div_le_self a b;omega)).rounds
 obtain ⟨k12,Ak⟩:∃ k,natural_of.f k (Int.tmod t138 t140) = some (numOf (a % b)):=by
  rw [hm]
  exact (of_ev (a % b) (by have:=Nat.mod_le a b;omega)).rounds
 replace A5:=Aside0.mk A5
 replace A6:=Aside0.mk A6
 replace Al:=Aside0.mk Al
 replace Ak:=Aside0.mk Ak
 have As:¬ t140 = 0:=by rw [h140];omega
 have Aq:(t140 == 0) = false:=beq_eq_false_iff_ne.mpr As
 have Ap:(t140 != 0) = true:=bne_iff_ne.mpr As
 clear hd hm h138 h140 Ba Aj hx0 hx1
 go_enter Tryz.func132,Tryz.ntmps132
 go_wp2_with (first|((with_reducible refine gate_callee (f:=142) rfl ?_);refine goesL_ (some 33) rfl rfl Tryz.func142 (by kernel_rfl) rfl #[.slice A0 l0.length c0,.slice A1 l1.length c1] rfl (by (try simp only [List.map_toArray,List.map_cons,List.map_nil]);first|done|rfl|(simp only [List.length_drop,List.length_take];rfl)|(simp [*];done)) ?_;(with_reducible refine (natural_num_compare.calls kc _ _ l0 _ _ l1 t137 _ ?side1 ?side2 ?side3 ?side4 A3.out).mono ?_);(case side1=>repeat (first|exact Au.out|(with_reducible refine Kd.C_alloc ?_ _)|(with_reducible refine Kd.C_drewN ?_ _)|(with_reducible refine Kd.C_drew ?_)));(case side2=>exact Aw.out);(case side3=>repeat (first|exact At.out|(with_reducible refine Kd.C_alloc ?_ _)|(with_reducible refine Kd.C_drewN ?_ _)|(with_reducible refine Kd.C_drew ?_)));(case side4=>exact Av.out);rintro e w' ⟨rfl,⟨nd,rfl⟩⟩;refine ⟨_,rfl,?_⟩)|((with_reducible refine gate_callee (f:=130) rfl ?_);refine goesL_ (some 38) rfl rfl Tryz.func130 (by kernel_rfl) rfl #[.slice A0 l0.length c0] rfl (by (try simp only [List.map_toArray,List.map_cons,List.map_nil]);first|done|rfl|(simp only [List.length_drop,List.length_take];rfl)|(simp [*];done)) ?_;(with_reducible refine (natural_num_small.calls _ _ l0 t138 true _ ?side1 ?side2 A5.out).mono ?_);(case side1=>repeat (first|exact Au.out|(with_reducible refine Kd.C_alloc ?_ _)|(with_reducible refine Kd.C_drewN ?_ _)|(with_reducible refine Kd.C_drew ?_)));(case side2=>exact Aw.out);rintro e w' ⟨rfl,⟨nd,rfl⟩⟩;refine ⟨_,rfl,?_⟩)|((with_reducible refine gate_callee (f:=130) rfl ?_);refine goesL_ (some 43) rfl rfl Tryz.func130 (by kernel_rfl) rfl #[.slice A1 l1.length c1] rfl (by (try simp only [List.map_toArray,List.map_cons,List.map_nil]);first|done|rfl|(simp only [List.length_drop,List.length_take];rfl)|(simp [*];done)) ?_;(with_reducible refine (natural_num_small.calls _ _ l1 t140 true _ ?side1 ?side2 A6.out).mono ?_);(case side1=>repeat (first|exact At.out|(with_reducible refine Kd.C_alloc ?_ _)|(with_reducible refine Kd.C_drewN ?_ _)|(with_reducible refine Kd.C_drew ?_)));(case side2=>exact Av.out);rintro e w' ⟨rfl,⟨nd,rfl⟩⟩;refine ⟨_,rfl,?_⟩))
 refine start_ (n:=10) (S:=fun w'=>True) (ds:=[]) #[false,false,false,false,false,false,false,false,false,false] (by kernel_rfl) rfl rfl trivial (fun Ac=>?_);refine with_tabW divide_tab6 divide_bits6 (fun Ab Be=>?_)
 generalize Ag:(World.drewN _ _).drew = Ax
 clear HB
 have HB:Aside0 (Below w.heap.size w Ax):=⟨by rw [← Ag];exact below_drew1 (pw_below_drewN (Below.refl _ _) _)⟩
 clear Ag
 refine pure_ (i:=0) (N:=some 51) (v:=?_) (a':=?_) #[true,false,false,false,false,false,false,false,false,false] rfl rfl (any_of Ab.out (by kernel_rfl)) (fun _ _ _ h=>h) (Or.inl ⟨by rfl,?_⟩) ?_ ?_
 rotate_left
 ·intro w'
  go_simp
  with_reducible rfl
 rotate_left
 ·simp only [Act.put,List.setIfInBounds_toArray,List.set_cons_zero,List.set_cons_succ,i64_w,i32_w]
  rfl
 refine pure_ (i:=1) (N:=some 52) (v:=?_) (a':=?_) #[true,true,false,false,false,false,false,false,false,false] rfl rfl (any_of Ab.out (by kernel_rfl)) (fun _ _ _ h=>h) (Or.inl ⟨by rfl,?_⟩) ?_ ?_
 rotate_left
 ·intro w'
  go_simp
  with_reducible rfl
 rotate_left
 ·simp only [Act.put,List.setIfInBounds_toArray,List.set_cons_zero,List.set_cons_succ,i64_w,i32_w]
  rfl
 refine pure_ (i:=2) (N:=some 53) (v:=?_) (a':=?_) #[true,true,true,false,false,false,false,false,false,false] rfl rfl (any_of Ab.out (by kernel_rfl)) (fun _ _ _ h=>h) (Or.inl ⟨by rfl,?_⟩) ?_ ?_
 rotate_left
 ·intro w'
  go_simp
  with_reducible rfl
 rotate_left
 ·simp only [Act.put,List.setIfInBounds_toArray,List.set_cons_zero,List.set_cons_succ,i64_w,i32_w]
  rfl
 refine pure_ (i:=4) (N:=some 55) (v:=?_) (a':=?_) #[true,true,true,false,true,false,false,false,false,false] rfl rfl (any_of Ab.out (by kernel_rfl)) (fun _ _ _ h=>h) (Or.inl ⟨by rfl,?_⟩) ?_ ?_
 rotate_left
 ·intro w'
  go_simp
  with_reducible rfl
 rotate_left
 ·simp only [Act.put,List.setIfInBounds_toArray,List.set_cons_zero,List.set_cons_succ,i64_w,i32_w]
  rfl
 refine pure_ (i:=5) (N:=some 56) (v:=?_) (a':=?_) #[true,true,true,false,true,true,false,false,false,false] rfl rfl (any_of Ab.out (by kernel_rfl)) (fun _ _ _ h=>h) (Or.inl ⟨by rfl,?_⟩) ?_ ?_
 rotate_left
 ·intro w'
  go_simp
  with_reducible rfl
 rotate_left
 ·simp only [Act.put,List.setIfInBounds_toArray,List.set_cons_zero,List.set_cons_succ,i64_w,i32_w]
  rfl
 refine pure_ (i:=6) (N:=some 57) (v:=?_) (a':=?_) #[true,true,true,false,true,true,true,false,false,false] rfl rfl (any_of Ab.out (by kernel_rfl)) (fun _ _ _ h=>h) (Or.inl ⟨by rfl,?_⟩) ?_ ?_
 rotate_left
 ·intro w'
  go_simp
  with_reducible rfl
 rotate_left
 ·simp only [Act.put,List.setIfInBounds_toArray,List.set_cons_zero,List.set_cons_succ,i64_w,i32_w]
  rfl
 refine one_ (i:=3) (N:=some 54) #[true,true,true,true,true,true,true,false,false,false] rfl rfl (one_of Ab.out (by kernel_rfl)) (by decide) (fun K hK=>?_)
 refine goes_ Tryz.func131 (by kernel_rfl) rfl #[.int .u64 (IntKind.u64.wrap (Int.tdiv t138 t140))] (by rfl) rfl rfl (by (try simp only [List.map_toArray,List.map_cons,List.map_nil]);first|done|rfl|(simp only [List.length_drop,List.length_take];rfl)) ?_
 with_reducible refine (of_own k11 (IntKind.u64.wrap (Int.tdiv t138 t140)) _ _ Al.out).mono ?_
 rintro e Bd ⟨Ai,rfl,Af,hb⟩
 refine ⟨_,rfl,?_⟩
 have Ae:=Aside0.mk (Kd.R_lower (Kd.R_mono (ok':=fun k_=>(w.heap.size≤k_)) Af (fun k_ hk_=>(Nat.le_trans (below_size (by repeat (first|(with_reducible first|exact HB.out|apply below_alloc|apply pw_below_drewN|apply below_drew1)|exact HB.out))) hk_))) (below_size (by repeat (first|(with_reducible first|exact HB.out|apply below_alloc|apply pw_below_drewN|apply below_drew1)|exact HB.out))))
 have Ad:=Aside0.mk (below_step (by repeat (first|(with_reducible first|exact HB.out|apply below_alloc|apply pw_below_drewN|apply below_drew1)|exact HB.out)) hb)
 clear HB
 have Aa:=Ae
 have HB:=Ad
 clear Ae Ad
 (try clear hb)
 (try clear Aj)
 (try clear hk)
 (try clear hi)
 (try clear Af)
 refine hK.out _ _ trivial (fun Ac=>?_)
 clear hK K
 refine norm_ (a':=?_) ?_ ?_
 rotate_left
 ·show Act.put _ (some 54) _ = _
  simp only [Act.put,List.setIfInBounds_toArray,List.set_cons_zero,List.set_cons_succ,i64_w,i32_w]
  rfl
 refine one_ (i:=7) (N:=some 58) #[true,true,true,true,true,true,true,true,false,false] rfl rfl (one_of Ab.out (by kernel_rfl)) (by decide) (fun K hK=>?_)
 refine goes_ Tryz.func131 (by kernel_rfl) rfl #[.int .u64 (Int.tmod t138 t140)] (by rfl) rfl rfl (by (try simp only [List.map_toArray,List.map_cons,List.map_nil]);first|done|rfl|(simp only [List.length_drop,List.length_take];rfl)) ?_
 with_reducible refine (natural_of.calls k12 (Int.tmod t138 t140) _ _ Ak.out).mono ?_
 rintro e Bc ⟨Ay,rfl,Af,hb⟩
 refine ⟨_,rfl,?_⟩
 have Ae:=Aside0.mk (Kd.R_below (by (with_reducible repeat (first|apply Kd.R_alloc|apply Kd.R_drewN|apply Kd.R_drew));exact Aa.out) hb)
 have Ad:=Aside0.mk (Kd.V_lower (Kd.V_mono (ok':=fun k_=>(w.heap.size≤k_)∧some k_≠(Ai:Value).ownBlock) Af (fun k_ hk_=>⟨(Nat.le_trans (below_size (by repeat (first|(with_reducible first|exact HB.out|apply below_alloc|apply pw_below_drewN|apply below_drew1)|exact HB.out))) hk_),Kd.fresh' (Kd.R_lt (by (with_reducible repeat (first|apply Kd.R_alloc|apply Kd.R_drewN|apply Kd.R_drew));exact Aa.out)) k_ hk_⟩)) (below_size (by repeat (first|(with_reducible first|exact HB.out|apply below_alloc|apply pw_below_drewN|apply below_drew1)|exact HB.out))))
 have Am:=Aside0.mk (below_step (by repeat (first|(with_reducible first|exact HB.out|apply below_alloc|apply pw_below_drewN|apply below_drew1)|exact HB.out)) hb)
 clear Aa
 clear HB
 have Aa:=Ae
 have Ah:=Ad
 have HB:=Am
 clear Ae Ad Am
 (try clear hb)
 (try clear Aj)
 (try clear hk)
 (try clear hi)
 (try clear Af)
 refine hK.out _ _ trivial (fun Ac=>?_)
 clear hK K
 refine norm_ (a':=?_) ?_ ?_
 rotate_left
 ·show Act.put _ (some 58) _ = _
  simp only [Act.put,List.setIfInBounds_toArray,List.set_cons_zero,List.set_cons_succ,i64_w,i32_w]
  rfl
 refine pure_ (i:=8) (N:=some 4) (v:=?_) (a':=?_) #[true,true,true,true,true,true,true,true,true,false] rfl rfl (any_of Ab.out (by kernel_rfl)) (fun _ _ _ h=>h) (Or.inl ⟨by rfl,?_⟩) ?_ ?_
 rotate_left
 ·intro w'
  go_simp
  with_reducible rfl
 rotate_left
 ·simp only [Act.put,List.setIfInBounds_toArray,List.set_cons_zero,List.set_cons_succ,i64_w,i32_w]
  rfl
 refine pure_ (i:=9) (N:=some 5) (v:=?_) (a':=?_) #[true,true,true,true,true,true,true,true,true,true] rfl rfl (any_of Ab.out (by kernel_rfl)) (fun _ _ _ h=>h) (Or.inl ⟨by rfl,?_⟩) ?_ ?_
 rotate_left
 ·intro w'
  go_simp
  with_reducible rfl
 rotate_left
 ·simp only [Act.put,List.setIfInBounds_toArray,List.set_cons_zero,List.set_cons_succ,i64_w,i32_w]
  rfl
 refine done_ (done_of Ab.out (by kernel_rfl)) ?_
 try go_wp2
 go_ret2
 exact ⟨_,_,rfl,Kd.R_mono (by (with_reducible repeat (first|apply Kd.R_alloc|apply Kd.R_drewN|apply Kd.R_drew));exact Aa.out) (fun _ _=>trivial),Kd.V_mono Ah.out (fun k hk=>⟨.inr hk.1,hk.2⟩),(by repeat (first|(with_reducible first|exact HB.out|apply below_alloc|apply pw_below_drewN|apply below_drew1)|exact HB.out))⟩
set_option maxHeartbeats 8000000 in
set_option maxRecDepth 100000 in
theorem divide_big (P0_:Nat→Prop) (A0:Option Addr) (c0:Nat) (l0:List Int) (A1:Option Addr) (c1:Nat) (l1:List Int) (a b:Nat) (w:World) (hs0:Kd.V (Kd.int .u32) 101 w w.heap.size (fun k_=>P0_ k_) (.slice A0 l0.length c0) l0) (hr1:Kd.C (Kd.int .u32) w A1 l1.length l1) (hc1:l1.length≤c1) (h0:l0.length≤549755813888) (h1:l1.length≤549755813888) (e0:l0 = numOf a) (e1:l1 = numOf b) (hb0:0 < b) (hlt:¬ a < b) (hx0:¬ l0.length≤2) (hx1:2≤l1.length) :
  Calls Tryz.prog 132 #[.slice A0 l0.length c0,.slice A1 l1.length c1] w fun e w'=>∃ v0_ v1_:Value,e = .returned (.tuple #[v0_,v1_])∧Kd.R (Kd.int .u32) 101 w' w.heap.size (fun _=>True) v0_ (numOf (a / b))∧Kd.V (Kd.int .u32) 101 w' w.heap.size (fun k_=>(P0_ k_ ∨ w.heap.size≤k_)∧some k_≠(v0_:Value).ownBlock) v1_ (numOf (a % b))∧Below w.heap.size w w':=by
 have Bp:=(Kd.V_reads' hs0).2.2
 have Br:=(Kd.V_reads' hs0).2.1
 have Ky:=Aside0.mk hs0
 have Bh:=Aside0.mk Bp
 have Bj:=Aside0.mk Br
 have Aw:=Aside0.mk hr1
 have Bi:=Aside0.mk hc1
 have HB:=Aside0.mk (Below.refl w.heap.size w)
 obtain ⟨kc,A3⟩:∃ k,natural_num_compare.f k l0 l1 = some (ord a b):=by rw [e0,e1];exact (compare_ev a b (ok_len (by rw [← e0];exact h0)) (ok_len (by rw [← e1];exact h1))).1.rounds
 have E0:=Aside0.mk e0
 have E1:=Aside0.mk e1
 clear hs0 Bp Br hr1 hc1 e0 e1
 obtain ⟨t137,ht⟩:∃ t,ord a b = t:=⟨_,rfl⟩
 rw [ht] at A3
 have Ju:decide (t137 < 0) = false:=decide_eq_false (by rw [← ht];unfold ord;rw [if_neg hlt];split<;>decide)
 replace A3:=Aside0.mk A3
 clear ht
 obtain ⟨t138,A5⟩:∃ t,natural_num_small.f l0 = some (t,false):=⟨0,by rw [E0.out,small_eq,if_neg (by rw [← E0.out];exact hx0)]⟩
 obtain ⟨t140,t141,A6⟩:∃ t s,natural_num_small.f l1 = some (t,s):=by rw [E1.out,small_eq];split<;>exact ⟨_,_,rfl⟩
 obtain ⟨tp,n1,f,N⟩:=bigN (Nat.not_lt.1 hlt) (by rw [← E0.out];exact h0) (by rw [← E1.out];exact hx1)
 rw [← E0.out,← E1.out] at N
 obtain ⟨vv,hvv⟩:∃ v,v = numOf (b * f):=⟨_,rfl⟩
 obtain ⟨uu,huu⟩:∃ u,u = numOf (a * f) ++ [0]:=⟨_,rfl⟩
 have hul:uu.length = (numOf (a * f)).length + 1:=by rw [huu];simp
 obtain ⟨nq,hnq⟩:∃ n,n = (numOf (a * f)).length + 1 - (numOf (b * f)).length:=⟨_,rfl⟩
 obtain ⟨qq,hqq⟩:∃ q:List Int,q = List.replicate nq 0:=⟨_,rfl⟩
 have hql:qq.length = nq:=by rw [hqq,List.length_replicate]
 have hO:=N.O
 have As:=N.lim
 have hle:=N.le
 have hne:=N.ne
 have hkl:=N.kl
 rw [← hnq,← hul,← huu,← hqq,← hvv,← hql] at hO
 rw [← hvv] at hkl hle hnq
 obtain ⟨kf,Bm⟩:=N.k0
 obtain ⟨Jn,Bl⟩:=N.k1
 obtain ⟨Jm,Ax⟩:=N.k2
 rw [← hvv] at Ax
 have hnw:wrap64 ((uu.length:Int) - (vv.length:Int)) = (nq:Int):=w64n (by omega) (by omega)
 have Js:IntKind.i64.wrap ((uu.length:Int) - (vv.length:Int)) = (nq:Int):=(i64_w _).trans hnw
 have hz:wrap64 ((qq.length:Int) - 1) = (qq.length:Int) - 1:=w64 (by omega) (by omega)
 have LU:Aside0 (0 < uu.length):=⟨by omega⟩
 have LV:Aside0 (0 < vv.length):=⟨by omega⟩
 have LQ:Aside0 ((nq:Int).toNat≤70368744177664):=⟨by rw [Int.toNat_natCast];omega⟩
 have Jw:Aside0 (0 < qq.length):=⟨by omega⟩
 have LM:=Aside0.mk As
 have Bv:((uu.length:Int) == (l0.length:Int)) = false:=beq_eq_false_iff_ne.mpr (by omega)
 have Bu:(uu.length == l0.length) = false:=beq_eq_false_iff_ne.mpr (by omega)
 have Kx:((l1.length:Int) == 1) = false:=beq_eq_false_iff_ne.mpr (by omega)
 have Jv:¬ l1.length = 1:=by omega
 have Jj:(0≤(n1:Int)) = True:=eq_true (Int.natCast_nonneg _)
 have n1l:=N.n1l
 have Ji:((n1:Int) < (l1.length:Int)) = True:=eq_true (by omega)
 have Bn:(n1 < l1.length) = True:=eq_true n1l
 obtain ⟨ad,ead,At⟩:=Kd.at_int Aw.out (n1:Int) (Int.natCast_nonneg _) (by omega)
 subst ead
 rw [Int.toNat_natCast,N.te] at At
 have e1:=N.n1e
 have Kw:IntKind.i64.wrap ((l1.length:Int) - 1) = (n1:Int):=(i64_w _).trans N.n1e
 have e2:=N.wt
 have e3:=N.wt1
 have e4:(tp + 1 == 0) = false:=beq_eq_false_iff_ne.mpr N.tn
 have Kv:(tp + 1 != 0) = true:=bne_iff_ne.mpr N.tn
 have Ku:=N.tn
 have e5:=N.df
 have e6:=N.wf
 have F0:=Aside0.mk N.f0
 have F1:=Aside0.mk N.f1
 have Nu:=Aside0.mk huu
 have Nq:=Aside0.mk hqq
 have Nv:=Aside0.mk hvv
 have NO:=Aside0.mk hO
 have NQ:=Aside0.mk hql
 replace A5:=Aside0.mk A5
 replace A6:=Aside0.mk A6
 replace Bm:=Aside0.mk Bm
 replace Bl:=Aside0.mk Bl
 replace Ax:=Aside0.mk Ax
 replace hz:=Aside0.mk hz
 clear N huu hqq hvv hO hql As hle hne hkl hnq hul hx0 hx1 n1l
 go_enter Tryz.func132,Tryz.ntmps132
 go_wp2_with (first|((with_reducible refine gate_callee (f:=142) rfl ?_);refine goesL_ (some 33) rfl rfl Tryz.func142 (by kernel_rfl) rfl #[.slice A0 l0.length c0,.slice (some ad) l1.length c1] rfl (by (try simp only [List.map_toArray,List.map_cons,List.map_nil]);first|done|rfl|(simp only [List.length_drop,List.length_take];rfl)|(simp [*];done)) ?_;(with_reducible refine (natural_num_compare.calls kc _ _ l0 _ _ l1 t137 _ ?side1 ?side2 ?side3 ?side4 A3.out).mono ?_);(case side1=>repeat (first|exact Bh.out|(with_reducible refine Kd.C_alloc ?_ _)|(with_reducible refine Kd.C_drewN ?_ _)|(with_reducible refine Kd.C_drew ?_)));(case side2=>exact Bj.out);(case side3=>repeat (first|exact Aw.out|(with_reducible refine Kd.C_alloc ?_ _)|(with_reducible refine Kd.C_drewN ?_ _)|(with_reducible refine Kd.C_drew ?_)));(case side4=>exact Bi.out);rintro e w' ⟨rfl,⟨nd,rfl⟩⟩;refine ⟨_,rfl,?_⟩)|((with_reducible refine gate_callee (f:=130) rfl ?_);refine goesL_ (some 38) rfl rfl Tryz.func130 (by kernel_rfl) rfl #[.slice A0 l0.length c0] rfl (by (try simp only [List.map_toArray,List.map_cons,List.map_nil]);first|done|rfl|(simp only [List.length_drop,List.length_take];rfl)|(simp [*];done)) ?_;(with_reducible refine (natural_num_small.calls _ _ l0 t138 false _ ?side1 ?side2 A5.out).mono ?_);(case side1=>repeat (first|exact Bh.out|(with_reducible refine Kd.C_alloc ?_ _)|(with_reducible refine Kd.C_drewN ?_ _)|(with_reducible refine Kd.C_drew ?_)));(case side2=>exact Bj.out);rintro e w' ⟨rfl,⟨nd,rfl⟩⟩;refine ⟨_,rfl,?_⟩)|((with_reducible refine gate_callee (f:=130) rfl ?_);refine goesL_ (some 43) rfl rfl Tryz.func130 (by kernel_rfl) rfl #[.slice (some ad) l1.length c1] rfl (by (try simp only [List.map_toArray,List.map_cons,List.map_nil]);first|done|rfl|(simp only [List.length_drop,List.length_take];rfl)|(simp [*];done)) ?_;(with_reducible refine (natural_num_small.calls _ _ l1 t140 t141 _ ?side1 ?side2 A6.out).mono ?_);(case side1=>repeat (first|exact Aw.out|(with_reducible refine Kd.C_alloc ?_ _)|(with_reducible refine Kd.C_drewN ?_ _)|(with_reducible refine Kd.C_drew ?_)));(case side2=>exact Bi.out);rintro e w' ⟨rfl,⟨nd,rfl⟩⟩;refine ⟨_,rfl,?_⟩)|((with_reducible refine gate_callee (f:=131) rfl ?_);refine goesL_ (some 80) rfl rfl Tryz.func131 (by kernel_rfl) rfl #[.int .u64 (f:Int)] rfl (by (try simp only [List.map_toArray,List.map_cons,List.map_nil]);first|done|rfl|(simp only [List.length_drop,List.length_take];rfl)|(simp [*];done)) ?_;(with_reducible refine (natural_of.calls kf (f:Int) (numOf f) _ Bm.out).mono ?_);rintro e Kt ⟨Jh,rfl,Af,hb⟩;refine ⟨_,rfl,?_⟩;have Ae:=Aside0.mk (Kd.V_lower (Kd.V_mono (ok':=fun k_=>(w.heap.size≤k_)) Af (fun k_ hk_=>(Nat.le_trans (below_size (by repeat (first|(with_reducible first|exact HB.out|apply below_alloc|apply pw_below_drewN|apply below_drew1)|exact HB.out))) hk_))) (below_size (by repeat (first|(with_reducible first|exact HB.out|apply below_alloc|apply pw_below_drewN|apply below_drew1)|exact HB.out))));have Ad:=Aside0.mk (below_step (by repeat (first|(with_reducible first|exact HB.out|apply below_alloc|apply pw_below_drewN|apply below_drew1)|exact HB.out)) hb);clear HB;have Aa:=Ae;have HB:=Ad;clear Ae Ad Af hb;obtain ⟨An,Am,Bf⟩:=Kd.V_slice Aa.out;subst Bf)|((with_reducible refine gate_callee (f:=144) rfl ?_);refine goesL_ (some 83) rfl rfl Tryz.func144 (by kernel_rfl) rfl #[.slice A0 l0.length c0,.slice An (numOf f).length Am] rfl (by (try simp only [List.map_toArray,List.map_cons,List.map_nil]);first|done|rfl|(simp only [List.length_drop,List.length_take];rfl)|(simp [*];done)) ?_;(with_reducible refine (times_own Jn _ _ l0 _ _ (numOf f) (numOf (a * f)) _ ?side1 ?side2 ?side3 ?side4 Bl.out).mono ?_);(case side1=>repeat (first|exact (Kd.C_below Bh.out HB.out)|(with_reducible refine Kd.C_alloc ?_ _)|(with_reducible refine Kd.C_drewN ?_ _)|(with_reducible refine Kd.C_drew ?_)));(case side2=>exact Bj.out);(case side3=>repeat (first|exact (Kd.V_reads' Aa.out).2.2|(with_reducible refine Kd.C_alloc ?_ _)|(with_reducible refine Kd.C_drewN ?_ _)|(with_reducible refine Kd.C_drew ?_)));(case side4=>exact (Kd.V_reads' Aa.out).2.1);rintro e Ks ⟨Ay,rfl,Af,hb⟩;refine ⟨_,rfl,?_⟩;have Ae:=Aside0.mk (Kd.V_elder' (by (with_reducible repeat (first|apply Kd.V_alloc|apply Kd.V_drewN|apply Kd.V_drew));exact Aa.out) (Kd.R_base Af) hb);have Ad:=Aside0.mk (Kd.R_mono (Kd.R_lower Af (below_size (by repeat (first|(with_reducible first|exact HB.out|apply below_alloc|apply pw_below_drewN|apply below_drew1)|exact HB.out)))) (ok':=fun k_=>(w.heap.size≤k_)) (fun k_ h_=>Nat.le_trans (below_size (by repeat (first|(with_reducible first|exact HB.out|apply below_alloc|apply pw_below_drewN|apply below_drew1)|exact HB.out))) h_));have Ag:=Aside0.mk (below_step (by repeat (first|(with_reducible first|exact HB.out|apply below_alloc|apply pw_below_drewN|apply below_drew1)|exact HB.out)) hb);clear Aa;clear HB;have Aa:=Ae;have Al:=Ad;have HB:=Ag;clear Ae Ad Ag Af hb)|((with_reducible refine gate_builtin (b:=.append) (xs:=#[.tmp 83,.tmp 84]) rfl ?_);at_builtin;refine Kd.R_append (Kd.int .u32) (w0:=w) w.heap.size rfl (.tmp 83) (.tmp 84) 161 101 (.int .u32 0) 4 rfl Tryz.underlying161 info101 rfl (by decide) (by omega) Ay (numOf (a * f)) 0 [.int .u32 0] (fun k_=>(w.heap.size≤k_)) (fun _=>False) rfl rfl ?aP (fun _ hk=>hk.elim) ?aF ?aO ?aB ?aS ?aL ?_;(case aP=>exact rfl);(case aB=>exact (by repeat (first|(with_reducible first|exact HB.out|apply below_alloc|apply pw_below_drewN|apply below_drew1)|exact HB.out)));(case aF=>exact (fun k_ hk=>(Nat.le_trans (below_size (by repeat (first|(with_reducible first|exact HB.out|apply below_alloc|apply pw_below_drewN|apply below_drew1)|exact HB.out))) hk)));(case aO=>exact (by (with_reducible repeat (first|apply Kd.R_alloc|apply Kd.R_drewN|apply Kd.R_drew));exact Al.out));(case aS=>exact (below_size (by repeat (first|(with_reducible first|exact HB.out|apply below_alloc|apply pw_below_drewN|apply below_drew1)|exact HB.out))));(case aL=>have:=LM.out;omega);intro Jg Kr ho hb hg hat;rw [← Nu.out] at ho;have Ae:=Aside0.mk (Kd.V_afterv (ok:=(fun k_=>(w.heap.size≤k_))) (by (with_reducible repeat (first|apply Kd.V_alloc|apply Kd.V_drewN|apply Kd.V_drew));exact Aa.out) hg hat);have Ad:=Aside0.mk (hb);have Ag:=Aside0.mk (ho);clear Aa;clear HB;clear Al;have Aa:=Ae;have HB:=Ad;have Ab:=Ag;clear Ae Ad Ag;clear ho hb hg hat)|((with_reducible refine gate_callee (f:=144) rfl ?_);refine goesL_ (some 88) rfl rfl Tryz.func144 (by kernel_rfl) rfl #[.slice (some ad) l1.length c1,.slice An (numOf f).length Am] rfl (by (try simp only [List.map_toArray,List.map_cons,List.map_nil]);first|done|rfl|(simp only [List.length_drop,List.length_take];rfl)|(simp [*];done)) ?_;(with_reducible refine (times_own Jm _ _ l1 _ _ (numOf f) vv _ ?side1 ?side2 ?side3 ?side4 Ax.out).mono ?_);(case side1=>repeat (first|exact (Kd.C_below Aw.out HB.out)|(with_reducible refine Kd.C_alloc ?_ _)|(with_reducible refine Kd.C_drewN ?_ _)|(with_reducible refine Kd.C_drew ?_)));(case side2=>exact Bi.out);(case side3=>repeat (first|exact (Kd.V_reads' Aa.out).2.2|(with_reducible refine Kd.C_alloc ?_ _)|(with_reducible refine Kd.C_drewN ?_ _)|(with_reducible refine Kd.C_drew ?_)));(case side4=>exact (Kd.V_reads' Aa.out).2.1);rintro e Kq ⟨Jf,rfl,Af,hb⟩;refine ⟨_,rfl,?_⟩;have Ae:=Aside0.mk (Kd.V_elder' (by (with_reducible repeat (first|apply Kd.V_alloc|apply Kd.V_drewN|apply Kd.V_drew));exact Aa.out) (Kd.R_base Af) hb);have Ad:=Aside0.mk (Kd.R_elder' (by (with_reducible repeat (first|apply Kd.R_alloc|apply Kd.R_drewN|apply Kd.R_drew));exact Ab.out) (Kd.R_base Af) hb);have Ag:=Aside0.mk (Kd.R_lower (Kd.R_new' (Kd.R_newM (M:=fun k_=>(w.heap.size≤k_)) Af (below_size (by repeat (first|(with_reducible first|exact HB.out|apply below_alloc|apply pw_below_drewN|apply below_drew1)|exact HB.out))) (fun k_ h_=>h_)) (Kd.R_lt (by (with_reducible repeat (first|apply Kd.R_alloc|apply Kd.R_drewN|apply Kd.R_drew));exact Ab.out))) (below_size (by repeat (first|(with_reducible first|exact HB.out|apply below_alloc|apply pw_below_drewN|apply below_drew1)|exact HB.out))));have Ap:=Aside0.mk (below_step (by repeat (first|(with_reducible first|exact HB.out|apply below_alloc|apply pw_below_drewN|apply below_drew1)|exact HB.out)) hb);clear Aa;clear Ab;clear HB;have Aa:=Ae;have Ab:=Ad;have Ac:=Ag;have HB:=Ap;clear Ae Ad Ag Ap Af hb;obtain ⟨gv,cv,ev,Bc,Bb,Ba⟩:=Kd.R_form Ac.out LV.out;subst ev;obtain ⟨gu,cu,eu,Jq,Jp,Jo⟩:=Kd.R_form Ab.out LU.out;subst eu;clear Bc Bb Ba Jq Jp Jo)|((with_reducible refine gate_dst (N:=103) rfl ?_);refine Kd.R_make (Kd.int .u32) _ 101 rfl (N:=103) rfl 161 _ _ rfl (nq:Int) rfl rfl Tryz.underlying161 (.int .u32 0) 4 info101 rfl (by decide) (by omega) 0 (ok:=fun _=>True) (okp:=fun _=>True) rfl (fun _ hk=>hk) trivial (Int.natCast_nonneg _) (Nat.le_trans (Nat.mul_le_mul_right _ LQ.out) (by omega)) (Below.refl _ _) (Nat.le_refl _) ?_;intro Je Ao Ah hb Jt Aq;clear Jt Aq;rw [Int.toNat_natCast,← Nq.out] at Ah;have Ae:=Aside0.mk (Kd.R_elder' (by (with_reducible repeat (first|apply Kd.R_alloc|apply Kd.R_drewN|apply Kd.R_drew));exact Ab.out) (Kd.R_base Ah) hb);have Ad:=Aside0.mk (Kd.R_elder' (by (with_reducible repeat (first|apply Kd.R_alloc|apply Kd.R_drewN|apply Kd.R_drew));exact Ac.out) (Kd.R_base Ah) hb);have Ag:=Aside0.mk (Kd.R_lower (Kd.R_new' (Kd.R_new' (Kd.R_newM (M:=fun k_=>(w.heap.size≤k_)) Ah (below_size (by repeat (first|(with_reducible first|exact HB.out|apply below_alloc|apply pw_below_drewN|apply below_drew1)|exact HB.out))) (fun k_ h_=>h_)) (Kd.R_lt (by (with_reducible repeat (first|apply Kd.R_alloc|apply Kd.R_drewN|apply Kd.R_drew));exact Ab.out))) (Kd.R_lt (by (with_reducible repeat (first|apply Kd.R_alloc|apply Kd.R_drewN|apply Kd.R_drew));exact Ac.out))) (below_size (by repeat (first|(with_reducible first|exact HB.out|apply below_alloc|apply pw_below_drewN|apply below_drew1)|exact HB.out))));have Bo:=Aside0.mk (Kd.V_elder' (by (with_reducible repeat (first|apply Kd.V_alloc|apply Kd.V_drewN|apply Kd.V_drew));exact Aa.out) (Kd.R_base Ah) hb);have Ap:=Aside0.mk (below_step (by repeat (first|(with_reducible first|exact HB.out|apply below_alloc|apply pw_below_drewN|apply below_drew1)|exact HB.out)) hb);clear Ab;clear Ac;clear HB;clear Aa;have Ab:=Ae;have Ac:=Ad;have Aj:=Ag;have Aa:=Bo;have HB:=Ap;clear Ae Ad Ag Ap Bo hb Ah;obtain ⟨gq,cq,eq,Bc,Bb,Ba⟩:=Kd.R_form Aj.out Jw.out;subst eq;clear Bc Bb Ba))
 have Jy:=Aside0.mk (show w.heap.size≤Ao.heap.size from below_size HB.out)
 have HCU:=Aside0.mk (show vv.length≤cu by have h1:=(Kd.R_reads' Ab.out).2.1;have h2:=NO.out.lq;omega)
 have hap:=Ab.out.1 gu rfl
 have Au:=Ac.out.1 gv rfl
 have hD:DW w.heap.size Ao Ao gu cu gv cv gq cq uu vv qq:=⟨Rw.of Ab.out,Rw.of Ac.out,Rw.of Aj.out,ne_own hap.1.2,ne_own hap.2,ne_own Au.2,Below.refl _ _,fun _ _ _ _=>rfl⟩
 clear hap Au Ab Ac Aj
 refine outer_loop _ _ w.heap.size Ao Ao gu cu gv cv gq cq uu.length qq.length uu vv qq ((a * f:Nat):Int) _ _ _ _ _ _ _ _ _ _ _ _ _ _ _ _ _ _ _ _ _ _ _ _ _ _ _ _ _ _ _ _ _ _ _ _ _ _ _ _ _ _ _ _ _ _ _ _ _ _ _ _ _ _ _ _ _ _ _ _ _ _ _ _ _ _ _ _ _ _ _ _ _ _ _ _ _ _ _ _ _ _ _ _ _ _ _ _ _ _ _ _ _ _ _ _ _ _ _ _ _ _ _ _ _ _ _ _ _ _ _ _ _ _ _ _ _ _ _ _ _ _ _ _ _ _ _ _ _ _ _ _ _ _ _ _ _ _ _ _ _ _ _ _ _ _ _ _ _ _ _ _ _ _ _ _ _ _ _ _ _ _ _ _ _ _ _ _ _ _ _ _ _ _ _ _ _ _ _ _ _ _ _ _ _ _ _ _ _ _ _ _ _ _ _ _ _ _ _ _ _ _ _ _ _ _ _ _ _ _ _ _ _ _ _ _ _ _ _ _ _ _ _ _ _ _ _ _ _ _ _ _ _ _ _ _ _ _ _ _ _ _ _ _ _ _ _ _ _ _ _ _ _ _ _ _ _ _ _ _ _ _ _ _ _ _ _ _ _ _ _ _ _ _ _ _ _ _ _ _ _ _ _ _ _ _ _ _ _ _ _ _ _ _ _ hz.out rfl NO.out hD ?_
 intro W u2 q2 Km Kl Kk Kj Ki Kh Kg Kf Ke Kb Ka Jz Iz Iy Ix Iw Iv Iu It Ir Iq Ip Io Im Il Ik Ij Ii Ih Ig Ie Id Ic Ib Ia Hz Hy Hx Hw Hv Hu Ht Hs Hr Hq Hp Ho Hn Hm Hl Hk Hj Hi Hh Hg Hf He Hd Hb Ha Gz Gy Gx Gw Gv Gu Gt Gs Gr Gq Gp Gn Gm Gl Gk Gj Gi Gh Gg Gf Ge Gd Gc Gb Ga Fz Fy Fx Fw Fv Fu Ft Fs Fr Fq Fp Fo Fm Fl Fk Fj Fi Fh Fg Ff Fe Fd Fc Fb Fa Ez Ey Ex Ew Eu Et Es Er Ep Eo Em El Ek Ej Ei Eh Eg Ef Ee Ed Ec Eb Ea Dz Dy Dx Dw Dv Du Dt Ds Dr Dq Dp Do Dn Dm Dl Dk Dj Di Dh Dg Df De Dd Dc Db Da Cz Cy Cx Cw Cv Cu Ct Cs Cr Cq Cp Co Cn Cm Cl Ck Cj Ci Ch Cg Cf Ce Cc Cb Ca Bz By Bx Av Bt Bq
 have hcu:vv.length≤cu:=HCU.out
 have EN:EndN a b f u2 vv q2:=by
  have h:=Bt
  rw [Nv.out] at h ⊢
  exact endN hb0 F0.out F1.out (by rw [← E0.out];exact h0) (by rw [← E1.out];exact h1) h
 have hle:=EN.le
 have htl:(u2.take vv.length).length = vv.length:=by rw [List.length_take];exact Nat.min_eq_left hle
 have HF:=Aside0.mk (Kd.V_mono (ok':=fun k=>w.heap.size≤k) (Kd.V_step Aa.out (fun k hk hlt=>Av.rest k (ne_own hk.1.1.2) (ne_own hk.2) hlt)) (fun k hk=>hk.1.1.1))
 have hT:=R_take Av.ru hle
 rw [← htl] at hT
 rw [List.take_eq_take_iff.2 (show min (u2.take vv.length).length u2.length = min vv.length u2.length by rw [htl])] at hT
 have HT:=Aside0.mk hT
 have HTL:=Aside0.mk htl
 have HQL:=Aside0.mk Bq
 have HQQ:=Aside0.mk (show Kd.R (Kd.int .u32) 101 W w.heap.size (fun k=>k = gq) (.slice (some ⟨gq,0,none⟩) q2.length cq) q2 from Av.rq)
 have Bw:=Aside0.mk (HB.out.trans Av.below)
 obtain ⟨Jl,M1⟩:=EN.k1
 obtain ⟨k52,M2⟩:=EN.k2
 obtain ⟨Jk,M3⟩:=EN.k3
 have M4:=EN.k4
 replace M1:=Aside0.mk M1
 replace M2:=Aside0.mk M2
 replace M3:=Aside0.mk M3
 replace M4:=Aside0.mk M4
 clear HB Av Bt Bq EN hle htl hT Aa
 have HB:=Bw
 clear Bw
 go_wp2_with (first|((with_reducible refine gate_callee (f:=130) rfl ?_);refine goesL_ (some 284) rfl rfl Tryz.func130 (by kernel_rfl) rfl #[.slice An (numOf f).length Am] rfl (by (try simp only [List.map_toArray,List.map_cons,List.map_nil]);first|done|rfl|(simp only [List.length_drop,List.length_take];rfl)|(simp [*];done)) ?_;(with_reducible refine (natural_num_small.calls _ _ (numOf f) (f:Int) true _ ?side1 ?side2 M4.out).mono ?_);(case side1=>repeat (first|exact (Kd.V_reads' HF.out).2.2|(with_reducible refine Kd.C_alloc ?_ _)|(with_reducible refine Kd.C_drewN ?_ _)|(with_reducible refine Kd.C_drew ?_)));(case side2=>exact (Kd.V_reads' HF.out).2.1);rintro e w' ⟨rfl,⟨nd,rfl⟩⟩;refine ⟨_,rfl,?_⟩)|((with_reducible refine gate_callee (f:=138) rfl ?_);refine goesL_ (some 291) rfl rfl Tryz.func138 (by kernel_rfl) rfl #[.slice (some ⟨gu,0,none⟩) (u2.take vv.length).length cu] rfl (by (try simp only [List.map_toArray,List.map_cons,List.map_nil]);first|(rw [HTL.out];done)|(rw [HTL.out];rfl)|(simp only [HTL.out];rfl)|rfl) ?_;(with_reducible refine (trim_own Jl w.heap.size (fun k_=>k_ = gu) _ _ (u2.take vv.length) (numOf (a % b * f)) _ ?side1 M1.out).mono ?_);(case side1=>exact (by (with_reducible repeat (first|apply Kd.R_alloc|apply Kd.R_drewN|apply Kd.R_drew));exact HT.out));rintro e Kp ⟨Jd,rfl,Af,hb⟩;refine ⟨_,rfl,?_⟩;have Ae:=Aside0.mk (Kd.R_below (by (with_reducible repeat (first|apply Kd.R_alloc|apply Kd.R_drewN|apply Kd.R_drew));exact HQQ.out) hb);have Ad:=Aside0.mk (below_step (by repeat (first|(with_reducible first|exact HB.out|apply below_alloc|apply pw_below_drewN|apply below_drew1)|exact HB.out)) hb);have Ai:=Aside0.mk Af;clear HQQ HB;have HQQ:=Ae;have HB:=Ad;clear Ae Ad Af hb;obtain ⟨Bk,Bg,Be⟩:=Kd.R_slice Ai.out;subst Be)|((with_reducible refine gate_callee (f:=143) rfl ?_);refine goesL_ (some 293) rfl rfl Tryz.func143 (by kernel_rfl) rfl #[.slice Bk (numOf (a % b * f)).length Bg,.int .u64 (f:Int)] rfl (by (try simp only [List.map_toArray,List.map_cons,List.map_nil]);first|done|rfl|(simp only [List.length_drop,List.length_take];rfl)|(simp [*];done)) ?_;(with_reducible refine (natural_num_by.calls k52 _ _ (numOf (a % b * f)) (f:Int) _ _ _ ?side1 ?side2 M2.out).mono ?_);(case side1=>repeat (first|exact (Kd.R_reads' Ai.out).2.2|(with_reducible refine Kd.C_alloc ?_ _)|(with_reducible refine Kd.C_drewN ?_ _)|(with_reducible refine Kd.C_drew ?_)));(case side2=>exact (Kd.R_reads' Ai.out).2.1);rintro e Ko ⟨Jc,Jb,rfl,Af,Jr,hb⟩;refine ⟨_,rfl,?_⟩;have Ae:=Aside0.mk (Kd.R_below (by (with_reducible repeat (first|apply Kd.R_alloc|apply Kd.R_drewN|apply Kd.R_drew));exact HQQ.out) hb);have Ag:=Aside0.mk (Kd.V_lower (Kd.V_mono (ok':=fun k_=>(w.heap.size≤k_)∧some k_≠(.slice (some ⟨gq,0,none⟩) q2.length cq:Value).ownBlock) Af (fun k_ hk_=>⟨Nat.le_trans (below_size (by repeat (first|(with_reducible first|exact HB.out|apply below_alloc|apply pw_below_drewN|apply below_drew1)|exact HB.out))) hk_,Kd.fresh' (Kd.R_lt (by (with_reducible repeat (first|apply Kd.R_alloc|apply Kd.R_drewN|apply Kd.R_drew));exact HQQ.out)) k_ hk_⟩)) (below_size (by repeat (first|(with_reducible first|exact HB.out|apply below_alloc|apply pw_below_drewN|apply below_drew1)|exact HB.out))));have Ad:=Aside0.mk (below_step (by repeat (first|(with_reducible first|exact HB.out|apply below_alloc|apply pw_below_drewN|apply below_drew1)|exact HB.out)) hb);clear HQQ HB;have HQQ:=Ae;have HB:=Ad;have HR:=Ag;clear Ae Ad Ag Af Jr hb)|((with_reducible refine gate_callee (f:=138) rfl ?_);refine goesL_ (some 297) rfl rfl Tryz.func138 (by kernel_rfl) rfl #[.slice (some ⟨gq,0,none⟩) q2.length cq] rfl (by (try simp only [List.map_toArray,List.map_cons,List.map_nil]);first|(rw [HQL.out];done)|(rw [HQL.out];rfl)|rfl) ?_;(with_reducible refine (trim_own Jk w.heap.size (fun k_=>k_ = gq) _ _ q2 (numOf (a / b)) _ ?side1 M3.out).mono ?_);(case side1=>exact (by (with_reducible repeat (first|apply Kd.R_alloc|apply Kd.R_drewN|apply Kd.R_drew));exact HQQ.out));rintro e Kn ⟨Ja,rfl,Af,hb⟩;refine ⟨_,rfl,?_⟩;have Ae:=Aside0.mk (Kd.V_below (by (with_reducible repeat (first|apply Kd.V_alloc|apply Kd.V_drewN|apply Kd.V_drew));exact HR.out) hb);have Ad:=Aside0.mk (below_step (by repeat (first|(with_reducible first|exact HB.out|apply below_alloc|apply pw_below_drewN|apply below_drew1)|exact HB.out)) hb);have Ak:=Aside0.mk Af;clear HR HB;have HR:=Ae;have HB:=Ad;clear Ae Ad Af hb))
 go_ret2
 refine ⟨_,_,rfl,Kd.R_mono (by (with_reducible repeat (first|apply Kd.R_alloc|apply Kd.R_drewN|apply Kd.R_drew));exact Ak.out) (fun _ _=>trivial),Kd.V_mono HR.out (fun k hk=>⟨.inr hk.1,fun e=>?_⟩),(by repeat (first|(with_reducible first|exact HB.out|apply below_alloc|apply pw_below_drewN|apply below_drew1)|exact HB.out))⟩
 have Bd:=Ak.out.1 k e.symm
 subst Bd
 exact hk.2 rfl
def natural_num_divide.f (l0 l1:List Int):Option (List Int × List Int):=if can l0∧can l1∧l1≠[] then some (numOf (nm l0 / nm l1),numOf (nm l0 % nm l1)) else none
theorem natural_num_divide.calls (P0_:Nat→Prop) (A0:Option Addr) (c0:Nat) (l0:List Int) (A1:Option Addr) (c1:Nat) (l1:List Int) (r1 r2:List Int) (w:World) (hs0:Kd.V (Kd.int .u32) 101 w w.heap.size (fun k_=>P0_ k_) (.slice A0 l0.length c0) l0) (hr1:Kd.C (Kd.int .u32) w A1 l1.length l1) (hc1:l1.length≤c1) (h:natural_num_divide.f l0 l1 = some (r1,r2)) :
  Calls Tryz.prog 132 #[.slice A0 l0.length c0,.slice A1 l1.length c1] w fun e w'=>∃ v0_ v1_:Value,e = .returned (.tuple #[v0_,v1_])∧Kd.R (Kd.int .u32) 101 w' w.heap.size (fun _=>True) v0_ r1∧Kd.V (Kd.int .u32) 101 w' w.heap.size (fun k_=>(P0_ k_ ∨ w.heap.size≤k_)∧some k_≠(v0_:Value).ownBlock) v1_ r2∧Below w.heap.size w w':=by
 unfold natural_num_divide.f at h
 by_cases hc:can l0∧can l1∧l1≠[]
 ·rw [if_pos hc] at h
  obtain ⟨⟨e0,h0⟩,⟨e1,h1⟩,hne⟩:=hc
  simp only [Option.some.injEq,Prod.mk.injEq] at h
  obtain ⟨rfl,rfl⟩:=h
  have Aa:0 < nm l1:=by
   by_cases e:nm l1 = 0
   ·rw [e,numOf_zero] at e1
    exact absurd e1 hne
   ·omega
  by_cases hlt:nm l0 < nm l1
  ·exact divide_less P0_ A0 c0 l0 A1 c1 l1 _ _ w hs0 hr1 hc1 h0 h1 e0 e1 Aa hlt
  ·have hl:l1.length≤l0.length:=by
    have:=len_mono (Nat.not_lt.1 hlt)
    rw [← e0,← e1] at this
    exact this
   have hp:0 < l1.length:=by
    rw [e1]
    exact len_pos Aa
   by_cases Ab:l0.length≤2
   ·exact divide_small P0_ A0 c0 l0 A1 c1 l1 _ _ w hs0 hr1 hc1 h0 h1 e0 e1 Aa hlt Ab (by omega)
   ·by_cases Ac:l1.length = 1
    ·exact divide_one P0_ A0 c0 l0 A1 c1 l1 _ _ w hs0 hr1 hc1 h0 h1 e0 e1 Aa hlt Ab Ac
    ·exact divide_big P0_ A0 c0 l0 A1 c1 l1 _ _ w hs0 hr1 hc1 h0 h1 e0 e1 Aa hlt Ab (by omega)
 ·rw [if_neg hc] at h
  cases h
set_option maxHeartbeats 8000000
set_option maxRecDepth 100000
mutual
def natural_num_gcd.l0:Nat→List Int→List Int→Option (List Int)
 | 0,_,_=>none
 | k + 1,x0,x1=>if (x1.length:Int) > 0 then ((natural_num_small.f x0).bind fun bt1067=>((natural_num_small.f x1).bind fun bt1069=>(if bt1067.2 = true then (natural_num_gcd.j1 k x0 x1 bt1067.1 bt1069.1 bt1069.2) else (natural_num_gcd.j1 k x0 x1 bt1067.1 bt1069.1 false)))) else (some x0)
def natural_num_gcd.j1:Nat→List Int→List Int→Int→Int→Bool→Option (List Int)
 | 0,_,_,_,_,_=>none
 | k + 1,x0,x1,x5,x7,x27=>if x27 = true then (natural_num_gcd.l1 k x5 x7) else ((natural_num_divide.f x0 x1).bind fun bt1074=>(natural_num_gcd.l0 k x1 bt1074.2))
def natural_num_gcd.l1:Nat→Int→Int→Option (List Int)
 | 0,_,_=>none
 | k + 1,x5,x7=>if x7 > 0 then (if x7 = 0 then (none) else (natural_num_gcd.l1 k x7 (Int.tmod x5 x7))) else ((natural_of.f k x5).bind fun t1071=>(some t1071))
end
def natural_num_gcd.f (k:Nat) (l0:List Int) (l1:List Int):Option (List Int):=natural_num_gcd.l0 k l0 l1
theorem natural_num_gcd.calls (k:Nat) (P0_:Nat→Prop) (A0:Option Addr) (c0:Nat) (l0:List Int) (P1_:Nat→Prop) (A1:Option Addr) (c1:Nat) (l1:List Int) (r:List Int) (w:World) (hs0:Kd.V (Kd.int .u32) 101 w w.heap.size (fun k_=>P0_ k_) (.slice A0 l0.length c0) l0) (hs1:Kd.V (Kd.int .u32) 101 w w.heap.size (fun k_=>P1_ k_) (.slice A1 l1.length c1) l1) (h:natural_num_gcd.f k l0 l1 = some r) :
  Calls Tryz.prog 117 #[.slice A0 l0.length c0,.slice A1 l1.length c1] w fun e w'=>∃ v0_:Value,e = .returned (v0_)∧Kd.V (Kd.int .u32) 101 w' w.heap.size (fun k_=>((P0_ k_ ∨ P1_ k_) ∨ w.heap.size≤k_)) v0_ r∧Below w.heap.size w w':=by
 have Ca:=Aside0.mk (show Kd.V (Kd.int .u32) 101 w w.heap.size (fun k_=>((P0_ k_ ∨ P1_ k_) ∨ w.heap.size≤k_)) (.slice A0 l0.length c0) l0 from Kd.V_mono hs0 (fun k_ hk=>.inl (.inl hk)))
 have Bz:=Aside0.mk (show Kd.V (Kd.int .u32) 101 w w.heap.size (fun k_=>((P0_ k_ ∨ P1_ k_) ∨ w.heap.size≤k_)) (.slice A1 l1.length c1) l1 from Kd.V_mono hs1 (fun k_ hk=>.inl (.inr hk)))
 have HB:=Aside0.mk (Below.refl w.heap.size w)
 have H:=h;clear h;unfold natural_num_gcd.f at H
 have H':=Aside0.mk H
 clear H
 go_enter Tryz.func117,Tryz.ntmps117
 go_wp2
 repeat (go_quiet (fail);try go_wp2)
 go_loopg [0,1] k (fun kq v0 v1 w'=>∃ (Ad:List Int) (Ab:List Int),Aside0 (natural_num_gcd.l0 kq Ad Ab = some r)∧Aside0 (kq≤k)∧Aside0 (Kd.V (Kd.int .u32) 101 w' w.heap.size (fun k_=>((P0_ k_ ∨ P1_ k_) ∨ w.heap.size≤k_)) v0 Ad)∧Aside0 (Kd.V (Kd.int .u32) 101 w' w.heap.size (fun k_=>((P0_ k_ ∨ P1_ k_) ∨ w.heap.size≤k_)) v1 Ab)∧Aside0 (Below w.heap.size w w'))
 case atStart=>exact ⟨(l0),(l1),H',⟨Nat.le_refl _⟩,⟨by (with_reducible repeat (first|apply Kd.V_alloc|apply Kd.V_drewN|apply Kd.V_drew));exact Ca.out⟩,⟨by (with_reducible repeat (first|apply Kd.V_alloc|apply Kd.V_drewN|apply Kd.V_drew));exact Bz.out⟩,⟨bx_⟩⟩
 case round =>
  clear H'
  try clear c1
  obtain ⟨Ad,Ab,HA,Bc,Ac,Aa,HB⟩:=hrel
  cases gk with
  | zero=>exact absurd HA.out (by simp [natural_num_gcd.l0])
  | succ k1 =>
   have H:=HA.out
   clear HA
   simp only [natural_num_gcd.l0] at H
   by_cases c3:(Ab.length:Int) > 0
   ·rw [if_pos c3] at H
    have Ay:decide (0 < (Ab.length:Int)) = true:=decide_eq_true c3
    have Ax:decide (0 < Ab.length) = true:=decide_eq_true (by omega)
    clear c3
    obtain ⟨⟨Af,Ap⟩,A4,H⟩:=bn_ H
    dsimp only at H
    obtain ⟨⟨Ae,Aj⟩,A5,H⟩:=bn_ H
    dsimp only at H
    have Bk:=Aside0.mk H
    clear H
    obtain ⟨Cc,Bx,Bv⟩:=Kd.V_slice Aa.out
    subst Bv
    obtain ⟨Cb,Bw,Bu⟩:=Kd.V_slice Ac.out
    subst Bu
    go_upto_region 4 with (first|(go_at_call 130;(with_reducible refine (natural_num_small.calls _ _ Ad Af Ap _ ?side1 ?side2 A4.out).mono ?_);(case side1=>exact cx_ ((Kd.V_reads' Ac.out).2.2));(case side2=>exact (Kd.V_reads' Ac.out).2.1);rintro e w' ⟨rfl,⟨nd,rfl⟩⟩;(try first|exact ⟨rfl,_,World.drewN_drewN _ _ _⟩|exact ⟨rfl,_,Eq.trans (World.drewN_drewN _ _ _) (congrArg (World.drewN _) (Nat.add_assoc _ _ _))⟩))|(go_at_call 130;(with_reducible refine (natural_num_small.calls _ _ Ab Ae Aj _ ?side1 ?side2 A5.out).mono ?_);(case side1=>exact cx_ ((Kd.V_reads' Aa.out).2.2));(case side2=>exact (Kd.V_reads' Aa.out).2.1);rintro e w' ⟨rfl,⟨nd,rfl⟩⟩;(try first|exact ⟨rfl,_,World.drewN_drewN _ _ _⟩|exact ⟨rfl,_,Eq.trans (World.drewN_drewN _ _ _) (congrArg (World.drewN _) (Nat.add_assoc _ _ _))⟩)))
    repeat (go_quiet (first|(go_at_call 130;(with_reducible refine (natural_num_small.calls _ _ Ad Af Ap _ ?side1 ?side2 A4.out).mono ?_);(case side1=>exact cx_ ((Kd.V_reads' Ac.out).2.2));(case side2=>exact (Kd.V_reads' Ac.out).2.1);rintro e w' ⟨rfl,⟨nd,rfl⟩⟩;(try first|exact ⟨rfl,_,World.drewN_drewN _ _ _⟩|exact ⟨rfl,_,Eq.trans (World.drewN_drewN _ _ _) (congrArg (World.drewN _) (Nat.add_assoc _ _ _))⟩))|(go_at_call 130;(with_reducible refine (natural_num_small.calls _ _ Ab Ae Aj _ ?side1 ?side2 A5.out).mono ?_);(case side1=>exact cx_ ((Kd.V_reads' Aa.out).2.2));(case side2=>exact (Kd.V_reads' Aa.out).2.1);rintro e w' ⟨rfl,⟨nd,rfl⟩⟩;(try first|exact ⟨rfl,_,World.drewN_drewN _ _ _⟩|exact ⟨rfl,_,Eq.trans (World.drewN_drewN _ _ _) (congrArg (World.drewN _) (Nat.add_assoc _ _ _))⟩)));go_upto_region 4 with (first|(go_at_call 130;(with_reducible refine (natural_num_small.calls _ _ Ad Af Ap _ ?side1 ?side2 A4.out).mono ?_);(case side1=>exact cx_ ((Kd.V_reads' Ac.out).2.2));(case side2=>exact (Kd.V_reads' Ac.out).2.1);rintro e w' ⟨rfl,⟨nd,rfl⟩⟩;(try first|exact ⟨rfl,_,World.drewN_drewN _ _ _⟩|exact ⟨rfl,_,Eq.trans (World.drewN_drewN _ _ _) (congrArg (World.drewN _) (Nat.add_assoc _ _ _))⟩))|(go_at_call 130;(with_reducible refine (natural_num_small.calls _ _ Ab Ae Aj _ ?side1 ?side2 A5.out).mono ?_);(case side1=>exact cx_ ((Kd.V_reads' Aa.out).2.2));(case side2=>exact (Kd.V_reads' Aa.out).2.1);rintro e w' ⟨rfl,⟨nd,rfl⟩⟩;(try first|exact ⟨rfl,_,World.drewN_drewN _ _ _⟩|exact ⟨rfl,_,Eq.trans (World.drewN_drewN _ _ _) (congrArg (World.drewN _) (Nat.add_assoc _ _ _))⟩))))
    (try simp only [Act.put,List.setIfInBounds_toArray,List.set_cons_zero,List.set_cons_succ])
    go_cut [27] (fun Bt wc=>∃ (kq:Nat) (An:Bool),Bt = .bool An∧Aside0 (natural_num_gcd.j1 kq Ad Ab Af Ae An = some r)∧Aside0 (kq≤k1)∧Aside0 (Kd.V (Kd.int .u32) 101 wc w.heap.size (fun k_=>((P0_ k_ ∨ P1_ k_) ∨ w.heap.size≤k_)) (.slice Cb Ad.length Bw) Ad)∧Aside0 (Kd.V (Kd.int .u32) 101 wc w.heap.size (fun k_=>((P0_ k_ ∨ P1_ k_) ∨ w.heap.size≤k_)) (.slice Cc Ab.length Bx) Ab)∧Aside0 (Below w.heap.size w wc))
    case first =>
     have H:=Bk.out
     clear Bk
     by_cases c9:Ap = true
     ·subst c9
      have H1:(natural_num_gcd.j1 k1 Ad Ab Af Ae Aj) = some r:=by rw [if_pos rfl] at H;exact H
      clear H
      have H:=H1
      clear H1
      have H':=Aside0.mk H
      clear H
      go_wp2
      repeat (go_quiet (fail);try go_wp2)
      go_meet
      case rel=>exact ⟨_,(Aj),rg_,H',⟨by have:=Bc.out;first|omega|exact Nat.le_refl _⟩,⟨by (with_reducible repeat (first|apply Kd.V_alloc|apply Kd.V_drewN|apply Kd.V_drew));exact Ac.out⟩,⟨by (with_reducible repeat (first|apply Kd.V_alloc|apply Kd.V_drewN|apply Kd.V_drew));exact Aa.out⟩,⟨bx_⟩⟩
     ·replace c9:=Bool.eq_false_iff.mpr c9
      subst c9
      have H1:(natural_num_gcd.j1 k1 Ad Ab Af Ae false) = some r:=by rw [if_neg (show ¬ (false = true) by decide)] at H;exact H
      clear H
      have H:=H1
      clear H1
      have H':=Aside0.mk H
      clear H
      go_wp2
      repeat (go_quiet (fail);try go_wp2)
      go_meet
      case rel=>exact ⟨_,(false),rg_,H',⟨by have:=Bc.out;first|omega|exact Nat.le_refl _⟩,⟨by (with_reducible repeat (first|apply Kd.V_alloc|apply Kd.V_drewN|apply Kd.V_drew));exact Ac.out⟩,⟨by (with_reducible repeat (first|apply Kd.V_alloc|apply Kd.V_drewN|apply Kd.V_drew));exact Aa.out⟩,⟨bx_⟩⟩
    case rest =>
     clear Bk
     try clear c1
     try clear c3
     try clear Ay
     try clear Ax
     obtain ⟨kq,An,rfl,HA,Bi,Ac,Aa,HB⟩:=hcut
     cases kq with
     | zero=>exact absurd HA.out (by simp [natural_num_gcd.j1])
     | succ kj5 =>
      have H:=HA.out
      clear HA
      simp only [natural_num_gcd.j1] at H
      by_cases Bg:An = true
      ·subst Bg
       have H1:(natural_num_gcd.l1 kj5 Af Ae) = some r:=by rw [if_pos rfl] at H;exact H
       clear H
       have H:=H1
       clear H1
       have H':=Aside0.mk H
       clear H
       go_wp2
       repeat (go_quiet (fail);try go_wp2)
       go_loopg [5,7] kj5 (fun kq v5 v7 w'=>∃ (Ak:Int) (Ag:Int),v5 = .int .u64 Ak∧v7 = .int .u64 Ag∧Aside0 (natural_num_gcd.l1 kq Ak Ag = some r)∧Aside0 (kq≤kj5)∧Aside0 (Below w.heap.size w w'))
       case atStart=>exact ⟨(Af),(Ae),rg_,rg_,H',⟨Nat.le_refl _⟩,⟨bx_⟩⟩
       case round =>
        clear H'
        try clear c1
        try clear c3
        try clear Ay
        try clear Ax
        try clear Bg
        obtain ⟨Ak,Ag,rfl,rfl,HA,Br,HB⟩:=hrel
        cases gk with
        | zero=>exact absurd HA.out (by simp [natural_num_gcd.l1])
        | succ k3 =>
         have H:=HA.out
         clear HA
         simp only [natural_num_gcd.l1] at H
         by_cases Bb:Ag > 0
         ·rw [if_pos Bb] at H
          have Bf:decide (0 < Ag) = true:=decide_eq_true Bb
          clear Bb
          by_cases Bh:Ag = 0
          ·rw [if_pos Bh] at H
           exact absurd H sm_
          ·rw [if_neg Bh] at H
           have Bq:(Ag == 0) = false:=beq_eq_false_iff_ne.mpr Bh
           have Bp:(Ag != 0) = true:=bne_iff_ne.mpr Bh
           have H':=Aside0.mk H
           clear H
           go_wp2
           repeat (go_quiet (fail);try go_wp2)
           go_roundg k3
           case measure=>have:=Bc.out;have:=Bi.out;have:=Br.out;omega
           case rel=>exact ⟨(Ag),(Int.tmod Ak Ag),rg_,rg_,H',⟨by have:=Bc.out;have:=Bi.out;have:=Br.out;omega⟩,⟨bx_⟩⟩
         ·rw [if_neg Bb] at H
          have Bf:decide (0 < Ag) = false:=decide_eq_false Bb
          clear Bb
          obtain ⟨As,Bm,H⟩:=bn_ H
          obtain rfl:=Option.some.inj H
          go_wp2_with (first|(go_at_call 131;(with_reducible refine (natural_of.calls k3 Ak As _ Bm.out).mono ?_);rintro e Bo ⟨Av,rfl,Ah,hb⟩;have Am:=Aside0.mk (Kd.V_lower (Kd.V_mono (ok':=fun k_=>((P0_ k_ ∨ P1_ k_) ∨ w.heap.size≤k_)) Ah (fun k_ hk_=>(.inr (Nat.le_trans (below_size bx_) hk_)))) (below_size bx_));replace HB:=bs_ hb;(try clear hb);(try clear Ah)))
          repeat (go_quiet (first|(go_at_call 131;(with_reducible refine (natural_of.calls k3 Ak As _ Bm.out).mono ?_);rintro e Bo ⟨Av,rfl,Ah,hb⟩;have Am:=Aside0.mk (Kd.V_lower (Kd.V_mono (ok':=fun k_=>((P0_ k_ ∨ P1_ k_) ∨ w.heap.size≤k_)) Ah (fun k_ hk_=>(.inr (Nat.le_trans (below_size bx_) hk_)))) (below_size bx_));replace HB:=bs_ hb;(try clear hb);(try clear Ah)));try go_wp2_with (first|(go_at_call 131;(with_reducible refine (natural_of.calls k3 Ak As _ Bm.out).mono ?_);rintro e Bo ⟨Av,rfl,Ah,hb⟩;have Am:=Aside0.mk (Kd.V_lower (Kd.V_mono (ok':=fun k_=>((P0_ k_ ∨ P1_ k_) ∨ w.heap.size≤k_)) Ah (fun k_ hk_=>(.inr (Nat.le_trans (below_size bx_) hk_)))) (below_size bx_));replace HB:=bs_ hb;(try clear hb);(try clear Ah))))
          go_ret
          exact ⟨_,rf_,by (with_reducible repeat (first|apply Kd.V_alloc|apply Kd.V_drewN|apply Kd.V_drew));exact Am.out,bx_⟩
      ·replace Bg:=Bool.eq_false_iff.mpr Bg
       subst Bg
       have H1:((natural_num_divide.f Ad Ab).bind fun Ba=>(natural_num_gcd.l0 kj5 Ab Ba.2)) = some r:=by rw [if_neg (show ¬ (false = true) by decide)] at H;exact H
       clear H
       have H:=H1
       clear H1
       obtain ⟨⟨Aq,Ao⟩,Bl,H⟩:=bn_ H
       dsimp only at H
       have H':=Aside0.mk H
       clear H
       go_wp2_with (first|(go_at_call 132;(with_reducible refine (natural_num_divide.calls (fun k_=>((P0_ k_ ∨ P1_ k_) ∨ w.heap.size≤k_)) _ _ Ad _ _ Ab Aq Ao _ ?side1 ?side2 ?side3 Bl.out).mono ?_);(case side1=>exact Ac.out);(case side2=>exact cx_ ((Kd.V_reads' Aa.out).2.2));(case side3=>exact (Kd.V_reads' Aa.out).2.1);rintro e Bn ⟨Ai,Au,rfl,Ah,Aw,hb⟩;have At:=Aside0.mk (Kd.R_lower (Kd.R_newM (M:=fun k_=>(w.heap.size≤k_)) (Kd.R_mono (ok':=fun k_=>True) Ah (fun _ hk_=>trivial)) (below_size bx_) (fun k_ h_=>h_)) (below_size bx_));have Al:=Aside0.mk (Kd.V_lower (Kd.V_mono (ok':=fun k_=>((P0_ k_ ∨ P1_ k_) ∨ w.heap.size≤k_)∧some k_≠(Ai:Value).ownBlock) Aw (fun k_ hk_=>⟨Or.elim hk_.1 (fun Bd=>Bd) (fun Be=>(.inr (Nat.le_trans (below_size bx_) Be))),hk_.2⟩)) (below_size bx_));replace Ac:=Aside0.mk (Kd.V_elder' (by (with_reducible repeat (first|apply Kd.V_alloc|apply Kd.V_drewN|apply Kd.V_drew));exact Ac.out) (Kd.R_base Ah) hb);replace Aa:=Aside0.mk (Kd.V_elder' (by (with_reducible repeat (first|apply Kd.V_alloc|apply Kd.V_drewN|apply Kd.V_drew));exact Aa.out) (Kd.R_base Ah) hb);replace HB:=bs_ hb;(try clear hb);(try clear Ah);(try clear Aw)))
       repeat (go_quiet (first|(go_at_call 132;(with_reducible refine (natural_num_divide.calls (fun k_=>((P0_ k_ ∨ P1_ k_) ∨ w.heap.size≤k_)) _ _ Ad _ _ Ab Aq Ao _ ?side1 ?side2 ?side3 Bl.out).mono ?_);(case side1=>exact Ac.out);(case side2=>exact cx_ ((Kd.V_reads' Aa.out).2.2));(case side3=>exact (Kd.V_reads' Aa.out).2.1);rintro e Bn ⟨Ai,Au,rfl,Ah,Aw,hb⟩;have At:=Aside0.mk (Kd.R_lower (Kd.R_newM (M:=fun k_=>(w.heap.size≤k_)) (Kd.R_mono (ok':=fun k_=>True) Ah (fun _ hk_=>trivial)) (below_size bx_) (fun k_ h_=>h_)) (below_size bx_));have Al:=Aside0.mk (Kd.V_lower (Kd.V_mono (ok':=fun k_=>((P0_ k_ ∨ P1_ k_) ∨ w.heap.size≤k_)∧some k_≠(Ai:Value).ownBlock) Aw (fun k_ hk_=>⟨Or.elim hk_.1 (fun Bd=>Bd) (fun Be=>(.inr (Nat.le_trans (below_size bx_) Be))),hk_.2⟩)) (below_size bx_));replace Ac:=Aside0.mk (Kd.V_elder' (by (with_reducible repeat (first|apply Kd.V_alloc|apply Kd.V_drewN|apply Kd.V_drew));exact Ac.out) (Kd.R_base Ah) hb);replace Aa:=Aside0.mk (Kd.V_elder' (by (with_reducible repeat (first|apply Kd.V_alloc|apply Kd.V_drewN|apply Kd.V_drew));exact Aa.out) (Kd.R_base Ah) hb);replace HB:=bs_ hb;(try clear hb);(try clear Ah);(try clear Aw)));try go_wp2_with (first|(go_at_call 132;(with_reducible refine (natural_num_divide.calls (fun k_=>((P0_ k_ ∨ P1_ k_) ∨ w.heap.size≤k_)) _ _ Ad _ _ Ab Aq Ao _ ?side1 ?side2 ?side3 Bl.out).mono ?_);(case side1=>exact Ac.out);(case side2=>exact cx_ ((Kd.V_reads' Aa.out).2.2));(case side3=>exact (Kd.V_reads' Aa.out).2.1);rintro e Bn ⟨Ai,Au,rfl,Ah,Aw,hb⟩;have At:=Aside0.mk (Kd.R_lower (Kd.R_newM (M:=fun k_=>(w.heap.size≤k_)) (Kd.R_mono (ok':=fun k_=>True) Ah (fun _ hk_=>trivial)) (below_size bx_) (fun k_ h_=>h_)) (below_size bx_));have Al:=Aside0.mk (Kd.V_lower (Kd.V_mono (ok':=fun k_=>((P0_ k_ ∨ P1_ k_) ∨ w.heap.size≤k_)∧some k_≠(Ai:Value).ownBlock) Aw (fun k_ hk_=>⟨Or.elim hk_.1 (fun Bd=>Bd) (fun Be=>(.inr (Nat.le_trans (below_size bx_) Be))),hk_.2⟩)) (below_size bx_));replace Ac:=Aside0.mk (Kd.V_elder' (by (with_reducible repeat (first|apply Kd.V_alloc|apply Kd.V_drewN|apply Kd.V_drew));exact Ac.out) (Kd.R_base Ah) hb);replace Aa:=Aside0.mk (Kd.V_elder' (by (with_reducible repeat (first|apply Kd.V_alloc|apply Kd.V_drewN|apply Kd.V_drew));exact Aa.out) (Kd.R_base Ah) hb);replace HB:=bs_ hb;(try clear hb);(try clear Ah);(try clear Aw))))
       go_roundg kj5
       case measure=>have:=Bc.out;have:=Bi.out;omega
       case rel=>exact ⟨(Ab),(Ao),H',⟨by have:=Bc.out;have:=Bi.out;omega⟩,⟨by (with_reducible repeat (first|apply Kd.V_alloc|apply Kd.V_drewN|apply Kd.V_drew));exact Kd.V_mono Aa.out (fun _ hk=>hk.1)⟩,⟨by (with_reducible repeat (first|apply Kd.V_alloc|apply Kd.V_drewN|apply Kd.V_drew));exact Kd.V_mono Al.out (fun _ hk=>hk.1)⟩,⟨bx_⟩⟩
   ·rw [if_neg c3] at H
    have Ay:decide (0 < (Ab.length:Int)) = false:=decide_eq_false c3
    have Ax:decide (0 < Ab.length) = false:=decide_eq_false (by omega)
    clear c3
    obtain rfl:=Option.some.inj H
    obtain ⟨Ce,By,Bj⟩:=Kd.V_slice Aa.out
    subst Bj
    go_wp2
    repeat (go_quiet (fail);try go_wp2)
    go_ret
    exact ⟨_,rf_,by (with_reducible repeat (first|apply Kd.V_alloc|apply Kd.V_drewN|apply Kd.V_drew));exact Ac.out,bx_⟩
def garboardref01_Over.f (l0 l1:List Int):Option (List Int × List Int):=if can l0∧can l1∧l1≠[] then some (numOf (nm l0 / nm l1),numOf (nm l0 % nm l1)) else none
set_option maxHeartbeats 8000000
set_option maxRecDepth 100000
mutual
def garboardref01_Common.l0:Nat→List Int→List Int→Option (List Int)
 | 0,_,_=>none
 | k + 1,x0,x1=>if (x1.length:Int) > 0 then (if (x0.length:Int)≤2 then (garboardref01_Common.j1 k x0 x1 (decide ((x1.length:Int)≤2))) else (garboardref01_Common.j1 k x0 x1 false)) else (some x0)
def garboardref01_Common.j1:Nat→List Int→List Int→Bool→Option (List Int)
 | 0,_,_,_=>none
 | k + 1,x0,x1,x19=>if x19 = true then ((garboardref01_word.f k x0).bind fun t551=>((garboardref01_word.f k x1).bind fun t552=>(garboardref01_Common.l1 k t551 t552))) else ((garboardref01_Over.f x0 x1).bind fun bt556=>(garboardref01_Common.l0 k x1 bt556.2))
def garboardref01_Common.l1:Nat→Int→Int→Option (List Int)
 | 0,_,_=>none
 | k + 1,x5,x6=>if x6 = 0 then ((garboardref01_wide.f k x5).bind fun t553=>(some t553)) else (garboardref01_Common.l1 k x6 (Int.tmod x5 x6))
end
theorem divide_eq (a b:Nat) (ha:(numOf a).length≤549755813888) (hb:(numOf b).length≤549755813888) (h:b≠0):natural_num_divide.f (numOf a) (numOf b) = some (numOf (a / b),numOf (a % b))∧garboardref01_Over.f (numOf a) (numOf b) = some (numOf (a / b),numOf (a % b)):=by
 have hc:can (numOf a)∧can (numOf b)∧numOf b≠[]:=⟨can_numOf ha,can_numOf hb,fun e=>h (numOf_nil.1 e)⟩
 unfold natural_num_divide.f garboardref01_Over.f
 rw [if_pos hc,nm_numOf,nm_numOf]
 exact ⟨rfl,rfl⟩
theorem gcd_len (a b n:Nat) (ha:(numOf a).length≤n) (hb:(numOf b).length≤n):(numOf (Nat.gcd a b)).length≤n:=by
 by_cases h:a = 0
 ·subst h
  rw [Nat.gcd_zero_left]
  exact hb
 ·exact Nat.le_trans (len_mono (Nat.gcd_le_left b (by omega))) ha
theorem len2 (a:Nat):(numOf a).length≤2 ↔ a < 1000000000000000000:=by
  constructor
  · intro h
    have h1:=lt_len a
    have h2:=Bpow_le h
    have h3:B ^ 2 = 1000000000000000000:=by decide
    omega
  · intro h
    exact len_le (by have h3:B ^ 2 = 1000000000000000000:=by decide
                     omega)
theorem gcd_small (b:Nat):∀ a:Nat,a < 1000000000000000000→b < 1000000000000000000→Ev (fun k=>natural_num_gcd.l1 k a b) (numOf (Nat.gcd a b))∧Ev (fun k=>garboardref01_Common.l1 k a b) (numOf (Nat.gcd a b)):=by
 induction b using Nat.strongRecOn with
 | ind b ih =>
  intro a ha hb
  by_cases h0:b = 0
  ·subst h0
   rw [Nat.gcd_zero_right]
   constructor
   ·refine Ev.step (f:=fun k=>(natural_of.f k a).bind fun t=>some t) (fun k=>?_) (Ev.bind (of_ev a ha) (Ev.now _))
    rw [natural_num_gcd.l1,if_neg (by omega)]
   ·refine Ev.step (f:=fun k=>(garboardref01_wide.f k a).bind fun t=>some t) (fun k=>?_) (Ev.bind (wide_ev a (by omega)) (Ev.now _))
    rw [garboardref01_Common.l1,if_pos (by omega)]
  ·have hm:=Nat.mod_lt a (Nat.pos_of_ne_zero h0)
   obtain ⟨h1,h2⟩:=ih (a % b) hm b hb (by omega)
   have eg:Nat.gcd b (a % b) = Nat.gcd a b:=by rw [Nat.gcd_comm a b,Nat.gcd_comm b (a % b)];exact (Nat.gcd_rec b a).symm
   rw [eg] at h1 h2
   have et:Int.tmod (a:Int) (b:Int) = ((a % b:Nat):Int):=by rw [Int.tmod_eq_emod_of_nonneg (by omega)];rfl
   constructor
   ·refine Ev.step (f:=fun k=>natural_num_gcd.l1 k b ((a % b:Nat):Int)) (fun k=>?_) h1
    rw [natural_num_gcd.l1,if_pos (by omega),if_neg (by omega),et]
   ·refine Ev.step (f:=fun k=>garboardref01_Common.l1 k b ((a % b:Nat):Int)) (fun k=>?_) h2
    rw [garboardref01_Common.l1,if_neg (by omega),et]
theorem gcd_both (b:Nat):∀ a:Nat,(numOf a).length≤549755813888→(numOf b).length≤549755813888→Ev (fun k=>natural_num_gcd.l0 k (numOf a) (numOf b)) (numOf (Nat.gcd a b))∧Ev (fun k=>garboardref01_Common.l0 k (numOf a) (numOf b)) (numOf (Nat.gcd a b)):=by
 induction b using Nat.strongRecOn with
 | ind b ih =>
  intro a ha hb
  by_cases h0:b = 0
  ·subst h0
   rw [Nat.gcd_zero_right,numOf_zero]
   constructor
   ·refine Ev.step (f:=fun k=>some (numOf a)) (fun k=>?_) (Ev.now _)
    rw [natural_num_gcd.l0,if_neg (by simp)]
   ·refine Ev.step (f:=fun k=>some (numOf a)) (fun k=>?_) (Ev.now _)
    rw [garboardref01_Common.l0,if_neg (by simp)]
  ·have Ae:=len_pos (Nat.pos_of_ne_zero h0)
   have hm:=Nat.mod_lt a (Nat.pos_of_ne_zero h0)
   have hl:=len_mono (a:=a % b) (b:=b) (by omega)
   obtain ⟨h1,h2⟩:=ih (a % b) hm b hb (by omega)
   have eg:Nat.gcd b (a % b) = Nat.gcd a b:=by rw [Nat.gcd_comm a b,Nat.gcd_comm b (a % b)];exact (Nat.gcd_rec b a).symm
   rw [eg] at h1 h2
   obtain ⟨d1,d2⟩:=divide_eq a b ha hb h0
   have n1:Ev (fun k=>natural_num_gcd.j1 k (numOf a) (numOf b) (if (numOf a).length≤2 then (a:Int) else 0) (if (numOf b).length≤2 then (b:Int) else 0) (decide ((numOf a).length≤2∧(numOf b).length≤2))) (numOf (Nat.gcd a b)):=by
    by_cases h2:(numOf a).length≤2∧(numOf b).length≤2
    ·rw [if_pos h2.1,if_pos h2.2,decide_eq_true h2]
     refine Ev.step (f:=fun k=>natural_num_gcd.l1 k a b) (fun k=>?_) (gcd_small b a ((len2 a).1 h2.1) ((len2 b).1 h2.2)).1
     rw [natural_num_gcd.j1,if_pos rfl]
    ·rw [decide_eq_false h2]
     refine Ev.step (f:=fun k=>natural_num_gcd.l0 k (numOf b) (numOf (a % b))) (fun k=>?_) h1
     rw [natural_num_gcd.j1,if_neg (by simp),d1]
     rfl
   have n2:Ev (fun k=>garboardref01_Common.j1 k (numOf a) (numOf b) (decide ((numOf a).length≤2∧(numOf b).length≤2))) (numOf (Nat.gcd a b)):=by
    by_cases h3:(numOf a).length≤2∧(numOf b).length≤2
    ·rw [decide_eq_true h3]
     refine Ev.step (f:=fun k=>(garboardref01_word.f k (numOf a)).bind fun Ad=>((garboardref01_word.f k (numOf b)).bind fun Ac=>(garboardref01_Common.l1 k Ad Ac))) (fun k=>?_) ?_
     ·rw [garboardref01_Common.j1,if_pos rfl]
     ·have wa:=(len2 a).1 h3.1
      have wb:=(len2 b).1 h3.2
      refine Ev.bind (word_ev a (by omega) (by unfold Ok;omega)) (Ev.bind (word_ev b (by omega) (by unfold Ok;omega)) (gcd_small b a wa wb).2)
    ·rw [decide_eq_false h3]
     refine Ev.step (f:=fun k=>garboardref01_Common.l0 k (numOf b) (numOf (a % b))) (fun k=>?_) h2
     rw [garboardref01_Common.j1,if_neg (by simp),d2]
     rfl
   constructor
   ·refine Ev.step (f:=fun k=>natural_num_gcd.j1 k (numOf a) (numOf b) (if (numOf a).length≤2 then (a:Int) else 0) (if (numOf b).length≤2 then (b:Int) else 0) (decide ((numOf a).length≤2∧(numOf b).length≤2))) (fun k=>?_) n1
    rw [natural_num_gcd.l0,if_pos (by omega),small_eq,small_eq,Option.bind_some,Option.bind_some]
    by_cases Ab:(numOf a).length≤2
    ·by_cases Aa:(numOf b).length≤2
     ·simp [Ab,Aa]
     ·simp [Ab,Aa]
    ·simp [Ab]
     by_cases Aa:(numOf b).length≤2
     ·simp [Aa]
     ·simp [Aa]
   ·refine Ev.step (f:=fun k=>garboardref01_Common.j1 k (numOf a) (numOf b) (decide ((numOf a).length≤2∧(numOf b).length≤2))) (fun k=>?_) n2
    rw [garboardref01_Common.l0,if_pos (by omega)]
    by_cases Ab:(numOf a).length≤2
    ·rw [if_pos (by omega)]
     congr 1
     by_cases Aa:(numOf b).length≤2
     ·rw [decide_eq_true (by omega),decide_eq_true ⟨Ab,Aa⟩]
     ·rw [decide_eq_false (by omega),decide_eq_false (fun h=>Aa h.2)]
    ·rw [if_neg (by omega),decide_eq_false (fun h=>Ab h.1)]
theorem gcd_ev (a b:Nat) (ha:(numOf a).length≤549755813888) (hb:(numOf b).length≤549755813888):Ev (fun k=>natural_num_gcd.f k (numOf a) (numOf b)) (numOf (Nat.gcd a b)):=(gcd_both b a ha hb).1
end Go.Proofs.YtcmbggahndfnnaaGreatDoor.Pr
namespace Go.Proofs.YtcmbggahndfnnaaGreatDoor.Pa
open Go.RowKit Go.Lib Go.Proofs.YtcmbggahndfnnaaGreatDoorW.PrintWords Go.Proofs.YtcmbggahndfnnaaGreatDoorW.PrintLast Go.Proofs.YtcmbggahndfnnaaGreatDoorW.PrintMore Go.Proofs.YtcmbggahndfnnaaGreatDoor.NatTh Go.Proofs.YtcmbggahndfnnaaGreatDoor.Pr
theorem gives_V {r:List Int} {w w':World} {e:Ending} {base:Nat} {ok:Nat→Prop} (h:∃ v0_:Value,e = .returned (v0_)∧Kd.V (Kd.int .u32) 101 w' base ok v0_ r∧Below w.heap.size w w'):Gives r w e w':=by
 obtain ⟨v,he,hV,hb⟩:=h
 obtain ⟨A,c,rfl,hc,hF⟩:=hV
 exact ⟨A,c,he,Kd.F_now hF,hc,hb⟩
def natural_num_gcd.f (l0 l1:List Int):Option (ByteArray × Int):=if can l0∧can l1 then some (num (Nat.gcd (nm l0) (nm l1)),0) else none
theorem natural_num_gcd.calls (A0:Option Addr) (c0:Nat) (l0:List Int) (A1:Option Addr) (c1:Nat) (l1:List Int) (r1:ByteArray) (r2:Int) (w:World) (hr0:Kd.C (Kd.int .u32) w A0 l0.length l0) (hc0:l0.length≤c0) (hr1:Kd.C (Kd.int .u32) w A1 l1.length l1) (hc1:l1.length≤c1) (hL:Pa.LaidW w) (h:natural_num_gcd.f l0 l1 = some (r1,r2)) :
  Calls Tryz.prog 116 #[.func (.func 117) #[.slice A0 l0.length c0] #[],.slice A1 l1.length c1] w fun e w'=>e = .returned (.tuple #[.string r1,.int .i64 r2])∧Below w.heap.size w w':=by
 unfold natural_num_gcd.f at h
 split at h
 ·rename_i hc
  obtain ⟨⟨h0,Ab⟩,⟨h1,Aa⟩⟩:=hc
  simp only [Option.some.injEq,Prod.mk.injEq] at h
  obtain ⟨rfl,rfl⟩:=h
  have hn:=gcd_len (nm l0) (nm l1) 549755813888 (by rw [← h0];exact Ab) (by rw [← h1];exact Aa)
  obtain ⟨k,e⟩:=(gcd_ev (nm l0) (nm l1) (by rw [← h0];exact Ab) (by rw [← h1];exact Aa)).rounds
  rw [← h0,← h1] at e
  exact apply48 _ _ _ _ w hL ((Pr.natural_num_gcd.calls k (fun _=>True) A0 c0 l0 (fun _=>True) A1 c1 l1 _ w (V_of_C hr0 hc0) (V_of_C hr1 hc1) e).mono (fun e w'=>gives_V)) (text_eq _ (by unfold Ok;omega))
 ·cases h
end Go.Proofs.YtcmbggahndfnnaaGreatDoor.Pa
namespace Go.Proofs.YtcmbggahndfnnaaGreatDoor.Pa
open Go.RowKit Go.Proofs.YtcmbggahndfnnaaGreatDoorW.PrintWords Go.Proofs.YtcmbggahndfnnaaGreatDoorW.PrintLast Go.Proofs.YtcmbggahndfnnaaGreatDoorW.PrintMore
attribute [local go_sem] max2_int min2_int max_two min_two max_three min_three max_four min_four
set_option maxHeartbeats 8000000
set_option maxRecDepth 100000
def natural_GCD.f (k:Nat) (a0:ByteArray) (a1:ByteArray):Option (ByteArray × Int):=(natural_both.f k a0 a1).bind fun bt205=>(if bt205.2.2 = 0 then ((natural_num_gcd.f bt205.1 bt205.2.1).bind fun bt212=>(some (bt212.1,bt212.2))) else (some ((⟨#[]⟩:ByteArray),bt205.2.2)))
theorem natural_GCD.calls (k:Nat) (a0:ByteArray) (a1:ByteArray) (r1:ByteArray) (r2:Int) (w:World) (hL:LaidW w) (h:natural_GCD.f k a0 a1 = some (r1,r2)) :
  Calls Tryz.prog 106 #[.string a0,.string a1] w fun e w'=>e = .returned (.tuple #[.string r1,.int .i64 r2])∧Below w.heap.size w w':=by
 have HB:=Aside0.mk (Below.refl w.heap.size w)
 have HLW:=Aside0.mk hL
 clear hL
 have H:=h;clear h;unfold natural_GCD.f at H
 obtain ⟨⟨Ae,Ad,Ac⟩,A3,H⟩:=bn_ H
 dsimp only at H
 by_cases c4:Ac = 0
 ·rw [if_pos c4] at H
  have Am:(Ac == 0) = true:=beq_iff_eq.mpr c4
  have Al:(Ac != 0) = false:=bne_eq_false_iff_eq.mpr c4
  clear c4
  obtain ⟨⟨Ak,Aj⟩,A5,H⟩:=bn_ H
  dsimp only at H
  simp only [Option.some.injEq,Prod.mk.injEq] at H
  obtain ⟨rfl,rfl⟩:=H
  go_enter Tryz.func106,Tryz.ntmps106
  go_wp2_with (first|((with_reducible refine gate_callee (f:=115) rfl ?_);refine gm_ (some 12) Tryz.func115 #[.string a0,.string a1] ?_;(with_reducible refine (natural_both.calls k a0 a1 Ae Ad Ac _ A3.out).mono ?_);rintro e w6 ⟨Ai,Ah,rfl,Ag,Af,hb⟩;refine ⟨_,rfl,?_⟩;have Ab:=Aside0.mk (Kd.R_lower Ag (below_size bx_));have Aa:=Aside0.mk (Kd.R_lower Af (below_size bx_));replace HB:=bs_ hb;(try clear hb);(try clear Ag);(try clear Af);obtain ⟨At,Aq,Ao⟩:=Kd.R_slice Ab.out;subst Ao;obtain ⟨As,Ap,An⟩:=Kd.R_slice Aa.out;subst An)|((with_reducible refine gate_callee (f:=116) rfl ?_);refine gm_ (some 22) Tryz.func116 #[.func (.func 117) #[.slice At Ae.length Aq] #[],.slice As Ad.length Ap] ?_;(with_reducible refine (natural_num_gcd.calls _ _ Ae _ _ Ad Ak Aj _ ?side1 ?side2 ?side3 ?side4 ?side5 A5.out).mono ?_);(case side1=>exact cx_ ((Kd.R_reads' Ab.out).2.2));(case side2=>exact (Kd.R_reads' Ab.out).2.1);(case side3=>exact cx_ ((Kd.R_reads' Aa.out).2.2));(case side4=>exact (Kd.R_reads' Aa.out).2.1);(case side5=>exact HLW.out.below bx_);rintro e w9 ⟨rfl,hb⟩;refine ⟨_,rfl,?_⟩;replace Ab:=rb_ Ab hb;replace Aa:=rb_ Aa hb;replace HB:=bs_ hb;(try clear hb)))
  go_ret2
  exact ⟨rf_,bx_⟩
 ·rw [if_neg c4] at H
  have Am:(Ac == 0) = false:=beq_eq_false_iff_ne.mpr c4
  have Al:(Ac != 0) = true:=bne_iff_ne.mpr c4
  simp only [Option.some.injEq,Prod.mk.injEq] at H
  obtain ⟨rfl,rfl⟩:=H
  go_enter Tryz.func106,Tryz.ntmps106
  go_wp2_with (first|((with_reducible refine gate_callee (f:=115) rfl ?_);refine gm_ (some 12) Tryz.func115 #[.string a0,.string a1] ?_;(with_reducible refine (natural_both.calls k a0 a1 Ae Ad Ac _ A3.out).mono ?_);rintro e Au ⟨Ai,Ah,rfl,Ag,Af,hb⟩;refine ⟨_,rfl,?_⟩;have Ab:=Aside0.mk (Kd.R_lower Ag (below_size bx_));have Aa:=Aside0.mk (Kd.R_lower Af (below_size bx_));replace HB:=bs_ hb;(try clear hb);(try clear Ag);(try clear Af)))
  go_ret2
  exact ⟨rf_,bx_⟩
end Go.Proofs.YtcmbggahndfnnaaGreatDoor.Pa
namespace Go.Proofs.YtcmbggahndfnnaaGreatDoor.Pr
open Go.RowKit Go.Proofs.YtcmbggahndfnnaaGreatDoorW.PrintWords Go.Proofs.YtcmbggahndfnnaaGreatDoorW.PrintLast Go.Proofs.YtcmbggahndfnnaaGreatDoorW.PrintMore Go.Proofs.YtcmbggahndfnnaaGreatDoor.NatTh
def gcdV (a b:ByteArray):ByteArray × Int:=if (nv a && nv b) = true then (num (Nat.gcd (nat a) (nat b)),0) else (⟨#[]⟩,1)
def natural_GCD.f (a b:ByteArray):Option (ByteArray × Int):=if Sh a∧Sh b then some (gcdV a b) else none
theorem cann {a:ByteArray} (h:nv a = true) (ha:Sh a):can (numOf (nat a)):=can_numOf (by have:=nat_can a h ha;omega)
theorem gcdS_ev (a b:ByteArray) (ha:Sh a) (hb:Sh b):Ev (fun k=>Pa.natural_GCD.f k a b) (gcdV a b):=by
 refine Ev.congr (fun k=>rfl) (Ev.bind (both_ev a b ha hb) ?_)
 unfold gcdV bothV
 by_cases h:(nv a && nv b) = true
 ·obtain ⟨h1,h2⟩:=Bool.and_eq_true_iff.1 h
  rw [if_pos h,if_pos h]
  refine ⟨0,fun k _=>?_⟩
  dsimp only
  rw [if_pos rfl]
  unfold Pa.natural_num_gcd.f
  rw [if_pos ⟨cann h1 ha,cann h2 hb⟩,nm_numOf,nm_numOf]
  rfl
 ·rw [if_neg h,if_neg h]
  exact ⟨0,fun k _=>rfl⟩
theorem natural_GCD.calls (a0 a1:ByteArray) (r1:ByteArray) (r2:Int) (w:World) (hL:LaidW w) (h:natural_GCD.f a0 a1 = some (r1,r2)) :
  Calls Tryz.prog 106 #[.string a0,.string a1] w fun e w'=>e = .returned (.tuple #[.string r1,.int .i64 r2])∧Below w.heap.size w w':=by
 unfold natural_GCD.f at h
 split at h
 ·rename_i hc
  obtain ⟨k,e⟩:=(gcdS_ev a0 a1 hc.1 hc.2).rounds
  exact Pa.natural_GCD.calls k a0 a1 r1 r2 w hL (e.trans h)
 ·cases h
attribute [local go_sem] max2_int min2_int max_two min_two max_three min_three max_four min_four
set_option maxHeartbeats 8000000
set_option maxRecDepth 100000
def rational_divisor.f (k:Nat) (a0:ByteArray) (a1:ByteArray):Option (ByteArray):=(integer_Abs.f k a0).bind fun bt194=>((natural_GCD.f bt194.1 a1).bind fun bt196=>(some bt196.1))
theorem rational_divisor.mono:∀ a0 a1 k,LeO (rational_divisor.f k a0 a1) (rational_divisor.f (k + 1) a0 a1):=by intro a0 a1 k;unfold rational_divisor.f;have:=@integer_Abs.mono;exact mn_
theorem rational_divisor.calls (k:Nat) (a0:ByteArray) (a1:ByteArray) (r:ByteArray) (w:World) (hL:LaidW w) (h:rational_divisor.f k a0 a1 = some r) :
  Calls Tryz.prog 87 #[.string a0,.string a1] w fun e w'=>e = .returned (.string r)∧Below w.heap.size w w':=by
 have HB:=Aside0.mk (Below.refl w.heap.size w)
 have HLW:=Aside0.mk hL
 clear hL
 have H:=h;clear h;unfold rational_divisor.f at H
 obtain ⟨⟨Aa,Ad⟩,A3,H⟩:=bn_ H
 dsimp only at H
 obtain ⟨⟨Ac,Ab⟩,A4,H⟩:=bn_ H
 dsimp only at H
 obtain rfl:=Option.some.inj H
 go_enter Tryz.func87,Tryz.ntmps87
 go_wp2_with (first|((with_reducible refine gate_callee (f:=105) rfl ?_);refine gl_ (some 11) Tryz.func105 #[.string a0] (integer_Abs.calls k a0 Aa Ad _ A3.out) ?_;clear HB;intro w5 hb HB;clear hb)|((with_reducible refine gate_callee (f:=106) rfl ?_);refine gl_ (some 17) Tryz.func106 #[.string Aa,.string a1] (natural_GCD.calls Aa a1 Ac Ab _ (HLW.out.below bx_) A4.out) ?_;clear HB;intro w6 hb HB;clear hb))
 go_ret
 exact ⟨rf_,bx_⟩
open Go.Lib
set_option maxHeartbeats 2000000
set_option maxRecDepth 100000
theorem indexByte_call (s:ByteArray) (c:Int) (w:World) :
  Calls Tryz.prog 122 #[.string s,.int .u8 c] w fun e w'=>e = .returned (.int .i64 (Lib.indexByte s.data.toList c.toNat.toUInt8))∧w' = w:=by
 go_enter Tryz.func122,Tryz.ntmps122
 go_wp2
 rw [run_callFunc_extern Tryz.func133 (by kernel_rfl) (by kernel_rfl) (by kernel_rfl) (e:=Extern.BytealgIndexByte.indexByte) (by kernel_rfl),Lib.run_indexByteString]
 simp only [Result.andThen]
 rw [Oper.upon_value]
 go_wp2
 go_ret
 exact ⟨rfl,rfl⟩
theorem index_call (s:ByteArray) (c:UInt8) (w:World) :
  Calls Tryz.prog 112 #[.string s,.string ⟨#[c]⟩] w fun e w'=>e = .returned (.int .i64 (Lib.indexByte s.data.toList c))∧w' = w:=by
 have hc:(⟨#[c]⟩:ByteArray).size = 1:=rfl
 go_enter Tryz.func112,Tryz.ntmps112
 go_wp2_with (go_at_call 122;refine (indexByte_call s _ w).mono ?_;rintro e w' ⟨rfl,rfl⟩)
 all_goals go_ret
 ·rename_i h
  have e:s.data.toList = [c]:=by rw [← ByteArray.toList_eq];exact (beq_iff_eq.1 h).symm
  exact ⟨by rw [e];simp [Lib.indexByte],rfl⟩
 ·exact ⟨by first|rfl|simp,rfl⟩
def cutAt (s:ByteArray) (c:UInt8):ByteArray × ByteArray × Bool :=
 if Lib.indexByte s.data.toList c < 0 then (s,⟨#[]⟩,false) else (s.extract 0 (Lib.indexByte s.data.toList c).toNat,s.extract ((Lib.indexByte s.data.toList c).toNat + 1) s.size,true)
theorem ix_lt (s:ByteArray) (c:UInt8) (h:¬ Lib.indexByte s.data.toList c < 0):∃ i:Nat,Lib.indexByte s.data.toList c = (i:Int)∧i < s.size:=by
 obtain ⟨i,hi⟩:=Int.eq_ofNat_of_zero_le (Int.not_lt.1 h)
 refine ⟨i,hi,?_⟩
 have:=(Lib.indexByte_some hi).1
 have:=(List.getElem?_eq_some_iff.1 this).1
 simpa using this
theorem cut_call (s:ByteArray) (c:UInt8) (w:World) (hs:s.size≤140737488355328) :
  Calls Tryz.prog 103 #[.string s,.string ⟨#[c]⟩] w fun e w'=>e = .returned (.tuple #[.string (cutAt s c).1,.string (cutAt s c).2.1,.bool (cutAt s c).2.2])∧Below w.heap.size w w':=by
 have hc:(⟨#[c]⟩:ByteArray).size = 1:=rfl
 by_cases h:Lib.indexByte s.data.toList c < 0
 ·have e:cutAt s c = (s,⟨#[]⟩,false):=if_pos h
  rw [e]
  have h2:¬ 0≤Lib.indexByte s.data.toList c:=by omega
  go_enter Tryz.func103,Tryz.ntmps103
  go_wp2_with (go_at_call 112;refine (index_call s c w).mono ?_;rintro e w' ⟨rfl,rfl⟩)
  go_ret3
  exact ⟨rfl,Below.refl _ _⟩
 ·have e:cutAt s c = (s.extract 0 (Lib.indexByte s.data.toList c).toNat,s.extract ((Lib.indexByte s.data.toList c).toNat + 1) s.size,true):=if_neg h
  obtain ⟨i,hi,hlt⟩:=ix_lt s c h
  rw [e,hi]
  have h1:(0:Int)≤↑i:=by omega
  have c2:(↑i:Int)≤↑s.size:=by omega
  have c3:(0:Int)≤↑i + 1:=by omega
  have c4:(↑i + 1:Int)≤↑s.size:=by omega
  clear e h
  have HI:=Aside0.mk hi
  clear hi
  go_enter Tryz.func103,Tryz.ntmps103
  go_wp2_with (go_at_call 112;refine (index_call s c w).mono ?_;rintro e w' ⟨rfl,rfl⟩;rw [HI.out])
  have Aa:Tryz.prog.follows .mixedOrders = true:=by kernel_rfl
  have hw:IntKind.i64.wrap ((i:Int) + 1) = (i:Int) + 1:=IntWalk.i64_in _ (by omega)
  go_region_o
  clear hw Aa
  go_wp2
  go_ret3
  exact ⟨by simp,by repeat (first|exact Below.refl _ _|apply below_drew1)⟩
def strings_Cut.f (a b:ByteArray):Option (ByteArray × ByteArray × Bool):=if b.data = #[47]∧a.size≤140737488355328 then some (cutAt a 47) else none
theorem strings_Cut.calls (a0 a1 r1 r2:ByteArray) (r3:Bool) (w:World) (h:strings_Cut.f a0 a1 = some (r1,r2,r3)) :
  Calls Tryz.prog 84 #[.string a0,.string a1] w fun e w'=>e = .returned (.tuple #[.string r1,.string r2,.bool r3])∧Below w.heap.size w w':=by
 unfold strings_Cut.f at h
 by_cases hc:a1.data = #[47]∧a0.size≤140737488355328
 ·rw [if_pos hc] at h
  obtain ⟨hb,hs⟩:=hc
  obtain ⟨d⟩:=a1
  have hd:d = #[47]:=hb
  subst hd
  have h1:=Option.some.inj h
  have e1:r1 = (cutAt a0 47).1:=by rw [h1]
  have e2:r2 = (cutAt a0 47).2.1:=by rw [h1]
  have e3:r3 = (cutAt a0 47).2.2:=by rw [h1]
  subst e1 e2 e3
  clear h h1 hb
  go_enter Tryz.func84,Tryz.ntmps84
  go_wp2_with (go_at_call 103;refine (cut_call a0 47 w hs).mono ?_;rintro e w' ⟨rfl,hb⟩;have HB:=Aside0.mk hb;clear hb)
  go_ret3
  exact ⟨rfl,HB.out⟩
 ·rw [if_neg hc] at h
  exact absurd h (by simp)
end Go.Proofs.YtcmbggahndfnnaaGreatDoor.Pr
namespace Go.Proofs.YtcmbggahndfnnaaGreatDoor.Pr
open Go.RowKit Go.Proofs.YtcmbggahndfnnaaGreatDoorW.PrintWords Go.Proofs.YtcmbggahndfnnaaGreatDoorW.PrintLast Go.Proofs.YtcmbggahndfnnaaGreatDoorW.PrintMore
attribute [local go_sem] max2_int min2_int max_two min_two max_three min_three max_four min_four
set_option maxHeartbeats 8000000
set_option maxRecDepth 100000
def rational_read.f (k:Nat) (a0:ByteArray):Option (ByteArray × ByteArray × Bool):=(strings_Cut.f a0 (⟨#[47]⟩:ByteArray)).bind fun bt199=>(if bt199.2.2 = true then ((integer_Valid.f k bt199.1).bind fun t202=>(if t202 = true then (if bt199.1.toList = ([48]:List UInt8) then (some (bt199.1,bt199.2.1,false)) else ((natural_Valid.f k bt199.2.1).bind fun t203=>(if t203 = true then (if bt199.2.1.toList = ([48]:List UInt8) then (some (bt199.1,bt199.2.1,false)) else (if bt199.2.1.toList = ([49]:List UInt8) then (some (bt199.1,bt199.2.1,false)) else ((rational_divisor.f k bt199.1 bt199.2.1).bind fun t204=>(some (bt199.1,bt199.2.1,(t204.toList == ([49]:List UInt8))))))) else (some (bt199.1,bt199.2.1,false))))) else (some (bt199.1,bt199.2.1,false)))) else ((integer_Valid.f k bt199.1).bind fun t205=>(some (bt199.1,(⟨#[49]⟩:ByteArray),t205))))
theorem rational_read.mono:∀ a0 k,LeO (rational_read.f k a0) (rational_read.f (k + 1) a0):=by intro a0 k;unfold rational_read.f;have:=@integer_Valid.mono;have:=@natural_Valid.mono;have:=@rational_divisor.mono;exact mn_
theorem rational_read.calls (k:Nat) (a0:ByteArray) (r1:ByteArray) (r2:ByteArray) (r3:Bool) (w:World) (hL:LaidW w) (h:rational_read.f k a0 = some (r1,r2,r3)) :
  Calls Tryz.prog 74 #[.string a0] w fun e w'=>e = .returned (.tuple #[.agg #[.string r1,.string r2],.bool r3])∧Below w.heap.size w w':=by
 have Ch:=Tryz.underlying111
 have HB:=Aside0.mk (Below.refl w.heap.size w)
 have HLW:=Aside0.mk hL
 clear hL
 have H:=h;clear h;unfold rational_read.f at H
 obtain ⟨⟨Ab,Ac,Ce⟩,A2,H⟩:=bn_ H
 dsimp only at H
 by_cases c3:Ce = true
 ·subst c3
  have H1:((integer_Valid.f k Ab).bind fun Al=>(if Al = true then (if Ab.toList = ([48]:List UInt8) then (some (Ab,Ac,false)) else ((natural_Valid.f k Ac).bind fun Ah=>(if Ah = true then (if Ac.toList = ([48]:List UInt8) then (some (Ab,Ac,false)) else (if Ac.toList = ([49]:List UInt8) then (some (Ab,Ac,false)) else ((rational_divisor.f k Ab Ac).bind fun Af=>(some (Ab,Ac,(Af.toList == ([49]:List UInt8))))))) else (some (Ab,Ac,false))))) else (some (Ab,Ac,false)))) = some (r1,r2,r3):=by rw [if_pos rfl] at H;exact H
  clear H
  have H:=H1
  clear H1
  obtain ⟨Al,A4,H⟩:=bn_ H
  by_cases c5:Al = true
  ·subst c5
   have H1:(if Ab.toList = ([48]:List UInt8) then (some (Ab,Ac,false)) else ((natural_Valid.f k Ac).bind fun Ah=>(if Ah = true then (if Ac.toList = ([48]:List UInt8) then (some (Ab,Ac,false)) else (if Ac.toList = ([49]:List UInt8) then (some (Ab,Ac,false)) else ((rational_divisor.f k Ab Ac).bind fun Af=>(some (Ab,Ac,(Af.toList == ([49]:List UInt8))))))) else (some (Ab,Ac,false))))) = some (r1,r2,r3):=by rw [if_pos rfl] at H;exact H
   clear H
   have H:=H1
   clear H1
   by_cases c6:Ab.toList = ([48]:List UInt8)
   ·rw [if_pos c6] at H
    have Cg:(Ab.toList == ([48]:List UInt8)) = true:=beq_iff_eq.mpr c6
    have Cf:(Ab.toList != ([48]:List UInt8)) = false:=bne_eq_false_iff_eq.mpr c6
    clear c6
    simp only [Option.some.injEq,Prod.mk.injEq] at H
    obtain ⟨rfl,rfl,rfl⟩:=H
    go_enter Tryz.func74,Tryz.ntmps74
    go_wp2_with (first|((with_reducible refine gate_dst (N:=2) rfl ?_);refine bv_ #[.string (⟨#[]⟩:ByteArray),.string (⟨#[]⟩:ByteArray)] 111 ?_;clear HB;intro Ad hg w7 Aa Ae hb HB;clear hb hg)|((with_reducible refine gate_callee (f:=84) rfl ?_);refine gl_ (some 10) Tryz.func84 #[.string a0,.string (⟨#[47]⟩:ByteArray)] (strings_Cut.calls a0 (⟨#[47]⟩:ByteArray) Ab Ac true _ A2.out) ?_;clear HB;intro w8 hb HB;replace Aa:=bb_ Aa hb;clear hb)|((with_reducible refine gate_callee (f:=85) rfl ?_);refine gl_ (some 21) Tryz.func85 #[.string Ab] (integer_Valid.calls k Ab true _ A4.out) ?_;clear HB;intro w9 hb HB;replace Aa:=bb_ Aa hb;clear hb;obtain ⟨Ca,Bz,Bl,Bk⟩:=c2_ Aa))
    refine bodyPost_ret (results_ct rfl _ _ Ad 111 #[.string Ab,.string Ac] (0,0) _ rfl bk_ Tryz.underlying111 rfl kr_) rfl ?_
    exact ⟨rf_,bx_⟩
   ·rw [if_neg c6] at H
    have Cg:(Ab.toList == ([48]:List UInt8)) = false:=beq_eq_false_iff_ne.mpr c6
    have Cf:(Ab.toList != ([48]:List UInt8)) = true:=bne_iff_ne.mpr c6
    obtain ⟨Ah,Cc,H⟩:=bn_ H
    by_cases Cb:Ah = true
    ·subst Cb
     have H1:(if Ac.toList = ([48]:List UInt8) then (some (Ab,Ac,false)) else (if Ac.toList = ([49]:List UInt8) then (some (Ab,Ac,false)) else ((rational_divisor.f k Ab Ac).bind fun Af=>(some (Ab,Ac,(Af.toList == ([49]:List UInt8))))))) = some (r1,r2,r3):=by rw [if_pos rfl] at H;exact H
     clear H
     have H:=H1
     clear H1
     by_cases An:Ac.toList = ([48]:List UInt8)
     ·rw [if_pos An] at H
      have Aw:(Ac.toList == ([48]:List UInt8)) = true:=beq_iff_eq.mpr An
      have Av:(Ac.toList != ([48]:List UInt8)) = false:=bne_eq_false_iff_eq.mpr An
      clear An
      simp only [Option.some.injEq,Prod.mk.injEq] at H
      obtain ⟨rfl,rfl,rfl⟩:=H
      go_enter Tryz.func74,Tryz.ntmps74
      go_wp2_with (first|((with_reducible refine gate_dst (N:=2) rfl ?_);refine bv_ #[.string (⟨#[]⟩:ByteArray),.string (⟨#[]⟩:ByteArray)] 111 ?_;clear HB;intro Ad hg Cy Aa Ae hb HB;clear hb hg)|((with_reducible refine gate_callee (f:=84) rfl ?_);refine gl_ (some 10) Tryz.func84 #[.string a0,.string (⟨#[47]⟩:ByteArray)] (strings_Cut.calls a0 (⟨#[47]⟩:ByteArray) Ab Ac true _ A2.out) ?_;clear HB;intro Cx hb HB;replace Aa:=bb_ Aa hb;clear hb)|((with_reducible refine gate_callee (f:=85) rfl ?_);refine gl_ (some 21) Tryz.func85 #[.string Ab] (integer_Valid.calls k Ab true _ A4.out) ?_;clear HB;intro As hb HB;replace Aa:=bb_ Aa hb;clear hb)|(go_at_call 86;(with_reducible refine (natural_Valid.calls k Ac true _ Cc.out).mono ?_);rintro e w' ⟨rfl,⟨nd,rfl⟩⟩;(try (rw [drewN_self As];generalize Ag:World.drewN As _ = As;have Aj:Aside0 (As.heap[Ad]? = some (.cells #[.string (⟨#[]⟩:ByteArray),.string (⟨#[]⟩:ByteArray)] 111 (0,0))):=⟨by rw [← Ag];exact bk_⟩;have Ai:Aside0 (Below w.heap.size w As):=⟨by rw [← Ag];exact bx_⟩;clear Aa HB Ag;have Aa:=Aj;have HB:=Ai;clear Aj Ai));obtain ⟨By,Bx,Bj,Bi⟩:=c2_ Aa))
      refine bodyPost_ret (results_ct rfl _ _ Ad 111 #[.string Ab,.string Ac] (0,0) _ rfl bk_ Tryz.underlying111 rfl kr_) rfl ?_
      exact ⟨rf_,bx_⟩
     ·rw [if_neg An] at H
      have Aw:(Ac.toList == ([48]:List UInt8)) = false:=beq_eq_false_iff_ne.mpr An
      have Av:(Ac.toList != ([48]:List UInt8)) = true:=bne_iff_ne.mpr An
      by_cases Am:Ac.toList = ([49]:List UInt8)
      ·rw [if_pos Am] at H
       have Au:(Ac.toList == ([49]:List UInt8)) = true:=beq_iff_eq.mpr Am
       have At:(Ac.toList != ([49]:List UInt8)) = false:=bne_eq_false_iff_eq.mpr Am
       clear Am
       simp only [Option.some.injEq,Prod.mk.injEq] at H
       obtain ⟨rfl,rfl,rfl⟩:=H
       go_enter Tryz.func74,Tryz.ntmps74
       go_wp2_with (first|((with_reducible refine gate_dst (N:=2) rfl ?_);refine bv_ #[.string (⟨#[]⟩:ByteArray),.string (⟨#[]⟩:ByteArray)] 111 ?_;clear HB;intro Ad hg Cw Aa Ae hb HB;clear hb hg)|((with_reducible refine gate_callee (f:=84) rfl ?_);refine gl_ (some 10) Tryz.func84 #[.string a0,.string (⟨#[47]⟩:ByteArray)] (strings_Cut.calls a0 (⟨#[47]⟩:ByteArray) Ab Ac true _ A2.out) ?_;clear HB;intro Cv hb HB;replace Aa:=bb_ Aa hb;clear hb)|((with_reducible refine gate_callee (f:=85) rfl ?_);refine gl_ (some 21) Tryz.func85 #[.string Ab] (integer_Valid.calls k Ab true _ A4.out) ?_;clear HB;intro Aq hb HB;replace Aa:=bb_ Aa hb;clear hb)|(go_at_call 86;(with_reducible refine (natural_Valid.calls k Ac true _ Cc.out).mono ?_);rintro e w' ⟨rfl,⟨nd,rfl⟩⟩;(try (rw [drewN_self Aq];generalize Ag:World.drewN Aq _ = Aq;have Aj:Aside0 (Aq.heap[Ad]? = some (.cells #[.string (⟨#[]⟩:ByteArray),.string (⟨#[]⟩:ByteArray)] 111 (0,0))):=⟨by rw [← Ag];exact bk_⟩;have Ai:Aside0 (Below w.heap.size w Aq):=⟨by rw [← Ag];exact bx_⟩;clear Aa HB Ag;have Aa:=Aj;have HB:=Ai;clear Aj Ai));obtain ⟨Bw,Bv,Bh,Bg⟩:=c2_ Aa))
       refine bodyPost_ret (results_ct rfl _ _ Ad 111 #[.string Ab,.string Ac] (0,0) _ rfl bk_ Tryz.underlying111 rfl kr_) rfl ?_
       exact ⟨rf_,bx_⟩
      ·rw [if_neg Am] at H
       have Au:(Ac.toList == ([49]:List UInt8)) = false:=beq_eq_false_iff_ne.mpr Am
       have At:(Ac.toList != ([49]:List UInt8)) = true:=bne_iff_ne.mpr Am
       obtain ⟨Af,Cj,H⟩:=bn_ H
       simp only [Option.some.injEq,Prod.mk.injEq] at H
       obtain ⟨rfl,rfl,rfl⟩:=H
       go_enter Tryz.func74,Tryz.ntmps74
       go_wp2_with (first|((with_reducible refine gate_dst (N:=2) rfl ?_);refine bv_ #[.string (⟨#[]⟩:ByteArray),.string (⟨#[]⟩:ByteArray)] 111 ?_;clear HB;intro Ad hg Cu Aa Ae hb HB;clear hb hg)|((with_reducible refine gate_callee (f:=84) rfl ?_);refine gl_ (some 10) Tryz.func84 #[.string a0,.string (⟨#[47]⟩:ByteArray)] (strings_Cut.calls a0 (⟨#[47]⟩:ByteArray) Ab Ac true _ A2.out) ?_;clear HB;intro Ct hb HB;replace Aa:=bb_ Aa hb;clear hb)|((with_reducible refine gate_callee (f:=85) rfl ?_);refine gl_ (some 21) Tryz.func85 #[.string Ab] (integer_Valid.calls k Ab true _ A4.out) ?_;clear HB;intro Ap hb HB;replace Aa:=bb_ Aa hb;clear hb)|(go_at_call 86;(with_reducible refine (natural_Valid.calls k Ac true _ Cc.out).mono ?_);rintro e w' ⟨rfl,⟨nd,rfl⟩⟩;(try (rw [drewN_self Ap];generalize Ag:World.drewN Ap _ = Ap;have Aj:Aside0 (Ap.heap[Ad]? = some (.cells #[.string (⟨#[]⟩:ByteArray),.string (⟨#[]⟩:ByteArray)] 111 (0,0))):=⟨by rw [← Ag];exact bk_⟩;have Ai:Aside0 (Below w.heap.size w Ap):=⟨by rw [← Ag];exact bx_⟩;clear Aa HB Ag;have Aa:=Aj;have HB:=Ai;clear Aj Ai)))|(go_at_call 87;(with_reducible refine (rational_divisor.calls k Ab Ac Af _ (HLW.out.below bx_) Cj.out).mono ?_);rintro e Cs ⟨rfl,hb⟩;replace Aa:=bb_ Aa hb;replace HB:=bs_ hb;(try clear hb);obtain ⟨Bu,Bt,Bf,Be⟩:=c2_ Aa))
       refine bodyPost_ret (results_ct rfl _ _ Ad 111 #[.string Ab,.string Ac] (0,0) _ rfl bk_ Tryz.underlying111 rfl kr_) rfl ?_
       exact ⟨rf_,bx_⟩
    ·replace Cb:=Bool.eq_false_iff.mpr Cb
     subst Cb
     have H1:(some (Ab,Ac,false)) = some (r1,r2,r3):=by rw [if_neg (show ¬ (false = true) by decide)] at H;exact H
     clear H
     have H:=H1
     clear H1
     simp only [Option.some.injEq,Prod.mk.injEq] at H
     obtain ⟨rfl,rfl,rfl⟩:=H
     go_enter Tryz.func74,Tryz.ntmps74
     go_wp2_with (first|((with_reducible refine gate_dst (N:=2) rfl ?_);refine bv_ #[.string (⟨#[]⟩:ByteArray),.string (⟨#[]⟩:ByteArray)] 111 ?_;clear HB;intro Ad hg Cr Aa Ae hb HB;clear hb hg)|((with_reducible refine gate_callee (f:=84) rfl ?_);refine gl_ (some 10) Tryz.func84 #[.string a0,.string (⟨#[47]⟩:ByteArray)] (strings_Cut.calls a0 (⟨#[47]⟩:ByteArray) Ab Ac true _ A2.out) ?_;clear HB;intro Cq hb HB;replace Aa:=bb_ Aa hb;clear hb)|((with_reducible refine gate_callee (f:=85) rfl ?_);refine gl_ (some 21) Tryz.func85 #[.string Ab] (integer_Valid.calls k Ab true _ A4.out) ?_;clear HB;intro Ao hb HB;replace Aa:=bb_ Aa hb;clear hb)|(go_at_call 86;(with_reducible refine (natural_Valid.calls k Ac false _ Cc.out).mono ?_);rintro e w' ⟨rfl,⟨nd,rfl⟩⟩;(try (rw [drewN_self Ao];generalize Ag:World.drewN Ao _ = Ao;have Aj:Aside0 (Ao.heap[Ad]? = some (.cells #[.string (⟨#[]⟩:ByteArray),.string (⟨#[]⟩:ByteArray)] 111 (0,0))):=⟨by rw [← Ag];exact bk_⟩;have Ai:Aside0 (Below w.heap.size w Ao):=⟨by rw [← Ag];exact bx_⟩;clear Aa HB Ag;have Aa:=Aj;have HB:=Ai;clear Aj Ai));obtain ⟨Br,Bq,Bd,Bc⟩:=c2_ Aa))
     refine bodyPost_ret (results_ct rfl _ _ Ad 111 #[.string Ab,.string Ac] (0,0) _ rfl bk_ Tryz.underlying111 rfl kr_) rfl ?_
     exact ⟨rf_,bx_⟩
  ·replace c5:=Bool.eq_false_iff.mpr c5
   subst c5
   have H1:(some (Ab,Ac,false)) = some (r1,r2,r3):=by rw [if_neg (show ¬ (false = true) by decide)] at H;exact H
   clear H
   have H:=H1
   clear H1
   simp only [Option.some.injEq,Prod.mk.injEq] at H
   obtain ⟨rfl,rfl,rfl⟩:=H
   go_enter Tryz.func74,Tryz.ntmps74
   go_wp2_with (first|((with_reducible refine gate_dst (N:=2) rfl ?_);refine bv_ #[.string (⟨#[]⟩:ByteArray),.string (⟨#[]⟩:ByteArray)] 111 ?_;clear HB;intro Ad hg Cp Aa Ae hb HB;clear hb hg)|((with_reducible refine gate_callee (f:=84) rfl ?_);refine gl_ (some 10) Tryz.func84 #[.string a0,.string (⟨#[47]⟩:ByteArray)] (strings_Cut.calls a0 (⟨#[47]⟩:ByteArray) Ab Ac true _ A2.out) ?_;clear HB;intro Co hb HB;replace Aa:=bb_ Aa hb;clear hb)|((with_reducible refine gate_callee (f:=85) rfl ?_);refine gl_ (some 21) Tryz.func85 #[.string Ab] (integer_Valid.calls k Ab false _ A4.out) ?_;clear HB;intro Cn hb HB;replace Aa:=bb_ Aa hb;clear hb;obtain ⟨Bp,Bo,Bb,Ba⟩:=c2_ Aa))
   refine bodyPost_ret (results_ct rfl _ _ Ad 111 #[.string Ab,.string Ac] (0,0) _ rfl bk_ Tryz.underlying111 rfl kr_) rfl ?_
   exact ⟨rf_,bx_⟩
 ·replace c3:=Bool.eq_false_iff.mpr c3
  subst c3
  have H1:((integer_Valid.f k Ab).bind fun Ak=>(some (Ab,(⟨#[49]⟩:ByteArray),Ak))) = some (r1,r2,r3):=by rw [if_neg (show ¬ (false = true) by decide)] at H;exact H
  clear H
  have H:=H1
  clear H1
  obtain ⟨Ak,Ci,H⟩:=bn_ H
  simp only [Option.some.injEq,Prod.mk.injEq] at H
  obtain ⟨rfl,rfl,rfl⟩:=H
  go_enter Tryz.func74,Tryz.ntmps74
  go_wp2_with (first|((with_reducible refine gate_dst (N:=2) rfl ?_);refine bv_ #[.string (⟨#[]⟩:ByteArray),.string (⟨#[]⟩:ByteArray)] 111 ?_;clear HB;intro Ad hg Cm Aa Ae hb HB;clear hb hg)|((with_reducible refine gate_callee (f:=84) rfl ?_);refine gl_ (some 10) Tryz.func84 #[.string a0,.string (⟨#[47]⟩:ByteArray)] (strings_Cut.calls a0 (⟨#[47]⟩:ByteArray) Ab Ac false _ A2.out) ?_;clear HB;intro Cl hb HB;replace Aa:=bb_ Aa hb;clear hb)|((with_reducible refine gate_callee (f:=85) rfl ?_);refine gl_ (some 19) Tryz.func85 #[.string Ab] (integer_Valid.calls k Ab Ak _ Ci.out) ?_;clear HB;intro Ck hb HB;replace Aa:=bb_ Aa hb;clear hb;obtain ⟨Bn,Bm,Ay,Ax⟩:=c2_ Aa))
  refine bodyPost_ret (results_ct rfl _ _ Ad 111 #[.string Ab,.string (⟨#[49]⟩:ByteArray)] (0,0) _ rfl bk_ Tryz.underlying111 rfl kr_) rfl ?_
  exact ⟨rf_,bx_⟩
set_option maxHeartbeats 8000000
set_option maxRecDepth 100000
def rational_Valid.f (k:Nat) (a0:ByteArray):Option (Bool):=(rational_read.f k a0).bind fun bt206=>(some bt206.2.2)
theorem rational_Valid.mono:∀ a0 k,LeO (rational_Valid.f k a0) (rational_Valid.f (k + 1) a0):=by intro a0 k;unfold rational_Valid.f;have:=@rational_read.mono;exact mn_
theorem rational_Valid.calls (k:Nat) (a0:ByteArray) (r:Bool) (w:World) (hL:LaidW w) (h:rational_Valid.f k a0 = some r) :
  Calls Tryz.prog 44 #[.string a0] w fun e w'=>e = .returned (.bool r)∧Below w.heap.size w w':=by
 have Ai:=Tryz.underlying111
 have HB:=Aside0.mk (Below.refl w.heap.size w)
 have HLW:=Aside0.mk hL
 clear hL
 have H:=h;clear h;unfold rational_Valid.f at H
 obtain ⟨⟨Ad,Ac,Ab⟩,A2,H⟩:=bn_ H
 dsimp only at H
 obtain rfl:=Option.some.inj H
 go_enter Tryz.func44,Tryz.ntmps44
 go_wp2_with (first|((with_reducible refine gate_callee (f:=74) rfl ?_);refine gl_ (some 7) Tryz.func74 #[.string a0] (rational_read.calls k a0 Ad Ac Ab _ (HLW.out.below bx_) A2.out) ?_;clear HB;intro w3 hb HB;clear hb)|((with_reducible refine gate_dst (N:=3) rfl ?_);refine bv_ #[.string (⟨#[]⟩:ByteArray),.string (⟨#[]⟩:ByteArray)] 111 ?_;clear HB;intro Aj hg w4 Aa Ak hb HB;clear hb hg;obtain ⟨Ah,Ag,Af,Ae⟩:=c2_ Aa))
 go_ret
 exact ⟨rf_,bx_⟩
set_option maxHeartbeats 2000000
def PredI {α:Type} (P:Program) (g:Nat) (xs:List α) (enc:α→Value) (p:α→Bool) (w:World):Prop :=
 ∀ (W:World) (x:α),x ∈ xs→Below w.heap.size w W→Calls P g #[enc x] W fun e w'=>e = .returned (.bool (p x))∧Below w.heap.size w w'
theorem idxRat (p:ByteArray→Bool) (g:Nat) (eg:∀ args w,(callFunc g args).run Tryz.prog w = .ok (.enter g args) w) (A:Option Addr) (c:Nat) (xs:List ByteArray) (w:World)
  (hr:Kd.C Kd.string w A xs.length xs) (hp:PredI Tryz.prog g xs (fun x:ByteArray=>(.string x:Value)) p w) :
  Calls Tryz.prog 71 #[.slice A xs.length c,.func (.func g) #[] #[]] w fun e w'=>e = .returned (.int .i64 (fidx p xs 0))∧Below w.heap.size w w':=by
 have Ad:=hr.2.1
 have HR:=Aside0.mk hr
 have HP:=Aside0.mk hp
 clear hr hp
 go_enter Tryz.func71,Tryz.ntmps71
 go_wp2
 go_loopg [5,8] xs.length (fun gg _ s8 wr=>∃ kk:Nat,kk≤xs.length∧xs.length - kk≤gg∧s8 = .int .i64 kk∧Aside0 (Below w.heap.size w wr)∧Aside0 (∀ j z,j < kk→xs[j]? = some z→p z = false))
 case atStart=>exact ⟨0,Nat.zero_le _,by omega,rfl,⟨Below.refl _ w⟩,⟨fun j z hj=>absurd hj (Nat.not_lt_zero _)⟩⟩
 case round =>
  obtain ⟨kk,hkk,hg,rfl,BW,AF⟩:=hrel
  by_cases hlt:kk < xs.length
  ·have Ac:(kk:Int) < (xs.length:Int):=by omega
   obtain ⟨ad,e,h0⟩:=Kd.at_string HR.out kk (by omega) Ac
   cases e
   replace h0:=(BW.out.cell (World.block_lt_of_cell? w _ h0)).trans h0
   simp only [Int.toNat_natCast] at h0
   have Ab:xs[kk]? = some (rdOf ByteArray.empty xs kk):=by
    unfold rdOf
    rw [List.getD_eq_getElem?_getD,Int.toNat_natCast,List.getElem?_eq_getElem hlt]
    rfl
   have Aa:=HP.out wr (rdOf ByteArray.empty xs kk) (List.mem_of_getElem? Ab) BW.out
   have HG:=Aside0.mk Ab
   clear Ab
   generalize rdOf ByteArray.empty xs (kk:Int) = y at h0 Aa HG
   cases hq:p y with
   | true =>
    have HQ:=Aside0.mk hq
    rw [hq] at Aa
    clear hq
    go_wp2_with fail
    refine Aa.mono ?_
    clear Aa
    rintro e w' ⟨rfl,hb'⟩
    go_wp2_with fail
    go_ret
    refine ⟨?_,hb'⟩
    rw [fidx_hit p xs 0 kk _ HG.out HQ.out AF.out,Nat.zero_add]
    rfl
   | false =>
    have HQ:=Aside0.mk hq
    rw [hq] at Aa
    clear hq
    go_wp2_with fail
    refine Aa.mono ?_
    clear Aa
    rintro e w' ⟨rfl,hb'⟩
    go_wp2_with fail
    go_roundg (xs.length - (kk + 1))
    case measure=>omega
    case rel =>
     refine ⟨kk + 1,by omega,by omega,by go_num,⟨hb'⟩,⟨fun j z hj hz=>?_⟩⟩
     by_cases e:j = kk
     ·subst e
      rw [HG.out] at hz
      injection hz with hz
      rw [← hz]
      exact HQ.out
     ·exact AF.out j z (by omega) hz
  ·have Ac:¬ (kk:Int) < (xs.length:Int):=by omega
   go_wp2
   go_ret
   refine ⟨?_,BW.out⟩
   have hf:fidx p xs 0 = -1:=fidx_miss p xs 0 (fun x hx=>by
    obtain ⟨j,hj⟩:=List.getElem?_of_mem hx
    have hjl:=(List.getElem?_eq_some_iff.1 hj).1
    exact AF.out j x (by omega) hj)
   rw [hf]
   rfl
theorem hasRat (p:ByteArray→Bool) (g:Nat) (eg:∀ args w,(callFunc g args).run Tryz.prog w = .ok (.enter g args) w) (A:Option Addr) (c:Nat) (xs:List ByteArray) (w:World)
  (hr:Kd.C Kd.string w A xs.length xs) (hp:PredI Tryz.prog g xs (fun x:ByteArray=>(.string x:Value)) p w) :
  Calls Tryz.prog 37 #[.slice A xs.length c,.func (.func g) #[] #[]] w fun e w'=>e = .returned (.bool (xs.any p))∧Below w.heap.size w w':=by
 have Aa:=idxRat p g eg A c xs w hr hp
 rw [fidx_any p xs 0]
 clear hr hp eg
 generalize fidx p xs 0 = q at Aa ⊢
 go_enter Tryz.func37,Tryz.ntmps37
 go_wp2_with fail
 refine Aa.mono ?_
 clear Aa
 rintro e w' ⟨rfl,hb'⟩
 go_wp2_with fail
 go_ret
 exact ⟨by first|rfl|simp,hb'⟩
theorem idxStr (p:ByteArray→Bool) (g:Nat) (eg:∀ args w,(callFunc g args).run Tryz.prog w = .ok (.enter g args) w) (A:Option Addr) (c:Nat) (xs:List ByteArray) (w:World)
  (hr:Kd.C Kd.string w A xs.length xs) (hp:PredI Tryz.prog g xs (fun x:ByteArray=>(.string x:Value)) p w) :
  Calls Tryz.prog 72 #[.slice A xs.length c,.func (.func g) #[] #[]] w fun e w'=>e = .returned (.int .i64 (fidx p xs 0))∧Below w.heap.size w w':=by
 have Ad:=hr.2.1
 have HR:=Aside0.mk hr
 have HP:=Aside0.mk hp
 clear hr hp
 go_enter Tryz.func72,Tryz.ntmps72
 go_wp2
 go_loopg [5,8] xs.length (fun gg _ s8 wr=>∃ kk:Nat,kk≤xs.length∧xs.length - kk≤gg∧s8 = .int .i64 kk∧Aside0 (Below w.heap.size w wr)∧Aside0 (∀ j z,j < kk→xs[j]? = some z→p z = false))
 case atStart=>exact ⟨0,Nat.zero_le _,by omega,rfl,⟨Below.refl _ w⟩,⟨fun j z hj=>absurd hj (Nat.not_lt_zero _)⟩⟩
 case round =>
  obtain ⟨kk,hkk,hg,rfl,BW,AF⟩:=hrel
  by_cases hlt:kk < xs.length
  ·have Ac:(kk:Int) < (xs.length:Int):=by omega
   obtain ⟨ad,e,h0⟩:=Kd.at_string HR.out kk (by omega) Ac
   cases e
   replace h0:=(BW.out.cell (World.block_lt_of_cell? w _ h0)).trans h0
   simp only [Int.toNat_natCast] at h0
   have Ab:xs[kk]? = some (rdOf ByteArray.empty xs kk):=by
    unfold rdOf
    rw [List.getD_eq_getElem?_getD,Int.toNat_natCast,List.getElem?_eq_getElem hlt]
    rfl
   have Aa:=HP.out wr (rdOf ByteArray.empty xs kk) (List.mem_of_getElem? Ab) BW.out
   have HG:=Aside0.mk Ab
   clear Ab
   generalize rdOf ByteArray.empty xs (kk:Int) = y at h0 Aa HG
   cases hq:p y with
   | true =>
    have HQ:=Aside0.mk hq
    rw [hq] at Aa
    clear hq
    go_wp2_with fail
    refine Aa.mono ?_
    clear Aa
    rintro e w' ⟨rfl,hb'⟩
    go_wp2_with fail
    go_ret
    refine ⟨?_,hb'⟩
    rw [fidx_hit p xs 0 kk _ HG.out HQ.out AF.out,Nat.zero_add]
    rfl
   | false =>
    have HQ:=Aside0.mk hq
    rw [hq] at Aa
    clear hq
    go_wp2_with fail
    refine Aa.mono ?_
    clear Aa
    rintro e w' ⟨rfl,hb'⟩
    go_wp2_with fail
    go_roundg (xs.length - (kk + 1))
    case measure=>omega
    case rel =>
     refine ⟨kk + 1,by omega,by omega,by go_num,⟨hb'⟩,⟨fun j z hj hz=>?_⟩⟩
     by_cases e:j = kk
     ·subst e
      rw [HG.out] at hz
      injection hz with hz
      rw [← hz]
      exact HQ.out
     ·exact AF.out j z (by omega) hz
  ·have Ac:¬ (kk:Int) < (xs.length:Int):=by omega
   go_wp2
   go_ret
   refine ⟨?_,BW.out⟩
   have hf:fidx p xs 0 = -1:=fidx_miss p xs 0 (fun x hx=>by
    obtain ⟨j,hj⟩:=List.getElem?_of_mem hx
    have hjl:=(List.getElem?_eq_some_iff.1 hj).1
    exact AF.out j x (by omega) hj)
   rw [hf]
   rfl
theorem hasStr (p:ByteArray→Bool) (g:Nat) (eg:∀ args w,(callFunc g args).run Tryz.prog w = .ok (.enter g args) w) (A:Option Addr) (c:Nat) (xs:List ByteArray) (w:World)
  (hr:Kd.C Kd.string w A xs.length xs) (hp:PredI Tryz.prog g xs (fun x:ByteArray=>(.string x:Value)) p w) :
  Calls Tryz.prog 39 #[.slice A xs.length c,.func (.func g) #[] #[]] w fun e w'=>e = .returned (.bool (xs.any p))∧Below w.heap.size w w':=by
 have Aa:=idxStr p g eg A c xs w hr hp
 rw [fidx_any p xs 0]
 clear hr hp eg
 generalize fidx p xs 0 = q at Aa ⊢
 go_enter Tryz.func39,Tryz.ntmps39
 go_wp2_with fail
 refine Aa.mono ?_
 clear Aa
 rintro e w' ⟨rfl,hb'⟩
 go_wp2_with fail
 go_ret
 exact ⟨by first|rfl|simp,hb'⟩
theorem idxInt (p:Int→Bool) (g:Nat) (eg:∀ args w,(callFunc g args).run Tryz.prog w = .ok (.enter g args) w) (A:Option Addr) (c:Nat) (xs:List Int) (w:World)
  (hr:Kd.C (Kd.int .i64) w A xs.length xs) (hp:PredI Tryz.prog g xs (fun x:Int=>(.int .i64 x:Value)) p w) :
  Calls Tryz.prog 73 #[.slice A xs.length c,.func (.func g) #[] #[]] w fun e w'=>e = .returned (.int .i64 (fidx p xs 0))∧Below w.heap.size w w':=by
 have Ad:=hr.2.1
 have HR:=Aside0.mk hr
 have HP:=Aside0.mk hp
 clear hr hp
 go_enter Tryz.func73,Tryz.ntmps73
 go_wp2
 go_loopg [5,8] xs.length (fun gg _ s8 wr=>∃ kk:Nat,kk≤xs.length∧xs.length - kk≤gg∧s8 = .int .i64 kk∧Aside0 (Below w.heap.size w wr)∧Aside0 (∀ j z,j < kk→xs[j]? = some z→p z = false))
 case atStart=>exact ⟨0,Nat.zero_le _,by omega,rfl,⟨Below.refl _ w⟩,⟨fun j z hj=>absurd hj (Nat.not_lt_zero _)⟩⟩
 case round =>
  obtain ⟨kk,hkk,hg,rfl,BW,AF⟩:=hrel
  by_cases hlt:kk < xs.length
  ·have Ac:(kk:Int) < (xs.length:Int):=by omega
   obtain ⟨ad,e,h0⟩:=Kd.at_int HR.out kk (by omega) Ac
   cases e
   replace h0:=(BW.out.cell (World.block_lt_of_cell? w _ h0)).trans h0
   simp only [Int.toNat_natCast] at h0
   have Ab:xs[kk]? = some (rd xs kk):=by
    unfold rd
    rw [List.getD_eq_getElem?_getD,Int.toNat_natCast,List.getElem?_eq_getElem hlt]
    rfl
   have Aa:=HP.out wr (rd xs kk) (List.mem_of_getElem? Ab) BW.out
   have HG:=Aside0.mk Ab
   clear Ab
   generalize rd xs (kk:Int) = y at h0 Aa HG
   cases hq:p y with
   | true =>
    have HQ:=Aside0.mk hq
    rw [hq] at Aa
    clear hq
    go_wp2_with fail
    refine Aa.mono ?_
    clear Aa
    rintro e w' ⟨rfl,hb'⟩
    go_wp2_with fail
    go_ret
    refine ⟨?_,hb'⟩
    rw [fidx_hit p xs 0 kk _ HG.out HQ.out AF.out,Nat.zero_add]
    rfl
   | false =>
    have HQ:=Aside0.mk hq
    rw [hq] at Aa
    clear hq
    go_wp2_with fail
    refine Aa.mono ?_
    clear Aa
    rintro e w' ⟨rfl,hb'⟩
    go_wp2_with fail
    go_roundg (xs.length - (kk + 1))
    case measure=>omega
    case rel =>
     refine ⟨kk + 1,by omega,by omega,by go_num,⟨hb'⟩,⟨fun j z hj hz=>?_⟩⟩
     by_cases e:j = kk
     ·subst e
      rw [HG.out] at hz
      injection hz with hz
      rw [← hz]
      exact HQ.out
     ·exact AF.out j z (by omega) hz
  ·have Ac:¬ (kk:Int) < (xs.length:Int):=by omega
   go_wp2
   go_ret
   refine ⟨?_,BW.out⟩
   have hf:fidx p xs 0 = -1:=fidx_miss p xs 0 (fun x hx=>by
    obtain ⟨j,hj⟩:=List.getElem?_of_mem hx
    have hjl:=(List.getElem?_eq_some_iff.1 hj).1
    exact AF.out j x (by omega) hj)
   rw [hf]
   rfl
theorem hasInt (p:Int→Bool) (g:Nat) (eg:∀ args w,(callFunc g args).run Tryz.prog w = .ok (.enter g args) w) (A:Option Addr) (c:Nat) (xs:List Int) (w:World)
  (hr:Kd.C (Kd.int .i64) w A xs.length xs) (hp:PredI Tryz.prog g xs (fun x:Int=>(.int .i64 x:Value)) p w) :
  Calls Tryz.prog 41 #[.slice A xs.length c,.func (.func g) #[] #[]] w fun e w'=>e = .returned (.bool (xs.any p))∧Below w.heap.size w w':=by
 have Aa:=idxInt p g eg A c xs w hr hp
 rw [fidx_any p xs 0]
 clear hr hp eg
 generalize fidx p xs 0 = q at Aa ⊢
 go_enter Tryz.func41,Tryz.ntmps41
 go_wp2_with fail
 refine Aa.mono ?_
 clear Aa
 rintro e w' ⟨rfl,hb'⟩
 go_wp2_with fail
 go_ret
 exact ⟨by first|rfl|simp,hb'⟩
theorem pred38 (xs:List ByteArray) (w:World):PredI Tryz.prog 38 xs (fun x:ByteArray=>(.string x:Value)) (fun x=>decide (200 < x.size)) w:=fun W x _ hb=>by
 show Calls Tryz.prog 38 #[.string x] W _
 go_enter Tryz.func38,Tryz.ntmps38
 go_wp2
 all_goals (go_ret;exact ⟨by first|rfl|(simp;done)|(simp;omega),hb⟩)
theorem pred40 (xs:List ByteArray) (w:World):PredI Tryz.prog 40 xs (fun x:ByteArray=>(.string x:Value)) (fun x=>decide (4096 < x.size)) w:=fun W x _ hb=>by
 show Calls Tryz.prog 40 #[.string x] W _
 go_enter Tryz.func40,Tryz.ntmps40
 go_wp2
 all_goals (go_ret;exact ⟨by first|rfl|(simp;done)|(simp;omega),hb⟩)
theorem pred42 (xs:List Int) (w:World):PredI Tryz.prog 42 xs (fun x:Int=>(.int .i64 x:Value)) (fun x=>decide (x < -1099511627776) || decide (1099511627776 < x)) w:=fun W x _ hb=>by
 show Calls Tryz.prog 42 #[.int .i64 x] W _
 go_enter Tryz.func42,Tryz.ntmps42
 go_wp2
 all_goals (go_ret;exact ⟨by first|rfl|simp [*],hb⟩)
theorem pred43 (k:Nat) (xs:List ByteArray) (h:xs.all (fun x=>(rational_Valid.f k x).isSome) = true) (w:World) (hL:LaidW w):PredI Tryz.prog 43 xs (fun x:ByteArray=>(.string x:Value)) (fun x=>rational_Valid.f k x == some false) w:=fun W x hx hb=>by
 obtain ⟨b,hv⟩:=Option.isSome_iff_exists.1 (List.all_eq_true.1 h x hx)
 have hc:=rational_Valid.calls k x b W (hL.below hb) hv
 have e:(rational_Valid.f k x == some false) = !b:=by rw [hv];cases b<;>rfl
 show Calls Tryz.prog 43 #[.string x] W fun e w'=>e = .returned (.bool (rational_Valid.f k x == some false))∧Below w.heap.size w w'
 rw [e]
 clear hv e h hx
 have HB:=Aside0.mk hb
 clear hb
 cases b
 all_goals
  go_enter Tryz.func43,Tryz.ntmps43
  go_wp2_with fail
  refine hc.mono ?_
  clear hc
  rintro e w' ⟨rfl,hb'⟩
  have HB':=Aside0.mk (below_step HB.out hb')
  clear hb'
  go_wp2
  go_ret
  exact ⟨rfl,HB'.out⟩
def record_Encode_1.f (l:List ByteArray):Option Bool:=some (l.any fun x=>decide (200 < x.size))
def record_Encode_2.f (l:List ByteArray):Option Bool:=some (l.any fun x=>decide (4096 < x.size))
def record_Encode_3.f (l:List Int):Option Bool:=some (l.any fun x=>decide (x < -1099511627776) || decide (1099511627776 < x))
def record_Encode_4.f (k:Nat) (l:List ByteArray):Option Bool:=if l.all (fun x=>(rational_Valid.f k x).isSome) = true then some (l.any fun x=>rational_Valid.f k x == some false) else none
theorem record_Encode_4.mono:∀ l k,LeO (record_Encode_4.f k l) (record_Encode_4.f (k + 1) l):=by
 intro l k r h
 unfold record_Encode_4.f at h ⊢
 by_cases hc:l.all (fun x=>(rational_Valid.f k x).isSome) = true
 ·rw [if_pos hc] at h
  have key:∀ x ∈ l,rational_Valid.f (k + 1) x = rational_Valid.f k x:=fun x hx=>by
   obtain ⟨b,hv⟩:=Option.isSome_iff_exists.1 (List.all_eq_true.1 hc x hx)
   rw [hv]
   exact rational_Valid.mono _ _ _ hv
  have h1:l.all (fun x=>(rational_Valid.f (k + 1) x).isSome) = true:=List.all_eq_true.2 fun x hx=>by
   rw [key x hx]
   exact List.all_eq_true.1 hc x hx
  rw [if_pos h1,← h]
  congr 1
  rw [Bool.eq_iff_iff,List.any_eq_true,List.any_eq_true]
  exact ⟨fun ⟨x,hx,e⟩=>⟨x,hx,by rw [← key x hx];exact e⟩,fun ⟨x,hx,e⟩=>⟨x,hx,by rw [key x hx];exact e⟩⟩
 ·rw [if_neg hc] at h
  cases h
theorem eg38:∀ args w,(callFunc 38 args).run Tryz.prog w = .ok (.enter 38 args) w:=enters_of Tryz.func38 (by kernel_rfl) rfl
theorem eg40:∀ args w,(callFunc 40 args).run Tryz.prog w = .ok (.enter 40 args) w:=enters_of Tryz.func40 (by kernel_rfl) rfl
theorem eg42:∀ args w,(callFunc 42 args).run Tryz.prog w = .ok (.enter 42 args) w:=enters_of Tryz.func42 (by kernel_rfl) rfl
theorem eg43:∀ args w,(callFunc 43 args).run Tryz.prog w = .ok (.enter 43 args) w:=enters_of Tryz.func43 (by kernel_rfl) rfl
theorem record_Encode_1.calls (A0:Option Addr) (c0:Nat) (l0:List ByteArray) (r:Bool) (w:World) (hr0:Kd.C Kd.string w A0 l0.length l0) (hc0:l0.length≤c0) (h:record_Encode_1.f l0 = some r) :
  Calls Tryz.prog 37 #[.slice A0 l0.length c0,.func (.func 38) #[] #[]] w fun e w'=>e = .returned (.bool r)∧Below w.heap.size w w':=by
 obtain rfl:=Option.some.inj h
 exact hasRat _ 38 eg38 A0 c0 l0 w hr0 (pred38 l0 w)
theorem record_Encode_2.calls (A0:Option Addr) (c0:Nat) (l0:List ByteArray) (r:Bool) (w:World) (hr0:Kd.C Kd.string w A0 l0.length l0) (hc0:l0.length≤c0) (h:record_Encode_2.f l0 = some r) :
  Calls Tryz.prog 39 #[.slice A0 l0.length c0,.func (.func 40) #[] #[]] w fun e w'=>e = .returned (.bool r)∧Below w.heap.size w w':=by
 obtain rfl:=Option.some.inj h
 exact hasStr _ 40 eg40 A0 c0 l0 w hr0 (pred40 l0 w)
theorem record_Encode_3.calls (A0:Option Addr) (c0:Nat) (l0:List Int) (r:Bool) (w:World) (hr0:Kd.C (Kd.int .i64) w A0 l0.length l0) (hc0:l0.length≤c0) (h:record_Encode_3.f l0 = some r) :
  Calls Tryz.prog 41 #[.slice A0 l0.length c0,.func (.func 42) #[] #[]] w fun e w'=>e = .returned (.bool r)∧Below w.heap.size w w':=by
 obtain rfl:=Option.some.inj h
 exact hasInt _ 42 eg42 A0 c0 l0 w hr0 (pred42 l0 w)
theorem record_Encode_4.calls (k:Nat) (A0:Option Addr) (c0:Nat) (l0:List ByteArray) (r:Bool) (w:World) (hr0:Kd.C Kd.string w A0 l0.length l0) (hc0:l0.length≤c0) (hL:LaidW w) (h:record_Encode_4.f k l0 = some r) :
  Calls Tryz.prog 37 #[.slice A0 l0.length c0,.func (.func 43) #[] #[]] w fun e w'=>e = .returned (.bool r)∧Below w.heap.size w w':=by
 unfold record_Encode_4.f at h
 by_cases hc:l0.all (fun x=>(rational_Valid.f k x).isSome) = true
 ·rw [if_pos hc] at h
  obtain rfl:=Option.some.inj h
  exact hasRat _ 43 eg43 A0 c0 l0 w hr0 (pred43 k l0 hc w hL)
 ·rw [if_neg hc] at h
  cases h
open Go.Shelf Go.Lib
structure Bld (w W:World) (b:Nat) (L:List UInt8):Prop where
 bld:Lib.IsBuilderF 73 5 b b (Lib.byteCells L) W
 ge:w.heap.size≤b
 below:Below w.heap.size w W
theorem Bld.lt {w W:World} {b:Nat} {L:List UInt8} (h:Bld w W b L):b < W.heap.size:=by
 rcases h.bld with ⟨_,v,hb,_⟩|⟨_,v,hb,_⟩
 ·exact (Array.getElem?_eq_some_iff.1 hb).1
 ·exact (Array.getElem?_eq_some_iff.1 hb).1
theorem Bld.new {w W:World} (h:Below w.heap.size w W):Bld w (W.alloc (.cells #[.pointer none,.slice none 0 0] 73)) W.heap.size [] :=
 ⟨.inl ⟨Nat.le_refl _,.slice none 0 0,heap_alloc_new W _,World.ownsRowF_nil _ _ _ _,by simp [Value.ownBlock]⟩,h.size,below_alloc h _⟩
theorem Bld.kept {w W W':World} {b:Nat} {L:List UInt8} (h:Bld w W b L) (hb:Below W.heap.size W W'):Bld w W' b L:=by
 have hg:W.grownBy W' none:=⟨hb.os,hb.tape,hb.output,hb.size,fun k hk _=>hb.block k hk⟩
 have key:∀ p,Lib.BuilderAtF 73 5 b b p (Lib.byteCells L) W→Lib.BuilderAtF 73 5 b b p (Lib.byteCells L) W':=by
  rintro p ⟨hB,v,hbk,Aa,hne⟩
  refine ⟨hB,v,(hg.block b (Array.getElem?_eq_some_iff.1 hbk).1 (by simp)).trans hbk,Aa.kept hg ?_,hne⟩
  cases hv:v.ownBlock with
  | none=>exact .inl rfl
  | some g=>exact .inr (by simp)
 exact ⟨h.bld.elim (fun x=>.inl (key _ x)) (fun x=>.inr (key _ x)),h.ge,below_step h.below hb⟩
theorem Bld.drew {w W:World} {b:Nat} {L:List UInt8} (h:Bld w W b L):Bld w W.drew b L:=⟨h.bld,h.ge,below_drew1 h.below⟩
theorem bk_kept {w W:World} {b:Nat} {L:List UInt8} (h:Aside0 (Bld w W b L)) {W':World} (hb:Below W.heap.size W W'):Aside0 (Bld w W' b L):=⟨h.out.kept hb⟩
def KeptBut (b:Nat) (W W':World):Prop:=∀ k c t fz,k≠b→t≠5→W.heap[k]? = some (.cells c t fz)→W'.heap[k]? = some (.cells c t fz)
theorem kept_blk {b g:Nat} {W W':World} {cs:Array Value} {t:TypeId} (B:Aside0 (W.heap[g]? = some (.cells cs t (0,0)))) (h:KeptBut b W W') (hg:Aside0 (g≠b)) (ht:t≠5):Aside0 (W'.heap[g]? = some (.cells cs t (0,0))):=⟨h g cs t _ hg.out ht B.out⟩
theorem bld_write {w W:World} {b:Nat} {L:List UInt8} (s:ByteArray) (h:Bld w W b L) (hl:L.length + s.size≤140737488355328) :
  Calls Tryz.prog 45 #[.pointer (some ⟨b,0,none⟩),.string s] W fun e W'=>e = .returned (.tuple #[.int .i64 s.size,.nilIface])∧Bld w W' b (L ++ s.data.toList)∧KeptBut b W W':=by
 refine (Tryz.Builder_WriteString_k b b (Lib.byteCells L) s W h.bld (by rw [byteCells_length];exact hl) (Nat.le_of_lt h.lt)).mono ?_
 rintro e W' ⟨rfl,hA,hb,ho⟩
 refine ⟨rfl,⟨?_,h.ge,h.below.trans (hb.mono h.ge)⟩,fun k c t fz hk ht hc=>(ho k _ hc (fun e=>hk (Option.some.inj e)) (by intro c fz e;injection e with e1 e2;exact ht e2))⟩
 rw [byteCells_append]
 exact .inr hA
theorem bld_string {w W:World} {b:Nat} {L:List UInt8} (h:Bld w W b L) :
  Calls Tryz.prog 49 #[.pointer (some ⟨b,0,none⟩)] W fun e W'=>e = .returned (.string ⟨L.toArray⟩)∧Below w.heap.size w W':=by
 refine (Tryz.Builder_String_any_k b b L W h.bld (Nat.le_of_lt h.lt)).mono ?_
 rintro e W' ⟨rfl,_,hb,ho⟩
 exact ⟨rfl,h.below.trans (hb.mono h.ge)⟩
end Go.Proofs.YtcmbggahndfnnaaGreatDoor.Pr
namespace Go.Proofs.YtcmbggahndfnnaaGreatDoor.Pr
open Go.RowKit Go.Proofs.YtcmbggahndfnnaaGreatDoorW.PrintWords Go.Proofs.YtcmbggahndfnnaaGreatDoorW.PrintLast Go.Proofs.YtcmbggahndfnnaaGreatDoorW.PrintMore
attribute [local go_sem] max2_int min2_int max_two min_two max_three min_three max_four min_four
set_option maxHeartbeats 8000000
set_option maxRecDepth 100000
def record_short.l0:Nat→Int→List Int→Option (ByteArray)
 | 0,_,_=>none
 | k + 1,x0,x3=>if x0 ≥ 128 then (if x3.length < 140737488355328 then (record_short.l0 k (x0 / 128) (x3 ++ [Go.bits .or .u8 ((x0) % 256) 128])) else (none)) else (if x3.length < 140737488355328 then (some (strOfNums (x3 ++ [(x0) % 256]))) else (none))
def record_short.f (k:Nat) (a0:Int):Option (ByteArray):=record_short.l0 k a0 ([]:List Int)
theorem record_short.mono_l:∀ k,(∀ y0 y1,LeO (record_short.l0 k y0 y1) (record_short.l0 (k + 1) y0 y1))
 | 0=>fun _ _ r h=>by simp [record_short.l0] at h
 | k + 1=>by
  have ih0:=record_short.mono_l k
  ·intro y0 y1
   unfold record_short.l0
   repeat' first
   | (with_reducible exact ih0 _ _)
   | (with_reducible exact LeO.refl _)
   | (with_reducible exact LeO.none _)
   | (with_reducible refine LeO.ite ?_ ?_)
   | (with_reducible refine LeO.bind ?_ (fun _=>?_))
   | exact ih0 _ _
   | exact LeO.none _
   | refine LeO.ite ?_ ?_
   | refine LeO.bind ?_ (fun _=>?_)
theorem record_short.mono:∀ a0 k,LeO (record_short.f k a0) (record_short.f (k + 1) a0):=by
 intro a0 k
 have Aa:=record_short.mono_l k
 unfold record_short.f
 repeat' first
   | (with_reducible exact Aa _ _)
   | (with_reducible exact LeO.refl _)
   | (with_reducible exact LeO.none _)
   | (with_reducible refine LeO.ite ?_ ?_)
   | (with_reducible refine LeO.bind ?_ (fun _=>?_))
   | exact Aa _ _
   | exact LeO.none _
   | refine LeO.ite ?_ ?_
   | refine LeO.bind ?_ (fun _=>?_)
theorem record_short.calls (k:Nat) (a0:Int) (r:ByteArray) (w:World) (h:record_short.f k a0 = some r) :
  Calls Tryz.prog 46 #[.int .i64 a0] w fun e w'=>e = .returned (.string r)∧Below w.heap.size w w':=by
 have HB:=Aside0.mk (Below.refl w.heap.size w)
 have H:=h;clear h;unfold record_short.f at H
 have H':=Aside0.mk H
 clear H
 go_enter Tryz.func46,Tryz.ntmps46
 go_wp2
 go_loopg [0,3] k (fun kq v0 v3 w'=>∃ (Aa:Int) (Ab:List Int),v0 = .int .i64 Aa∧Aside0 (record_short.l0 kq Aa Ab = some r)∧Aside0 (kq≤k)∧Aside0 (Kd.R (Kd.int .u8) 5 w' w.heap.size (fun _=>True) v3 Ab)∧Aside0 (Below w.heap.size w w'))
 case atStart=>exact ⟨(a0),(([]:List Int)),rg_,H',⟨Nat.le_refl _⟩,⟨by first|exact Kd.R_nil _ _ _ _ _|exact Kd.N_nil _ _ _ _ _|exact Kd.V_nil _ _ _ _ _|exact Kd.Q_nil _ _ _ _ _|exact Kd.S_nil _ _ _ _ _⟩,⟨bx_⟩⟩
 case round =>
  clear H'
  obtain ⟨Aa,Ab,rfl,HA,Al,Ac,HB⟩:=hrel
  cases gk with
  | zero=>exact absurd HA.out (by simp [record_short.l0])
  | succ k1 =>
   have H:=HA.out
   clear HA
   simp only [record_short.l0] at H
   by_cases c2:Aa ≥ 128
   ·rw [if_pos c2] at H
    have Ai:decide (128≤Aa) = true:=decide_eq_true c2
    clear c2
    by_cases c3:Ab.length < 140737488355328
    ·rw [if_pos c3] at H
     have Ak:=Aside0.mk c3
     clear c3
     obtain ⟨y210,hy210⟩:∃ y_:List Int,y_ = (Ab ++ [Go.bits .or .u8 ((Aa) % 256) 128]):=⟨_,rfl⟩
     replace H:(record_short.l0 k1 (Aa / 128) y210) = some r:=by first|(rw [hy210];with_reducible exact H)|(have Ad:=(Option.bind_some _ _).symm.trans H;rw [hy210];with_reducible exact Ad)|(have Ad:=(Option.bind_some _ _).symm.trans H;with_reducible exact Ad)|with_reducible exact H|(rw [hy210];exact H)|exact H
     have Af:=Aside0.mk hy210
     clear hy210
     have H':=Aside0.mk H
     clear H
     go_wp2_with (first|((with_reducible refine gate_builtin (b:=.append) (xs:=#[.tmp 6,.tmp 10]) rfl ?_);at_builtin;refine Kd.R_append (Kd.int .u8) (w0:=w) w.heap.size rfl (.tmp 6) (.tmp 10) 57 5 (.int .u8 0) 1 rfl Tryz.underlying57 info5 rfl de_ (by omega) u3 Ab (Go.bits .or .u8 ((Aa) % 256) 128) [.int .u8 (Go.bits .or .u8 ((Aa) % 256) 128)] (fun _=>True) (fun _=>False) rfl rfl ?aP (fun _ hk=>hk.elim) ?aF ?aO ?aB ?aS ?aL ?_;(case aP=>exact rfl);(case aB=>exact bx_);(case aF=>exact (fun _ _=>trivial));(case aO=>exact (by (with_reducible repeat (first|apply Kd.R_alloc|apply Kd.R_drewN|apply Kd.R_drew));exact Ac.out));(case aS=>exact (below_size bx_));(case aL=>have:=Ak.out;omega);intro An w4 ho hb hg hat;rw [← Af.out] at ho;have Ah:=Aside0.mk ho;replace HB:=Aside0.mk hb;clear Ac;clear ho hb hg hat))
     go_roundg k1
     case measure=>have:=Al.out;omega
     case rel=>exact ⟨(Aa / 128),(y210),rg_,H',⟨by have:=Al.out;omega⟩,⟨by (with_reducible repeat (first|apply Kd.R_alloc|apply Kd.R_drewN|apply Kd.R_drew));exact Ah.out⟩,⟨bx_⟩⟩
    ·rw [if_neg c3] at H
     exact absurd H sm_
   ·rw [if_neg c2] at H
    have Ai:decide (128≤Aa) = false:=decide_eq_false c2
    clear c2
    by_cases c5:Ab.length < 140737488355328
    ·rw [if_pos c5] at H
     have Aj:=Aside0.mk c5
     clear c5
     obtain ⟨y213,hy213⟩:∃ y_:List Int,y_ = (Ab ++ [(Aa) % 256]):=⟨_,rfl⟩
     replace H:(some (strOfNums y213)) = some r:=by first|(rw [hy213];with_reducible exact H)|(have Ad:=(Option.bind_some _ _).symm.trans H;rw [hy213];with_reducible exact Ad)|(have Ad:=(Option.bind_some _ _).symm.trans H;with_reducible exact Ad)|with_reducible exact H|(rw [hy213];exact H)|exact H
     have Ae:=Aside0.mk hy213
     clear hy213
     obtain rfl:=Option.some.inj H
     go_wp2_with (first|((with_reducible refine gate_builtin (b:=.append) (xs:=#[.tmp 14,.tmp 17]) rfl ?_);at_builtin;refine Kd.R_append (Kd.int .u8) (w0:=w) w.heap.size rfl (.tmp 14) (.tmp 17) 57 5 (.int .u8 0) 1 rfl Tryz.underlying57 info5 rfl de_ (by omega) u3 Ab ((Aa) % 256) [.int .u8 ((Aa) % 256)] (fun _=>True) (fun _=>False) rfl rfl ?aP (fun _ hk=>hk.elim) ?aF ?aO ?aB ?aS ?aL ?_;(case aP=>exact rfl);(case aB=>exact bx_);(case aF=>exact (fun _ _=>trivial));(case aO=>exact (by (with_reducible repeat (first|apply Kd.R_alloc|apply Kd.R_drewN|apply Kd.R_drew));exact Ac.out));(case aS=>exact (below_size bx_));(case aL=>have:=Aj.out;omega);intro Am w6 ho hb hg hat;rw [← Ae.out] at ho;have Ag:=Aside0.mk ho;replace HB:=Aside0.mk hb;clear Ac;clear ho hb hg hat;have Ao:=own_string (P:=Tryz.prog) Tryz.underlying57 Tryz.underlying5 Tryz.underlying9 (Kd.own_of_R Ag.out)))
     go_ret
     exact ⟨rf_,bx_⟩
    ·rw [if_neg c5] at H
     exact absurd H sm_
end Go.Proofs.YtcmbggahndfnnaaGreatDoor.Pr
