/- Part 1 of 1: garboardlaw02.IntegerSigns (valid, sign, absolute value, opposite, the text of an int: the program's answers and the reference's are the same; at most 120 bytes) answers true for every input, and each argument reads behind the call as before. The library's tables are tied to the program's text by the card. -/
import Derived.Below
import Derived.Deep.Draws
import Derived.Deep.AppendLies
import Derived.Maps.AppendAt
import Derived.OwnWalk
import Derived.Laws.BytesArg
import Derived.Laws.MakeOwn
import Derived.Laws.OwnMore
import Derived.Deep.OwnRows
import Derived.Tactics
import Derived.Lib.ConvBytes
import Derived.Laws.Slices
import Derived.WalkKit
import Derived.KernelRfl
import Derived.RowKit3
import Derived.Deep.LoopGhost
import Derived.Deep.QuietTactic
import Derived.BigQuiet
import Derived.WideLaws
import Derived.Deep.DeepCutAuto
import Derived.Deep.CutBlock
import Derived.Deep.RegionHeld3
import Derived.Laws.Rows
import Derived.Lib.AppendStr
import Derived.ArgAppend
import Derived.Laws.IdiomCopy
import Derived.RowKit
import Derived.OrdersHeld
import Derived.Laws.BitsLemmas
import Derived.Laws.StructEq
import Derived.Test.YtaknchlegjcdhaaGreatDoorProg
import Derived.Shelf.Strings.Builder1
import Derived.Shelf.Strings.Builder2
import Derived.Shelf.Small.Wraps
import Derived.Shelf.Strings.BuilderF
import Derived.Shelf.Strings.BuilderK
import Derived.Shelf.Strings.Builder2Cap
import Derived.Shelf.Strconv.Itoa0
import Derived.Shelf.Strconv.Itoa1
import Derived.Shelf.LaysM
import Derived.Shelf.Strconv.Itoa2
import Derived.Shelf.Strconv.Itoa3
import Derived.Shelf.Strconv.Clone
import Derived.Shelf.Strconv.SyntaxError
import Derived.Shelf.Strconv.Lower
import Derived.Shelf.Strconv.ParseUint10
import Derived.Shelf.Strconv.ParseUint10Empty
import Derived.Shelf.Strconv.RangeError
import Derived.Shelf.Strconv.ParseUintEmpty
import Derived.Shelf.Strconv.ParseUint10b64
import Derived.Shelf.Strconv.ParseUint10b32
import Derived.Shelf.Strconv.ParseUint10b16
import Derived.Shelf.Strconv.ParseUint10b8
import Derived.Shelf.Strings.Prefix
import Derived.Shelf.Bits.Mul64
import Derived.Shelf.Strings.Repeat
import Derived.Ground.Names2Prog
import Derived.Shelf.Slices.SearchI
import Derived.Lib.AppendIntMem
import Derived.Ground.MpProg
import Derived.Shelf.Pu.ParseUintPublic10
import Derived.Lib.AtoiErrMem
import Derived.Lib.ItoaNum
import Derived.Lib.ParseIntB
import Derived.RangeFuncFrom
import Derived.RangeFuncBox
import Derived.RangeFuncLeaves
import Derived.RangeFuncCalls
import Derived.RangeFuncBound
import Derived.Shelf.Abstract
import Derived.OwnWalkIn
import Derived.TacticsInMore
import Derived.LoopNIn
import Derived.LoopIn
import Derived.Lib.Hide
import Derived.Lib.FrozenHead
import Derived.Lib.Walk
import Derived.Lib.ItoaMem
import Derived.BigCall
import Derived.BigGuard
import Derived.Great.BuildSlice
import Derived.Lib.SmallJoins
import Derived.LaidMore
import Derived.ProofKit
import Derived.Stop.Joined
import Derived.SizedLaws
import Derived.DataShut
import Derived.SevenTiedAt
import Derived.Test.YtaknchlegjcdhaaGreatDoorDz5
namespace Go.Proofs.YtaknchlegjcdhaaGreatDoor.Pr
open Go.RowKit Go.Proofs.YtaknchlegjcdhaaGreatDoorW.PrintWords Go.Proofs.YtaknchlegjcdhaaGreatDoorW.PrintLast Go.Proofs.YtaknchlegjcdhaaGreatDoorW.PrintMore
attribute [local go_sem] max2_int min2_int max_two min_two max_three min_three max_four min_four
set_option maxHeartbeats 8000000
set_option maxRecDepth 100000
set_option linter.unusedVariables false
set_option linter.unusedSimpArgs false
def garboardref01_Small.f (k:Nat) (a0:Int):Option (List Int):=(garboardref01_trim.f k (([Int.tmod a0 1000000000,(Int.tdiv a0 1000000000) % 4294967296]:List Int))).bind fun t705=>(some t705)
end Go.Proofs.YtaknchlegjcdhaaGreatDoor.Pr
set_option linter.unusedVariables false
set_option linter.unusedSimpArgs false
namespace Go.Proofs.YtaknchlegjcdhaaGreatDoor.Pr
open Go.RowKit Go.Proofs.YtaknchlegjcdhaaGreatDoorW.PrintWords Go.Proofs.YtaknchlegjcdhaaGreatDoorW.PrintLast Go.Proofs.YtaknchlegjcdhaaGreatDoorW.PrintMore Go.Proofs.YtaknchlegjcdhaaGreatDoor.NatTh
theorem Small_ev (a:Nat) (h:a < 4294967296):Ev (fun k=>garboardref01_Small.f k a) (numOf a):=by
 have e1:Int.tmod (a:Int) 1000000000 = (a:Int) % 1000000000:=Int.tmod_eq_emod_of_nonneg (by omega)
 have e2:Int.tdiv (a:Int) 1000000000 = (a:Int) / 1000000000:=Int.tdiv_eq_ediv_of_nonneg (by omega)
 have ew:Wd [(a:Int) % 1000000000,(a:Int) / 1000000000]:=wd2 (by omega) (by omega)
 have ev:val [(a:Int) % 1000000000,(a:Int) / 1000000000] = a:=by
  simp only [val,BB]
  omega
 have h1:=rtrim_ev (l:=[(a:Int) % 1000000000,(a:Int) / 1000000000]) (by simp)
 rw [trim_numOf ew ev] at h1
 refine Ev.congr (f:=fun k=>(garboardref01_trim.f k [(a:Int) % 1000000000,(a:Int) / 1000000000]).bind fun t=>some t) (fun k=>?_) (Ev.bind h1 (Ev.now _))
 simp only [garboardref01_Small.f]
 rw [e1,e2,Int.emod_eq_of_lt (show (0:Int)≤(a:Int) / 1000000000 by omega) (by omega)]
end Go.Proofs.YtaknchlegjcdhaaGreatDoor.Pr
namespace Go.Proofs.YtaknchlegjcdhaaGreatDoor.Pr
open Go.RowKit Go.Proofs.YtaknchlegjcdhaaGreatDoorW.PrintWords Go.Proofs.YtaknchlegjcdhaaGreatDoorW.PrintLast Go.Proofs.YtaknchlegjcdhaaGreatDoorW.PrintMore
attribute [local go_sem] max2_int min2_int max_two min_two max_three min_three max_four min_four
set_option maxHeartbeats 8000000
set_option maxRecDepth 100000
set_option linter.unusedVariables false
set_option linter.unusedSimpArgs false
def garboardref02_Sign.f (k:Nat) (a0:ByteArray):Option (Int × Int):=(garboardref02_Valid.f k a0).bind fun t436=>(if t436 = true then ((garboardref02_Read.f k a0).bind fun bt437=>((garboardref02_Signum.f bt437.1 bt437.2).bind fun t441=>(some (t441,0)))) else (some (0,1)))
theorem garboardref02_Sign.calls (k:Nat) (a0:ByteArray) (r1:Int) (r2:Int) (w:World) (h:garboardref02_Sign.f k a0 = some (r1,r2)) :
  Calls Tryz.prog 13 #[.string a0] w fun e w'=>e = .returned (.tuple #[.int .i64 r1,.int .i64 r2])∧Below w.heap.size w w':=by
 have HB:=Aside0.mk (Below.refl w.heap.size w)
 have H:((garboardref02_Valid.f k a0).bind fun t436=>(if t436 = true then ((garboardref02_Read.f k a0).bind fun bt437=>((garboardref02_Signum.f bt437.1 bt437.2).bind fun t441=>(some (t441,0)))) else (some (0,1)))) = some (r1,r2):=h
 clear h
 obtain ⟨t436,A2,H⟩:=bn_ H
 by_cases c3:t436 = true
 ·subst c3
  have H1:((garboardref02_Read.f k a0).bind fun bt437=>((garboardref02_Signum.f bt437.1 bt437.2).bind fun t441=>(some (t441,0)))) = some (r1,r2):=by rw [if_pos rfl] at H;exact H
  clear H
  have H:=H1
  clear H1
  obtain ⟨⟨t437,t438⟩,A4,H⟩:=bn_ H
  dsimp only at H
  obtain ⟨t441,A5,H⟩:=bn_ H
  simp only [Option.some.injEq,Prod.mk.injEq] at H
  obtain ⟨rfl,rfl⟩:=H
  go_enter Tryz.func13,Tryz.ntmps13
  go_wp2_with (first|((with_reducible refine gate_callee (f:=19) rfl ?_);refine gm_ (some 5) Tryz.func19 #[.string a0] ?_;(with_reducible refine (garboardref02_Valid.calls k a0 true _ A2.out).mono ?_);rintro e w' ⟨rfl,⟨nd,rfl⟩⟩;refine ⟨_,rfl,?_⟩)|((with_reducible refine gate_callee (f:=42) rfl ?_);refine gm_ (some 8) Tryz.func42 #[.string a0] ?_;(with_reducible refine (garboardref02_Read.calls k a0 t437 t438 _ A4.out).mono ?_);rintro e w6 ⟨v439,rfl,ho0,hb⟩;refine ⟨_,rfl,?_⟩;have HO440:=Aside0.mk (Kd.V_lower (Kd.V_mono (ok':=fun k_=>True) ho0 (fun k_ hk_=>trivial)) (below_size bx_));replace HB:=bs_ hb;(try clear hb);(try clear ho0);obtain ⟨Ao7,co7,eo7⟩:=Kd.V_slice HO440.out;subst eo7)|((with_reducible refine gate_callee (f:=41) rfl ?_);refine gm_ (some 9) Tryz.func41 #[.agg #[.bool t437,.slice Ao7 t438.length co7]] ?_;(with_reducible refine (garboardref02_Signum.calls t437 _ _ t438 t441 _ ?side1 ?side2 A5.out).mono ?_);(case side1=>exact cx_ ((Kd.V_reads' HO440.out).2.2));(case side2=>exact (Kd.V_reads' HO440.out).2.1);rintro e w8 ⟨rfl,hb⟩;refine ⟨_,rfl,?_⟩;replace HO440:=vb_ HO440 hb;replace HB:=bs_ hb;(try clear hb)))
  go_ret2
  exact ⟨rf_,bx_⟩
 ·replace c3:=Bool.eq_false_iff.mpr c3
  subst c3
  have H1:(some (0,1)) = some (r1,r2):=by rw [if_neg (show ¬ (false = true) by decide)] at H;exact H
  clear H
  have H:=H1
  clear H1
  simp only [Option.some.injEq,Prod.mk.injEq] at H
  obtain ⟨rfl,rfl⟩:=H
  go_enter Tryz.func13,Tryz.ntmps13
  go_wp2_with (first|((with_reducible refine gate_callee (f:=19) rfl ?_);refine gm_ (some 5) Tryz.func19 #[.string a0] ?_;(with_reducible refine (garboardref02_Valid.calls k a0 false _ A2.out).mono ?_);rintro e w' ⟨rfl,⟨nd,rfl⟩⟩;refine ⟨_,rfl,?_⟩))
  go_ret2
  exact ⟨rf_,bx_⟩
end Go.Proofs.YtaknchlegjcdhaaGreatDoor.Pr
namespace Go.Proofs.YtaknchlegjcdhaaGreatDoor.Pr
open Go.RowKit Go.Proofs.YtaknchlegjcdhaaGreatDoorW.PrintWords Go.Proofs.YtaknchlegjcdhaaGreatDoorW.PrintLast Go.Proofs.YtaknchlegjcdhaaGreatDoorW.PrintMore
attribute [local go_sem] max2_int min2_int max_two min_two max_three min_three max_four min_four
set_option maxHeartbeats 8000000
set_option maxRecDepth 100000
set_option linter.unusedVariables false
set_option linter.unusedSimpArgs false
def garboardref02_Abs.f (k:Nat) (a0:ByteArray):Option (ByteArray × Int):=(garboardref02_Valid.f k a0).bind fun t457=>(if t457 = true then ((garboardref02_Read.f k a0).bind fun bt458=>((garboardref02_Make.f false bt458.2).bind fun bt462=>((garboardref02_To.f k bt462.1 bt462.2).bind fun t466=>(some (t466,0))))) else (some ((⟨#[]⟩:ByteArray),1)))
theorem garboardref02_Abs.calls (k:Nat) (a0:ByteArray) (r1:ByteArray) (r2:Int) (w:World) (h:garboardref02_Abs.f k a0 = some (r1,r2)) :
  Calls Tryz.prog 15 #[.string a0] w fun e w'=>e = .returned (.tuple #[.string r1,.int .i64 r2])∧Below w.heap.size w w':=by
 have hu51:=Tryz.underlying51
 have hfd:∀ (b:Bool) (A:Option Addr) (n c:Nat) (w:World),(Instr.field 51 (.agg #[.bool b,.slice A n c]) 1).run Tryz.prog w = .ok (.slice A n c) w:=fun _ _ _ _ _=>by kernel_rfl
 have HB:=Aside0.mk (Below.refl w.heap.size w)
 have H:((garboardref02_Valid.f k a0).bind fun t457=>(if t457 = true then ((garboardref02_Read.f k a0).bind fun bt458=>((garboardref02_Make.f false bt458.2).bind fun bt462=>((garboardref02_To.f k bt462.1 bt462.2).bind fun t466=>(some (t466,0))))) else (some ((⟨#[]⟩:ByteArray),1)))) = some (r1,r2):=h
 clear h
 obtain ⟨t457,A2,H⟩:=bn_ H
 by_cases c3:t457 = true
 ·subst c3
  have H1:((garboardref02_Read.f k a0).bind fun bt458=>((garboardref02_Make.f false bt458.2).bind fun bt462=>((garboardref02_To.f k bt462.1 bt462.2).bind fun t466=>(some (t466,0))))) = some (r1,r2):=by rw [if_pos rfl] at H;exact H
  clear H
  have H:=H1
  clear H1
  obtain ⟨⟨t458,t459⟩,A4,H⟩:=bn_ H
  dsimp only at H
  obtain ⟨⟨t462,t463⟩,A5,H⟩:=bn_ H
  dsimp only at H
  obtain ⟨t466,A6,H⟩:=bn_ H
  simp only [Option.some.injEq,Prod.mk.injEq] at H
  obtain ⟨rfl,rfl⟩:=H
  go_enter Tryz.func15,Tryz.ntmps15
  go_wp2_with (first|((with_reducible refine gate_callee (f:=19) rfl ?_);refine gm_ (some 5) Tryz.func19 #[.string a0] ?_;(with_reducible refine (garboardref02_Valid.calls k a0 true _ A2.out).mono ?_);rintro e w' ⟨rfl,⟨nd,rfl⟩⟩;refine ⟨_,rfl,?_⟩)|((with_reducible refine gate_callee (f:=42) rfl ?_);refine gm_ (some 8) Tryz.func42 #[.string a0] ?_;(with_reducible refine (garboardref02_Read.calls k a0 t458 t459 _ A4.out).mono ?_);rintro e w7 ⟨v460,rfl,ho0,hb⟩;refine ⟨_,rfl,?_⟩;have HO461:=Aside0.mk (Kd.V_lower (Kd.V_mono (ok':=fun k_=>True) ho0 (fun k_ hk_=>trivial)) (below_size bx_));replace HB:=bs_ hb;(try clear hb);(try clear ho0);obtain ⟨Ao8,co8,eo8⟩:=Kd.V_slice HO461.out;subst eo8)|((with_reducible refine gate_callee (f:=44) rfl ?_);refine gm_ (some 10) Tryz.func44 #[.bool false,.slice Ao8 t459.length co8] ?_;(with_reducible refine (garboardref02_Make.calls false (fun k_=>True) _ _ t459 t462 t463 _ ?side1 A5.out).mono ?_);(case side1=>exact HO461.out);rintro e w9 ⟨v464,rfl,ho0,hb⟩;refine ⟨_,rfl,?_⟩;have HO465:=Aside0.mk (Kd.V_lower (Kd.V_mono (ok':=fun k_=>True) ho0 (fun k_ hk_=>trivial)) (below_size bx_));replace HO461:=vb_ HO461 hb;replace HB:=bs_ hb;(try clear hb);(try clear ho0);obtain ⟨Ao10,co10,eo10⟩:=Kd.V_slice HO465.out;subst eo10)|((with_reducible refine gate_callee (f:=43) rfl ?_);refine gm_ (some 11) Tryz.func43 #[.agg #[.bool t462,.slice Ao10 t463.length co10]] ?_;(with_reducible refine (garboardref02_To.calls k t462 _ _ t463 t466 _ ?side1 ?side2 A6.out).mono ?_);(case side1=>exact cx_ ((Kd.V_reads' HO465.out).2.2));(case side2=>exact (Kd.V_reads' HO465.out).2.1);rintro e w11 ⟨rfl,hb⟩;refine ⟨_,rfl,?_⟩;replace HO461:=vb_ HO461 hb;replace HO465:=vb_ HO465 hb;replace HB:=bs_ hb;(try clear hb)))
  go_ret2
  exact ⟨rf_,bx_⟩
 ·replace c3:=Bool.eq_false_iff.mpr c3
  subst c3
  have H1:(some ((⟨#[]⟩:ByteArray),1)) = some (r1,r2):=by rw [if_neg (show ¬ (false = true) by decide)] at H;exact H
  clear H
  have H:=H1
  clear H1
  simp only [Option.some.injEq,Prod.mk.injEq] at H
  obtain ⟨rfl,rfl⟩:=H
  go_enter Tryz.func15,Tryz.ntmps15
  go_wp2_with (first|((with_reducible refine gate_callee (f:=19) rfl ?_);refine gm_ (some 5) Tryz.func19 #[.string a0] ?_;(with_reducible refine (garboardref02_Valid.calls k a0 false _ A2.out).mono ?_);rintro e w' ⟨rfl,⟨nd,rfl⟩⟩;refine ⟨_,rfl,?_⟩))
  go_ret2
  exact ⟨rf_,bx_⟩
end Go.Proofs.YtaknchlegjcdhaaGreatDoor.Pr
namespace Go.Proofs.YtaknchlegjcdhaaGreatDoor.Pr
open Go.RowKit Go.Proofs.YtaknchlegjcdhaaGreatDoorW.PrintWords Go.Proofs.YtaknchlegjcdhaaGreatDoorW.PrintLast Go.Proofs.YtaknchlegjcdhaaGreatDoorW.PrintMore
attribute [local go_sem] max2_int min2_int max_two min_two max_three min_three max_four min_four
set_option maxHeartbeats 8000000
set_option maxRecDepth 100000
set_option linter.unusedVariables false
set_option linter.unusedSimpArgs false
def garboardref02_Neg.f (k:Nat) (a0:ByteArray):Option (ByteArray × Int):=(garboardref02_Valid.f k a0).bind fun t473=>(if t473 = true then ((garboardref02_Read.f k a0).bind fun bt474=>((garboardref02_Opposite.f bt474.1 bt474.2).bind fun bt478=>((garboardref02_To.f k bt478.1 bt478.2).bind fun t482=>(some (t482,0))))) else (some ((⟨#[]⟩:ByteArray),1)))
theorem garboardref02_Neg.calls (k:Nat) (a0:ByteArray) (r1:ByteArray) (r2:Int) (w:World) (h:garboardref02_Neg.f k a0 = some (r1,r2)) :
  Calls Tryz.prog 17 #[.string a0] w fun e w'=>e = .returned (.tuple #[.string r1,.int .i64 r2])∧Below w.heap.size w w':=by
 have HB:=Aside0.mk (Below.refl w.heap.size w)
 have H:((garboardref02_Valid.f k a0).bind fun t473=>(if t473 = true then ((garboardref02_Read.f k a0).bind fun bt474=>((garboardref02_Opposite.f bt474.1 bt474.2).bind fun bt478=>((garboardref02_To.f k bt478.1 bt478.2).bind fun t482=>(some (t482,0))))) else (some ((⟨#[]⟩:ByteArray),1)))) = some (r1,r2):=h
 clear h
 obtain ⟨t473,A2,H⟩:=bn_ H
 by_cases c3:t473 = true
 ·subst c3
  have H1:((garboardref02_Read.f k a0).bind fun bt474=>((garboardref02_Opposite.f bt474.1 bt474.2).bind fun bt478=>((garboardref02_To.f k bt478.1 bt478.2).bind fun t482=>(some (t482,0))))) = some (r1,r2):=by rw [if_pos rfl] at H;exact H
  clear H
  have H:=H1
  clear H1
  obtain ⟨⟨t474,t475⟩,A4,H⟩:=bn_ H
  dsimp only at H
  obtain ⟨⟨t478,t479⟩,A5,H⟩:=bn_ H
  dsimp only at H
  obtain ⟨t482,A6,H⟩:=bn_ H
  simp only [Option.some.injEq,Prod.mk.injEq] at H
  obtain ⟨rfl,rfl⟩:=H
  go_enter Tryz.func17,Tryz.ntmps17
  go_wp2_with (first|((with_reducible refine gate_callee (f:=19) rfl ?_);refine gm_ (some 5) Tryz.func19 #[.string a0] ?_;(with_reducible refine (garboardref02_Valid.calls k a0 true _ A2.out).mono ?_);rintro e w' ⟨rfl,⟨nd,rfl⟩⟩;refine ⟨_,rfl,?_⟩)|((with_reducible refine gate_callee (f:=42) rfl ?_);refine gm_ (some 8) Tryz.func42 #[.string a0] ?_;(with_reducible refine (garboardref02_Read.calls k a0 t474 t475 _ A4.out).mono ?_);rintro e w7 ⟨v476,rfl,ho0,hb⟩;refine ⟨_,rfl,?_⟩;have HO477:=Aside0.mk (Kd.V_lower (Kd.V_mono (ok':=fun k_=>True) ho0 (fun k_ hk_=>trivial)) (below_size bx_));replace HB:=bs_ hb;(try clear hb);(try clear ho0);obtain ⟨Ao8,co8,eo8⟩:=Kd.V_slice HO477.out;subst eo8)|((with_reducible refine gate_callee (f:=47) rfl ?_);refine gm_ (some 9) Tryz.func47 #[.agg #[.bool t474,.slice Ao8 t475.length co8]] ?_;(with_reducible refine (garboardref02_Opposite.calls t474 (fun k_=>True) _ _ t475 t478 t479 _ ?side1 A5.out).mono ?_);(case side1=>exact HO477.out);rintro e w9 ⟨v480,rfl,ho0,hb⟩;refine ⟨_,rfl,?_⟩;have HO481:=Aside0.mk (Kd.V_lower (Kd.V_mono (ok':=fun k_=>True) ho0 (fun k_ hk_=>trivial)) (below_size bx_));replace HO477:=vb_ HO477 hb;replace HB:=bs_ hb;(try clear hb);(try clear ho0);obtain ⟨Ao10,co10,eo10⟩:=Kd.V_slice HO481.out;subst eo10)|((with_reducible refine gate_callee (f:=43) rfl ?_);refine gm_ (some 10) Tryz.func43 #[.agg #[.bool t478,.slice Ao10 t479.length co10]] ?_;(with_reducible refine (garboardref02_To.calls k t478 _ _ t479 t482 _ ?side1 ?side2 A6.out).mono ?_);(case side1=>exact cx_ ((Kd.V_reads' HO481.out).2.2));(case side2=>exact (Kd.V_reads' HO481.out).2.1);rintro e w11 ⟨rfl,hb⟩;refine ⟨_,rfl,?_⟩;replace HO477:=vb_ HO477 hb;replace HO481:=vb_ HO481 hb;replace HB:=bs_ hb;(try clear hb)))
  go_ret2
  exact ⟨rf_,bx_⟩
 ·replace c3:=Bool.eq_false_iff.mpr c3
  subst c3
  have H1:(some ((⟨#[]⟩:ByteArray),1)) = some (r1,r2):=by rw [if_neg (show ¬ (false = true) by decide)] at H;exact H
  clear H
  have H:=H1
  clear H1
  simp only [Option.some.injEq,Prod.mk.injEq] at H
  obtain ⟨rfl,rfl⟩:=H
  go_enter Tryz.func17,Tryz.ntmps17
  go_wp2_with (first|((with_reducible refine gate_callee (f:=19) rfl ?_);refine gm_ (some 5) Tryz.func19 #[.string a0] ?_;(with_reducible refine (garboardref02_Valid.calls k a0 false _ A2.out).mono ?_);rintro e w' ⟨rfl,⟨nd,rfl⟩⟩;refine ⟨_,rfl,?_⟩))
  go_ret2
  exact ⟨rf_,bx_⟩
end Go.Proofs.YtaknchlegjcdhaaGreatDoor.Pr
namespace Go.Proofs.YtaknchlegjcdhaaGreatDoor.Pr
open Go.RowKit Go.Proofs.YtaknchlegjcdhaaGreatDoorW.PrintWords Go.Proofs.YtaknchlegjcdhaaGreatDoorW.PrintLast Go.Proofs.YtaknchlegjcdhaaGreatDoorW.PrintMore
attribute [local go_sem] max2_int min2_int max_two min_two max_three min_three max_four min_four
set_option maxHeartbeats 8000000
set_option maxRecDepth 100000
set_option linter.unusedVariables false
set_option linter.unusedSimpArgs false
def garboardlaw02_IntegerSigns.j0:Nat→ByteArray→Int→Bool→Option (Bool)
 | 0,_,_,_=>none
 | k + 1,x0,x1,x23=>if x23 = true then ((garboardlaw02_awake.f k).bind fun t488=>(some t488)) else ((integer_Sign.f k x0).bind fun bt489=>((garboardref02_Sign.f k x0).bind fun bt491=>((integer_Abs.f k x0).bind fun bt493=>((garboardref02_Abs.f k x0).bind fun bt495=>((integer_Neg.f k x0).bind fun bt497=>((garboardref02_Neg.f k x0).bind fun bt499=>((integer_Valid.f k x0).bind fun t501=>((garboardref02_Valid.f k x0).bind fun t502=>(if (t501 == t502) = true then (if bt489.1 = bt491.1 then (if bt489.2 = bt491.2 then (if bt493.1.toList = bt495.1.toList then (if bt493.2 = bt495.2 then (if bt497.1.toList = bt499.1.toList then (if bt497.2 = bt499.2 then ((integer_From.f x1).bind fun t503=>((strconv_Itoa_21.f x1).bind fun t504=>(some (t503.toList == t504.toList)))) else (some false)) else (some false)) else (some false)) else (some false)) else (some false)) else (some false)) else (some false))))))))))
def garboardlaw02_IntegerSigns.f (k:Nat) (a0:ByteArray) (a1:Int):Option (Bool):=(garboardlaw02_awake.f k).bind fun t483=>(if t483 = true then ((garboardlaw02_long.f k (([a0]:List ByteArray))).bind fun t487=>(garboardlaw02_IntegerSigns.j0 k a0 a1 t487)) else (garboardlaw02_IntegerSigns.j0 k a0 a1 true))
theorem garboardlaw02_IntegerSigns.calls (k:Nat) (a0:ByteArray) (a1:Int) (r:Bool) (w:World) (hL:LaidW w) (h:garboardlaw02_IntegerSigns.f k a0 a1 = some r) (hr:r = true) :
  Calls Tryz.prog 3 #[.string a0,.int .i64 a1] w fun e w'=>e = .returned (.bool r)∧Below w.heap.size w w':=by
 have HB:=Aside0.mk (Below.refl w.heap.size w)
 have HLW:=Aside0.mk hL
 clear hL
 have HRT:=Aside0.mk (hr)
 clear hr
 have H:((garboardlaw02_awake.f k).bind fun t483=>(if t483 = true then ((garboardlaw02_long.f k (([a0]:List ByteArray))).bind fun t487=>(garboardlaw02_IntegerSigns.j0 k a0 a1 t487)) else (garboardlaw02_IntegerSigns.j0 k a0 a1 true))) = some r:=h
 clear h
 have HC3:=Aside0.mk H
 clear H
 go_enter Tryz.func3,Tryz.ntmps3
 go_upto_region 1 with (fail)
 go_cut [23] (fun v23 wc=>∃ (kq:Nat) (x23_2:Bool),v23 = .bool x23_2∧Aside0 (garboardlaw02_IntegerSigns.j0 kq a0 a1 x23_2 = some r)∧Aside0 (kq≤k)∧Aside0 (Below w.heap.size w wc))
 case first =>
  have H:=HC3.out
  clear HC3
  obtain ⟨t483,A4,H⟩:=bn_ H
  by_cases c5:t483 = true
  ·subst c5
   have H1:((garboardlaw02_long.f k (([a0]:List ByteArray))).bind fun t487=>(garboardlaw02_IntegerSigns.j0 k a0 a1 t487)) = some r:=by rw [if_pos rfl] at H;exact H
   clear H
   have H:=H1
   clear H1
   obtain ⟨y484,hy484⟩:∃ y_:List ByteArray,y_ = (([a0]:List ByteArray)):=⟨_,rfl⟩
   replace H:((garboardlaw02_long.f k y484).bind fun t487=>(garboardlaw02_IntegerSigns.j0 k a0 a1 t487)) = some r:=by first|(rw [hy484];with_reducible exact H)|(have H2_:=(Option.bind_some _ _).symm.trans H;rw [hy484];with_reducible exact H2_)|(have H2_:=(Option.bind_some _ _).symm.trans H;with_reducible exact H2_)|with_reducible exact H|(rw [hy484];exact H)|exact H
   have Ny484:=Aside0.mk hy484
   clear hy484
   obtain ⟨t487,A6,H⟩:=bn_ H
   have H':=Aside0.mk H
   clear H
   go_wp2_with (first|((with_reducible refine gate_callee (f:=10) rfl ?_);refine gl_ (some 17) Tryz.func10 #[] (garboardlaw02_awake.calls k  true _ (HLW.out.below bx_) A4.out) ?_;clear HB;intro w7 hb HB;clear hb)|((with_reducible refine gate_dst (N:=21) rfl ?_);(try (refine gate_guard (by rfl) ?_;dsimp only));refine Kd.R_lit Kd.string _ 9 ?hg (N:=21) ?hd (xs:=([a0]:List ByteArray)) (inner:=[.string a0]) (ok:=fun _=>True) (okp:=fun _=>True) ?hr ?hp (fun _ hk=>hk) trivial (Below.refl _ _) (Nat.le_refl _) sm_ ?_;(case hd=>rfl);(case hg=>rfl);(case hr=>first|(go_simp;done)|(go_simp;rfl));(case hp=>exact (Reps.one (show Kd.M Kd.string _ _ _ a0 [.string a0] from rfl) (Reps.none _ _)));intro v485 w8 ho9 hb hg_ hnew_;clear hg_ hnew_;(first|rw [← Ny484.out] at ho9|(simp only [Int.reduceToNat] at ho9;rw [← Ny484.out] at ho9));have HO486:=Aside0.mk (Kd.R_lower ho9 (below_size bx_));replace HB:=bs_ hb;clear hb ho9;obtain ⟨Ao10,co10,eo10⟩:=Kd.R_slice HO486.out;subst eo10)|(go_at_call 11;(with_reducible refine (garboardlaw02_long.calls k _ _ y484 t487 _ ?side1 ?side2 A6.out).mono ?_);(case side1=>exact cx_ ((Kd.R_reads' HO486.out).2.2));(case side2=>exact (Kd.R_reads' HO486.out).2.1);rintro e w' ⟨rfl,⟨nd,rfl⟩⟩))
   go_meet
   case rel=>exact ⟨_,(t487),(by first|rfl|(simp;done)|(simp [*];done)),H',⟨by first|omega|exact Nat.le_refl _⟩,⟨bx_⟩⟩
  ·replace c5:=Bool.eq_false_iff.mpr c5
   subst c5
   have H1:(garboardlaw02_IntegerSigns.j0 k a0 a1 true) = some r:=by rw [if_neg (show ¬ (false = true) by decide)] at H;exact H
   clear H
   have H:=H1
   clear H1
   have H':=Aside0.mk H
   clear H
   go_wp2_with (first|((with_reducible refine gate_callee (f:=10) rfl ?_);refine gl_ (some 17) Tryz.func10 #[] (garboardlaw02_awake.calls k  false _ (HLW.out.below bx_) A4.out) ?_;clear HB;intro w11 hb HB;clear hb))
   go_meet
   case rel=>exact ⟨_,(true),(by first|rfl|(simp;done)|(simp [*];done)),H',⟨by first|omega|exact Nat.le_refl _⟩,⟨bx_⟩⟩
 case rest =>
  clear HC3
  try clear c1
  try clear p2
  try clear c3
  try clear c5
  try clear c10
  obtain ⟨kq,x23_2,rfl,HA,HJ2,HB⟩:=hcut
  cases kq with
  | zero=>exact absurd HA.out (by simp [garboardlaw02_IntegerSigns.j0])
  | succ kj2 =>
   have H:=HA.out
   clear HA
   simp only [garboardlaw02_IntegerSigns.j0] at H
   by_cases c12:x23_2 = true
   ·subst c12
    have H1:((garboardlaw02_awake.f kj2).bind fun t488=>(some t488)) = some r:=by rw [if_pos rfl] at H;exact H
    clear H
    have H:=H1
    clear H1
    obtain ⟨t488,A13,H⟩:=bn_ H
    obtain rfl:=Option.some.inj H
    go_wp2_with (first|((with_reducible refine gate_callee (f:=10) rfl ?_);refine gl_ (some 24) Tryz.func10 #[] (garboardlaw02_awake.calls kj2  t488 _ (HLW.out.below bx_) A13.out) ?_;clear HB;intro w14 hb HB;clear hb))
    go_ret
    exact ⟨rf_,bx_⟩
   ·replace c12:=Bool.eq_false_iff.mpr c12
    subst c12
    have H1:((integer_Sign.f kj2 a0).bind fun bt489=>((garboardref02_Sign.f kj2 a0).bind fun bt491=>((integer_Abs.f kj2 a0).bind fun bt493=>((garboardref02_Abs.f kj2 a0).bind fun bt495=>((integer_Neg.f kj2 a0).bind fun bt497=>((garboardref02_Neg.f kj2 a0).bind fun bt499=>((integer_Valid.f kj2 a0).bind fun t501=>((garboardref02_Valid.f kj2 a0).bind fun t502=>(if (t501 == t502) = true then (if bt489.1 = bt491.1 then (if bt489.2 = bt491.2 then (if bt493.1.toList = bt495.1.toList then (if bt493.2 = bt495.2 then (if bt497.1.toList = bt499.1.toList then (if bt497.2 = bt499.2 then ((integer_From.f a1).bind fun t503=>((strconv_Itoa_21.f a1).bind fun t504=>(some (t503.toList == t504.toList)))) else (some false)) else (some false)) else (some false)) else (some false)) else (some false)) else (some false)) else (some false)))))))))) = some r:=by rw [if_neg (show ¬ (false = true) by decide)] at H;exact H
    clear H
    have H:=H1
    clear H1
    obtain ⟨⟨t489,t490⟩,A15,H⟩:=bn_ H
    dsimp only at H
    obtain ⟨⟨t491,t492⟩,A16,H⟩:=bn_ H
    dsimp only at H
    obtain ⟨⟨t493,t494⟩,A17,H⟩:=bn_ H
    dsimp only at H
    obtain ⟨⟨t495,t496⟩,A18,H⟩:=bn_ H
    dsimp only at H
    obtain ⟨⟨t497,t498⟩,A19,H⟩:=bn_ H
    dsimp only at H
    obtain ⟨⟨t499,t500⟩,A20,H⟩:=bn_ H
    dsimp only at H
    obtain ⟨t501,A21,H⟩:=bn_ H
    obtain ⟨t502,A22,H⟩:=bn_ H
    by_cases c23:(t501 == t502) = true
    ·rw [if_pos c23] at H
     have c23b0:(t501 == t502) = true:=c23
     (try (have c23b1:decide (t501 = t502) = true:=by simpa using c23))
     (try (have c23b2:(t501 == t502) = true:=by simpa using c23))
     clear c23
     by_cases c24:t489 = t491
     ·rw [if_pos c24] at H
      have c24b0:(t489 == t491) = true:=beq_iff_eq.mpr c24
      have c24b1:(t489 != t491) = false:=bne_eq_false_iff_eq.mpr c24
      clear c24
      by_cases c25:t490 = t492
      ·rw [if_pos c25] at H
       have c25b0:(t490 == t492) = true:=beq_iff_eq.mpr c25
       have c25b1:(t490 != t492) = false:=bne_eq_false_iff_eq.mpr c25
       clear c25
       by_cases c26:t493.toList = t495.toList
       ·rw [if_pos c26] at H
        have c26b0:(t493.toList == t495.toList) = true:=beq_iff_eq.mpr c26
        have c26b1:(t493.toList != t495.toList) = false:=bne_eq_false_iff_eq.mpr c26
        clear c26
        by_cases c27:t494 = t496
        ·rw [if_pos c27] at H
         have c27b0:(t494 == t496) = true:=beq_iff_eq.mpr c27
         have c27b1:(t494 != t496) = false:=bne_eq_false_iff_eq.mpr c27
         clear c27
         by_cases c28:t497.toList = t499.toList
         ·rw [if_pos c28] at H
          have c28b0:(t497.toList == t499.toList) = true:=beq_iff_eq.mpr c28
          have c28b1:(t497.toList != t499.toList) = false:=bne_eq_false_iff_eq.mpr c28
          clear c28
          by_cases c29:t498 = t500
          ·rw [if_pos c29] at H
           have c29b0:(t498 == t500) = true:=beq_iff_eq.mpr c29
           have c29b1:(t498 != t500) = false:=bne_eq_false_iff_eq.mpr c29
           clear c29
           obtain ⟨t503,A30,H⟩:=bn_ H
           obtain ⟨t504,A31,H⟩:=bn_ H
           obtain rfl:=Option.some.inj H
           go_wp2_with (first|((with_reducible refine gate_callee (f:=12) rfl ?_);refine gl_ (some 27) Tryz.func12 #[.string a0] (integer_Sign.calls kj2 a0 t489 t490 _ A15.out) ?_;clear HB;intro w32 hb HB;clear hb)|((with_reducible refine gate_callee (f:=13) rfl ?_);refine gl_ (some 32) Tryz.func13 #[.string a0] (garboardref02_Sign.calls kj2 a0 t491 t492 _ A16.out) ?_;clear HB;intro w33 hb HB;clear hb)|((with_reducible refine gate_callee (f:=14) rfl ?_);refine gl_ (some 37) Tryz.func14 #[.string a0] (integer_Abs.calls kj2 a0 t493 t494 _ A17.out) ?_;clear HB;intro w34 hb HB;clear hb)|((with_reducible refine gate_callee (f:=15) rfl ?_);refine gl_ (some 42) Tryz.func15 #[.string a0] (garboardref02_Abs.calls kj2 a0 t495 t496 _ A18.out) ?_;clear HB;intro w35 hb HB;clear hb)|((with_reducible refine gate_callee (f:=16) rfl ?_);refine gl_ (some 47) Tryz.func16 #[.string a0] (integer_Neg.calls kj2 a0 t497 t498 _ A19.out) ?_;clear HB;intro w36 hb HB;clear hb)|((with_reducible refine gate_callee (f:=17) rfl ?_);refine gl_ (some 52) Tryz.func17 #[.string a0] (garboardref02_Neg.calls kj2 a0 t499 t500 _ A20.out) ?_;clear HB;intro w37 hb HB;clear hb)|((with_reducible refine gate_callee (f:=18) rfl ?_);refine gl_ (some 56) Tryz.func18 #[.string a0] (integer_Valid.calls kj2 a0 t501 _ A21.out) ?_;clear HB;intro w38 hb HB;clear hb)|((with_reducible refine gate_callee (f:=19) rfl ?_);refine gm_ (some 58) Tryz.func19 #[.string a0] ?_;(with_reducible refine (garboardref02_Valid.calls kj2 a0 t502 _ A22.out).mono ?_);rintro e w' ⟨rfl,⟨nd,rfl⟩⟩;refine ⟨_,rfl,?_⟩)|(go_at_call 20;(with_reducible refine (integer_From.calls a1 t503 _ (HLW.out.below bx_) A30.out).mono ?_);rintro e w39 ⟨rfl,hb⟩;replace HB:=bs_ hb;(try clear hb))|(go_at_call 21;(with_reducible refine (strconv_Itoa_21.calls a1 t504 _ (HLW.out.below bx_) A31.out).mono ?_);rintro e w40 ⟨rfl,hb⟩;replace HB:=bs_ hb;(try clear hb)))
           go_ret
           exact ⟨rf_,bx_⟩
          ·rw [if_neg c29] at H
           have c29b0:(t498 == t500) = false:=beq_eq_false_iff_ne.mpr c29
           have c29b1:(t498 != t500) = true:=bne_iff_ne.mpr c29
           exact absurd (Option.some.inj H) (by rw [HRT.out];decide)
         ·rw [if_neg c28] at H
          have c28b0:(t497.toList == t499.toList) = false:=beq_eq_false_iff_ne.mpr c28
          have c28b1:(t497.toList != t499.toList) = true:=bne_iff_ne.mpr c28
          exact absurd (Option.some.inj H) (by rw [HRT.out];decide)
        ·rw [if_neg c27] at H
         have c27b0:(t494 == t496) = false:=beq_eq_false_iff_ne.mpr c27
         have c27b1:(t494 != t496) = true:=bne_iff_ne.mpr c27
         exact absurd (Option.some.inj H) (by rw [HRT.out];decide)
       ·rw [if_neg c26] at H
        have c26b0:(t493.toList == t495.toList) = false:=beq_eq_false_iff_ne.mpr c26
        have c26b1:(t493.toList != t495.toList) = true:=bne_iff_ne.mpr c26
        exact absurd (Option.some.inj H) (by rw [HRT.out];decide)
      ·rw [if_neg c25] at H
       have c25b0:(t490 == t492) = false:=beq_eq_false_iff_ne.mpr c25
       have c25b1:(t490 != t492) = true:=bne_iff_ne.mpr c25
       exact absurd (Option.some.inj H) (by rw [HRT.out];decide)
     ·rw [if_neg c24] at H
      have c24b0:(t489 == t491) = false:=beq_eq_false_iff_ne.mpr c24
      have c24b1:(t489 != t491) = true:=bne_iff_ne.mpr c24
      exact absurd (Option.some.inj H) (by rw [HRT.out];decide)
    ·rw [if_neg c23] at H
     have c23b0:(t501 == t502) = false:=by simpa using c23
     (try (have c23b1:decide (t501 = t502) = false:=by simpa using c23))
     (try (have c23b2:(t501 == t502) = false:=by simpa using c23))
     (try (have c23b3:¬ (t501 = t502):=by simpa using c23))
     clear c23
     exact absurd (Option.some.inj H) (by rw [HRT.out];decide)
end Go.Proofs.YtaknchlegjcdhaaGreatDoor.Pr
namespace Go.Proofs.YtaknchlegjcdhaaGreatDoor.Pr
open Go.RowKit Go.Proofs.YtaknchlegjcdhaaGreatDoorW.PrintWords Go.Proofs.YtaknchlegjcdhaaGreatDoorW.PrintLast Go.Proofs.YtaknchlegjcdhaaGreatDoorW.PrintMore
attribute [local go_sem] max2_int min2_int max_two min_two max_three min_three max_four min_four
set_option maxHeartbeats 8000000
set_option maxRecDepth 100000
set_option linter.unusedVariables false
set_option linter.unusedSimpArgs false
def garboardref02_Over.j0:Nat→List Int→List Int→Bool→Bool→List Int→Bool→List Int→Option (Bool × List Int × Bool × List Int)
 | 0,_,_,_,_,_,_,_=>none
 | k + 1,x6,x7,x23,x729000,x729001,x730000,x730001=>if x23 = true then ((garboardref02_Make.f (x729000 != x730000) x6).bind fun bt738=>((garboardref02_Make.f false x7).bind fun bt742=>(some (bt738.1,bt738.2,bt742.1,bt742.2)))) else ((garboardref01_Small.f k 1).bind fun t746=>((garboardref01_Plus.f k x6 t746).bind fun t749=>((garboardref02_Make.f (!x730000) t749).bind fun bt752=>((garboardref01_Minus.f k x730001 x7).bind fun t756=>((garboardref02_Make.f false t756).bind fun bt759=>(some (bt752.1,bt752.2,bt759.1,bt759.2)))))))
def garboardref02_Over.f (k:Nat) (a0_0:Bool) (l0_1:List Int) (a1_0:Bool) (l1_1:List Int):Option (Bool × List Int × Bool × List Int):=(garboardref01_Over.f l0_1 l1_1).bind fun bt732=>(if a0_0 = true then (garboardref02_Over.j0 k bt732.1 bt732.2 ((bt732.2.length:Int) == 0) a0_0 l0_1 a1_0 l1_1) else (garboardref02_Over.j0 k bt732.1 bt732.2 true a0_0 l0_1 a1_0 l1_1))
end Go.Proofs.YtaknchlegjcdhaaGreatDoor.Pr
namespace Go.Proofs.YtaknchlegjcdhaaGreatDoor.Pr
open Go.RowKit Go.Proofs.YtaknchlegjcdhaaGreatDoorW.PrintWords Go.Proofs.YtaknchlegjcdhaaGreatDoorW.PrintLast Go.Proofs.YtaknchlegjcdhaaGreatDoorW.PrintMore
attribute [local go_sem] max2_int min2_int max_two min_two max_three min_three max_four min_four
set_option maxHeartbeats 8000000
set_option maxRecDepth 100000
set_option linter.unusedVariables false
set_option linter.unusedSimpArgs false
def garboardref02_DivMod.f (k:Nat) (a0:ByteArray) (a1:ByteArray):Option (ByteArray × ByteArray × Int):=(garboardref02_both.f k a0 a1).bind fun bt763=>(if bt763.2.2.2.2 = 0 then ((garboardref02_Signum.f bt763.2.2.1 bt763.2.2.2.1).bind fun t774=>(if t774 = 0 then (some ((⟨#[]⟩:ByteArray),(⟨#[]⟩:ByteArray),16)) else ((garboardref02_Over.f k bt763.1 bt763.2.1 bt763.2.2.1 bt763.2.2.2.1).bind fun bt775=>((garboardref02_To.f k bt775.1 bt775.2.1).bind fun t785=>((garboardref02_To.f k bt775.2.2.1 bt775.2.2.2).bind fun t786=>(some (t785,t786,0))))))) else (some ((⟨#[]⟩:ByteArray),(⟨#[]⟩:ByteArray),bt763.2.2.2.2)))
end Go.Proofs.YtaknchlegjcdhaaGreatDoor.Pr
set_option linter.unusedVariables false
set_option linter.unusedSimpArgs false
namespace Go.Proofs.YtaknchlegjcdhaaGreatDoor.Pr
open Go.RowKit Go.Lib Go.Proofs.YtaknchlegjcdhaaGreatDoorW.PrintWords Go.Proofs.YtaknchlegjcdhaaGreatDoorW.PrintLast Go.Proofs.YtaknchlegjcdhaaGreatDoorW.PrintMore Go.Proofs.YtaknchlegjcdhaaGreatDoor.NatTh
theorem len_0 (n:Nat):(((numOf n).length:Int) == 0) = decide (n = 0):=by
 by_cases h:n = 0
 ·subst h;rw [numOf_zero];rfl
 ·have:=len_pos (a:=n) (by omega)
  rw [decide_eq_false h]
  exact beq_eq_false_iff_ne.2 (by omega)
theorem rover_ev {e:Nat} {y z:Int} (hy:Zs e y) (hz:Zs e z) (h2:e≤90000) (h0:z≠0) :
  Ev (fun k=>garboardref02_Over.f k (zr y).1 (zr y).2 (zr z).1 (zr z).2) ((zr (y / z)).1,(zr (y / z)).2,(zr (y % z)).1,(zr (y % z)).2):=by
 have l1:=hy.len
 have l2:=hz.len
 have d:=(divide_eq y.natAbs z.natAbs (by omega) (by omega) (by omega)).2
 have key:=div_zn (y:=y) h0
 have lq:(numOf (y.natAbs / z.natAbs)).length≤e:=Nat.le_trans (len_mono (Nat.div_le_self _ _)) l1
 have lr:(numOf (y.natAbs % z.natAbs)).length≤e:=Nat.le_trans (len_mono (Nat.mod_le _ _)) l1
 have hlt:=Nat.mod_lt y.natAbs (by omega:0 < z.natAbs)
 have len1:(numOf 1).length = 1:=by rw [numOf_one (by omega) (by omega)];rfl
 have fin:∀ b:Bool,Ev (fun k=>garboardref02_Over.j0 k (numOf (y.natAbs / z.natAbs)) (numOf (y.natAbs % z.natAbs)) b (zr y).1 (zr y).2 (zr z).1 (zr z).2)
   (if b = true then ((zr (zn (decide (y < 0) != decide (z < 0)) (y.natAbs / z.natAbs))).1,(zr (zn (decide (y < 0) != decide (z < 0)) (y.natAbs / z.natAbs))).2,(zr (zn false (y.natAbs % z.natAbs))).1,(zr (zn false (y.natAbs % z.natAbs))).2)
    else ((zr (zn (!decide (z < 0)) (y.natAbs / z.natAbs + 1))).1,(zr (zn (!decide (z < 0)) (y.natAbs / z.natAbs + 1))).2,(zr (zn false (z.natAbs - y.natAbs % z.natAbs))).1,(zr (zn false (z.natAbs - y.natAbs % z.natAbs))).2)):=fun b=>by
  cases b with
  | true =>
   refine Ev.step (f:=fun _=>some _) (fun k=>?_) (Ev.now _)
   rw [garboardref02_Over.j0,if_pos rfl,if_pos rfl,zr_fst,zr_fst,make_eq,Option.bind_some,make_eq,Option.bind_some]
  | false =>
   rw [if_neg (by simp)]
   have s1:Ev (fun k=>garboardref01_Small.f k 1) (numOf 1):=Small_ev 1 (by omega)
   refine Ev.step (f:=fun k=>(garboardref01_Small.f k 1).bind fun t744=>((garboardref01_Plus.f k (numOf (y.natAbs / z.natAbs)) t744).bind fun t747=>((garboardref02_Make.f (!(zr z).1) t747).bind fun bt750=>((garboardref01_Minus.f k (zr z).2 (numOf (y.natAbs % z.natAbs))).bind fun t754=>((garboardref02_Make.f false t754).bind fun bt757=>(some (bt750.1,bt750.2,bt757.1,bt757.2))))))) (fun k=>by rw [garboardref02_Over.j0,if_neg (by simp)]) (Ev.bind s1 (Ev.bind (Plus_ev (y.natAbs / z.natAbs) 1 (by unfold Ok;omega) (by unfold Ok;omega) (by omega)) ?_))
   refine Ev.congr (f:=fun k=>(garboardref01_Minus.f k (zr z).2 (numOf (y.natAbs % z.natAbs))).bind fun t754=>((garboardref02_Make.f false t754).bind fun bt757=>(some ((zr (zn (!decide (z < 0)) (y.natAbs / z.natAbs + 1))).1,(zr (zn (!decide (z < 0)) (y.natAbs / z.natAbs + 1))).2,bt757.1,bt757.2)))) (fun k=>by rw [zr_fst z,make_eq,Option.bind_some]) (Ev.bind (Minus_ev z.natAbs (y.natAbs % z.natAbs) (by omega) (by omega)) (Ev.congr (fun k=>?_) (Ev.now _)))
   rw [make_eq,Option.bind_some]
 unfold garboardref02_Over.f
 refine Ev.congr (fun k=>by rw [zr_snd y,zr_snd z,d,Option.bind_some]) ?_
 dsimp only
 have znF:∀ n:Nat,zn false n = (n:Int):=fun n=>if_neg (by simp)
 by_cases hy0:y < 0
 ·refine Ev.congr (fun k=>if_pos (decide_eq_true hy0)) ?_
  rw [len_0]
  have f:=fin (decide (y.natAbs % z.natAbs = 0))
  by_cases h:y.natAbs % z.natAbs = 0
  ·rw [if_neg (by rintro ⟨_,h3⟩;exact h3 h)] at key
   obtain ⟨k1,k2⟩:=Prod.mk.inj key
   rw [if_pos (decide_eq_true h),znF,k1,k2] at f
   exact f
  ·rw [if_pos ⟨hy0,h⟩] at key
   obtain ⟨k1,k2⟩:=Prod.mk.inj key
   have e1:(!decide (z < 0)) = (decide (y < 0) != decide (z < 0)):=by rw [decide_eq_true hy0];cases decide (z < 0)<;>rfl
   rw [if_neg (by simp [h]),znF,e1,k1,k2] at f
   exact f
 ·refine Ev.congr (fun k=>if_neg (by rw [zr_fst];simpa using hy0)) ?_
  have f:=fin true
  rw [if_neg (by rintro ⟨h3,_⟩;exact hy0 h3)] at key
  obtain ⟨k1,k2⟩:=Prod.mk.inj key
  rw [if_pos rfl,znF,k1,k2] at f
  exact f
end Go.Proofs.YtaknchlegjcdhaaGreatDoor.Pr
set_option linter.unusedVariables false
set_option linter.unusedSimpArgs false
namespace Go.Proofs.YtaknchlegjcdhaaGreatDoor.Pr
open Go.RowKit Go.Lib Go.Proofs.YtaknchlegjcdhaaGreatDoorW.PrintWords Go.Proofs.YtaknchlegjcdhaaGreatDoorW.PrintLast Go.Proofs.YtaknchlegjcdhaaGreatDoorW.PrintMore Go.Proofs.YtaknchlegjcdhaaGreatDoor.NatTh
theorem rDivMod_ev (a b:ByteArray) (ha:S1 a) (hb:S1 b):Ev (fun k=>garboardref02_DivMod.f k a b) (divZ a b):=by
 refine Ev.congr (fun k=>rfl) (Ev.bind (rboth_ev a b ha hb) ?_)
 unfold divZ bothR
 by_cases h:okB a b = true
 ·obtain ⟨h1,h2⟩:=ok_and h
  have z1:=zs_zof h1 ha
  have z2:=zs_zof h2 hb
  rw [if_pos h,if_pos h]
  refine Ev.congr (f:=fun k=>if (zof b).sign = 0 then some ((⟨#[]⟩:ByteArray),(⟨#[]⟩:ByteArray),16) else ((garboardref02_Over.f k (zr (zof a)).1 (zr (zof a)).2 (zr (zof b)).1 (zr (zof b)).2).bind fun bt773=>((garboardref02_To.f k bt773.1 bt773.2.1).bind fun t783=>((garboardref02_To.f k bt773.2.2.1 bt773.2.2.2).bind fun t784=>(some (t783,t784,0)))))) (fun k=>(if_pos rfl).trans (by dsimp only;rw [rsign_eq,Option.bind_some])) ?_
  by_cases h0:zof b = 0
  ·rw [if_pos h0]
   exact Ev.congr (fun k=>if_pos (by rw [h0];rfl)) (Ev.now _)
  ·rw [if_neg h0]
   have zq:Zs 1000 (zof a / zof b):=z1.le (Int.natAbs_ediv_le_natAbs _ _)
   have zm:Zs 1000 (zof a % zof b):=by
    refine z2.le ?_
    have h5:=Int.emod_nonneg (zof a) h0
    have h6:=Int.emod_lt (zof a) h0
    omega
   exact Ev.congr (fun k=>if_neg (fun e=>h0 (Int.sign_eq_zero_iff_zero.1 e))) (Ev.bind (rover_ev z1 z2 (by omega) h0) (Ev.bind (rto_ev zq (by omega) (by omega)) (Ev.bind (rto_ev zm (by omega) (by omega)) (Ev.now _))))
 ·rw [if_neg h,if_neg h]
  exact Ev.congr (fun k=>if_neg (by simp)) (Ev.now _)
theorem rSign_ev (a:ByteArray) (ha:S1 a):Ev (fun k=>garboardref02_Sign.f k a) (signZ a):=by
 refine Ev.congr (fun k=>rfl) (Ev.bind (rvalid_ev a ha) ?_)
 unfold signZ
 cases h:iv a with
 | true =>
  rw [if_pos rfl]
  refine Ev.congr (fun k=>if_pos rfl) (Ev.bind (rread_ev a ha h) (Ev.congr (fun k=>?_) (Ev.now _)))
  rw [rsign_eq,Option.bind_some]
 | false=>exact Ev.congr (fun k=>if_neg (by simp)) (Ev.now _)
theorem rAbs_ev (a:ByteArray) (ha:S1 a):Ev (fun k=>garboardref02_Abs.f k a) (absZ a):=by
 refine Ev.congr (fun k=>rfl) (Ev.bind (rvalid_ev a ha) ?_)
 unfold absZ
 cases h:iv a with
 | true =>
  have z1:=zs_zof h ha
  have z2:Zs 1000 ((zof a).natAbs:Int):=z1.le (by rw [Int.natAbs_natCast];exact Nat.le_refl _)
  rw [if_pos rfl,← it_nat]
  refine Ev.congr (fun k=>if_pos rfl) (Ev.bind (rread_ev a ha h) (Ev.congr (f:=fun k=>(garboardref02_To.f k (zr ((zof a).natAbs:Int)).1 (zr ((zof a).natAbs:Int)).2).bind fun t508=>some (t508,0)) (fun k=>?_) (Ev.bind (rto_ev z2 (by omega) (by omega)) (Ev.now _))))
  rw [zr_snd,make_eq,Option.bind_some]
  rfl
 | false=>exact Ev.congr (fun k=>if_neg (by simp)) (Ev.now _)
theorem rNeg_ev (a:ByteArray) (ha:S1 a):Ev (fun k=>garboardref02_Neg.f k a) (negZ a):=by
 refine Ev.congr (fun k=>rfl) (Ev.bind (rvalid_ev a ha) ?_)
 unfold negZ
 cases h:iv a with
 | true =>
  have z1:=(zs_zof h ha).neg
  rw [if_pos rfl]
  refine Ev.congr (fun k=>if_pos rfl) (Ev.bind (rread_ev a ha h) (Ev.congr (f:=fun k=>(garboardref02_To.f k (zr (-zof a)).1 (zr (-zof a)).2).bind fun t524=>some (t524,0)) (fun k=>?_) (Ev.bind (rto_ev z1 (by omega) (by omega)) (Ev.now _))))
  rw [ropp_eq,Option.bind_some]
 | false=>exact Ev.congr (fun k=>if_neg (by simp)) (Ev.now _)
end Go.Proofs.YtaknchlegjcdhaaGreatDoor.Pr
set_option linter.unusedVariables false
set_option linter.unusedSimpArgs false
namespace Go.Proofs.YtaknchlegjcdhaaGreatDoor.Pr
open Go.RowKit Go.Lib Go.Proofs.YtaknchlegjcdhaaGreatDoorW.PrintWords Go.Proofs.YtaknchlegjcdhaaGreatDoorW.PrintLast Go.Proofs.YtaknchlegjcdhaaGreatDoorW.PrintMore Go.Proofs.YtaknchlegjcdhaaGreatDoor.NatTh
theorem Signs_law (a:ByteArray) (n:Int) (hn:(Lit.int .i64 n).wf = true):Ev (fun k=>garboardlaw02_IntegerSigns.f k a n) true:=by
 refine law_head [a] (by simp) (fun k t=>garboardlaw02_IntegerSigns.j0 k a n t) _ (fun k=>rfl) (fun k=>by rw [garboardlaw02_IntegerSigns.j0,if_pos rfl]) (fun hs=>?_)
 have ha:=s1_120 (hs a (by simp))
 have hb:-9223372036854775808≤n∧n≤9223372036854775807:=by
  have h:=hn
  simp [Lit.wf,IntKind.bits,IntKind.signed,IntKind.min,IntKind.max] at h
  omega
 have ft:strconv_Itoa_21.f n = some ⟨(Lib.itoa n).toArray⟩:=if_pos hb
 have ff:integer_From.f n = some ⟨(Lib.itoa n).toArray⟩:=by unfold integer_From.f;rw [ft];rfl
 refine Ev.step (fun k=>by rw [garboardlaw02_IntegerSigns.j0,if_neg (by simp)]) (Ev.bind (zSign_ev a ha) (Ev.bind (rSign_ev a ha) (Ev.bind (zAbs_ev a ha) (Ev.bind (rAbs_ev a ha) (Ev.bind (zNeg_ev a ha) (Ev.bind (rNeg_ev a ha) (Ev.bind (zValid_ev a ha) (Ev.bind (rvalid_ev a ha) ?_))))))))
 refine Ev.congr (fun k=>?_) (Ev.now _)
 rw [if_pos (by simp),if_pos rfl,if_pos rfl,if_pos rfl,if_pos rfl,if_pos rfl,if_pos rfl,ff,Option.bind_some,ft,Option.bind_some,beq_self_eq_true]
end Go.Proofs.YtaknchlegjcdhaaGreatDoor.Pr
namespace Go.Proofs.YtaknchlegjcdhaaGreatDoor.Pr
set_option linter.unusedVariables false
set_option linter.unusedSimpArgs false
open Go.ChangeShapes Go.WideShapes Go.ChangeAt Go.RowKit Go.Proofs.YtaknchlegjcdhaaGreatDoorW.PrintWords
set_option maxRecDepth 100000 in
theorem open_i64_integerSigns {H:Type} {enc:TypeId × Value→H} {W:World} {r:Reach} {b0:Nat} {v:Value} {d:DataW H} {p:List MemPlace} (hv:Value.okWide Tryz.prog W r b0 3 v) (h:DataW.Trod enc Tryz.prog W 0 (fun _=>true) true 3 v d p):∃ s,v = .int .i64 s∧(Lit.int .i64 s).wf = true:=by
 obtain ⟨s,e,_,_,hw⟩:=open_int Tryz.underlying3 hv h
 exact ⟨s,e,hw⟩
set_option maxRecDepth 100000 in
theorem integerSigns_lifted (os:Os) (started:os.Started) (H:Type) (enc:TypeId × Value→H) :
  ReturnsInHanded {} Tryz.checked os 3 .any (fun w args=>(Rows.integerSignsSpec.pre enc Tryz.prog Tryz.f3 [] false w args∧laidMetH Tryz.prog laid5 w)∧sizedMet enc Tryz.prog Tryz.f3 (OpenSpec.ofChange Rows.integerSignsSpec) false w args)
   (Rows.integerSignsSpec.post enc Tryz.prog Tryz.f3 false true false false):=by
 refine returnsInHanded_of_change_and (C:=Tryz.checked) (X:=fun w _=>laidMetH Tryz.prog laid5 w) (fun _ _ _ hh h=>h.of_heap hh) own started (by kernel_rfl) Tryz.func3
  (ChangeSpec.witness_shaped (enc:=enc) (C:=Tryz.checked) (os:=os) (X:=fun w _=>laidMetH Tryz.prog laid5 w) false (World.doorLaid Tryz.prog 400 os) #[.string ⟨#[]⟩,.int .i64 0] 8 rfl (World.shaped_of_RefB (by kernel_rfl) (by kernel_rfl)) (by kernel_rfl) (by kernel_rfl) (by kernel_rfl) (door_met os _)) ?_
 intro W base args ds gs before hval0 hW _ _ hL _
 have hval:∀ (j:Nat) t v,Tryz.f3.params[j]? = some t→args[j]? = some v→Value.okWide Tryz.prog W .any base t v:=hval0
 have hW':=hW
 obtain ⟨p,q,hA0,hV,rfl,hfz,hnd⟩:=hW
 have hA:DataW.TrodAll enc Tryz.prog W 0 (fun _=>true) true Tryz.f3.params.toList args.toList ds p:=hA0
 rw [Tryz.params3] at hA hval
 obtain ⟨v0,vs0,d0,ds0,p0,q0,hargs,rfl,rfl,h0,r0⟩:=trodAll_cons hA
 obtain ⟨v1,vs1,d1,ds1,p1,q1,rfl,rfl,rfl,h1,r1⟩:=trodAll_cons r0
 obtain ⟨rfl,rfl,rfl⟩:=trodAll_nil r1
 obtain rfl:args = #[v0,v1]:=by cases args;simp_all
 obtain ⟨rfl,rfl⟩:=trodVars_none hV
 have lt0:∀ x ∈ p0,x.block < W.heap.size:=by obtain ⟨m,hm⟩:=h0;exact DataW.trod_lt m _ _ _ hm
 have lt1:∀ x ∈ p1,x.block < W.heap.size:=by obtain ⟨m,hm⟩:=h1;exact DataW.trod_lt m _ _ _ hm
 have k0:=h0
 have k1:=h1
 obtain ⟨a0,rfl⟩:=openS (hval 0 9 v0 rfl rfl) h0
 obtain ⟨a1,rfl,w1⟩:=open_i64_integerSigns (hval 1 3 v1 rfl rfl) h1
 have hT:=laid_tab hL
 clear hA0 hval0 hval
 obtain ⟨k,hk⟩:=(Signs_law a0 a1 w1).rounds
 refine (garboardlaw02_IntegerSigns.calls k a0 a1 true W hT hk rfl).mono fun e W' ⟨he,bel⟩=>?_
 subst he
 exact ⟨_,rfl,_,_,_,[],_,[],hW',trodAll_mk1 (shut_bool Tryz.underlying4 _),(trodAll_cons_mk (Below.trod laidOut (by kernel_rfl) (of_decide_eq_true (by kernel_rfl)) k0 bel lt0) (trodAll_cons_mk (Below.trod laidOut (by kernel_rfl) (of_decide_eq_true (by kernel_rfl)) k1 bel lt1) trodAll_mk0)),rfl,bel.frame _,fun h=>by cases h⟩
theorem integerSigns_row:Rows.IntegerSignsSaid :=
 OpenClaim.holds_of_wide 3 Tryz.f3 rfl rfl rfl rfl rfl rfl rfl ⟨rfl,rfl,rfl,rfl,rfl⟩ rfl rfl rfl rfl rfl (by kernel_rfl) Tryz.func3 (by kernel_rfl)
  (of_decide_eq_true (by kernel_rfl)) (by unfold Func.isWrapper;first|(rw [if_pos (by decide +kernel)];kernel_rfl)|(rw [if_neg (by decide +kernel)];exact ⟨rfl,rfl⟩))
  (fun os started H enc _=>integerSigns_lifted os started H enc)
end Go.Proofs.YtaknchlegjcdhaaGreatDoor.Pr
namespace Go.Proofs.YtaknchlegjcdhaaGreatDoor
open Go
theorem integerSigns_card_holds:Rows.IntegerSignsCardSaid :=
 Claim7.holds_tied_plain_at .later [] [.data,.data,.data,.sentinel,.sentinel] true (true, "0afddc1d5b9fa5532b563da11c0d14509486c5c674670dcc3f772662c7f756d9") true
  Pr.integerSigns_row (fun _ h=>by cases h) (by kernel_rfl) (fun _ h=>by cases h) integerSigns_row_tie rfl ⟨rfl,rfl⟩ (by kernel_rfl) rfl
  (fun f fn hf hfn=>by
   obtain rfl:f = 3:=Option.some.inj ((show Tryz.prog.funcNamed "garboard/garboardlaw02.IntegerSigns" = some 3 by kernel_rfl).symm.trans hf) |>.symm
   obtain rfl:fn = Tryz.f3:=(Option.some.inj (Tryz.func3.symm.trans hfn)).symm
   exact ⟨by kernel_rfl,fun j t ht=>by
    rw [Tryz.params3] at ht
    have hm:t ∈ [9,3]:=by simpa using Array.mem_of_getElem? ht
    have hall:([9,3].all fun u=>!Tryz.prog.wantsStandIn u) = true:=by kernel_rfl
    exact (show Tryz.prog.wantsStandIn t = false by simpa using List.all_eq_true.1 hall t hm)⟩)
  (by kernel_rfl)
end Go.Proofs.YtaknchlegjcdhaaGreatDoor
