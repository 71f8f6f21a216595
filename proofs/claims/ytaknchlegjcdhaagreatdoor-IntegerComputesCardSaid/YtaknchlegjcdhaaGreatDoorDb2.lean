/- Part 2 of 2: garboardlaw02.IntegerComputes (comparison, sum, difference, product: the program's answers and the reference's are the same; at most 120 bytes each) answers true for every input, and each argument reads behind the call as before. The library's tables are tied to the program's text by the card. -/
import Derived.Below
import Derived.Deep.Draws
import Derived.Deep.AppendLies
import Derived.Maps.AppendAt
import Derived.OwnWalk
import Derived.Laws.BytesArg
import Derived.Laws.MakeOwn
import Derived.Laws.OwnMore
import Derived.Deep.OwnRows
import Derived.Tactics
import Derived.Lib.ConvBytes
import Derived.Laws.Slices
import Derived.WalkKit
import Derived.KernelRfl
import Derived.RowKit3
import Derived.Deep.LoopGhost
import Derived.Deep.QuietTactic
import Derived.BigQuiet
import Derived.WideLaws
import Derived.Deep.DeepCutAuto
import Derived.Deep.CutBlock
import Derived.Deep.RegionHeld3
import Derived.Laws.Rows
import Derived.Lib.AppendStr
import Derived.ArgAppend
import Derived.Laws.IdiomCopy
import Derived.RowKit
import Derived.OrdersHeld
import Derived.Laws.BitsLemmas
import Derived.Laws.StructEq
import Derived.Test.YtaknchlegjcdhaaGreatDoorProg
import Derived.Shelf.Strings.Builder1
import Derived.Shelf.Strings.Builder2
import Derived.Shelf.Small.Wraps
import Derived.Shelf.Strings.BuilderF
import Derived.Shelf.Strings.BuilderK
import Derived.Shelf.Strings.Builder2Cap
import Derived.Shelf.Strconv.Itoa0
import Derived.Shelf.Strconv.Itoa1
import Derived.Shelf.LaysM
import Derived.Shelf.Strconv.Itoa2
import Derived.Shelf.Strconv.Itoa3
import Derived.Shelf.Strconv.Clone
import Derived.Shelf.Strconv.SyntaxError
import Derived.Shelf.Strconv.Lower
import Derived.Shelf.Strconv.ParseUint10
import Derived.Shelf.Strconv.ParseUint10Empty
import Derived.Shelf.Strconv.RangeError
import Derived.Shelf.Strconv.ParseUintEmpty
import Derived.Shelf.Strconv.ParseUint10b64
import Derived.Shelf.Strconv.ParseUint10b32
import Derived.Shelf.Strconv.ParseUint10b16
import Derived.Shelf.Strconv.ParseUint10b8
import Derived.Ground.MpProg
import Derived.Shelf.Pu.ParseUintPublic10
import Derived.Shelf.Strings.Prefix
import Derived.Shelf.Bits.Mul64
import Derived.Shelf.Strings.Repeat
import Derived.Ground.Names2Prog
import Derived.Shelf.Slices.SearchI
import Derived.Lib.AtoiErrMem
import Derived.Lib.ItoaNum
import Derived.Lib.ParseIntB
import Derived.RangeFuncFrom
import Derived.RangeFuncBox
import Derived.RangeFuncLeaves
import Derived.RangeFuncCalls
import Derived.RangeFuncBound
import Derived.Shelf.Abstract
import Derived.OwnWalkIn
import Derived.TacticsInMore
import Derived.LoopNIn
import Derived.LoopIn
import Derived.Lib.Hide
import Derived.Lib.FrozenHead
import Derived.Lib.AppendIntMem
import Derived.Lib.Walk
import Derived.Lib.ItoaMem
import Derived.BigCall
import Derived.BigGuard
import Derived.Great.BuildSlice
import Derived.Lib.SmallJoins
import Derived.LaidMore
import Derived.ProofKit
import Derived.Stop.Joined
import Derived.SizedLaws
import Derived.DataShut
import Derived.SevenTiedAt
import Derived.Test.YtaknchlegjcdhaaGreatDoorDb1
namespace Go.Proofs.YtaknchlegjcdhaaGreatDoor.Pr
open Go.RowKit Go.Proofs.YtaknchlegjcdhaaGreatDoorW.PrintWords Go.Proofs.YtaknchlegjcdhaaGreatDoorW.PrintLast Go.Proofs.YtaknchlegjcdhaaGreatDoorW.PrintMore
attribute [local go_sem] max2_int min2_int max_two min_two max_three min_three max_four min_four
set_option maxHeartbeats 8000000
set_option maxRecDepth 100000
set_option linter.unusedVariables false
set_option linter.unusedSimpArgs false
theorem garboardref01_Cmp.calls (k:Nat) (A0:Option Addr) (c0:Nat) (l0:List Int) (A1:Option Addr) (c1:Nat) (l1:List Int) (r:Int) (w:World) (hr0:Kd.C (Kd.int .u32) w A0 l0.length l0) (hc0:l0.length≤c0) (hr1:Kd.C (Kd.int .u32) w A1 l1.length l1) (hc1:l1.length≤c1) (h:garboardref01_Cmp.f k l0 l1 = some r) :
  Calls Tryz.prog 80 #[.slice A0 l0.length c0,.slice A1 l1.length c1] w fun e w'=>e = .returned (.int .i64 r)∧Drawn0 w w':=by
 have HR0:=Aside0.mk hr0
 have HC0:=Aside0.mk hc0
 clear hr0 hc0
 have HR1:=Aside0.mk hr1
 have HC1:=Aside0.mk hc1
 clear hr1 hc1
 have H:(if (l0.length:Int) = (l1.length:Int) then (garboardref01_Cmp.l0 k l0 l1 (wrap64 ((l0.length:Int) - 1))) else (if (l0.length:Int) < (l1.length:Int) then (some (-1)) else (some 1))) = some r:=h
 clear h
 by_cases c3:(l0.length:Int) = (l1.length:Int)
 ·rw [if_pos c3] at H
  have c3b0:((l0.length:Int) == (l1.length:Int)) = true:=beq_iff_eq.mpr c3
  have c3b1:((l0.length:Int) != (l1.length:Int)) = false:=bne_eq_false_iff_eq.mpr c3
  have c3b2:(l0.length == l1.length) = true:=by first|simpa using c3|(simp at c3 ⊢;omega)
  clear c3
  have H':=Aside0.mk H
  clear H
  go_enter Tryz.func80,Tryz.ntmps80
  go_wp2
  repeat (go_quiet (fail);try go_wp2)
  go_loopg [5] k (fun kq v5 w'=>∃ (x5_1:Int),v5 = .int .i64 x5_1∧Aside0 (garboardref01_Cmp.l0 kq l0 l1 x5_1 = some r)∧Aside0 (kq≤k)∧Drawn0 w w')
  case atStart=>exact ⟨(wrap64 ((l0.length:Int) - 1)),(by first|rfl|(simp;done)|(simp [*];done)),H',⟨Nat.le_refl _⟩,by repeat (first|exact Drawn0.refl _|apply Drawn0.step)⟩
  case round =>
   clear H'
   try clear c1
   try clear p2
   try clear c3
   try clear c3b0
   try clear c3b1
   try clear c3b2
   obtain ⟨x5_1,rfl,HA,HK1,⟨m1,rfl⟩⟩:=hrel
   cases gk with
   | zero=>exact absurd HA.out (by simp [garboardref01_Cmp.l0])
   | succ k1 =>
    have H:=HA.out
    clear HA
    simp only [garboardref01_Cmp.l0] at H
    by_cases c4:x5_1 ≥ 0
    ·rw [if_pos c4] at H
     have c4b0:decide (0≤x5_1) = true:=decide_eq_true c4
     clear c4
     by_cases c5:0≤x5_1
     ·rw [if_pos c5] at H
      have c5b0:decide (0≤x5_1) = true:=decide_eq_true c5
      clear c5
      by_cases c6:x5_1 < (l0.length:Int)
      ·rw [if_pos c6] at H
       have c6b0:decide (x5_1 < (l0.length:Int)) = true:=decide_eq_true c6
       clear c6
       by_cases c7:x5_1 < (l1.length:Int)
       ·rw [if_pos c7] at H
        have c7b0:decide (x5_1 < (l1.length:Int)) = true:=decide_eq_true c7
        clear c7
        by_cases c8:(rd l0 x5_1) < (rd l1 x5_1)
        ·rw [if_pos c8] at H
         have c8b0:decide ((rd l0 x5_1) < (rd l1 x5_1)) = true:=decide_eq_true c8
         clear c8
         obtain rfl:=Option.some.inj H
         have p535:0≤(x5_1:Int):=da_
         have q535:x5_1 < (l0.length:Int):=da_
         obtain ⟨ad535,e535,hx535_0⟩:=Kd.at_int HR0.out x5_1 p535 q535
         cases e535
         replace p535:=eq_true p535
         replace q535:=eq_true q535
         have p536:0≤(x5_1:Int):=da_
         have q536:x5_1 < (l1.length:Int):=da_
         obtain ⟨ad536,e536,hx536_0⟩:=Kd.at_int HR1.out x5_1 p536 q536
         cases e536
         replace p536:=eq_true p536
         replace q536:=eq_true q536
         go_wp2
         repeat (go_quiet (fail);try go_wp2)
         go_ret
         exact ⟨by first|rfl|(simp;done)|(simp [*];done),by repeat (first|exact Drawn0.refl _|apply Drawn0.step)⟩
        ·rw [if_neg c8] at H
         have c8b0:decide ((rd l0 x5_1) < (rd l1 x5_1)) = false:=decide_eq_false c8
         clear c8
         by_cases c9:(rd l0 x5_1) > (rd l1 x5_1)
         ·rw [if_pos c9] at H
          have c9b0:decide ((rd l1 x5_1) < (rd l0 x5_1)) = true:=decide_eq_true c9
          clear c9
          obtain rfl:=Option.some.inj H
          have p535:0≤(x5_1:Int):=da_
          have q535:x5_1 < (l0.length:Int):=da_
          obtain ⟨ad535,e535,hx535_0⟩:=Kd.at_int HR0.out x5_1 p535 q535
          cases e535
          replace p535:=eq_true p535
          replace q535:=eq_true q535
          have p536:0≤(x5_1:Int):=da_
          have q536:x5_1 < (l1.length:Int):=da_
          obtain ⟨ad536,e536,hx536_0⟩:=Kd.at_int HR1.out x5_1 p536 q536
          cases e536
          replace p536:=eq_true p536
          replace q536:=eq_true q536
          have p537:0≤(x5_1:Int):=da_
          have q537:x5_1 < (l0.length:Int):=da_
          obtain ⟨ad537,e537,hx537_0⟩:=Kd.at_int HR0.out x5_1 p537 q537
          obtain rfl:ad535 = ad537:=(by injection e537)
          replace p537:=eq_true p537
          replace q537:=eq_true q537
          have p538:0≤(x5_1:Int):=da_
          have q538:x5_1 < (l1.length:Int):=da_
          obtain ⟨ad538,e538,hx538_0⟩:=Kd.at_int HR1.out x5_1 p538 q538
          obtain rfl:ad536 = ad538:=(by injection e538)
          replace p538:=eq_true p538
          replace q538:=eq_true q538
          go_wp2
          repeat (go_quiet (fail);try go_wp2)
          go_ret
          exact ⟨by first|rfl|(simp;done)|(simp [*];done),by repeat (first|exact Drawn0.refl _|apply Drawn0.step)⟩
         ·rw [if_neg c9] at H
          have c9b0:decide ((rd l1 x5_1) < (rd l0 x5_1)) = false:=decide_eq_false c9
          clear c9
          have H':=Aside0.mk H
          clear H
          have p535:0≤(x5_1:Int):=da_
          have q535:x5_1 < (l0.length:Int):=da_
          obtain ⟨ad535,e535,hx535_0⟩:=Kd.at_int HR0.out x5_1 p535 q535
          cases e535
          replace p535:=eq_true p535
          replace q535:=eq_true q535
          have p536:0≤(x5_1:Int):=da_
          have q536:x5_1 < (l1.length:Int):=da_
          obtain ⟨ad536,e536,hx536_0⟩:=Kd.at_int HR1.out x5_1 p536 q536
          cases e536
          replace p536:=eq_true p536
          replace q536:=eq_true q536
          have p537:0≤(x5_1:Int):=da_
          have q537:x5_1 < (l0.length:Int):=da_
          obtain ⟨ad537,e537,hx537_0⟩:=Kd.at_int HR0.out x5_1 p537 q537
          obtain rfl:ad535 = ad537:=(by injection e537)
          replace p537:=eq_true p537
          replace q537:=eq_true q537
          have p538:0≤(x5_1:Int):=da_
          have q538:x5_1 < (l1.length:Int):=da_
          obtain ⟨ad538,e538,hx538_0⟩:=Kd.at_int HR1.out x5_1 p538 q538
          obtain rfl:ad536 = ad538:=(by injection e538)
          replace p538:=eq_true p538
          replace q538:=eq_true q538
          go_wp2
          repeat (go_quiet (fail);try go_wp2)
          go_roundg k1
          case measure=>have:=HK1.out;omega
          case rel=>exact ⟨(wrap64 (x5_1 - 1)),(by first|rfl|(simp;done)|(simp [*];done)),H',⟨by have:=HK1.out;omega⟩,by repeat (first|exact Drawn0.refl _|apply Drawn0.step)⟩
       ·rw [if_neg c7] at H
        exact absurd H sm_
      ·rw [if_neg c6] at H
       exact absurd H sm_
     ·rw [if_neg c5] at H
      exact absurd H sm_
    ·rw [if_neg c4] at H
     have c4b0:decide (0≤x5_1) = false:=decide_eq_false c4
     clear c4
     obtain rfl:=Option.some.inj H
     go_wp2
     repeat (go_quiet (fail);try go_wp2)
     go_ret
     exact ⟨by first|rfl|(simp;done)|(simp [*];done),by repeat (first|exact Drawn0.refl _|apply Drawn0.step)⟩
 ·rw [if_neg c3] at H
  have c3b0:((l0.length:Int) == (l1.length:Int)) = false:=beq_eq_false_iff_ne.mpr c3
  have c3b1:((l0.length:Int) != (l1.length:Int)) = true:=bne_iff_ne.mpr c3
  have c3b2:(l0.length == l1.length) = false:=by first|simpa using c3|(simp at c3 ⊢;omega)
  by_cases c10:(l0.length:Int) < (l1.length:Int)
  ·rw [if_pos c10] at H
   have c10b0:decide ((l0.length:Int) < (l1.length:Int)) = true:=decide_eq_true c10
   have c10b1:decide (l0.length < l1.length) = true:=decide_eq_true (Int.ofNat_lt.mp c10)
   clear c10
   obtain rfl:=Option.some.inj H
   go_enter Tryz.func80,Tryz.ntmps80
   go_wp2
   repeat (go_quiet (fail);try go_wp2)
   go_ret
   exact ⟨by first|rfl|(simp;done)|(simp [*];done),by repeat (first|exact Drawn0.refl _|apply Drawn0.step)⟩
  ·rw [if_neg c10] at H
   have c10b0:decide ((l0.length:Int) < (l1.length:Int)) = false:=decide_eq_false c10
   have c10b1:decide (l0.length < l1.length) = false:=decide_eq_false (fun h=>c10 (Int.ofNat_lt.mpr h))
   clear c10
   obtain rfl:=Option.some.inj H
   go_enter Tryz.func80,Tryz.ntmps80
   go_wp2
   repeat (go_quiet (fail);try go_wp2)
   go_ret
   exact ⟨by first|rfl|(simp;done)|(simp [*];done),by repeat (first|exact Drawn0.refl _|apply Drawn0.step)⟩
end Go.Proofs.YtaknchlegjcdhaaGreatDoor.Pr
namespace Go.Proofs.YtaknchlegjcdhaaGreatDoor.Pr
open Go.RowKit Go.Proofs.YtaknchlegjcdhaaGreatDoorW.PrintWords Go.Proofs.YtaknchlegjcdhaaGreatDoorW.PrintLast Go.Proofs.YtaknchlegjcdhaaGreatDoorW.PrintMore
attribute [local go_sem] max2_int min2_int max_two min_two max_three min_three max_four min_four
set_option maxHeartbeats 8000000
set_option maxRecDepth 100000
set_option linter.unusedVariables false
set_option linter.unusedSimpArgs false
theorem garboardref01_Times.calls (k:Nat) (A0:Option Addr) (c0:Nat) (l0:List Int) (A1:Option Addr) (c1:Nat) (l1:List Int) (r:List Int) (w:World) (hr0:Kd.C (Kd.int .u32) w A0 l0.length l0) (hc0:l0.length≤c0) (hr1:Kd.C (Kd.int .u32) w A1 l1.length l1) (hc1:l1.length≤c1) (h:garboardref01_Times.f k l0 l1 = some r) :
  Calls Tryz.prog 83 #[.slice A0 l0.length c0,.slice A1 l1.length c1] w fun e w'=>∃ v0_:Value,e = .returned (v0_)∧Kd.V (Kd.int .u32) 95 w' w.heap.size (fun k_=>(w.heap.size≤k_)) v0_ r∧Below w.heap.size w w':=by
 have HR0:=Aside0.mk hr0
 have HC0:=Aside0.mk hc0
 clear hr0 hc0
 have HR1:=Aside0.mk hr1
 have HC1:=Aside0.mk hc1
 clear hr1 hc1
 have HB:=Aside0.mk (Below.refl w.heap.size w)
 have H:(if (l0.length:Int) = 0 then (garboardref01_Times.j0 k l0 l1 true) else (garboardref01_Times.j0 k l0 l1 ((l1.length:Int) == 0))) = some r:=h
 clear h
 have HC3:=Aside0.mk H
 clear H
 go_enter Tryz.func83,Tryz.ntmps83
 go_upto_region 1 with (fail)
 repeat (go_quiet (fail);go_upto_region 1 with (fail))
 go_cut [17] (fun v17 wc=>∃ (kq:Nat) (x17_2:Bool),v17 = .bool x17_2∧Aside0 (garboardref01_Times.j0 kq l0 l1 x17_2 = some r)∧Aside0 (kq≤k)∧Aside0 (Below w.heap.size w wc))
 case first =>
  have H:=HC3.out
  clear HC3
  by_cases c4:(l0.length:Int) = 0
  ·rw [if_pos c4] at H
   have c4b0:((l0.length:Int) == 0) = true:=beq_iff_eq.mpr c4
   have c4b1:((l0.length:Int) != 0) = false:=bne_eq_false_iff_eq.mpr c4
   clear c4
   (first|rw [c4b0]|(simp only [i64_w,i32_w];rw [c4b0])|skip)
   have H':=Aside0.mk H
   clear H
   go_wp2
   repeat (go_quiet (fail);try go_wp2)
   go_meet
   case rel=>exact ⟨_,(true),(by first|rfl|(simp;done)|(simp [*];done)),H',⟨by first|omega|exact Nat.le_refl _⟩,⟨bx_⟩⟩
  ·rw [if_neg c4] at H
   have c4b0:((l0.length:Int) == 0) = false:=beq_eq_false_iff_ne.mpr c4
   have c4b1:((l0.length:Int) != 0) = true:=bne_iff_ne.mpr c4
   have c4b2:¬ (l0 = []):=fun h_=>c4 (by rw [h_];rfl)
   (first|rw [c4b0]|(simp only [i64_w,i32_w];rw [c4b0])|skip)
   have H':=Aside0.mk H
   clear H
   go_wp2
   repeat (go_quiet (fail);try go_wp2)
   go_meet
   case rel=>exact ⟨_,(((l1.length:Int) == 0)),(by first|rfl|(simp;done)|(simp [*];done)),H',⟨by first|omega|exact Nat.le_refl _⟩,⟨bx_⟩⟩
 case rest =>
  clear HC3
  try clear c1
  try clear p2
  try clear c4
  try clear c4b0
  try clear c4b1
  try clear c4b2
  obtain ⟨kq,x17_2,rfl,HA,HJ2,HB⟩:=hcut
  cases kq with
  | zero=>exact absurd HA.out (by simp [garboardref01_Times.j0])
  | succ kj2 =>
   have H:=HA.out
   clear HA
   simp only [garboardref01_Times.j0] at H
   by_cases c5:x17_2 = true
   ·subst c5
    have H1:(some ([]:List Int)) = some r:=by rw [if_pos rfl] at H;exact H
    clear H
    have H:=H1
    clear H1
    obtain rfl:=Option.some.inj H
    go_wp2
    repeat (go_quiet (fail);try go_wp2)
    go_ret
    exact ⟨_,rf_,Kd.R_V (base:=w.heap.size) (by first|exact Kd.R_nil _ _ _ _ _|exact Kd.N_nil _ _ _ _ _|exact Kd.V_nil _ _ _ _ _|exact Kd.Q_nil _ _ _ _ _|exact Kd.S_nil _ _ _ _ _),bx_⟩
   ·replace c5:=Bool.eq_false_iff.mpr c5
    subst c5
    have H1:(if 0≤(wrap64 ((l0.length:Int) + (l1.length:Int))) then (if (wrap64 ((l0.length:Int) + (l1.length:Int)):Int).toNat≤70368744177664 then (garboardref01_Times.l0 kj2 l0 l1 (List.replicate (wrap64 ((l0.length:Int) + (l1.length:Int)):Int).toNat 0) 0) else (none)) else (none)) = some r:=by rw [if_neg (show ¬ (false = true) by decide)] at H;exact H
    clear H
    have H:=H1
    clear H1
    obtain ⟨ji6,hji6⟩:∃ j_:Int,(wrap64 ((l0.length:Int) + (l1.length:Int))) = j_:=⟨_,rfl⟩
    replace H:(if 0≤(ji6) then (if (ji6:Int).toNat≤70368744177664 then (garboardref01_Times.l0 kj2 l0 l1 (List.replicate (ji6:Int).toNat 0) 0) else (none)) else (none)) = some r:=by first|(rw [hji6] at H;exact H)|(simp only [hji6] at H ⊢;exact H)
    have hji6w:(IntKind.i64.wrap ((l0.length:Int) + (l1.length:Int))) = ji6:=(i64_w _).trans hji6
    by_cases c7:0≤(ji6)
    ·rw [if_pos c7] at H
     have c7b0:=eq_true c7
     have c7b1:decide (0≤(ji6)) = true:=decide_eq_true c7
     clear c7
     by_cases c8:(ji6:Int).toNat≤70368744177664
     ·rw [if_pos c8] at H
      have c8b0:=eq_true c8
      have c8b1:decide ((ji6:Int).toNat≤70368744177664) = true:=decide_eq_true c8
      clear c8
      obtain ⟨y643,hy643⟩:∃ y_:List Int,y_ = (List.replicate (ji6:Int).toNat 0):=⟨_,rfl⟩
      replace H:(garboardref01_Times.l0 kj2 l0 l1 y643 0) = some r:=by first|(rw [hy643];with_reducible exact H)|(have H2_:=(Option.bind_some _ _).symm.trans H;rw [hy643];with_reducible exact H2_)|(have H2_:=(Option.bind_some _ _).symm.trans H;with_reducible exact H2_)|with_reducible exact H|(rw [hy643];exact H)|exact H
      have Ny643:=Aside0.mk hy643
      clear hy643
      have H':=Aside0.mk H
      clear H
      go_wp2_with (first|((with_reducible refine gate_dst (N:=23) rfl ?_);(try (refine gate_guard (by rfl) ?_;dsimp only));refine Kd.R_make (Kd.int .u32) _ 95 rfl (N:=23) rfl 49 _ _ rfl ji6 rfl rfl Tryz.underlying49 (.int .u32 0) 4 info95 rfl de_ (by omega) 0 (ok:=fun _=>True) (okp:=fun _=>True) rfl (fun _ hk=>hk) trivial (of_decide_eq_true (by first|(with_reducible assumption)|assumption)) (Nat.le_trans (Nat.mul_le_mul_right _ (of_decide_eq_true (by first|(with_reducible assumption)|assumption):ji6.toNat≤70368744177664)) (by omega)) (Below.refl _ _) (Nat.le_refl _) ?_;intro v644 w9 ho10 hb hg_ hnew_;clear hg_ hnew_;(first|rw [← Ny643.out] at ho10|(simp only [Int.reduceToNat] at ho10;rw [← Ny643.out] at ho10));have HO645:=Aside0.mk (Kd.R_lower (Kd.R_newM (M:=fun k_=>(w.heap.size≤k_)) ho10 (below_size bx_) (fun k_ h_=>h_)) (below_size bx_));replace HB:=bs_ hb;clear hb ho10))
      repeat (go_quiet (first|((with_reducible refine gate_dst (N:=23) rfl ?_);(try (refine gate_guard (by rfl) ?_;dsimp only));refine Kd.R_make (Kd.int .u32) _ 95 rfl (N:=23) rfl 49 _ _ rfl ji6 rfl rfl Tryz.underlying49 (.int .u32 0) 4 info95 rfl de_ (by omega) 0 (ok:=fun _=>True) (okp:=fun _=>True) rfl (fun _ hk=>hk) trivial (of_decide_eq_true (by first|(with_reducible assumption)|assumption)) (Nat.le_trans (Nat.mul_le_mul_right _ (of_decide_eq_true (by first|(with_reducible assumption)|assumption):ji6.toNat≤70368744177664)) (by omega)) (Below.refl _ _) (Nat.le_refl _) ?_;intro v644 w9 ho10 hb hg_ hnew_;clear hg_ hnew_;(first|rw [← Ny643.out] at ho10|(simp only [Int.reduceToNat] at ho10;rw [← Ny643.out] at ho10));have HO645:=Aside0.mk (Kd.R_lower (Kd.R_newM (M:=fun k_=>(w.heap.size≤k_)) ho10 (below_size bx_) (fun k_ h_=>h_)) (below_size bx_));replace HB:=bs_ hb;clear hb ho10));try go_wp2_with (first|((with_reducible refine gate_dst (N:=23) rfl ?_);(try (refine gate_guard (by rfl) ?_;dsimp only));refine Kd.R_make (Kd.int .u32) _ 95 rfl (N:=23) rfl 49 _ _ rfl ji6 rfl rfl Tryz.underlying49 (.int .u32 0) 4 info95 rfl de_ (by omega) 0 (ok:=fun _=>True) (okp:=fun _=>True) rfl (fun _ hk=>hk) trivial (of_decide_eq_true (by first|(with_reducible assumption)|assumption)) (Nat.le_trans (Nat.mul_le_mul_right _ (of_decide_eq_true (by first|(with_reducible assumption)|assumption):ji6.toNat≤70368744177664)) (by omega)) (Below.refl _ _) (Nat.le_refl _) ?_;intro v644 w9 ho10 hb hg_ hnew_;clear hg_ hnew_;(first|rw [← Ny643.out] at ho10|(simp only [Int.reduceToNat] at ho10;rw [← Ny643.out] at ho10));have HO645:=Aside0.mk (Kd.R_lower (Kd.R_newM (M:=fun k_=>(w.heap.size≤k_)) ho10 (below_size bx_) (fun k_ h_=>h_)) (below_size bx_));replace HB:=bs_ hb;clear hb ho10)))
      go_loopg [6] kj2 (fun kq v6 w'=>∃ (x5_2:List Int) (x6_2:Int),v6 = .int .i64 x6_2∧Aside0 (garboardref01_Times.l0 kq l0 l1 x5_2 x6_2 = some r)∧Aside0 (kq≤kj2)∧Aside0 (Kd.R (Kd.int .u32) 95 w' w.heap.size (fun k_=>(w.heap.size≤k_)) v644 x5_2)∧Aside0 (Below w.heap.size w w'))
      case atStart=>exact ⟨(y643),(0),(by first|rfl|(simp;done)|(simp [*];done)),H',⟨Nat.le_refl _⟩,⟨by (with_reducible repeat (first|apply Kd.R_alloc|apply Kd.R_drewN|apply Kd.R_drew));exact Kd.R_mono HO645.out (fun _ hk=>hk.1)⟩,⟨bx_⟩⟩
      case round =>
       clear H'
       try clear c1
       try clear p2
       try clear c4
       try clear c4b0
       try clear c4b1
       try clear c4b2
       try clear c5
       try clear p6
       try clear c7
       try clear c7b0
       try clear c7b1
       try clear c8
       try clear c8b0
       try clear c8b1
       try clear p2
       obtain ⟨x5_2,x6_2,rfl,HA,HK2,HO_5,HB⟩:=hrel
       cases gk with
       | zero=>exact absurd HA.out (by simp [garboardref01_Times.l0])
       | succ k2 =>
        have H:=HA.out
        clear HA
        simp only [garboardref01_Times.l0] at H
        by_cases c11:x6_2 < (l0.length:Int)
        ·rw [if_pos c11] at H
         have c11b0:decide (x6_2 < (l0.length:Int)) = true:=decide_eq_true c11
         clear c11
         have H':=Aside0.mk H
         clear H
         go_wp2
         repeat (go_quiet (fail);try go_wp2)
         go_loopg [7,8] k2 (fun kq v7 v8 w'=>∃ (x5_3:List Int) (x7_3:Int) (x8_3:Int),v7 = .int .u64 x7_3∧v8 = .int .i64 x8_3∧Aside0 (garboardref01_Times.l1 kq l0 l1 x5_3 x6_2 x7_3 x8_3 = some r)∧Aside0 (kq≤k2)∧Aside0 (Kd.R (Kd.int .u32) 95 w' w.heap.size (fun k_=>(w.heap.size≤k_)) v644 x5_3)∧Aside0 (Below w.heap.size w w'))
         case atStart=>exact ⟨(x5_2),(0),(0),(by first|rfl|(simp;done)|(simp [*];done)),(by first|rfl|(simp;done)|(simp [*];done)),H',⟨Nat.le_refl _⟩,⟨by (with_reducible repeat (first|apply Kd.R_alloc|apply Kd.R_drewN|apply Kd.R_drew));exact HO_5.out⟩,⟨bx_⟩⟩
         case round =>
          clear H'
          try clear c1
          try clear p2
          try clear c4
          try clear c4b0
          try clear c4b1
          try clear c4b2
          try clear c5
          try clear p6
          try clear c7
          try clear c7b0
          try clear c7b1
          try clear c8
          try clear c8b0
          try clear c8b1
          try clear c11
          try clear c11b0
          try clear p2
          try clear p6
          obtain ⟨x5_3,x7_3,x8_3,rfl,rfl,HA,HK3,HO_5,HB⟩:=hrel
          cases gk with
          | zero=>exact absurd HA.out (by simp [garboardref01_Times.l1])
          | succ k3 =>
           have H:=HA.out
           clear HA
           simp only [garboardref01_Times.l1] at H
           by_cases c12:x8_3 < (l1.length:Int)
           ·rw [if_pos c12] at H
            have c12b0:decide (x8_3 < (l1.length:Int)) = true:=decide_eq_true c12
            clear c12
            obtain ⟨ji13,hji13⟩:∃ j_:Int,(wrap64 (x6_2 + x8_3)) = j_:=⟨_,rfl⟩
            replace H:(if 0≤(ji13) then (if (ji13) < (x5_3.length:Int) then (if 0≤x6_2 then (if x6_2 < (l0.length:Int) then (if 0≤x8_3 then (garboardref01_Times.l1 k3 l0 l1 (x5_3.set ((ji13):Int).toNat ((Int.tmod (IntKind.u64.wrap ((IntKind.u64.wrap ((IntKind.u64.wrap (rd x5_3 (ji13))) + (IntKind.u64.wrap ((IntKind.u64.wrap (rd l0 x6_2)) * (IntKind.u64.wrap (rd l1 x8_3)))))) + x7_3)) 1000000000) % 4294967296)) x6_2 (IntKind.u64.wrap (Int.tdiv (IntKind.u64.wrap ((IntKind.u64.wrap ((IntKind.u64.wrap (rd x5_3 (ji13))) + (IntKind.u64.wrap ((IntKind.u64.wrap (rd l0 x6_2)) * (IntKind.u64.wrap (rd l1 x8_3)))))) + x7_3)) 1000000000)) (wrap64 (x8_3 + 1))) else (none)) else (none)) else (none)) else (none)) else (none)) = some r:=by first|(rw [hji13] at H;exact H)|(simp only [hji13] at H ⊢;exact H)
            have hji13w:(IntKind.i64.wrap (x6_2 + x8_3)) = ji13:=(i64_w _).trans hji13
            by_cases c14:0≤(ji13)
            ·rw [if_pos c14] at H
             have c14b0:decide (0≤(ji13)) = true:=decide_eq_true c14
             clear c14
             by_cases c15:(ji13) < (x5_3.length:Int)
             ·rw [if_pos c15] at H
              have c15b0:decide ((ji13) < (x5_3.length:Int)) = true:=decide_eq_true c15
              clear c15
              by_cases c16:0≤x6_2
              ·rw [if_pos c16] at H
               have c16b0:decide (0≤x6_2) = true:=decide_eq_true c16
               clear c16
               by_cases c17:x6_2 < (l0.length:Int)
               ·rw [if_pos c17] at H
                have c17b0:decide (x6_2 < (l0.length:Int)) = true:=decide_eq_true c17
                clear c17
                by_cases c18:0≤x8_3
                ·rw [if_pos c18] at H
                 have c18b0:decide (0≤x8_3) = true:=decide_eq_true c18
                 clear c18
                 obtain ⟨y652,hy652⟩:∃ y_:List Int,y_ = (x5_3.set ((ji13):Int).toNat ((Int.tmod (IntKind.u64.wrap ((IntKind.u64.wrap ((IntKind.u64.wrap (rd x5_3 (ji13))) + (IntKind.u64.wrap ((IntKind.u64.wrap (rd l0 x6_2)) * (IntKind.u64.wrap (rd l1 x8_3)))))) + x7_3)) 1000000000) % 4294967296)):=⟨_,rfl⟩
                 replace H:(garboardref01_Times.l1 k3 l0 l1 y652 x6_2 (IntKind.u64.wrap (Int.tdiv (IntKind.u64.wrap ((IntKind.u64.wrap ((IntKind.u64.wrap (rd x5_3 (ji13))) + (IntKind.u64.wrap ((IntKind.u64.wrap (rd l0 x6_2)) * (IntKind.u64.wrap (rd l1 x8_3)))))) + x7_3)) 1000000000)) (wrap64 (x8_3 + 1))) = some r:=by first|(rw [hy652];with_reducible exact H)|(have H2_:=(Option.bind_some _ _).symm.trans H;rw [hy652];with_reducible exact H2_)|(have H2_:=(Option.bind_some _ _).symm.trans H;with_reducible exact H2_)|with_reducible exact H|(rw [hy652];exact H)|exact H
                 have Ny652:=Aside0.mk hy652
                 clear hy652
                 have H':=Aside0.mk H
                 clear H
                 obtain ⟨Ao20,co20,eo20⟩:=Kd.R_slice HO_5.out
                 subst eo20
                 have p649:0≤((ji13):Int):=da_
                 have q649:(ji13) < (x5_3.length:Int):=da_
                 obtain ⟨ad649,e649,hx649_0⟩:=Kd.at_int (Kd.R_reads' HO_5.out).2.2 (ji13) p649 q649
                 cases e649
                 replace p649:=eq_true p649
                 replace q649:=eq_true q649
                 have p650:0≤(x6_2:Int):=da_
                 have q650:x6_2 < (l0.length:Int):=da_
                 obtain ⟨ad650,e650,hx650_0⟩:=Kd.at_int HR0.out x6_2 p650 q650
                 cases e650
                 replace hx650_0:=(HB.out.cell (World.block_lt_of_cell? w _ hx650_0)).trans hx650_0
                 replace p650:=eq_true p650
                 replace q650:=eq_true q650
                 have p651:0≤(x8_3:Int):=da_
                 have q651:x8_3 < (l1.length:Int):=da_
                 obtain ⟨ad651,e651,hx651_0⟩:=Kd.at_int HR1.out x8_3 p651 q651
                 cases e651
                 replace hx651_0:=(HB.out.cell (World.block_lt_of_cell? w _ hx651_0)).trans hx651_0
                 replace p651:=eq_true p651
                 replace q651:=eq_true q651
                 have p19:0≤((ji13):Int):=da_
                 have q19:((ji13):Int) < ((x5_3.length:Int):Int):=da_
                 obtain ⟨go19,co19,eo19,gb19,gl19,cl19,HG19⟩:=Kd.R_form HO_5.out (by omega)
                 (first|cases eo19|(injection eo19 with ea_ en_ ec_;(first|subst ea_|(injection ea_ with ea_;subst ea_));subst ec_;clear en_))
                 have GB19:=Aside0.mk gb19
                 have GG19:=Aside0.mk HG19
                 clear gb19 gl19 HG19
                 (first|simp only [add_plain] at hx649_0|skip)
                 obtain ⟨hx19_0,hf19_0⟩:=Kd.R_celln 0 HO_5.out ((ji13):Int) p19 q19
                 replace p19:=eq_true p19
                 replace q19:=eq_true q19
                 have HP21:=Kd.R_putg HO_5.out ((ji13):Int) ((Int.tmod (IntKind.u64.wrap ((IntKind.u64.wrap ((IntKind.u64.wrap (rd x5_3 (ji13))) + (IntKind.u64.wrap ((IntKind.u64.wrap (rd l0 x6_2)) * (IntKind.u64.wrap (rd l1 x8_3)))))) + x7_3)) 1000000000) % 4294967296)
                 go_wp2_with (first|((with_reducible refine gate_store (t:=95) (p:=64) rfl ?_);(try (rw [drewN_self wr];generalize hq_:World.drewN wr _ = wr;have n0_:=Aside0.mk (Kd.R_at hq_ HO_5.out);have n1_:=Aside0.mk (below_at hq_ HB.out);clear hq_ HO_5 HB;have HO_5:=n0_;have HB:=n1_;clear n0_ n1_;(try (have HP21:=Kd.R_putg HO_5.out ((ji13):Int) ((Int.tmod (IntKind.u64.wrap ((IntKind.u64.wrap ((IntKind.u64.wrap (rd x5_3 (ji13))) + (IntKind.u64.wrap ((IntKind.u64.wrap (rd l0 x6_2)) * (IntKind.u64.wrap (rd l1 x8_3)))))) + x7_3)) 1000000000) % 4294967296)))));refine store_event (t:=95) (p:=64) (v:=?vo_w22) (w1:=(wr.setCell ⟨go19,((ji13):Int).toNat,none⟩ (.int .u32 ((Int.tmod (IntKind.u64.wrap ((IntKind.u64.wrap ((IntKind.u64.wrap (rd x5_3 (ji13))) + (IntKind.u64.wrap ((IntKind.u64.wrap (rd l0 x6_2)) * (IntKind.u64.wrap (rd l1 x8_3)))))) + x7_3)) 1000000000) % 4294967296)))) ?hg ?ho ?hn ?hr ?_;(case ho=>rfl);(case hg=>rfl);(case hn=>rfl);(case hr=>first|(go_simp;done)|(go_simp;rfl));intro w22 hw;have hg:wr.grownBy w22 (some go19):=(by rw [hw];exact HP21.2);have hp_:Kd.R (Kd.int .u32) 95 w22 w.heap.size (fun k_=>(w.heap.size≤k_)) (.slice (some ⟨go19,0,none⟩) x5_3.length co20) y652:=(by rw [hw,Ny652.out];exact HP21.1);clear HP21;replace HO_5:=Aside0.mk hp_;replace HB:=Aside0.mk ((by rw [hw];exact below_set (HB.out) GB19.out:Below w.heap.size w w22));clear hg hw hp_))
                 repeat (go_quiet (first|((with_reducible refine gate_store (t:=95) (p:=64) rfl ?_);(try (rw [drewN_self wr];generalize hq_:World.drewN wr _ = wr;have n0_:=Aside0.mk (Kd.R_at hq_ HO_5.out);have n1_:=Aside0.mk (below_at hq_ HB.out);clear hq_ HO_5 HB;have HO_5:=n0_;have HB:=n1_;clear n0_ n1_;(try (have HP21:=Kd.R_putg HO_5.out ((ji13):Int) ((Int.tmod (IntKind.u64.wrap ((IntKind.u64.wrap ((IntKind.u64.wrap (rd x5_3 (ji13))) + (IntKind.u64.wrap ((IntKind.u64.wrap (rd l0 x6_2)) * (IntKind.u64.wrap (rd l1 x8_3)))))) + x7_3)) 1000000000) % 4294967296)))));refine store_event (t:=95) (p:=64) (v:=?vo_w22) (w1:=(wr.setCell ⟨go19,((ji13):Int).toNat,none⟩ (.int .u32 ((Int.tmod (IntKind.u64.wrap ((IntKind.u64.wrap ((IntKind.u64.wrap (rd x5_3 (ji13))) + (IntKind.u64.wrap ((IntKind.u64.wrap (rd l0 x6_2)) * (IntKind.u64.wrap (rd l1 x8_3)))))) + x7_3)) 1000000000) % 4294967296)))) ?hg ?ho ?hn ?hr ?_;(case ho=>rfl);(case hg=>rfl);(case hn=>rfl);(case hr=>first|(go_simp;done)|(go_simp;rfl));intro w22 hw;have hg:wr.grownBy w22 (some go19):=(by rw [hw];exact HP21.2);have hp_:Kd.R (Kd.int .u32) 95 w22 w.heap.size (fun k_=>(w.heap.size≤k_)) (.slice (some ⟨go19,0,none⟩) x5_3.length co20) y652:=(by rw [hw,Ny652.out];exact HP21.1);clear HP21;replace HO_5:=Aside0.mk hp_;replace HB:=Aside0.mk ((by rw [hw];exact below_set (HB.out) GB19.out:Below w.heap.size w w22));clear hg hw hp_));try go_wp2_with (first|((with_reducible refine gate_store (t:=95) (p:=64) rfl ?_);(try (rw [drewN_self wr];generalize hq_:World.drewN wr _ = wr;have n0_:=Aside0.mk (Kd.R_at hq_ HO_5.out);have n1_:=Aside0.mk (below_at hq_ HB.out);clear hq_ HO_5 HB;have HO_5:=n0_;have HB:=n1_;clear n0_ n1_;(try (have HP21:=Kd.R_putg HO_5.out ((ji13):Int) ((Int.tmod (IntKind.u64.wrap ((IntKind.u64.wrap ((IntKind.u64.wrap (rd x5_3 (ji13))) + (IntKind.u64.wrap ((IntKind.u64.wrap (rd l0 x6_2)) * (IntKind.u64.wrap (rd l1 x8_3)))))) + x7_3)) 1000000000) % 4294967296)))));refine store_event (t:=95) (p:=64) (v:=?vo_w22) (w1:=(wr.setCell ⟨go19,((ji13):Int).toNat,none⟩ (.int .u32 ((Int.tmod (IntKind.u64.wrap ((IntKind.u64.wrap ((IntKind.u64.wrap (rd x5_3 (ji13))) + (IntKind.u64.wrap ((IntKind.u64.wrap (rd l0 x6_2)) * (IntKind.u64.wrap (rd l1 x8_3)))))) + x7_3)) 1000000000) % 4294967296)))) ?hg ?ho ?hn ?hr ?_;(case ho=>rfl);(case hg=>rfl);(case hn=>rfl);(case hr=>first|(go_simp;done)|(go_simp;rfl));intro w22 hw;have hg:wr.grownBy w22 (some go19):=(by rw [hw];exact HP21.2);have hp_:Kd.R (Kd.int .u32) 95 w22 w.heap.size (fun k_=>(w.heap.size≤k_)) (.slice (some ⟨go19,0,none⟩) x5_3.length co20) y652:=(by rw [hw,Ny652.out];exact HP21.1);clear HP21;replace HO_5:=Aside0.mk hp_;replace HB:=Aside0.mk ((by rw [hw];exact below_set (HB.out) GB19.out:Below w.heap.size w w22));clear hg hw hp_)))
                 go_roundg k3
                 case measure=>have:=HJ2.out;have:=HK2.out;have:=HK3.out;omega
                 case rel=>exact ⟨(y652),(IntKind.u64.wrap (Int.tdiv (IntKind.u64.wrap ((IntKind.u64.wrap ((IntKind.u64.wrap (rd x5_3 (ji13))) + (IntKind.u64.wrap ((IntKind.u64.wrap (rd l0 x6_2)) * (IntKind.u64.wrap (rd l1 x8_3)))))) + x7_3)) 1000000000)),(wrap64 (x8_3 + 1)),(by first|rfl|(simp;done)|(simp only [← hji13]<;>(first|rfl|simp))|(simp [*];done)),(by first|rfl|(simp;done)|(simp [*];done)),H',⟨by have:=HJ2.out;have:=HK2.out;have:=HK3.out;omega⟩,⟨by (with_reducible repeat (first|apply Kd.R_alloc|apply Kd.R_drewN|apply Kd.R_drew));first|exact HO_5.out|(rw [Ny652.out];exact (Kd.R_putg (by first|exact Kd.R_drewN HO_5.out _|(apply Kd.R_drewN;exact HO_5.out)) ((ji13):Int) ((Int.tmod (IntKind.u64.wrap ((IntKind.u64.wrap ((IntKind.u64.wrap (rd x5_3 (ji13))) + (IntKind.u64.wrap ((IntKind.u64.wrap (rd l0 x6_2)) * (IntKind.u64.wrap (rd l1 x8_3)))))) + x7_3)) 1000000000) % 4294967296)).1)|(rw [Ny652.out];exact (Kd.R_putg HO_5.out ((ji13):Int) ((Int.tmod (IntKind.u64.wrap ((IntKind.u64.wrap ((IntKind.u64.wrap (rd x5_3 (ji13))) + (IntKind.u64.wrap ((IntKind.u64.wrap (rd l0 x6_2)) * (IntKind.u64.wrap (rd l1 x8_3)))))) + x7_3)) 1000000000) % 4294967296)).1)⟩,⟨by first|(exact below_set bx_ GB19.out)|(repeat (first|(with_reducible first|exact HB.out|apply below_alloc|apply pw_below_drewN|apply below_drew1)|exact HB.out))⟩⟩
                ·rw [if_neg c18] at H
                 exact absurd H sm_
               ·rw [if_neg c17] at H
                exact absurd H sm_
              ·rw [if_neg c16] at H
               exact absurd H sm_
             ·rw [if_neg c15] at H
              exact absurd H sm_
            ·rw [if_neg c14] at H
             exact absurd H sm_
           ·rw [if_neg c12] at H
            have c12b0:decide (x8_3 < (l1.length:Int)) = false:=decide_eq_false c12
            clear c12
            obtain ⟨ji23,hji23⟩:∃ j_:Int,(wrap64 (x6_2 + (l1.length:Int))) = j_:=⟨_,rfl⟩
            replace H:(if 0≤(ji23) then (if (ji23) < (x5_3.length:Int) then (garboardref01_Times.l0 k3 l0 l1 (x5_3.set ((ji23):Int).toNat ((x7_3) % 4294967296)) (wrap64 (x6_2 + 1))) else (none)) else (none)) = some r:=by first|(rw [hji23] at H;exact H)|(simp only [hji23] at H ⊢;exact H)
            have hji23w:(IntKind.i64.wrap (x6_2 + (l1.length:Int))) = ji23:=(i64_w _).trans hji23
            by_cases c24:0≤(ji23)
            ·rw [if_pos c24] at H
             have c24b0:decide (0≤(ji23)) = true:=decide_eq_true c24
             clear c24
             by_cases c25:(ji23) < (x5_3.length:Int)
             ·rw [if_pos c25] at H
              have c25b0:decide ((ji23) < (x5_3.length:Int)) = true:=decide_eq_true c25
              clear c25
              obtain ⟨y653,hy653⟩:∃ y_:List Int,y_ = (x5_3.set ((ji23):Int).toNat ((x7_3) % 4294967296)):=⟨_,rfl⟩
              replace H:(garboardref01_Times.l0 k3 l0 l1 y653 (wrap64 (x6_2 + 1))) = some r:=by first|(rw [hy653];with_reducible exact H)|(have H2_:=(Option.bind_some _ _).symm.trans H;rw [hy653];with_reducible exact H2_)|(have H2_:=(Option.bind_some _ _).symm.trans H;with_reducible exact H2_)|with_reducible exact H|(rw [hy653];exact H)|exact H
              have Ny653:=Aside0.mk hy653
              clear hy653
              have H':=Aside0.mk H
              clear H
              have p26:0≤((ji23):Int):=da_
              have q26:((ji23):Int) < ((x5_3.length:Int):Int):=da_
              obtain ⟨go26,co26,eo26,gb26,gl26,cl26,HG26⟩:=Kd.R_form HO_5.out (by omega)
              (first|cases eo26|(injection eo26 with ea_ en_ ec_;(first|subst ea_|(injection ea_ with ea_;subst ea_));subst ec_;clear en_))
              have GB26:=Aside0.mk gb26
              have GG26:=Aside0.mk HG26
              clear gb26 gl26 HG26
              obtain ⟨hx26_0,hf26_0⟩:=Kd.R_celln 0 HO_5.out ((ji23):Int) p26 q26
              replace p26:=eq_true p26
              replace q26:=eq_true q26
              have HP27:=Kd.R_putg HO_5.out ((ji23):Int) ((x7_3) % 4294967296)
              go_wp2_with (first|((with_reducible refine gate_store (t:=95) (p:=74) rfl ?_);(try (rw [drewN_self wr];generalize hq_:World.drewN wr _ = wr;have n0_:=Aside0.mk (Kd.R_at hq_ HO_5.out);have n1_:=Aside0.mk (below_at hq_ HB.out);clear hq_ HO_5 HB;have HO_5:=n0_;have HB:=n1_;clear n0_ n1_;(try (have HP27:=Kd.R_putg HO_5.out ((ji23):Int) ((x7_3) % 4294967296)))));refine store_event (t:=95) (p:=74) (v:=?vo_w28) (w1:=(wr.setCell ⟨go26,((ji23):Int).toNat,none⟩ (.int .u32 ((x7_3) % 4294967296)))) ?hg ?ho ?hn ?hr ?_;(case ho=>rfl);(case hg=>rfl);(case hn=>rfl);(case hr=>first|(go_simp;done)|(go_simp;rfl));intro w28 hw;have hg:wr.grownBy w28 (some go26):=(by rw [hw];exact HP27.2);have hp_:Kd.R (Kd.int .u32) 95 w28 w.heap.size (fun k_=>(w.heap.size≤k_)) (.slice (some ⟨go26,0,none⟩) x5_3.length co26) y653:=(by rw [hw,Ny653.out];exact HP27.1);clear HP27;replace HO_5:=Aside0.mk hp_;replace HB:=Aside0.mk ((by rw [hw];exact below_set (HB.out) GB26.out:Below w.heap.size w w28));clear hg hw hp_))
              repeat (go_quiet (first|((with_reducible refine gate_store (t:=95) (p:=74) rfl ?_);(try (rw [drewN_self wr];generalize hq_:World.drewN wr _ = wr;have n0_:=Aside0.mk (Kd.R_at hq_ HO_5.out);have n1_:=Aside0.mk (below_at hq_ HB.out);clear hq_ HO_5 HB;have HO_5:=n0_;have HB:=n1_;clear n0_ n1_;(try (have HP27:=Kd.R_putg HO_5.out ((ji23):Int) ((x7_3) % 4294967296)))));refine store_event (t:=95) (p:=74) (v:=?vo_w28) (w1:=(wr.setCell ⟨go26,((ji23):Int).toNat,none⟩ (.int .u32 ((x7_3) % 4294967296)))) ?hg ?ho ?hn ?hr ?_;(case ho=>rfl);(case hg=>rfl);(case hn=>rfl);(case hr=>first|(go_simp;done)|(go_simp;rfl));intro w28 hw;have hg:wr.grownBy w28 (some go26):=(by rw [hw];exact HP27.2);have hp_:Kd.R (Kd.int .u32) 95 w28 w.heap.size (fun k_=>(w.heap.size≤k_)) (.slice (some ⟨go26,0,none⟩) x5_3.length co26) y653:=(by rw [hw,Ny653.out];exact HP27.1);clear HP27;replace HO_5:=Aside0.mk hp_;replace HB:=Aside0.mk ((by rw [hw];exact below_set (HB.out) GB26.out:Below w.heap.size w w28));clear hg hw hp_));try go_wp2_with (first|((with_reducible refine gate_store (t:=95) (p:=74) rfl ?_);(try (rw [drewN_self wr];generalize hq_:World.drewN wr _ = wr;have n0_:=Aside0.mk (Kd.R_at hq_ HO_5.out);have n1_:=Aside0.mk (below_at hq_ HB.out);clear hq_ HO_5 HB;have HO_5:=n0_;have HB:=n1_;clear n0_ n1_;(try (have HP27:=Kd.R_putg HO_5.out ((ji23):Int) ((x7_3) % 4294967296)))));refine store_event (t:=95) (p:=74) (v:=?vo_w28) (w1:=(wr.setCell ⟨go26,((ji23):Int).toNat,none⟩ (.int .u32 ((x7_3) % 4294967296)))) ?hg ?ho ?hn ?hr ?_;(case ho=>rfl);(case hg=>rfl);(case hn=>rfl);(case hr=>first|(go_simp;done)|(go_simp;rfl));intro w28 hw;have hg:wr.grownBy w28 (some go26):=(by rw [hw];exact HP27.2);have hp_:Kd.R (Kd.int .u32) 95 w28 w.heap.size (fun k_=>(w.heap.size≤k_)) (.slice (some ⟨go26,0,none⟩) x5_3.length co26) y653:=(by rw [hw,Ny653.out];exact HP27.1);clear HP27;replace HO_5:=Aside0.mk hp_;replace HB:=Aside0.mk ((by rw [hw];exact below_set (HB.out) GB26.out:Below w.heap.size w w28));clear hg hw hp_)))
              go_roundg k3
              case measure=>have:=HJ2.out;have:=HK2.out;have:=HK3.out;omega
              case rel=>exact ⟨(y653),(wrap64 (x6_2 + 1)),(by first|rfl|(simp;done)|(simp [*];done)),H',⟨by have:=HJ2.out;have:=HK2.out;have:=HK3.out;omega⟩,⟨by (with_reducible repeat (first|apply Kd.R_alloc|apply Kd.R_drewN|apply Kd.R_drew));first|exact HO_5.out|(rw [Ny653.out];exact (Kd.R_putg (by first|exact Kd.R_drewN HO_5.out _|(apply Kd.R_drewN;exact HO_5.out)) ((ji23):Int) ((x7_3) % 4294967296)).1)|(rw [Ny653.out];exact (Kd.R_putg HO_5.out ((ji23):Int) ((x7_3) % 4294967296)).1)⟩,⟨by first|(exact below_set bx_ GB26.out)|(repeat (first|(with_reducible first|exact HB.out|apply below_alloc|apply pw_below_drewN|apply below_drew1)|exact HB.out))⟩⟩
             ·rw [if_neg c25] at H
              exact absurd H sm_
            ·rw [if_neg c24] at H
             exact absurd H sm_
        ·rw [if_neg c11] at H
         have c11b0:decide (x6_2 < (l0.length:Int)) = false:=decide_eq_false c11
         clear c11
         obtain ⟨t646,A29,H⟩:=bn_ H
         obtain rfl:=Option.some.inj H
         obtain ⟨Ao30,co30,eo30⟩:=Kd.R_slice HO_5.out
         subst eo30
         go_wp2_with (first|(go_at_call 103;(with_reducible refine (garboardref01_trim.calls k2 (fun k_=>some k_ = (.slice Ao30 x5_2.length co30:Value).ownBlock) _ _ x5_2 t646 _ ?side1 A29.out).mono ?_);(case side1=>exact Kd.R_V (Kd.R_tight rfl (HO_5.out)));rintro e w31 ⟨v647,rfl,ho0,hb⟩;have HO648:=Aside0.mk (Kd.V_lower (Kd.V_mono (ok':=fun k_=>(w.heap.size≤k_)) ho0 (fun k_ hk_=>Or.elim hk_ (fun hs_=>((HO_5.out).1 k_ hs_.symm)) (fun hn_=>(Nat.le_trans (below_size bx_) hn_)))) (below_size bx_));replace HO_5:=rb_ HO_5 hb;replace HB:=bs_ hb;(try clear hb);(try clear ho0)))
         repeat (go_quiet (first|(go_at_call 103;(with_reducible refine (garboardref01_trim.calls k2 (fun k_=>some k_ = (.slice Ao30 x5_2.length co30:Value).ownBlock) _ _ x5_2 t646 _ ?side1 A29.out).mono ?_);(case side1=>exact Kd.R_V (Kd.R_tight rfl (HO_5.out)));rintro e w31 ⟨v647,rfl,ho0,hb⟩;have HO648:=Aside0.mk (Kd.V_lower (Kd.V_mono (ok':=fun k_=>(w.heap.size≤k_)) ho0 (fun k_ hk_=>Or.elim hk_ (fun hs_=>((HO_5.out).1 k_ hs_.symm)) (fun hn_=>(Nat.le_trans (below_size bx_) hn_)))) (below_size bx_));replace HO_5:=rb_ HO_5 hb;replace HB:=bs_ hb;(try clear hb);(try clear ho0)));try go_wp2_with (first|(go_at_call 103;(with_reducible refine (garboardref01_trim.calls k2 (fun k_=>some k_ = (.slice Ao30 x5_2.length co30:Value).ownBlock) _ _ x5_2 t646 _ ?side1 A29.out).mono ?_);(case side1=>exact Kd.R_V (Kd.R_tight rfl (HO_5.out)));rintro e w31 ⟨v647,rfl,ho0,hb⟩;have HO648:=Aside0.mk (Kd.V_lower (Kd.V_mono (ok':=fun k_=>(w.heap.size≤k_)) ho0 (fun k_ hk_=>Or.elim hk_ (fun hs_=>((HO_5.out).1 k_ hs_.symm)) (fun hn_=>(Nat.le_trans (below_size bx_) hn_)))) (below_size bx_));replace HO_5:=rb_ HO_5 hb;replace HB:=bs_ hb;(try clear hb);(try clear ho0))))
         go_ret
         exact ⟨_,by first|rfl|(simp [errW_none,errW_some]<;>rfl)|(simp only [← hji6];first|rfl|(simp [errW_none,errW_some]<;>rfl))|(simp [*,errW_none,errW_some]<;>rfl),by (with_reducible repeat (first|apply Kd.V_alloc|apply Kd.V_drewN|apply Kd.V_drew));exact HO648.out,bx_⟩
     ·rw [if_neg c8] at H
      exact absurd H sm_
    ·rw [if_neg c7] at H
     exact absurd H sm_
end Go.Proofs.YtaknchlegjcdhaaGreatDoor.Pr
namespace Go.Proofs.YtaknchlegjcdhaaGreatDoor.Pr
open Go.RowKit Go.Proofs.YtaknchlegjcdhaaGreatDoorW.PrintWords Go.Proofs.YtaknchlegjcdhaaGreatDoorW.PrintLast Go.Proofs.YtaknchlegjcdhaaGreatDoorW.PrintMore
attribute [local go_sem] max2_int min2_int max_two min_two max_three min_three max_four min_four
set_option maxHeartbeats 8000000
set_option maxRecDepth 100000
set_option linter.unusedVariables false
set_option linter.unusedSimpArgs false
theorem garboardref01_Plus.calls (k:Nat) (A0:Option Addr) (c0:Nat) (l0:List Int) (A1:Option Addr) (c1:Nat) (l1:List Int) (r:List Int) (w:World) (hr0:Kd.C (Kd.int .u32) w A0 l0.length l0) (hc0:l0.length≤c0) (hr1:Kd.C (Kd.int .u32) w A1 l1.length l1) (hc1:l1.length≤c1) (h:garboardref01_Plus.f k l0 l1 = some r) :
  Calls Tryz.prog 79 #[.slice A0 l0.length c0,.slice A1 l1.length c1] w fun e w'=>∃ v0_:Value,e = .returned (v0_)∧Kd.V (Kd.int .u32) 95 w' w.heap.size (fun k_=>(w.heap.size≤k_)) v0_ r∧Below w.heap.size w w':=by
 have HR0:=Aside0.mk hr0
 have HC0:=Aside0.mk hc0
 clear hr0 hc0
 have HR1:=Aside0.mk hr1
 have HC1:=Aside0.mk hc1
 clear hr1 hc1
 have HB:=Aside0.mk (Below.refl w.heap.size w)
 have H:(garboardref01_Plus.l0 k l0 l1 ([]:List Int) 0 0) = some r:=h
 clear h
 have H':=Aside0.mk H
 clear H
 go_enter Tryz.func79,Tryz.ntmps79
 go_wp2
 go_loopg [5,6,7] k (fun kq v5 v6 v7 w'=>∃ (x5_1:List Int) (x6_1:Int) (x7_1:Int),v6 = .int .u32 x6_1∧v7 = .int .i64 x7_1∧Aside0 (garboardref01_Plus.l0 kq l0 l1 x5_1 x6_1 x7_1 = some r)∧Aside0 (kq≤k)∧Aside0 (Kd.R (Kd.int .u32) 95 w' w.heap.size (fun k_=>(w.heap.size≤k_)) v5 x5_1)∧Aside0 (Below w.heap.size w w'))
 case atStart=>exact ⟨(([]:List Int)),(0),(0),(by first|rfl|(simp;done)|(simp [*];done)),(by first|rfl|(simp;done)|(simp [*];done)),H',⟨Nat.le_refl _⟩,⟨by first|exact Kd.R_nil _ _ _ _ _|exact Kd.N_nil _ _ _ _ _|exact Kd.V_nil _ _ _ _ _|exact Kd.Q_nil _ _ _ _ _|exact Kd.S_nil _ _ _ _ _⟩,⟨bx_⟩⟩
 case round =>
  clear H'
  try clear c1
  try clear p2
  obtain ⟨x5_1,x6_1,x7_1,rfl,rfl,HA,HK1,HO_5,HB⟩:=hrel
  cases gk with
  | zero=>exact absurd HA.out (by simp [garboardref01_Plus.l0])
  | succ k1 =>
   have H:=HA.out
   clear HA
   simp only [garboardref01_Plus.l0] at H
   have HC3:=Aside0.mk H
   clear H
   go_upto_region 4 with (fail)
   go_cut [22] (fun v22 wc=>∃ (kq:Nat) (x22_2:Bool),v22 = .bool x22_2∧Aside0 (garboardref01_Plus.j1 kq l0 l1 x5_1 x6_1 x7_1 x22_2 = some r)∧Aside0 (kq≤k1)∧Aside0 (Kd.R (Kd.int .u32) 95 wc w.heap.size (fun k_=>(w.heap.size≤k_)) u5 x5_1)∧Aside0 (Below w.heap.size w wc))
   case first =>
    have H:=HC3.out
    clear HC3
    by_cases c4:x7_1 < (l0.length:Int)
    ·rw [if_pos c4] at H
     have c4b0:decide (x7_1 < (l0.length:Int)) = true:=decide_eq_true c4
     clear c4
     (first|rw [c4b0]|(simp only [i64_w,i32_w];rw [c4b0])|skip)
     have H':=Aside0.mk H
     clear H
     go_wp2
     go_meet
     case rel=>exact ⟨_,(true),(by first|rfl|(simp;done)|(simp [*];done)),H',⟨by have:=HK1.out;first|omega|exact Nat.le_refl _⟩,⟨by (with_reducible repeat (first|apply Kd.R_alloc|apply Kd.R_drewN|apply Kd.R_drew));exact HO_5.out⟩,⟨bx_⟩⟩
    ·rw [if_neg c4] at H
     have c4b0:decide (x7_1 < (l0.length:Int)) = false:=decide_eq_false c4
     clear c4
     (first|rw [c4b0]|(simp only [i64_w,i32_w];rw [c4b0])|skip)
     by_cases c5:x7_1 < (l1.length:Int)
     ·rw [if_pos c5] at H
      have c5b0:decide (x7_1 < (l1.length:Int)) = true:=decide_eq_true c5
      clear c5
      have H':=Aside0.mk H
      clear H
      go_wp2
      go_meet
      case rel=>exact ⟨_,(true),(by first|rfl|(simp;done)|(simp [*];done)),H',⟨by have:=HK1.out;first|omega|exact Nat.le_refl _⟩,⟨by (with_reducible repeat (first|apply Kd.R_alloc|apply Kd.R_drewN|apply Kd.R_drew));exact HO_5.out⟩,⟨bx_⟩⟩
     ·rw [if_neg c5] at H
      have c5b0:decide (x7_1 < (l1.length:Int)) = false:=decide_eq_false c5
      clear c5
      have H':=Aside0.mk H
      clear H
      go_wp2
      go_meet
      case rel=>exact ⟨_,(decide (x6_1 > 0)),(by first|rfl|(simp;done)|(simp [*];done)),H',⟨by have:=HK1.out;first|omega|exact Nat.le_refl _⟩,⟨by (with_reducible repeat (first|apply Kd.R_alloc|apply Kd.R_drewN|apply Kd.R_drew));exact HO_5.out⟩,⟨bx_⟩⟩
   case rest =>
    clear HC3
    try clear c1
    try clear p2
    try clear c4
    try clear c4b0
    try clear c5
    try clear c5b0
    try clear p2
    obtain ⟨kq,x22_2,rfl,HA,HJ2,HO_5,HB⟩:=hcut
    cases kq with
    | zero=>exact absurd HA.out (by simp [garboardref01_Plus.j1])
    | succ kj2 =>
     have H:=HA.out
     clear HA
     simp only [garboardref01_Plus.j1] at H
     by_cases c6:x22_2 = true
     ·subst c6
      have H1:(if x7_1 < (l0.length:Int) then (if 0≤x7_1 then (if x7_1 < (l1.length:Int) then (if x5_1.length < 35184372088832 then (garboardref01_Plus.l0 kj2 l0 l1 (x5_1 ++ [((((x6_1 + (rd l0 x7_1)) % 4294967296) + (rd l1 x7_1)) % 4294967296) % 1000000000]) (((((x6_1 + (rd l0 x7_1)) % 4294967296) + (rd l1 x7_1)) % 4294967296) / 1000000000) (wrap64 (x7_1 + 1))) else (none)) else (if x5_1.length < 35184372088832 then (garboardref01_Plus.l0 kj2 l0 l1 (x5_1 ++ [((x6_1 + (rd l0 x7_1)) % 4294967296) % 1000000000]) (((x6_1 + (rd l0 x7_1)) % 4294967296) / 1000000000) (wrap64 (x7_1 + 1))) else (none))) else (none)) else (if x7_1 < (l1.length:Int) then (if 0≤x7_1 then (if x5_1.length < 35184372088832 then (garboardref01_Plus.l0 kj2 l0 l1 (x5_1 ++ [((x6_1 + (rd l1 x7_1)) % 4294967296) % 1000000000]) (((x6_1 + (rd l1 x7_1)) % 4294967296) / 1000000000) (wrap64 (x7_1 + 1))) else (none)) else (none)) else (if x5_1.length < 35184372088832 then (garboardref01_Plus.l0 kj2 l0 l1 (x5_1 ++ [Int.tmod x6_1 1000000000]) ((Int.tdiv x6_1 1000000000) % 4294967296) (wrap64 (x7_1 + 1))) else (none)))) = some r:=by rw [if_pos rfl] at H;exact H
      clear H
      have H:=H1
      clear H1
      by_cases c7:x7_1 < (l0.length:Int)
      ·rw [if_pos c7] at H
       have c7b0:decide (x7_1 < (l0.length:Int)) = true:=decide_eq_true c7
       clear c7
       by_cases c8:0≤x7_1
       ·rw [if_pos c8] at H
        have c8b0:decide (0≤x7_1) = true:=decide_eq_true c8
        clear c8
        by_cases c9:x7_1 < (l1.length:Int)
        ·rw [if_pos c9] at H
         have c9b0:decide (x7_1 < (l1.length:Int)) = true:=decide_eq_true c9
         clear c9
         by_cases c10:x5_1.length < 35184372088832
         ·rw [if_pos c10] at H
          have LMc10:=Aside0.mk c10
          clear c10
          obtain ⟨y522,hy522⟩:∃ y_:List Int,y_ = (x5_1 ++ [((((x6_1 + (rd l0 x7_1)) % 4294967296) + (rd l1 x7_1)) % 4294967296) % 1000000000]):=⟨_,rfl⟩
          replace H:(garboardref01_Plus.l0 kj2 l0 l1 y522 (((((x6_1 + (rd l0 x7_1)) % 4294967296) + (rd l1 x7_1)) % 4294967296) / 1000000000) (wrap64 (x7_1 + 1))) = some r:=by first|(rw [hy522];with_reducible exact H)|(have H2_:=(Option.bind_some _ _).symm.trans H;rw [hy522];with_reducible exact H2_)|(have H2_:=(Option.bind_some _ _).symm.trans H;with_reducible exact H2_)|with_reducible exact H|(rw [hy522];exact H)|exact H
          have Ny522:=(Aside0.mk (hy522.trans (by rw [Int.emod_add_emod])):Aside0 (y522 = x5_1 ++ [(x6_1 + rd l0 x7_1 + rd l1 x7_1) % 4294967296 % 1000000000]))
          clear hy522
          have H':=Aside0.mk H
          clear H
          have p520:0≤(x7_1:Int):=da_
          have q520:x7_1 < (l0.length:Int):=da_
          obtain ⟨ad520,e520,hx520_0⟩:=Kd.at_int HR0.out x7_1 p520 q520
          cases e520
          replace hx520_0:=(HB.out.cell (World.block_lt_of_cell? w _ hx520_0)).trans hx520_0
          replace p520:=eq_true p520
          replace q520:=eq_true q520
          have p521:0≤(x7_1:Int):=da_
          have q521:x7_1 < (l1.length:Int):=da_
          obtain ⟨ad521,e521,hx521_0⟩:=Kd.at_int HR1.out x7_1 p521 q521
          cases e521
          replace hx521_0:=(HB.out.cell (World.block_lt_of_cell? w _ hx521_0)).trans hx521_0
          replace p521:=eq_true p521
          replace q521:=eq_true q521
          go_wp2_with (first|((with_reducible refine gate_builtin (b:=.append) (xs:=#[.tmp 46,.tmp 49]) rfl ?_);(try (refine gate_guard (by rfl) ?_;dsimp only));at_builtin;refine Kd.R_append (Kd.int .u32) (w0:=w) w.heap.size rfl (.tmp 46) (.tmp 49) 49 95 (.int .u32 0) 4 rfl Tryz.underlying49 info95 rfl de_ (by omega) u5 x5_1 ((x6_1 + rd l0 x7_1 + rd l1 x7_1) % 4294967296 % 1000000000) [.int .u32 ((x6_1 + rd l0 x7_1 + rd l1 x7_1) % 4294967296 % 1000000000)] (fun k_=>(w.heap.size≤k_)) (fun _=>False) rfl rfl ?aP (fun _ hk=>hk.elim) ?aF ?aO ?aB ?aS ?aL ?_;(case aP=>exact rfl);(case aB=>exact bx_);(case aF=>exact (fun k_ hk=>(Nat.le_trans (below_size bx_) hk)));(case aO=>exact (by (with_reducible repeat (first|apply Kd.R_alloc|apply Kd.R_drewN|apply Kd.R_drew));exact HO_5.out));(case aS=>exact (below_size bx_));(case aL=>have:=LMc10.out;omega);intro v523 w11 ho hb hg hat;rw [← Ny522.out] at ho;have HO524:=Aside0.mk ho;replace HB:=Aside0.mk hb;clear HO_5;clear ho hb hg hat))
          go_roundg kj2
          case measure=>have:=HK1.out;have:=HJ2.out;omega
          case rel=>exact ⟨(y522),(((((x6_1 + (rd l0 x7_1)) % 4294967296) + (rd l1 x7_1)) % 4294967296) / 1000000000),(wrap64 (x7_1 + 1)),(by first|rfl|(simp;done)|(simp [*];done)),(by first|rfl|(simp;done)|(simp [*];done)),H',⟨by have:=HK1.out;have:=HJ2.out;omega⟩,⟨by (with_reducible repeat (first|apply Kd.R_alloc|apply Kd.R_drewN|apply Kd.R_drew));exact HO524.out⟩,⟨bx_⟩⟩
         ·rw [if_neg c10] at H
          exact absurd H sm_
        ·rw [if_neg c9] at H
         have c9b0:decide (x7_1 < (l1.length:Int)) = false:=decide_eq_false c9
         clear c9
         by_cases c12:x5_1.length < 35184372088832
         ·rw [if_pos c12] at H
          have LMc12:=Aside0.mk c12
          clear c12
          obtain ⟨y525,hy525⟩:∃ y_:List Int,y_ = (x5_1 ++ [((x6_1 + (rd l0 x7_1)) % 4294967296) % 1000000000]):=⟨_,rfl⟩
          replace H:(garboardref01_Plus.l0 kj2 l0 l1 y525 (((x6_1 + (rd l0 x7_1)) % 4294967296) / 1000000000) (wrap64 (x7_1 + 1))) = some r:=by first|(rw [hy525];with_reducible exact H)|(have H2_:=(Option.bind_some _ _).symm.trans H;rw [hy525];with_reducible exact H2_)|(have H2_:=(Option.bind_some _ _).symm.trans H;with_reducible exact H2_)|with_reducible exact H|(rw [hy525];exact H)|exact H
          have Ny525:=Aside0.mk hy525
          clear hy525
          have H':=Aside0.mk H
          clear H
          have p520:0≤(x7_1:Int):=da_
          have q520:x7_1 < (l0.length:Int):=da_
          obtain ⟨ad520,e520,hx520_0⟩:=Kd.at_int HR0.out x7_1 p520 q520
          cases e520
          replace hx520_0:=(HB.out.cell (World.block_lt_of_cell? w _ hx520_0)).trans hx520_0
          replace p520:=eq_true p520
          replace q520:=eq_true q520
          go_wp2_with (first|((with_reducible refine gate_builtin (b:=.append) (xs:=#[.tmp 46,.tmp 49]) rfl ?_);(try (refine gate_guard (by rfl) ?_;dsimp only));at_builtin;refine Kd.R_append (Kd.int .u32) (w0:=w) w.heap.size rfl (.tmp 46) (.tmp 49) 49 95 (.int .u32 0) 4 rfl Tryz.underlying49 info95 rfl de_ (by omega) u5 x5_1 (((x6_1 + (rd l0 x7_1)) % 4294967296) % 1000000000) [.int .u32 (((x6_1 + (rd l0 x7_1)) % 4294967296) % 1000000000)] (fun k_=>(w.heap.size≤k_)) (fun _=>False) rfl rfl ?aP (fun _ hk=>hk.elim) ?aF ?aO ?aB ?aS ?aL ?_;(case aP=>exact rfl);(case aB=>exact bx_);(case aF=>exact (fun k_ hk=>(Nat.le_trans (below_size bx_) hk)));(case aO=>exact (by (with_reducible repeat (first|apply Kd.R_alloc|apply Kd.R_drewN|apply Kd.R_drew));exact HO_5.out));(case aS=>exact (below_size bx_));(case aL=>have:=LMc12.out;omega);intro v526 w13 ho hb hg hat;rw [← Ny525.out] at ho;have HO527:=Aside0.mk ho;replace HB:=Aside0.mk hb;clear HO_5;clear ho hb hg hat))
          go_roundg kj2
          case measure=>have:=HK1.out;have:=HJ2.out;omega
          case rel=>exact ⟨(y525),(((x6_1 + (rd l0 x7_1)) % 4294967296) / 1000000000),(wrap64 (x7_1 + 1)),(by first|rfl|(simp;done)|(simp [*];done)),(by first|rfl|(simp;done)|(simp [*];done)),H',⟨by have:=HK1.out;have:=HJ2.out;omega⟩,⟨by (with_reducible repeat (first|apply Kd.R_alloc|apply Kd.R_drewN|apply Kd.R_drew));exact HO527.out⟩,⟨bx_⟩⟩
         ·rw [if_neg c12] at H
          exact absurd H sm_
       ·rw [if_neg c8] at H
        exact absurd H sm_
      ·rw [if_neg c7] at H
       have c7b0:decide (x7_1 < (l0.length:Int)) = false:=decide_eq_false c7
       clear c7
       by_cases c14:x7_1 < (l1.length:Int)
       ·rw [if_pos c14] at H
        have c14b0:decide (x7_1 < (l1.length:Int)) = true:=decide_eq_true c14
        clear c14
        by_cases c15:0≤x7_1
        ·rw [if_pos c15] at H
         have c15b0:decide (0≤x7_1) = true:=decide_eq_true c15
         clear c15
         by_cases c16:x5_1.length < 35184372088832
         ·rw [if_pos c16] at H
          have LMc16:=Aside0.mk c16
          clear c16
          obtain ⟨y529,hy529⟩:∃ y_:List Int,y_ = (x5_1 ++ [((x6_1 + (rd l1 x7_1)) % 4294967296) % 1000000000]):=⟨_,rfl⟩
          replace H:(garboardref01_Plus.l0 kj2 l0 l1 y529 (((x6_1 + (rd l1 x7_1)) % 4294967296) / 1000000000) (wrap64 (x7_1 + 1))) = some r:=by first|(rw [hy529];with_reducible exact H)|(have H2_:=(Option.bind_some _ _).symm.trans H;rw [hy529];with_reducible exact H2_)|(have H2_:=(Option.bind_some _ _).symm.trans H;with_reducible exact H2_)|with_reducible exact H|(rw [hy529];exact H)|exact H
          have Ny529:=Aside0.mk hy529
          clear hy529
          have H':=Aside0.mk H
          clear H
          have p528:0≤(x7_1:Int):=da_
          have q528:x7_1 < (l1.length:Int):=da_
          obtain ⟨ad528,e528,hx528_0⟩:=Kd.at_int HR1.out x7_1 p528 q528
          cases e528
          replace hx528_0:=(HB.out.cell (World.block_lt_of_cell? w _ hx528_0)).trans hx528_0
          replace p528:=eq_true p528
          replace q528:=eq_true q528
          go_wp2_with (first|((with_reducible refine gate_builtin (b:=.append) (xs:=#[.tmp 46,.tmp 49]) rfl ?_);(try (refine gate_guard (by rfl) ?_;dsimp only));at_builtin;refine Kd.R_append (Kd.int .u32) (w0:=w) w.heap.size rfl (.tmp 46) (.tmp 49) 49 95 (.int .u32 0) 4 rfl Tryz.underlying49 info95 rfl de_ (by omega) u5 x5_1 (((x6_1 + (rd l1 x7_1)) % 4294967296) % 1000000000) [.int .u32 (((x6_1 + (rd l1 x7_1)) % 4294967296) % 1000000000)] (fun k_=>(w.heap.size≤k_)) (fun _=>False) rfl rfl ?aP (fun _ hk=>hk.elim) ?aF ?aO ?aB ?aS ?aL ?_;(case aP=>exact rfl);(case aB=>exact bx_);(case aF=>exact (fun k_ hk=>(Nat.le_trans (below_size bx_) hk)));(case aO=>exact (by (with_reducible repeat (first|apply Kd.R_alloc|apply Kd.R_drewN|apply Kd.R_drew));exact HO_5.out));(case aS=>exact (below_size bx_));(case aL=>have:=LMc16.out;omega);intro v530 w17 ho hb hg hat;rw [← Ny529.out] at ho;have HO531:=Aside0.mk ho;replace HB:=Aside0.mk hb;clear HO_5;clear ho hb hg hat))
          go_roundg kj2
          case measure=>have:=HK1.out;have:=HJ2.out;omega
          case rel=>exact ⟨(y529),(((x6_1 + (rd l1 x7_1)) % 4294967296) / 1000000000),(wrap64 (x7_1 + 1)),(by first|rfl|(simp;done)|(simp [*];done)),(by first|rfl|(simp;done)|(simp [*];done)),H',⟨by have:=HK1.out;have:=HJ2.out;omega⟩,⟨by (with_reducible repeat (first|apply Kd.R_alloc|apply Kd.R_drewN|apply Kd.R_drew));exact HO531.out⟩,⟨bx_⟩⟩
         ·rw [if_neg c16] at H
          exact absurd H sm_
        ·rw [if_neg c15] at H
         exact absurd H sm_
       ·rw [if_neg c14] at H
        have c14b0:decide (x7_1 < (l1.length:Int)) = false:=decide_eq_false c14
        clear c14
        by_cases c18:x5_1.length < 35184372088832
        ·rw [if_pos c18] at H
         have LMc18:=Aside0.mk c18
         clear c18
         obtain ⟨y532,hy532⟩:∃ y_:List Int,y_ = (x5_1 ++ [Int.tmod x6_1 1000000000]):=⟨_,rfl⟩
         replace H:(garboardref01_Plus.l0 kj2 l0 l1 y532 ((Int.tdiv x6_1 1000000000) % 4294967296) (wrap64 (x7_1 + 1))) = some r:=by first|(rw [hy532];with_reducible exact H)|(have H2_:=(Option.bind_some _ _).symm.trans H;rw [hy532];with_reducible exact H2_)|(have H2_:=(Option.bind_some _ _).symm.trans H;with_reducible exact H2_)|with_reducible exact H|(rw [hy532];exact H)|exact H
         have Ny532:=Aside0.mk hy532
         clear hy532
         have H':=Aside0.mk H
         clear H
         go_wp2_with (first|((with_reducible refine gate_builtin (b:=.append) (xs:=#[.tmp 46,.tmp 49]) rfl ?_);(try (refine gate_guard (by rfl) ?_;dsimp only));at_builtin;refine Kd.R_append (Kd.int .u32) (w0:=w) w.heap.size rfl (.tmp 46) (.tmp 49) 49 95 (.int .u32 0) 4 rfl Tryz.underlying49 info95 rfl de_ (by omega) u5 x5_1 (Int.tmod x6_1 1000000000) [.int .u32 (Int.tmod x6_1 1000000000)] (fun k_=>(w.heap.size≤k_)) (fun _=>False) rfl rfl ?aP (fun _ hk=>hk.elim) ?aF ?aO ?aB ?aS ?aL ?_;(case aP=>exact rfl);(case aB=>exact bx_);(case aF=>exact (fun k_ hk=>(Nat.le_trans (below_size bx_) hk)));(case aO=>exact (by (with_reducible repeat (first|apply Kd.R_alloc|apply Kd.R_drewN|apply Kd.R_drew));exact HO_5.out));(case aS=>exact (below_size bx_));(case aL=>have:=LMc18.out;omega);intro v533 w19 ho hb hg hat;rw [← Ny532.out] at ho;have HO534:=Aside0.mk ho;replace HB:=Aside0.mk hb;clear HO_5;clear ho hb hg hat))
         go_roundg kj2
         case measure=>have:=HK1.out;have:=HJ2.out;omega
         case rel=>exact ⟨(y532),((Int.tdiv x6_1 1000000000) % 4294967296),(wrap64 (x7_1 + 1)),(by first|rfl|(simp;done)|(simp [*];done)),(by first|rfl|(simp;done)|(simp [*];done)),H',⟨by have:=HK1.out;have:=HJ2.out;omega⟩,⟨by (with_reducible repeat (first|apply Kd.R_alloc|apply Kd.R_drewN|apply Kd.R_drew));exact HO534.out⟩,⟨bx_⟩⟩
        ·rw [if_neg c18] at H
         exact absurd H sm_
     ·replace c6:=Bool.eq_false_iff.mpr c6
      subst c6
      have H1:((garboardref01_trim.f kj2 x5_1).bind fun t517=>(some t517)) = some r:=by rw [if_neg (show ¬ (false = true) by decide)] at H;exact H
      clear H
      have H:=H1
      clear H1
      obtain ⟨t517,A20,H⟩:=bn_ H
      obtain rfl:=Option.some.inj H
      obtain ⟨Ao21,co21,eo21⟩:=Kd.R_slice HO_5.out
      subst eo21
      go_wp2_with (first|((with_reducible refine gate_callee (f:=103) rfl ?_);refine gm_ (some 54) Tryz.func103 #[.slice Ao21 x5_1.length co21] ?_;(with_reducible refine (garboardref01_trim.calls kj2 (fun k_=>some k_ = (.slice Ao21 x5_1.length co21:Value).ownBlock) _ _ x5_1 t517 _ ?side1 A20.out).mono ?_);(case side1=>exact Kd.R_V (Kd.R_tight rfl (HO_5.out)));rintro e w22 ⟨v518,rfl,ho0,hb⟩;refine ⟨_,rfl,?_⟩;have HO519:=Aside0.mk (Kd.V_lower (Kd.V_mono (ok':=fun k_=>(w.heap.size≤k_)) ho0 (fun k_ hk_=>Or.elim hk_ (fun hs_=>((HO_5.out).1 k_ hs_.symm)) (fun hn_=>(Nat.le_trans (below_size bx_) hn_)))) (below_size bx_));replace HO_5:=rb_ HO_5 hb;replace HB:=bs_ hb;(try clear hb);(try clear ho0)))
      go_ret
      exact ⟨_,rf_,by (with_reducible repeat (first|apply Kd.V_alloc|apply Kd.V_drewN|apply Kd.V_drew));exact HO519.out,bx_⟩
end Go.Proofs.YtaknchlegjcdhaaGreatDoor.Pr
namespace Go.Proofs.YtaknchlegjcdhaaGreatDoor.Pr
open Go.RowKit Go.Proofs.YtaknchlegjcdhaaGreatDoorW.PrintWords Go.Proofs.YtaknchlegjcdhaaGreatDoorW.PrintLast Go.Proofs.YtaknchlegjcdhaaGreatDoorW.PrintMore
attribute [local go_sem] max2_int min2_int max_two min_two max_three min_three max_four min_four
set_option maxHeartbeats 8000000
set_option maxRecDepth 100000
set_option linter.unusedVariables false
set_option linter.unusedSimpArgs false
theorem garboardref01_Minus.calls (k:Nat) (A0:Option Addr) (c0:Nat) (l0:List Int) (A1:Option Addr) (c1:Nat) (l1:List Int) (r:List Int) (w:World) (hr0:Kd.C (Kd.int .u32) w A0 l0.length l0) (hc0:l0.length≤c0) (hr1:Kd.C (Kd.int .u32) w A1 l1.length l1) (hc1:l1.length≤c1) (h:garboardref01_Minus.f k l0 l1 = some r) :
  Calls Tryz.prog 81 #[.slice A0 l0.length c0,.slice A1 l1.length c1] w fun e w'=>∃ v0_:Value,e = .returned (v0_)∧Kd.V (Kd.int .u32) 95 w' w.heap.size (fun k_=>(w.heap.size≤k_)) v0_ r∧Below w.heap.size w w':=by
 have HR0:=Aside0.mk hr0
 have HC0:=Aside0.mk hc0
 clear hr0 hc0
 have HR1:=Aside0.mk hr1
 have HC1:=Aside0.mk hc1
 clear hr1 hc1
 have HB:=Aside0.mk (Below.refl w.heap.size w)
 have H:(garboardref01_Minus.l0 k l0 l1 ([]:List Int) 0 0) = some r:=h
 clear h
 have H':=Aside0.mk H
 clear H
 go_enter Tryz.func81,Tryz.ntmps81
 go_wp2
 go_loopg [5,6,7] k (fun kq v5 v6 v7 w'=>∃ (x5_1:List Int) (x6_1:Int) (x7_1:Int),v6 = .int .i64 x6_1∧v7 = .int .i64 x7_1∧Aside0 (garboardref01_Minus.l0 kq l0 l1 x5_1 x6_1 x7_1 = some r)∧Aside0 (kq≤k)∧Aside0 (Kd.R (Kd.int .u32) 95 w' w.heap.size (fun k_=>(w.heap.size≤k_)) v5 x5_1)∧Aside0 (Below w.heap.size w w'))
 case atStart=>exact ⟨(([]:List Int)),(0),(0),(by first|rfl|(simp;done)|(simp [*];done)),(by first|rfl|(simp;done)|(simp [*];done)),H',⟨Nat.le_refl _⟩,⟨by first|exact Kd.R_nil _ _ _ _ _|exact Kd.N_nil _ _ _ _ _|exact Kd.V_nil _ _ _ _ _|exact Kd.Q_nil _ _ _ _ _|exact Kd.S_nil _ _ _ _ _⟩,⟨bx_⟩⟩
 case round =>
  clear H'
  try clear c1
  try clear p2
  obtain ⟨x5_1,x6_1,x7_1,rfl,rfl,HA,HK1,HO_5,HB⟩:=hrel
  cases gk with
  | zero=>exact absurd HA.out (by simp [garboardref01_Minus.l0])
  | succ k1 =>
   have H:=HA.out
   clear HA
   simp only [garboardref01_Minus.l0] at H
   by_cases c3:x7_1 < (l0.length:Int)
   ·rw [if_pos c3] at H
    have c3b0:decide (x7_1 < (l0.length:Int)) = true:=decide_eq_true c3
    clear c3
    by_cases c4:0≤x7_1
    ·rw [if_pos c4] at H
     have c4b0:decide (0≤x7_1) = true:=decide_eq_true c4
     clear c4
     by_cases c5:x7_1 < (l1.length:Int)
     ·rw [if_pos c5] at H
      have c5b0:decide (x7_1 < (l1.length:Int)) = true:=decide_eq_true c5
      clear c5
      by_cases c6:(wrap64 ((wrap64 ((wrap64 (rd l0 x7_1)) - x6_1)) - (wrap64 (rd l1 x7_1)))) < 0
      ·rw [if_pos c6] at H
       have c6b0:decide ((wrap64 ((wrap64 ((wrap64 (rd l0 x7_1)) - x6_1)) - (wrap64 (rd l1 x7_1)))) < 0) = true:=decide_eq_true c6
       clear c6
       by_cases c7:x5_1.length < 35184372088832
       ·rw [if_pos c7] at H
        have LMc7:=Aside0.mk c7
        clear c7
        obtain ⟨y544,hy544⟩:∃ y_:List Int,y_ = (x5_1 ++ [(wrap64 ((wrap64 ((wrap64 ((wrap64 (rd l0 x7_1)) - x6_1)) - (wrap64 (rd l1 x7_1)))) + 1000000000)) % 4294967296]):=⟨_,rfl⟩
        replace H:(garboardref01_Minus.l0 k1 l0 l1 y544 1 (wrap64 (x7_1 + 1))) = some r:=by first|(rw [hy544];with_reducible exact H)|(have H2_:=(Option.bind_some _ _).symm.trans H;rw [hy544];with_reducible exact H2_)|(have H2_:=(Option.bind_some _ _).symm.trans H;with_reducible exact H2_)|with_reducible exact H|(rw [hy544];exact H)|exact H
        have Ny544:=Aside0.mk hy544
        clear hy544
        have H':=Aside0.mk H
        clear H
        have p542:0≤(x7_1:Int):=da_
        have q542:x7_1 < (l0.length:Int):=da_
        obtain ⟨ad542,e542,hx542_0⟩:=Kd.at_int HR0.out x7_1 p542 q542
        cases e542
        replace hx542_0:=(HB.out.cell (World.block_lt_of_cell? w _ hx542_0)).trans hx542_0
        replace p542:=eq_true p542
        replace q542:=eq_true q542
        have p543:0≤(x7_1:Int):=da_
        have q543:x7_1 < (l1.length:Int):=da_
        obtain ⟨ad543,e543,hx543_0⟩:=Kd.at_int HR1.out x7_1 p543 q543
        cases e543
        replace hx543_0:=(HB.out.cell (World.block_lt_of_cell? w _ hx543_0)).trans hx543_0
        replace p543:=eq_true p543
        replace q543:=eq_true q543
        go_wp2_with (first|((with_reducible refine gate_builtin (b:=.append) (xs:=#[.tmp 37,.tmp 40]) rfl ?_);at_builtin;refine Kd.R_append (Kd.int .u32) (w0:=w) w.heap.size rfl (.tmp 37) (.tmp 40) 49 95 (.int .u32 0) 4 rfl Tryz.underlying49 info95 rfl de_ (by omega) u5 x5_1 ((wrap64 ((wrap64 ((wrap64 ((wrap64 (rd l0 x7_1)) - x6_1)) - (wrap64 (rd l1 x7_1)))) + 1000000000)) % 4294967296) [.int .u32 ((wrap64 ((wrap64 ((wrap64 ((wrap64 (rd l0 x7_1)) - x6_1)) - (wrap64 (rd l1 x7_1)))) + 1000000000)) % 4294967296)] (fun k_=>(w.heap.size≤k_)) (fun _=>False) rfl rfl ?aP (fun _ hk=>hk.elim) ?aF ?aO ?aB ?aS ?aL ?_;(case aP=>exact rfl);(case aB=>exact bx_);(case aF=>exact (fun k_ hk=>(Nat.le_trans (below_size bx_) hk)));(case aO=>exact (by (with_reducible repeat (first|apply Kd.R_alloc|apply Kd.R_drewN|apply Kd.R_drew));exact HO_5.out));(case aS=>exact (below_size bx_));(case aL=>have:=LMc7.out;omega);intro v545 w8 ho hb hg hat;rw [← Ny544.out] at ho;have HO546:=Aside0.mk ho;replace HB:=Aside0.mk hb;clear HO_5;clear ho hb hg hat))
        go_roundg k1
        case measure=>have:=HK1.out;omega
        case rel=>exact ⟨(y544),(1),(wrap64 (x7_1 + 1)),(by first|rfl|(simp;done)|(simp [*];done)),(by first|rfl|(simp;done)|(simp [*];done)),H',⟨by have:=HK1.out;omega⟩,⟨by (with_reducible repeat (first|apply Kd.R_alloc|apply Kd.R_drewN|apply Kd.R_drew));exact HO546.out⟩,⟨bx_⟩⟩
       ·rw [if_neg c7] at H
        exact absurd H sm_
      ·rw [if_neg c6] at H
       have c6b0:decide ((wrap64 ((wrap64 ((wrap64 (rd l0 x7_1)) - x6_1)) - (wrap64 (rd l1 x7_1)))) < 0) = false:=decide_eq_false c6
       clear c6
       by_cases c9:x5_1.length < 35184372088832
       ·rw [if_pos c9] at H
        have LMc9:=Aside0.mk c9
        clear c9
        obtain ⟨y547,hy547⟩:∃ y_:List Int,y_ = (x5_1 ++ [(wrap64 ((wrap64 ((wrap64 (rd l0 x7_1)) - x6_1)) - (wrap64 (rd l1 x7_1)))) % 4294967296]):=⟨_,rfl⟩
        replace H:(garboardref01_Minus.l0 k1 l0 l1 y547 0 (wrap64 (x7_1 + 1))) = some r:=by first|(rw [hy547];with_reducible exact H)|(have H2_:=(Option.bind_some _ _).symm.trans H;rw [hy547];with_reducible exact H2_)|(have H2_:=(Option.bind_some _ _).symm.trans H;with_reducible exact H2_)|with_reducible exact H|(rw [hy547];exact H)|exact H
        have Ny547:=Aside0.mk hy547
        clear hy547
        have H':=Aside0.mk H
        clear H
        have p542:0≤(x7_1:Int):=da_
        have q542:x7_1 < (l0.length:Int):=da_
        obtain ⟨ad542,e542,hx542_0⟩:=Kd.at_int HR0.out x7_1 p542 q542
        cases e542
        replace hx542_0:=(HB.out.cell (World.block_lt_of_cell? w _ hx542_0)).trans hx542_0
        replace p542:=eq_true p542
        replace q542:=eq_true q542
        have p543:0≤(x7_1:Int):=da_
        have q543:x7_1 < (l1.length:Int):=da_
        obtain ⟨ad543,e543,hx543_0⟩:=Kd.at_int HR1.out x7_1 p543 q543
        cases e543
        replace hx543_0:=(HB.out.cell (World.block_lt_of_cell? w _ hx543_0)).trans hx543_0
        replace p543:=eq_true p543
        replace q543:=eq_true q543
        go_wp2_with (first|((with_reducible refine gate_builtin (b:=.append) (xs:=#[.tmp 37,.tmp 40]) rfl ?_);at_builtin;refine Kd.R_append (Kd.int .u32) (w0:=w) w.heap.size rfl (.tmp 37) (.tmp 40) 49 95 (.int .u32 0) 4 rfl Tryz.underlying49 info95 rfl de_ (by omega) u5 x5_1 ((wrap64 ((wrap64 ((wrap64 (rd l0 x7_1)) - x6_1)) - (wrap64 (rd l1 x7_1)))) % 4294967296) [.int .u32 ((wrap64 ((wrap64 ((wrap64 (rd l0 x7_1)) - x6_1)) - (wrap64 (rd l1 x7_1)))) % 4294967296)] (fun k_=>(w.heap.size≤k_)) (fun _=>False) rfl rfl ?aP (fun _ hk=>hk.elim) ?aF ?aO ?aB ?aS ?aL ?_;(case aP=>exact rfl);(case aB=>exact bx_);(case aF=>exact (fun k_ hk=>(Nat.le_trans (below_size bx_) hk)));(case aO=>exact (by (with_reducible repeat (first|apply Kd.R_alloc|apply Kd.R_drewN|apply Kd.R_drew));exact HO_5.out));(case aS=>exact (below_size bx_));(case aL=>have:=LMc9.out;omega);intro v548 w10 ho hb hg hat;rw [← Ny547.out] at ho;have HO549:=Aside0.mk ho;replace HB:=Aside0.mk hb;clear HO_5;clear ho hb hg hat))
        go_roundg k1
        case measure=>have:=HK1.out;omega
        case rel=>exact ⟨(y547),(0),(wrap64 (x7_1 + 1)),(by first|rfl|(simp;done)|(simp [*];done)),(by first|rfl|(simp;done)|(simp [*];done)),H',⟨by have:=HK1.out;omega⟩,⟨by (with_reducible repeat (first|apply Kd.R_alloc|apply Kd.R_drewN|apply Kd.R_drew));exact HO549.out⟩,⟨bx_⟩⟩
       ·rw [if_neg c9] at H
        exact absurd H sm_
     ·rw [if_neg c5] at H
      have c5b0:decide (x7_1 < (l1.length:Int)) = false:=decide_eq_false c5
      clear c5
      by_cases c11:(wrap64 ((wrap64 (rd l0 x7_1)) - x6_1)) < 0
      ·rw [if_pos c11] at H
       have c11b0:decide ((wrap64 ((wrap64 (rd l0 x7_1)) - x6_1)) < 0) = true:=decide_eq_true c11
       clear c11
       by_cases c12:x5_1.length < 35184372088832
       ·rw [if_pos c12] at H
        have LMc12:=Aside0.mk c12
        clear c12
        obtain ⟨y550,hy550⟩:∃ y_:List Int,y_ = (x5_1 ++ [(wrap64 ((wrap64 ((wrap64 (rd l0 x7_1)) - x6_1)) + 1000000000)) % 4294967296]):=⟨_,rfl⟩
        replace H:(garboardref01_Minus.l0 k1 l0 l1 y550 1 (wrap64 (x7_1 + 1))) = some r:=by first|(rw [hy550];with_reducible exact H)|(have H2_:=(Option.bind_some _ _).symm.trans H;rw [hy550];with_reducible exact H2_)|(have H2_:=(Option.bind_some _ _).symm.trans H;with_reducible exact H2_)|with_reducible exact H|(rw [hy550];exact H)|exact H
        have Ny550:=Aside0.mk hy550
        clear hy550
        have H':=Aside0.mk H
        clear H
        have p542:0≤(x7_1:Int):=da_
        have q542:x7_1 < (l0.length:Int):=da_
        obtain ⟨ad542,e542,hx542_0⟩:=Kd.at_int HR0.out x7_1 p542 q542
        cases e542
        replace hx542_0:=(HB.out.cell (World.block_lt_of_cell? w _ hx542_0)).trans hx542_0
        replace p542:=eq_true p542
        replace q542:=eq_true q542
        go_wp2_with (first|((with_reducible refine gate_builtin (b:=.append) (xs:=#[.tmp 37,.tmp 40]) rfl ?_);at_builtin;refine Kd.R_append (Kd.int .u32) (w0:=w) w.heap.size rfl (.tmp 37) (.tmp 40) 49 95 (.int .u32 0) 4 rfl Tryz.underlying49 info95 rfl de_ (by omega) u5 x5_1 ((wrap64 ((wrap64 ((wrap64 (rd l0 x7_1)) - x6_1)) + 1000000000)) % 4294967296) [.int .u32 ((wrap64 ((wrap64 ((wrap64 (rd l0 x7_1)) - x6_1)) + 1000000000)) % 4294967296)] (fun k_=>(w.heap.size≤k_)) (fun _=>False) rfl rfl ?aP (fun _ hk=>hk.elim) ?aF ?aO ?aB ?aS ?aL ?_;(case aP=>exact rfl);(case aB=>exact bx_);(case aF=>exact (fun k_ hk=>(Nat.le_trans (below_size bx_) hk)));(case aO=>exact (by (with_reducible repeat (first|apply Kd.R_alloc|apply Kd.R_drewN|apply Kd.R_drew));exact HO_5.out));(case aS=>exact (below_size bx_));(case aL=>have:=LMc12.out;omega);intro v551 w13 ho hb hg hat;rw [← Ny550.out] at ho;have HO552:=Aside0.mk ho;replace HB:=Aside0.mk hb;clear HO_5;clear ho hb hg hat))
        go_roundg k1
        case measure=>have:=HK1.out;omega
        case rel=>exact ⟨(y550),(1),(wrap64 (x7_1 + 1)),(by first|rfl|(simp;done)|(simp [*];done)),(by first|rfl|(simp;done)|(simp [*];done)),H',⟨by have:=HK1.out;omega⟩,⟨by (with_reducible repeat (first|apply Kd.R_alloc|apply Kd.R_drewN|apply Kd.R_drew));exact HO552.out⟩,⟨bx_⟩⟩
       ·rw [if_neg c12] at H
        exact absurd H sm_
      ·rw [if_neg c11] at H
       have c11b0:decide ((wrap64 ((wrap64 (rd l0 x7_1)) - x6_1)) < 0) = false:=decide_eq_false c11
       clear c11
       by_cases c14:x5_1.length < 35184372088832
       ·rw [if_pos c14] at H
        have LMc14:=Aside0.mk c14
        clear c14
        obtain ⟨y553,hy553⟩:∃ y_:List Int,y_ = (x5_1 ++ [(wrap64 ((wrap64 (rd l0 x7_1)) - x6_1)) % 4294967296]):=⟨_,rfl⟩
        replace H:(garboardref01_Minus.l0 k1 l0 l1 y553 0 (wrap64 (x7_1 + 1))) = some r:=by first|(rw [hy553];with_reducible exact H)|(have H2_:=(Option.bind_some _ _).symm.trans H;rw [hy553];with_reducible exact H2_)|(have H2_:=(Option.bind_some _ _).symm.trans H;with_reducible exact H2_)|with_reducible exact H|(rw [hy553];exact H)|exact H
        have Ny553:=Aside0.mk hy553
        clear hy553
        have H':=Aside0.mk H
        clear H
        have p542:0≤(x7_1:Int):=da_
        have q542:x7_1 < (l0.length:Int):=da_
        obtain ⟨ad542,e542,hx542_0⟩:=Kd.at_int HR0.out x7_1 p542 q542
        cases e542
        replace hx542_0:=(HB.out.cell (World.block_lt_of_cell? w _ hx542_0)).trans hx542_0
        replace p542:=eq_true p542
        replace q542:=eq_true q542
        go_wp2_with (first|((with_reducible refine gate_builtin (b:=.append) (xs:=#[.tmp 37,.tmp 40]) rfl ?_);at_builtin;refine Kd.R_append (Kd.int .u32) (w0:=w) w.heap.size rfl (.tmp 37) (.tmp 40) 49 95 (.int .u32 0) 4 rfl Tryz.underlying49 info95 rfl de_ (by omega) u5 x5_1 ((wrap64 ((wrap64 (rd l0 x7_1)) - x6_1)) % 4294967296) [.int .u32 ((wrap64 ((wrap64 (rd l0 x7_1)) - x6_1)) % 4294967296)] (fun k_=>(w.heap.size≤k_)) (fun _=>False) rfl rfl ?aP (fun _ hk=>hk.elim) ?aF ?aO ?aB ?aS ?aL ?_;(case aP=>exact rfl);(case aB=>exact bx_);(case aF=>exact (fun k_ hk=>(Nat.le_trans (below_size bx_) hk)));(case aO=>exact (by (with_reducible repeat (first|apply Kd.R_alloc|apply Kd.R_drewN|apply Kd.R_drew));exact HO_5.out));(case aS=>exact (below_size bx_));(case aL=>have:=LMc14.out;omega);intro v554 w15 ho hb hg hat;rw [← Ny553.out] at ho;have HO555:=Aside0.mk ho;replace HB:=Aside0.mk hb;clear HO_5;clear ho hb hg hat))
        go_roundg k1
        case measure=>have:=HK1.out;omega
        case rel=>exact ⟨(y553),(0),(wrap64 (x7_1 + 1)),(by first|rfl|(simp;done)|(simp [*];done)),(by first|rfl|(simp;done)|(simp [*];done)),H',⟨by have:=HK1.out;omega⟩,⟨by (with_reducible repeat (first|apply Kd.R_alloc|apply Kd.R_drewN|apply Kd.R_drew));exact HO555.out⟩,⟨bx_⟩⟩
       ·rw [if_neg c14] at H
        exact absurd H sm_
    ·rw [if_neg c4] at H
     exact absurd H sm_
   ·rw [if_neg c3] at H
    have c3b0:decide (x7_1 < (l0.length:Int)) = false:=decide_eq_false c3
    clear c3
    obtain ⟨t539,A16,H⟩:=bn_ H
    obtain rfl:=Option.some.inj H
    obtain ⟨Ao17,co17,eo17⟩:=Kd.R_slice HO_5.out
    subst eo17
    go_wp2_with (first|((with_reducible refine gate_callee (f:=103) rfl ?_);refine gm_ (some 43) Tryz.func103 #[.slice Ao17 x5_1.length co17] ?_;(with_reducible refine (garboardref01_trim.calls k1 (fun k_=>some k_ = (.slice Ao17 x5_1.length co17:Value).ownBlock) _ _ x5_1 t539 _ ?side1 A16.out).mono ?_);(case side1=>exact Kd.R_V (Kd.R_tight rfl (HO_5.out)));rintro e w18 ⟨v540,rfl,ho0,hb⟩;refine ⟨_,rfl,?_⟩;have HO541:=Aside0.mk (Kd.V_lower (Kd.V_mono (ok':=fun k_=>(w.heap.size≤k_)) ho0 (fun k_ hk_=>Or.elim hk_ (fun hs_=>((HO_5.out).1 k_ hs_.symm)) (fun hn_=>(Nat.le_trans (below_size bx_) hn_)))) (below_size bx_));replace HO_5:=rb_ HO_5 hb;replace HB:=bs_ hb;(try clear hb);(try clear ho0)))
    go_ret
    exact ⟨_,rf_,by (with_reducible repeat (first|apply Kd.V_alloc|apply Kd.V_drewN|apply Kd.V_drew));exact HO541.out,bx_⟩
end Go.Proofs.YtaknchlegjcdhaaGreatDoor.Pr
set_option linter.unusedVariables false
set_option linter.unusedSimpArgs false
namespace Go.Proofs.YtaknchlegjcdhaaGreatDoor.Pr
open Go.RowKit Go.Lib Go.Proofs.YtaknchlegjcdhaaGreatDoorW.PrintWords Go.Proofs.YtaknchlegjcdhaaGreatDoorW.PrintLast Go.Proofs.YtaknchlegjcdhaaGreatDoorW.PrintMore Go.Proofs.YtaknchlegjcdhaaGreatDoor.NatTh
theorem Zs.sub {e:Nat} {y z:Int} (hy:Zs e y) (hz:Zs e z):Zs (e + 1) (y - z):=(Sz.add hy hz).le (by omega)
end Go.Proofs.YtaknchlegjcdhaaGreatDoor.Pr
namespace Go.Proofs.YtaknchlegjcdhaaGreatDoor.Pr
open Go.RowKit Go.Proofs.YtaknchlegjcdhaaGreatDoorW.PrintWords Go.Proofs.YtaknchlegjcdhaaGreatDoorW.PrintLast Go.Proofs.YtaknchlegjcdhaaGreatDoorW.PrintMore
attribute [local go_sem] max2_int min2_int max_two min_two max_three min_three max_four min_four
set_option maxHeartbeats 8000000
set_option maxRecDepth 100000
set_option linter.unusedVariables false
set_option linter.unusedSimpArgs false
theorem garboardref02_both.calls (k:Nat) (a0:ByteArray) (a1:ByteArray) (r1:Bool) (r2:List Int) (r3:Bool) (r4:List Int) (r5:Int) (w:World) (h:garboardref02_both.f k a0 a1 = some (r1,r2,r3,r4,r5)) :
  Calls Tryz.prog 53 #[.string a0,.string a1] w fun e w'=>∃ v1_ v3_:Value,e = .returned (.tuple #[.agg #[.bool r1,v1_],.agg #[.bool r3,v3_],.int .i64 r5])∧Kd.V (Kd.int .u32) 95 w' w.heap.size (fun k_=>(w.heap.size≤k_)) v1_ r2∧Kd.V (Kd.int .u32) 95 w' w.heap.size (fun k_=>(w.heap.size≤k_)) v3_ r4∧Below w.heap.size w w':=by
 have hu51:=Tryz.underlying51
 have HB:=Aside0.mk (Below.refl w.heap.size w)
 have H:((garboardref02_Valid.f k a0).bind fun t507=>(if t507 = true then ((garboardref02_Valid.f k a1).bind fun t508=>(garboardref02_both.j0 k a0 a1 (!t508))) else (garboardref02_both.j0 k a0 a1 true))) = some (r1,r2,r3,r4,r5):=h
 clear h
 have HC3:=Aside0.mk H
 clear H
 go_enter Tryz.func53,Tryz.ntmps53
 go_upto_region 1 with (first|((with_reducible refine gate_dst (N:=4) rfl ?_);refine bv_ #[.bool false,.slice none 0 0] 51 ?_;clear HB;intro gb505 hg w4 BK505 GE505 hb HB;clear hb hg)|((with_reducible refine gate_dst (N:=5) rfl ?_);refine bv_ #[.bool false,.slice none 0 0] 51 ?_;clear HB;intro gb506 hg w5 BK506 GE506 hb HB;have x_:=ol_ BK505 hg hb;clear BK505;obtain ⟨BK505,NB505_506,NB506_505⟩:=x_;clear hb hg))
 (try simp only [Act.put,List.setIfInBounds_toArray,List.set_cons_zero,List.set_cons_succ])
 go_cut [14] (fun v14 wc=>∃ (kq:Nat) (x14_2:Bool),v14 = .bool x14_2∧Aside0 (garboardref02_both.j0 kq a0 a1 x14_2 = some (r1,r2,r3,r4,r5))∧Aside0 (kq≤k)∧Aside0 (wc.heap[gb505]? = some (.cells #[.bool false,(.slice none 0 0)] 51 (0,0)))∧Aside0 (wc.heap[gb506]? = some (.cells #[.bool false,(.slice none 0 0)] 51 (0,0)))∧Aside0 (Below w.heap.size w wc))
 case first =>
  have H:=HC3.out
  clear HC3
  obtain ⟨t507,A6,H⟩:=bn_ H
  by_cases c7:t507 = true
  ·subst c7
   have H1:((garboardref02_Valid.f k a1).bind fun t508=>(garboardref02_both.j0 k a0 a1 (!t508))) = some (r1,r2,r3,r4,r5):=by rw [if_pos rfl] at H;exact H
   clear H
   have H:=H1
   clear H1
   obtain ⟨t508,A8,H⟩:=bn_ H
   have H':=Aside0.mk H
   clear H
   go_wp2_with (first|((with_reducible refine gate_callee (f:=19) rfl ?_);refine gm_ (some 8) Tryz.func19 #[.string a0] ?_;(with_reducible refine (garboardref02_Valid.calls k a0 true _ A6.out).mono ?_);rintro e w' ⟨rfl,⟨nd,rfl⟩⟩;refine ⟨_,rfl,?_⟩)|(go_at_call 19;(with_reducible refine (garboardref02_Valid.calls k a1 t508 _ A8.out).mono ?_);rintro e w' ⟨rfl,⟨nd,rfl⟩⟩))
   go_meet
   case rel=>exact ⟨_,(!t508),(by first|rfl|(simp;done)|(simp [*];done)),H',⟨by first|omega|exact Nat.le_refl _⟩,⟨bk_⟩,⟨bk_⟩,⟨bx_⟩⟩
  ·replace c7:=Bool.eq_false_iff.mpr c7
   subst c7
   have H1:(garboardref02_both.j0 k a0 a1 true) = some (r1,r2,r3,r4,r5):=by rw [if_neg (show ¬ (false = true) by decide)] at H;exact H
   clear H
   have H:=H1
   clear H1
   have H':=Aside0.mk H
   clear H
   go_wp2_with (first|((with_reducible refine gate_callee (f:=19) rfl ?_);refine gm_ (some 8) Tryz.func19 #[.string a0] ?_;(with_reducible refine (garboardref02_Valid.calls k a0 false _ A6.out).mono ?_);rintro e w' ⟨rfl,⟨nd,rfl⟩⟩;refine ⟨_,rfl,?_⟩))
   go_meet
   case rel=>exact ⟨_,(true),(by first|rfl|(simp;done)|(simp [*];done)),H',⟨by first|omega|exact Nat.le_refl _⟩,⟨bk_⟩,⟨bk_⟩,⟨bx_⟩⟩
 case rest =>
  clear HC3
  try clear c1
  try clear p2
  try clear c5
  try clear c7
  obtain ⟨kq,x14_2,rfl,HA,HJ2,BK505,BK506,HB⟩:=hcut
  cases kq with
  | zero=>exact absurd HA.out (by simp [garboardref02_both.j0])
  | succ kj2 =>
   have H:=HA.out
   clear HA
   simp only [garboardref02_both.j0] at H
   by_cases c9:x14_2 = true
   ·subst c9
    have H1:(some (false,([]:List Int),false,([]:List Int),1)) = some (r1,r2,r3,r4,r5):=by rw [if_pos rfl] at H;exact H
    clear H
    have H:=H1
    clear H1
    simp only [Option.some.injEq,Prod.mk.injEq] at H
    obtain ⟨rfl,rfl,rfl,rfl,rfl⟩:=H
    have hnb10:=NB505_506.out
    have hnc10:=NB506_505.out
    obtain ⟨hcz11_0,hcz11_1,hfz11_0,hfz11_1⟩:=c2_ BK505
    obtain ⟨hcz12_0,hcz12_1,hfz12_0,hfz12_1⟩:=c2_ BK506
    go_wp2
    refine bodyPost_ret (results_list (rs:=[.cell 4 51,.cell 5 51,.tmp 6]) rfl sm_ (.cell gb505 51 #[.bool false,.slice none 0 0] (0,0) _ rfl bk_ Tryz.underlying51 rfl kr_ (.cell gb506 51 #[.bool false,.slice none 0 0] (0,0) _ rfl bk_ Tryz.underlying51 rfl kr_ (.tmp .nil)))) rfl ?_
    exact ⟨_,_,rf_,Kd.R_V (base:=w.heap.size) (by first|exact Kd.R_nil _ _ _ _ _|exact Kd.N_nil _ _ _ _ _|exact Kd.V_nil _ _ _ _ _|exact Kd.Q_nil _ _ _ _ _|exact Kd.S_nil _ _ _ _ _),Kd.R_V (base:=w.heap.size) (by first|exact Kd.R_nil _ _ _ _ _|exact Kd.N_nil _ _ _ _ _|exact Kd.V_nil _ _ _ _ _|exact Kd.Q_nil _ _ _ _ _|exact Kd.S_nil _ _ _ _ _),bx_⟩
   ·replace c9:=Bool.eq_false_iff.mpr c9
    subst c9
    have H1:((garboardref02_Read.f kj2 a0).bind fun bt509=>((garboardref02_Read.f kj2 a1).bind fun bt513=>(some (bt509.1,bt509.2,bt513.1,bt513.2,0)))) = some (r1,r2,r3,r4,r5):=by rw [if_neg (show ¬ (false = true) by decide)] at H;exact H
    clear H
    have H:=H1
    clear H1
    obtain ⟨⟨t509,t510⟩,A13,H⟩:=bn_ H
    dsimp only at H
    obtain ⟨⟨t513,t514⟩,A14,H⟩:=bn_ H
    dsimp only at H
    simp only [Option.some.injEq,Prod.mk.injEq] at H
    obtain ⟨rfl,rfl,rfl,rfl,rfl⟩:=H
    go_wp2_with (first|((with_reducible refine gate_callee (f:=42) rfl ?_);refine gm_ (some 18) Tryz.func42 #[.string a0] ?_;(with_reducible refine (garboardref02_Read.calls kj2 a0 t509 t510 _ A13.out).mono ?_);rintro e w15 ⟨v511,rfl,ho0,hb⟩;refine ⟨_,rfl,?_⟩;have HO512:=Aside0.mk (Kd.V_lower (Kd.V_mono (ok':=fun k_=>(w.heap.size≤k_)∧k_≠gb505∧k_≠gb506) ho0 (fun k_ hk_=>⟨(Nat.le_trans (below_size bx_) hk_),(Kd.freshB (g:=gb505) (o:=.cells #[.bool false,.slice none 0 0] 51 (0,0)) bk_ k_ hk_),(Kd.freshB (g:=gb506) (o:=.cells #[.bool false,.slice none 0 0] 51 (0,0)) bk_ k_ hk_)⟩)) (below_size bx_));replace BK505:=bb_ BK505 hb;replace BK506:=bb_ BK506 hb;replace HB:=bs_ hb;(try clear hb);(try clear ho0))|((with_reducible refine gate_callee (f:=42) rfl ?_);refine gm_ (some 20) Tryz.func42 #[.string a1] ?_;(with_reducible refine (garboardref02_Read.calls kj2 a1 t513 t514 _ A14.out).mono ?_);rintro e w16 ⟨v515,rfl,ho0,hb⟩;refine ⟨_,rfl,?_⟩;have HO516:=Aside0.mk (Kd.V_lower (Kd.V_mono (ok':=fun k_=>(w.heap.size≤k_)∧k_≠gb505∧k_≠gb506) ho0 (fun k_ hk_=>⟨(Nat.le_trans (below_size bx_) hk_),(Kd.freshB (g:=gb505) (o:=.cells #[.bool false,.slice none 0 0] 51 (0,0)) bk_ k_ hk_),(Kd.freshB (g:=gb506) (o:=.cells #[.bool false,.slice none 0 0] 51 (0,0)) bk_ k_ hk_)⟩)) (below_size bx_));replace HO512:=vb_ HO512 hb;replace BK505:=bb_ BK505 hb;replace BK506:=bb_ BK506 hb;replace HB:=bs_ hb;(try clear hb);(try clear ho0);have hnb17:=NB505_506.out;have hnc17:=NB506_505.out;obtain ⟨hcz18_0,hcz18_1,hfz18_0,hfz18_1⟩:=c2_ BK505;obtain ⟨Ao19,co19,eo19⟩:=Kd.V_slice HO512.out;subst eo19;obtain ⟨hcz20_0,hcz20_1,hfz20_0,hfz20_1⟩:=c2_ BK506;obtain ⟨Ao21,co21,eo21⟩:=Kd.V_slice HO516.out;subst eo21))
    refine bodyPost_ret (results_list (rs:=[.cell 4 51,.cell 5 51,.tmp 6]) rfl sm_ (.cell gb505 51 #[.bool t509,.slice Ao19 t510.length co19] (0,0) _ rfl bk_ Tryz.underlying51 rfl kr_ (.cell gb506 51 #[.bool t513,.slice Ao21 t514.length co21] (0,0) _ rfl bk_ Tryz.underlying51 rfl kr_ (.tmp .nil)))) rfl ?_
    exact ⟨_,_,rf_,by (with_reducible repeat (first|apply Kd.V_alloc|apply Kd.V_drewN|apply Kd.V_drew));exact Kd.V_mono (Kd.V_far (p:=⟨gb506,1,none⟩) (Kd.V_far (p:=⟨gb506,0,none⟩) (Kd.V_far (p:=⟨gb505,1,none⟩) (Kd.V_far (p:=⟨gb505,0,none⟩) (Kd.V_mono (Kd.V_mono HO512.out (fun k_ hk=>(⟨hk,hk.2.1⟩:_∧k_≠gb505))) (fun k_ hk=>(⟨hk,hk.1.2.2⟩:_∧k_≠gb506))) (fun _ hk=>hk.1.2) (.bool t509)) (fun _ hk=>hk.1.2) (.slice Ao19 t510.length co19)) (fun _ hk=>hk.2) (.bool t513)) (fun _ hk=>hk.2) (.slice Ao21 t514.length co21)) (fun _ hk=>hk.1.1.1),by (with_reducible repeat (first|apply Kd.V_alloc|apply Kd.V_drewN|apply Kd.V_drew));exact Kd.V_mono (Kd.V_far (p:=⟨gb506,1,none⟩) (Kd.V_far (p:=⟨gb506,0,none⟩) (Kd.V_far (p:=⟨gb505,1,none⟩) (Kd.V_far (p:=⟨gb505,0,none⟩) (Kd.V_mono (Kd.V_mono HO516.out (fun k_ hk=>(⟨hk,hk.2.1⟩:_∧k_≠gb505))) (fun k_ hk=>(⟨hk,hk.1.2.2⟩:_∧k_≠gb506))) (fun _ hk=>hk.1.2) (.bool t509)) (fun _ hk=>hk.1.2) (.slice Ao19 t510.length co19)) (fun _ hk=>hk.2) (.bool t513)) (fun _ hk=>hk.2) (.slice Ao21 t514.length co21)) (fun _ hk=>hk.1.1.1),bx_⟩
end Go.Proofs.YtaknchlegjcdhaaGreatDoor.Pr
namespace Go.Proofs.YtaknchlegjcdhaaGreatDoor.Pr
open Go.RowKit Go.Proofs.YtaknchlegjcdhaaGreatDoorW.PrintWords Go.Proofs.YtaknchlegjcdhaaGreatDoorW.PrintLast Go.Proofs.YtaknchlegjcdhaaGreatDoorW.PrintMore
attribute [local go_sem] max2_int min2_int max_two min_two max_three min_three max_four min_four
set_option maxHeartbeats 8000000
set_option maxRecDepth 100000
set_option linter.unusedVariables false
set_option linter.unusedSimpArgs false
def garboardref02_Plus.T2:Bool × List (List Nat × List Nat):=(true,[([],[]),([0],[0]),([],[]),([2],[2]),([],[]),([4],[4]),([3,5],[3,5]),([1,6,6],[1,6]),([7,7,0,1,2,3,4,5,6,7],[7])])
def garboardref02_Plus.B2:List Nat:=[0,1,0,4,0,16,60,127,255]
theorem garboardref02_Plus.tab2:rtab .any (opsOf Tryz.f55 2) = garboardref02_Plus.T2:=by kernel_rfl
theorem garboardref02_Plus.bits2:waitsOk garboardref02_Plus.T2.2 garboardref02_Plus.B2 = true:=by kernel_rfl
def garboardref02_Plus.T4:Bool × List (List Nat × List Nat):=(true,[([],[]),([0],[0]),([],[]),([2],[2]),([],[]),([4],[4]),([3,5],[3,5]),([1,6,6],[1,6]),([7,7,0,1,2,3,4,5,6,7],[7])])
def garboardref02_Plus.B4:List Nat:=[0,1,0,4,0,16,60,127,255]
theorem garboardref02_Plus.tab4:rtab .any (opsOf Tryz.f55 4) = garboardref02_Plus.T4:=by kernel_rfl
theorem garboardref02_Plus.bits4:waitsOk garboardref02_Plus.T4.2 garboardref02_Plus.B4 = true:=by kernel_rfl
def garboardref02_Plus.T5:Bool × List (List Nat × List Nat):=(true,[([],[]),([0],[0]),([],[]),([2],[2]),([],[]),([4],[4]),([3,5],[3,5]),([1,6,6],[1,6]),([7,7,0,1,2,3,4,5,6,7],[7])])
def garboardref02_Plus.B5:List Nat:=[0,1,0,4,0,16,60,127,255]
theorem garboardref02_Plus.tab5:rtab .any (opsOf Tryz.f55 5) = garboardref02_Plus.T5:=by kernel_rfl
theorem garboardref02_Plus.bits5:waitsOk garboardref02_Plus.T5.2 garboardref02_Plus.B5 = true:=by kernel_rfl
theorem garboardref02_Plus.calls (k:Nat) (a0_0:Bool) (A0_1:Option Addr) (c0_1:Nat) (l0_1:List Int) (a1_0:Bool) (A1_1:Option Addr) (c1_1:Nat) (l1_1:List Int) (r1:Bool) (r2:List Int) (w:World) (hr0_1:Kd.C (Kd.int .u32) w A0_1 l0_1.length l0_1) (hc0_1:l0_1.length≤c0_1) (hr1_1:Kd.C (Kd.int .u32) w A1_1 l1_1.length l1_1) (hc1_1:l1_1.length≤c1_1) (h:garboardref02_Plus.f k a0_0 l0_1 a1_0 l1_1 = some (r1,r2)) :
  Calls Tryz.prog 55 #[.agg #[.bool a0_0,.slice A0_1 l0_1.length c0_1],.agg #[.bool a1_0,.slice A1_1 l1_1.length c1_1]] w fun e w'=>∃ v1_:Value,e = .returned (.agg #[.bool r1,v1_])∧Kd.V (Kd.int .u32) 95 w' w.heap.size (fun k_=>(w.heap.size≤k_)) v1_ r2∧Below w.heap.size w w':=by
 have hu51:=Tryz.underlying51
 have HR0_1:=Aside0.mk hr0_1
 have HC0_1:=Aside0.mk hc0_1
 clear hr0_1 hc0_1
 have HR1_1:=Aside0.mk hr1_1
 have HC1_1:=Aside0.mk hc1_1
 clear hr1_1 hc1_1
 have HB:=Aside0.mk (Below.refl w.heap.size w)
 have H:(if (a0_0 == a1_0) = true then ((garboardref01_Plus.f k l0_1 l1_1).bind fun t559=>((garboardref02_Make.f a0_0 t559).bind fun bt562=>(some (bt562.1,bt562.2)))) else ((garboardref01_Cmp.f k l0_1 l1_1).bind fun t566=>(if t566 ≥ 0 then ((garboardref01_Minus.f k l0_1 l1_1).bind fun t567=>((garboardref02_Make.f a0_0 t567).bind fun bt570=>(some (bt570.1,bt570.2)))) else ((garboardref01_Minus.f k l1_1 l0_1).bind fun t574=>((garboardref02_Make.f a1_0 t574).bind fun bt577=>(some (bt577.1,bt577.2))))))) = some (r1,r2):=h
 clear h
 by_cases c3:(a0_0 == a1_0) = true
 ·rw [if_pos c3] at H
  have c3b0:(a0_0 == a1_0) = true:=c3
  (try (have c3b1:decide (a0_0 = a1_0) = true:=by simpa using c3))
  (try (have c3b2:(a0_0 == a1_0) = true:=by simpa using c3))
  clear c3
  obtain ⟨t559,A4,H⟩:=bn_ H
  obtain ⟨⟨t562,t563⟩,A5,H⟩:=bn_ H
  dsimp only at H
  simp only [Option.some.injEq,Prod.mk.injEq] at H
  obtain ⟨rfl,rfl⟩:=H
  go_enter Tryz.func55,Tryz.ntmps55
  try go_wp2_with (first|((with_reducible refine gate_dst (N:=2) rfl ?_);refine bv_ #[.bool a0_0,.slice A0_1 l0_1.length c0_1] 51 ?_;clear HB;intro gb556 hg w6 BK556 GE556 hb HB;clear hb hg)|((with_reducible refine gate_dst (N:=3) rfl ?_);refine bv_ #[.bool a1_0,.slice A1_1 l1_1.length c1_1] 51 ?_;clear HB;intro gb557 hg w7 BK557 GE557 hb HB;have x_:=ol_ BK556 hg hb;clear BK556;obtain ⟨BK556,NB556_557,NB557_556⟩:=x_;clear hb hg)|((with_reducible refine gate_dst (N:=4) rfl ?_);refine bv_ #[.bool false,.slice none 0 0] 51 ?_;clear HB;intro gb558 hg w8 BK558 GE558 hb HB;have x_:=ol_ BK556 hg hb;clear BK556;obtain ⟨BK556,NB556_558,NB558_556⟩:=x_;have x_:=ol_ BK557 hg hb;clear BK557;obtain ⟨BK557,NB557_558,NB558_557⟩:=x_;clear hb hg;have hnb9:=NB556_557.out;have hnc9:=NB557_556.out;have hnb10:=NB556_558.out;have hnc10:=NB558_556.out;obtain ⟨hcz11_0,hcz11_1,hfz11_0,hfz11_1⟩:=c2_ BK556;have hnb12:=NB557_558.out;have hnc12:=NB558_557.out;obtain ⟨hcz13_0,hcz13_1,hfz13_0,hfz13_1⟩:=c2_ BK557))
  replace BK556:=dr_ BK556
  replace BK557:=dr_ BK557
  replace BK558:=dr_ BK558
  replace HB:=db_ HB
  refine start_ (n:=9) (S:=fun w'=>w'.cell? ⟨gb556,0,none⟩ = some (.bool a0_0)∧w'.cell? ⟨gb556,1,none⟩ = some (.slice A0_1 l0_1.length c0_1)∧w'.cell? ⟨gb557,0,none⟩ = some (.bool a1_0)∧w'.cell? ⟨gb557,1,none⟩ = some (.slice A1_1 l1_1.length c1_1)) (ds:=[]) #[false,false,false,false,false,false,false,false,false] kr_ rfl rfl hc_ (fun hHeld=>?_);refine with_tabW garboardref02_Plus.tab2 garboardref02_Plus.bits2 (fun HT_ HW_=>?_)
  generalize w8.drew = w14 at BK556 BK557 BK558 HB hHeld ⊢
  refine pu_ 0 (some 10) #[true,false,false,false,false,false,false,false,false] ?_
  refine pu_ 2 (some 12) #[true,false,true,false,false,false,false,false,false] ?_
  refine pu_ 4 (some 14) #[true,false,true,false,true,false,false,false,false] ?_
  refine tk4_ 1 (some 11) #[true,true,true,false,true,false,false,false,false] hHeld ?_
  refine tk4_ 3 (some 13) #[true,true,true,true,true,false,false,false,false] hHeld ?_
  refine tk4_ 5 (some 15) #[true,true,true,true,true,true,false,false,false] hHeld ?_
  refine oc_ 6 (some 16) #[true,true,true,true,true,true,true,false,false] Tryz.func79 #[.slice A0_1 l0_1.length c0_1,.slice A1_1 l1_1.length c1_1] (fun K hK=>?_)
  with_reducible refine (garboardref01_Plus.calls k _ _ l0_1 _ _ l1_1 t559 _ ?side1 ?side2 ?side3 ?side4 A4.out).mono ?_
  (case side1=>exact cx_ (Kd.C_below HR0_1.out HB.out))
  (case side2=>exact HC0_1.out)
  (case side3=>exact cx_ (Kd.C_below HR1_1.out HB.out))
  (case side4=>exact HC1_1.out)
  rintro e w15 ⟨v560,rfl,ho0,hb⟩
  refine ⟨_,rfl,?_⟩
  have HO561:=Aside0.mk (Kd.V_lower (Kd.V_mono (ok':=fun k_=>(w.heap.size≤k_)∧k_≠gb556∧k_≠gb557∧k_≠gb558) ho0 (fun k_ hk_=>⟨(Nat.le_trans (below_size bx_) hk_),(Kd.freshB (g:=gb556) (o:=.cells #[.bool a0_0,.slice A0_1 l0_1.length c0_1] 51 (0,0)) bk_ k_ hk_),(Kd.freshB (g:=gb557) (o:=.cells #[.bool a1_0,.slice A1_1 l1_1.length c1_1] 51 (0,0)) bk_ k_ hk_),(Kd.freshB (g:=gb558) (o:=.cells #[.bool false,.slice none 0 0] 51 (0,0)) bk_ k_ hk_)⟩)) (below_size bx_))
  replace BK556:=bb_ BK556 hb
  replace BK557:=bb_ BK557 hb
  replace BK558:=bb_ BK558 hb
  replace HB:=bs_ hb
  (try clear hb)
  (try clear ho0)
  obtain ⟨Ao16,co16,eo16⟩:=Kd.V_slice HO561.out
  (first|subst eo16|(injection eo16 with f1_ f2_ f3_;have f4_:=f1_.symm;have f5_:=f3_.symm;clear f1_ f2_ f3_;subst f4_;subst f5_))
  refine hk_ hK (fun hHeld=>?_);clear hK K
  refine oc_ 7 (some 17) #[true,true,true,true,true,true,true,true,false] Tryz.func44 #[.bool a0_0,.slice Ao16 t559.length co16] (fun K hK=>?_)
  with_reducible refine (garboardref02_Make.calls a0_0 (fun k_=>((w.heap.size≤k_)∧(k_≠gb556∧(k_≠gb557∧k_≠gb558)))) _ _ t559 t562 t563 _ ?side1 A5.out).mono ?_
  (case side1=>exact HO561.out)
  rintro e w17 ⟨v564,rfl,ho0,hb⟩
  refine ⟨_,rfl,?_⟩
  have HO565:=Aside0.mk (Kd.V_lower (Kd.V_mono (ok':=fun k_=>(w.heap.size≤k_)∧k_≠gb556∧k_≠gb557∧k_≠gb558) ho0 (fun k_ hk_=>⟨Or.elim hk_ (fun hs_=>hs_.1) (fun hn_=>(Nat.le_trans (below_size bx_) hn_)),Or.elim hk_ (fun hs_=>hs_.2.1) (fun hn_=>(Kd.freshB (g:=gb556) (o:=.cells #[.bool a0_0,.slice A0_1 l0_1.length c0_1] 51 (0,0)) bk_ k_ hn_)),Or.elim hk_ (fun hs_=>hs_.2.2.1) (fun hn_=>(Kd.freshB (g:=gb557) (o:=.cells #[.bool a1_0,.slice A1_1 l1_1.length c1_1] 51 (0,0)) bk_ k_ hn_)),Or.elim hk_ (fun hs_=>hs_.2.2.2) (fun hn_=>(Kd.freshB (g:=gb558) (o:=.cells #[.bool false,.slice none 0 0] 51 (0,0)) bk_ k_ hn_))⟩)) (below_size bx_))
  replace HO561:=vb_ HO561 hb
  replace BK556:=bb_ BK556 hb
  replace BK557:=bb_ BK557 hb
  replace BK558:=bb_ BK558 hb
  replace HB:=bs_ hb
  (try clear hb)
  (try clear ho0)
  obtain ⟨Ao19,co19,eo19⟩:=Kd.V_slice HO565.out
  (first|subst eo19|(injection eo19 with f1_ f2_ f3_;have f4_:=f1_.symm;have f5_:=f3_.symm;clear f1_ f2_ f3_;subst f4_;subst f5_))
  refine hk_ hK (fun hHeld=>?_);clear hK K
  refine one_ (i:=8) (N:=none) #[true,true,true,true,true,true,true,true,true] rfl rfl (one_of HT_.out kr_) de_ (fun K hK=>?_)
  have hs18:w17.cell? ⟨gb558,0,none⟩ = some (.bool false):=(blk_cell BK558.out 0).trans rfl
  have hfs18:=blk_frozen BK558.out 0
  have hns18_0:=NB556_558.out
  have hns18_1:=NB557_558.out
  have hms18_0:=NB558_556.out
  have hms18_1:=NB558_557.out
  have hs20:w17.cell? ⟨gb558,1,none⟩ = some (.slice none 0 0):=(blk_cell BK558.out 1).trans rfl
  have hfs20:=blk_frozen BK558.out 1
  have hns20_0:=NB556_558.out
  have hns20_1:=NB557_558.out
  have hms20_0:=NB558_556.out
  have hms20_1:=NB558_557.out
  refine skip_ (w1:=?_) (by rfl) rfl ?_ ?_
  rotate_left
  ·go_simp
   rfl
  refine hK.out _ _ ⟨((cell_far (p:=⟨gb558,_,none⟩) NB556_558.out _).trans (((cell_far (p:=⟨gb558,_,none⟩) NB556_558.out _).trans (hHeld.1)))),((cell_far (p:=⟨gb558,_,none⟩) NB556_558.out _).trans (((cell_far (p:=⟨gb558,_,none⟩) NB556_558.out _).trans (hHeld.2.1)))),((cell_far (p:=⟨gb558,_,none⟩) NB557_558.out _).trans (((cell_far (p:=⟨gb558,_,none⟩) NB557_558.out _).trans (hHeld.2.2.1)))),((cell_far (p:=⟨gb558,_,none⟩) NB557_558.out _).trans (((cell_far (p:=⟨gb558,_,none⟩) NB557_558.out _).trans (hHeld.2.2.2))))⟩ (fun hHeld=>?_)
  clear hK K
  refine done_ (done_of HT_.out kr_) ?_
  try go_wp2
  refine bodyPost_ret (results_cell_row rfl _ _ gb558 51 #[.bool t562,.slice Ao19 t563.length co19] (0,0) _ rfl bk_ Tryz.underlying51 rfl kr_) rfl ?_
  exact ⟨_,rf_,by (with_reducible repeat (first|apply Kd.V_alloc|apply Kd.V_drewN|apply Kd.V_drew));exact Kd.V_mono (Kd.V_far (p:=⟨gb558,1,none⟩) (Kd.V_far (p:=⟨gb558,0,none⟩) (Kd.V_mono HO565.out (fun k_ hk=>(⟨hk,hk.2.2.2⟩:_∧k_≠gb558))) (fun _ hk=>hk.2) (.bool t562)) (fun _ hk=>hk.2) (.slice Ao19 t563.length co19)) (fun _ hk=>hk.1.1),bx_⟩
 ·rw [if_neg c3] at H
  have c3b0:(a0_0 == a1_0) = false:=by simpa using c3
  (try (have c3b1:decide (a0_0 = a1_0) = false:=by simpa using c3))
  (try (have c3b2:(a0_0 == a1_0) = false:=by simpa using c3))
  (try (have c3b3:¬ (a0_0 = a1_0):=by simpa using c3))
  clear c3
  obtain ⟨t566,A21,H⟩:=bn_ H
  by_cases c22:t566 ≥ 0
  ·rw [if_pos c22] at H
   have c22b0:decide (0≤t566) = true:=decide_eq_true c22
   clear c22
   obtain ⟨t567,A23,H⟩:=bn_ H
   obtain ⟨⟨t570,t571⟩,A24,H⟩:=bn_ H
   dsimp only at H
   simp only [Option.some.injEq,Prod.mk.injEq] at H
   obtain ⟨rfl,rfl⟩:=H
   go_enter Tryz.func55,Tryz.ntmps55
   try go_wp2_with (first|((with_reducible refine gate_dst (N:=2) rfl ?_);refine bv_ #[.bool a0_0,.slice A0_1 l0_1.length c0_1] 51 ?_;clear HB;intro gb556 hg w25 BK556 GE556 hb HB;clear hb hg)|((with_reducible refine gate_dst (N:=3) rfl ?_);refine bv_ #[.bool a1_0,.slice A1_1 l1_1.length c1_1] 51 ?_;clear HB;intro gb557 hg w26 BK557 GE557 hb HB;have x_:=ol_ BK556 hg hb;clear BK556;obtain ⟨BK556,NB556_557,NB557_556⟩:=x_;clear hb hg)|((with_reducible refine gate_dst (N:=4) rfl ?_);refine bv_ #[.bool false,.slice none 0 0] 51 ?_;clear HB;intro gb558 hg w27 BK558 GE558 hb HB;have x_:=ol_ BK556 hg hb;clear BK556;obtain ⟨BK556,NB556_558,NB558_556⟩:=x_;have x_:=ol_ BK557 hg hb;clear BK557;obtain ⟨BK557,NB557_558,NB558_557⟩:=x_;clear hb hg;have hnb28:=NB556_557.out;have hnc28:=NB557_556.out;have hnb29:=NB556_558.out;have hnc29:=NB558_556.out;obtain ⟨hcz30_0,hcz30_1,hfz30_0,hfz30_1⟩:=c2_ BK556;have hnb31:=NB557_558.out;have hnc31:=NB558_557.out;obtain ⟨hcz32_0,hcz32_1,hfz32_0,hfz32_1⟩:=c2_ BK557)|((with_reducible refine gate_callee (f:=80) rfl ?_);refine gm_ (some 22) Tryz.func80 #[.slice A0_1 l0_1.length c0_1,.slice A1_1 l1_1.length c1_1] ?_;(with_reducible refine (garboardref01_Cmp.calls k _ _ l0_1 _ _ l1_1 t566 _ ?side1 ?side2 ?side3 ?side4 A21.out).mono ?_);(case side1=>exact cx_ (Kd.C_below HR0_1.out HB.out));(case side2=>exact HC0_1.out);(case side3=>exact cx_ (Kd.C_below HR1_1.out HB.out));(case side4=>exact HC1_1.out);rintro e w' ⟨rfl,⟨nd,rfl⟩⟩;refine ⟨_,rfl,?_⟩;(try (rw [drewN_self w27];generalize hq_:World.drewN w27 _ = w27;have n0_:Aside0 (w27.heap[gb556]? = some (.cells #[.bool a0_0,.slice A0_1 l0_1.length c0_1] 51 (0,0))):=⟨by rw [← hq_];exact bk_⟩;have n1_:Aside0 (w27.heap[gb557]? = some (.cells #[.bool a1_0,.slice A1_1 l1_1.length c1_1] 51 (0,0))):=⟨by rw [← hq_];exact bk_⟩;have n2_:Aside0 (w27.heap[gb558]? = some (.cells #[.bool false,.slice none 0 0] 51 (0,0))):=⟨by rw [← hq_];exact bk_⟩;have n3_:Aside0 (Below w.heap.size w w27):=⟨by rw [← hq_];exact bx_⟩;clear BK556 BK557 BK558 HB hq_;have BK556:=n0_;have BK557:=n1_;have BK558:=n2_;have HB:=n3_;clear n0_ n1_ n2_ n3_))))
   replace BK556:=dr_ BK556
   replace BK557:=dr_ BK557
   replace BK558:=dr_ BK558
   replace HB:=db_ HB
   refine start_ (n:=9) (S:=fun w'=>w'.cell? ⟨gb556,0,none⟩ = some (.bool a0_0)∧w'.cell? ⟨gb556,1,none⟩ = some (.slice A0_1 l0_1.length c0_1)∧w'.cell? ⟨gb557,0,none⟩ = some (.bool a1_0)∧w'.cell? ⟨gb557,1,none⟩ = some (.slice A1_1 l1_1.length c1_1)) (ds:=[]) #[false,false,false,false,false,false,false,false,false] kr_ rfl rfl hc_ (fun hHeld=>?_);refine with_tabW garboardref02_Plus.tab4 garboardref02_Plus.bits4 (fun HT_ HW_=>?_)
   generalize w27.drew = w33 at BK556 BK557 BK558 HB hHeld ⊢
   refine pu_ 0 (some 24) #[true,false,false,false,false,false,false,false,false] ?_
   refine pu_ 2 (some 26) #[true,false,true,false,false,false,false,false,false] ?_
   refine pu_ 4 (some 28) #[true,false,true,false,true,false,false,false,false] ?_
   refine tk4_ 1 (some 25) #[true,true,true,false,true,false,false,false,false] hHeld ?_
   refine tk4_ 3 (some 27) #[true,true,true,true,true,false,false,false,false] hHeld ?_
   refine tk4_ 5 (some 29) #[true,true,true,true,true,true,false,false,false] hHeld ?_
   refine oc_ 6 (some 30) #[true,true,true,true,true,true,true,false,false] Tryz.func81 #[.slice A0_1 l0_1.length c0_1,.slice A1_1 l1_1.length c1_1] (fun K hK=>?_)
   with_reducible refine (garboardref01_Minus.calls k _ _ l0_1 _ _ l1_1 t567 _ ?side1 ?side2 ?side3 ?side4 A23.out).mono ?_
   (case side1=>exact cx_ (Kd.C_below HR0_1.out HB.out))
   (case side2=>exact HC0_1.out)
   (case side3=>exact cx_ (Kd.C_below HR1_1.out HB.out))
   (case side4=>exact HC1_1.out)
   rintro e w34 ⟨v568,rfl,ho0,hb⟩
   refine ⟨_,rfl,?_⟩
   have HO569:=Aside0.mk (Kd.V_lower (Kd.V_mono (ok':=fun k_=>(w.heap.size≤k_)∧k_≠gb556∧k_≠gb557∧k_≠gb558) ho0 (fun k_ hk_=>⟨(Nat.le_trans (below_size bx_) hk_),(Kd.freshB (g:=gb556) (o:=.cells #[.bool a0_0,.slice A0_1 l0_1.length c0_1] 51 (0,0)) bk_ k_ hk_),(Kd.freshB (g:=gb557) (o:=.cells #[.bool a1_0,.slice A1_1 l1_1.length c1_1] 51 (0,0)) bk_ k_ hk_),(Kd.freshB (g:=gb558) (o:=.cells #[.bool false,.slice none 0 0] 51 (0,0)) bk_ k_ hk_)⟩)) (below_size bx_))
   replace BK556:=bb_ BK556 hb
   replace BK557:=bb_ BK557 hb
   replace BK558:=bb_ BK558 hb
   replace HB:=bs_ hb
   (try clear hb)
   (try clear ho0)
   obtain ⟨Ao35,co35,eo35⟩:=Kd.V_slice HO569.out
   (first|subst eo35|(injection eo35 with f1_ f2_ f3_;have f4_:=f1_.symm;have f5_:=f3_.symm;clear f1_ f2_ f3_;subst f4_;subst f5_))
   refine hk_ hK (fun hHeld=>?_);clear hK K
   refine oc_ 7 (some 31) #[true,true,true,true,true,true,true,true,false] Tryz.func44 #[.bool a0_0,.slice Ao35 t567.length co35] (fun K hK=>?_)
   with_reducible refine (garboardref02_Make.calls a0_0 (fun k_=>((w.heap.size≤k_)∧(k_≠gb556∧(k_≠gb557∧k_≠gb558)))) _ _ t567 t570 t571 _ ?side1 A24.out).mono ?_
   (case side1=>exact HO569.out)
   rintro e w36 ⟨v572,rfl,ho0,hb⟩
   refine ⟨_,rfl,?_⟩
   have HO573:=Aside0.mk (Kd.V_lower (Kd.V_mono (ok':=fun k_=>(w.heap.size≤k_)∧k_≠gb556∧k_≠gb557∧k_≠gb558) ho0 (fun k_ hk_=>⟨Or.elim hk_ (fun hs_=>hs_.1) (fun hn_=>(Nat.le_trans (below_size bx_) hn_)),Or.elim hk_ (fun hs_=>hs_.2.1) (fun hn_=>(Kd.freshB (g:=gb556) (o:=.cells #[.bool a0_0,.slice A0_1 l0_1.length c0_1] 51 (0,0)) bk_ k_ hn_)),Or.elim hk_ (fun hs_=>hs_.2.2.1) (fun hn_=>(Kd.freshB (g:=gb557) (o:=.cells #[.bool a1_0,.slice A1_1 l1_1.length c1_1] 51 (0,0)) bk_ k_ hn_)),Or.elim hk_ (fun hs_=>hs_.2.2.2) (fun hn_=>(Kd.freshB (g:=gb558) (o:=.cells #[.bool false,.slice none 0 0] 51 (0,0)) bk_ k_ hn_))⟩)) (below_size bx_))
   replace HO569:=vb_ HO569 hb
   replace BK556:=bb_ BK556 hb
   replace BK557:=bb_ BK557 hb
   replace BK558:=bb_ BK558 hb
   replace HB:=bs_ hb
   (try clear hb)
   (try clear ho0)
   obtain ⟨Ao38,co38,eo38⟩:=Kd.V_slice HO573.out
   (first|subst eo38|(injection eo38 with f1_ f2_ f3_;have f4_:=f1_.symm;have f5_:=f3_.symm;clear f1_ f2_ f3_;subst f4_;subst f5_))
   refine hk_ hK (fun hHeld=>?_);clear hK K
   refine one_ (i:=8) (N:=none) #[true,true,true,true,true,true,true,true,true] rfl rfl (one_of HT_.out kr_) de_ (fun K hK=>?_)
   have hs37:w36.cell? ⟨gb558,0,none⟩ = some (.bool false):=(blk_cell BK558.out 0).trans rfl
   have hfs37:=blk_frozen BK558.out 0
   have hns37_0:=NB556_558.out
   have hns37_1:=NB557_558.out
   have hms37_0:=NB558_556.out
   have hms37_1:=NB558_557.out
   have hs39:w36.cell? ⟨gb558,1,none⟩ = some (.slice none 0 0):=(blk_cell BK558.out 1).trans rfl
   have hfs39:=blk_frozen BK558.out 1
   have hns39_0:=NB556_558.out
   have hns39_1:=NB557_558.out
   have hms39_0:=NB558_556.out
   have hms39_1:=NB558_557.out
   refine skip_ (w1:=?_) (by rfl) rfl ?_ ?_
   rotate_left
   ·go_simp
    rfl
   refine hK.out _ _ ⟨((cell_far (p:=⟨gb558,_,none⟩) NB556_558.out _).trans (((cell_far (p:=⟨gb558,_,none⟩) NB556_558.out _).trans (hHeld.1)))),((cell_far (p:=⟨gb558,_,none⟩) NB556_558.out _).trans (((cell_far (p:=⟨gb558,_,none⟩) NB556_558.out _).trans (hHeld.2.1)))),((cell_far (p:=⟨gb558,_,none⟩) NB557_558.out _).trans (((cell_far (p:=⟨gb558,_,none⟩) NB557_558.out _).trans (hHeld.2.2.1)))),((cell_far (p:=⟨gb558,_,none⟩) NB557_558.out _).trans (((cell_far (p:=⟨gb558,_,none⟩) NB557_558.out _).trans (hHeld.2.2.2))))⟩ (fun hHeld=>?_)
   clear hK K
   refine done_ (done_of HT_.out kr_) ?_
   try go_wp2
   refine bodyPost_ret (results_cell_row rfl _ _ gb558 51 #[.bool t570,.slice Ao38 t571.length co38] (0,0) _ rfl bk_ Tryz.underlying51 rfl kr_) rfl ?_
   exact ⟨_,rf_,by (with_reducible repeat (first|apply Kd.V_alloc|apply Kd.V_drewN|apply Kd.V_drew));exact Kd.V_mono (Kd.V_far (p:=⟨gb558,1,none⟩) (Kd.V_far (p:=⟨gb558,0,none⟩) (Kd.V_mono HO573.out (fun k_ hk=>(⟨hk,hk.2.2.2⟩:_∧k_≠gb558))) (fun _ hk=>hk.2) (.bool t570)) (fun _ hk=>hk.2) (.slice Ao38 t571.length co38)) (fun _ hk=>hk.1.1),bx_⟩
  ·rw [if_neg c22] at H
   have c22b0:decide (0≤t566) = false:=decide_eq_false c22
   clear c22
   obtain ⟨t574,A40,H⟩:=bn_ H
   obtain ⟨⟨t577,t578⟩,A41,H⟩:=bn_ H
   dsimp only at H
   simp only [Option.some.injEq,Prod.mk.injEq] at H
   obtain ⟨rfl,rfl⟩:=H
   go_enter Tryz.func55,Tryz.ntmps55
   try go_wp2_with (first|((with_reducible refine gate_dst (N:=2) rfl ?_);refine bv_ #[.bool a0_0,.slice A0_1 l0_1.length c0_1] 51 ?_;clear HB;intro gb556 hg w42 BK556 GE556 hb HB;clear hb hg)|((with_reducible refine gate_dst (N:=3) rfl ?_);refine bv_ #[.bool a1_0,.slice A1_1 l1_1.length c1_1] 51 ?_;clear HB;intro gb557 hg w43 BK557 GE557 hb HB;have x_:=ol_ BK556 hg hb;clear BK556;obtain ⟨BK556,NB556_557,NB557_556⟩:=x_;clear hb hg)|((with_reducible refine gate_dst (N:=4) rfl ?_);refine bv_ #[.bool false,.slice none 0 0] 51 ?_;clear HB;intro gb558 hg w44 BK558 GE558 hb HB;have x_:=ol_ BK556 hg hb;clear BK556;obtain ⟨BK556,NB556_558,NB558_556⟩:=x_;have x_:=ol_ BK557 hg hb;clear BK557;obtain ⟨BK557,NB557_558,NB558_557⟩:=x_;clear hb hg;have hnb45:=NB556_557.out;have hnc45:=NB557_556.out;have hnb46:=NB556_558.out;have hnc46:=NB558_556.out;obtain ⟨hcz47_0,hcz47_1,hfz47_0,hfz47_1⟩:=c2_ BK556;have hnb48:=NB557_558.out;have hnc48:=NB558_557.out;obtain ⟨hcz49_0,hcz49_1,hfz49_0,hfz49_1⟩:=c2_ BK557)|((with_reducible refine gate_callee (f:=80) rfl ?_);refine gm_ (some 22) Tryz.func80 #[.slice A0_1 l0_1.length c0_1,.slice A1_1 l1_1.length c1_1] ?_;(with_reducible refine (garboardref01_Cmp.calls k _ _ l0_1 _ _ l1_1 t566 _ ?side1 ?side2 ?side3 ?side4 A21.out).mono ?_);(case side1=>exact cx_ (Kd.C_below HR0_1.out HB.out));(case side2=>exact HC0_1.out);(case side3=>exact cx_ (Kd.C_below HR1_1.out HB.out));(case side4=>exact HC1_1.out);rintro e w' ⟨rfl,⟨nd,rfl⟩⟩;refine ⟨_,rfl,?_⟩;(try (rw [drewN_self w44];generalize hq_:World.drewN w44 _ = w44;have n0_:Aside0 (w44.heap[gb556]? = some (.cells #[.bool a0_0,.slice A0_1 l0_1.length c0_1] 51 (0,0))):=⟨by rw [← hq_];exact bk_⟩;have n1_:Aside0 (w44.heap[gb557]? = some (.cells #[.bool a1_0,.slice A1_1 l1_1.length c1_1] 51 (0,0))):=⟨by rw [← hq_];exact bk_⟩;have n2_:Aside0 (w44.heap[gb558]? = some (.cells #[.bool false,.slice none 0 0] 51 (0,0))):=⟨by rw [← hq_];exact bk_⟩;have n3_:Aside0 (Below w.heap.size w w44):=⟨by rw [← hq_];exact bx_⟩;clear BK556 BK557 BK558 HB hq_;have BK556:=n0_;have BK557:=n1_;have BK558:=n2_;have HB:=n3_;clear n0_ n1_ n2_ n3_))))
   replace BK556:=dr_ BK556
   replace BK557:=dr_ BK557
   replace BK558:=dr_ BK558
   replace HB:=db_ HB
   refine start_ (n:=9) (S:=fun w'=>w'.cell? ⟨gb557,0,none⟩ = some (.bool a1_0)∧w'.cell? ⟨gb557,1,none⟩ = some (.slice A1_1 l1_1.length c1_1)∧w'.cell? ⟨gb556,0,none⟩ = some (.bool a0_0)∧w'.cell? ⟨gb556,1,none⟩ = some (.slice A0_1 l0_1.length c0_1)) (ds:=[]) #[false,false,false,false,false,false,false,false,false] kr_ rfl rfl hc_ (fun hHeld=>?_);refine with_tabW garboardref02_Plus.tab5 garboardref02_Plus.bits5 (fun HT_ HW_=>?_)
   generalize w44.drew = w50 at BK556 BK557 BK558 HB hHeld ⊢
   refine pu_ 0 (some 32) #[true,false,false,false,false,false,false,false,false] ?_
   refine pu_ 2 (some 34) #[true,false,true,false,false,false,false,false,false] ?_
   refine pu_ 4 (some 36) #[true,false,true,false,true,false,false,false,false] ?_
   refine tk4_ 1 (some 33) #[true,true,true,false,true,false,false,false,false] hHeld ?_
   refine tk4_ 3 (some 35) #[true,true,true,true,true,false,false,false,false] hHeld ?_
   refine tk4_ 5 (some 37) #[true,true,true,true,true,true,false,false,false] hHeld ?_
   refine oc_ 6 (some 38) #[true,true,true,true,true,true,true,false,false] Tryz.func81 #[.slice A1_1 l1_1.length c1_1,.slice A0_1 l0_1.length c0_1] (fun K hK=>?_)
   with_reducible refine (garboardref01_Minus.calls k _ _ l1_1 _ _ l0_1 t574 _ ?side1 ?side2 ?side3 ?side4 A40.out).mono ?_
   (case side1=>exact cx_ (Kd.C_below HR1_1.out HB.out))
   (case side2=>exact HC1_1.out)
   (case side3=>exact cx_ (Kd.C_below HR0_1.out HB.out))
   (case side4=>exact HC0_1.out)
   rintro e w51 ⟨v575,rfl,ho0,hb⟩
   refine ⟨_,rfl,?_⟩
   have HO576:=Aside0.mk (Kd.V_lower (Kd.V_mono (ok':=fun k_=>(w.heap.size≤k_)∧k_≠gb556∧k_≠gb557∧k_≠gb558) ho0 (fun k_ hk_=>⟨(Nat.le_trans (below_size bx_) hk_),(Kd.freshB (g:=gb556) (o:=.cells #[.bool a0_0,.slice A0_1 l0_1.length c0_1] 51 (0,0)) bk_ k_ hk_),(Kd.freshB (g:=gb557) (o:=.cells #[.bool a1_0,.slice A1_1 l1_1.length c1_1] 51 (0,0)) bk_ k_ hk_),(Kd.freshB (g:=gb558) (o:=.cells #[.bool false,.slice none 0 0] 51 (0,0)) bk_ k_ hk_)⟩)) (below_size bx_))
   replace BK556:=bb_ BK556 hb
   replace BK557:=bb_ BK557 hb
   replace BK558:=bb_ BK558 hb
   replace HB:=bs_ hb
   (try clear hb)
   (try clear ho0)
   obtain ⟨Ao52,co52,eo52⟩:=Kd.V_slice HO576.out
   (first|subst eo52|(injection eo52 with f1_ f2_ f3_;have f4_:=f1_.symm;have f5_:=f3_.symm;clear f1_ f2_ f3_;subst f4_;subst f5_))
   refine hk_ hK (fun hHeld=>?_);clear hK K
   refine oc_ 7 (some 39) #[true,true,true,true,true,true,true,true,false] Tryz.func44 #[.bool a1_0,.slice Ao52 t574.length co52] (fun K hK=>?_)
   with_reducible refine (garboardref02_Make.calls a1_0 (fun k_=>((w.heap.size≤k_)∧(k_≠gb556∧(k_≠gb557∧k_≠gb558)))) _ _ t574 t577 t578 _ ?side1 A41.out).mono ?_
   (case side1=>exact HO576.out)
   rintro e w53 ⟨v579,rfl,ho0,hb⟩
   refine ⟨_,rfl,?_⟩
   have HO580:=Aside0.mk (Kd.V_lower (Kd.V_mono (ok':=fun k_=>(w.heap.size≤k_)∧k_≠gb556∧k_≠gb557∧k_≠gb558) ho0 (fun k_ hk_=>⟨Or.elim hk_ (fun hs_=>hs_.1) (fun hn_=>(Nat.le_trans (below_size bx_) hn_)),Or.elim hk_ (fun hs_=>hs_.2.1) (fun hn_=>(Kd.freshB (g:=gb556) (o:=.cells #[.bool a0_0,.slice A0_1 l0_1.length c0_1] 51 (0,0)) bk_ k_ hn_)),Or.elim hk_ (fun hs_=>hs_.2.2.1) (fun hn_=>(Kd.freshB (g:=gb557) (o:=.cells #[.bool a1_0,.slice A1_1 l1_1.length c1_1] 51 (0,0)) bk_ k_ hn_)),Or.elim hk_ (fun hs_=>hs_.2.2.2) (fun hn_=>(Kd.freshB (g:=gb558) (o:=.cells #[.bool false,.slice none 0 0] 51 (0,0)) bk_ k_ hn_))⟩)) (below_size bx_))
   replace HO576:=vb_ HO576 hb
   replace BK556:=bb_ BK556 hb
   replace BK557:=bb_ BK557 hb
   replace BK558:=bb_ BK558 hb
   replace HB:=bs_ hb
   (try clear hb)
   (try clear ho0)
   obtain ⟨Ao55,co55,eo55⟩:=Kd.V_slice HO580.out
   (first|subst eo55|(injection eo55 with f1_ f2_ f3_;have f4_:=f1_.symm;have f5_:=f3_.symm;clear f1_ f2_ f3_;subst f4_;subst f5_))
   refine hk_ hK (fun hHeld=>?_);clear hK K
   refine one_ (i:=8) (N:=none) #[true,true,true,true,true,true,true,true,true] rfl rfl (one_of HT_.out kr_) de_ (fun K hK=>?_)
   have hs54:w53.cell? ⟨gb558,0,none⟩ = some (.bool false):=(blk_cell BK558.out 0).trans rfl
   have hfs54:=blk_frozen BK558.out 0
   have hns54_0:=NB556_558.out
   have hns54_1:=NB557_558.out
   have hms54_0:=NB558_556.out
   have hms54_1:=NB558_557.out
   have hs56:w53.cell? ⟨gb558,1,none⟩ = some (.slice none 0 0):=(blk_cell BK558.out 1).trans rfl
   have hfs56:=blk_frozen BK558.out 1
   have hns56_0:=NB556_558.out
   have hns56_1:=NB557_558.out
   have hms56_0:=NB558_556.out
   have hms56_1:=NB558_557.out
   refine skip_ (w1:=?_) (by rfl) rfl ?_ ?_
   rotate_left
   ·go_simp
    rfl
   refine hK.out _ _ ⟨((cell_far (p:=⟨gb558,_,none⟩) NB557_558.out _).trans (((cell_far (p:=⟨gb558,_,none⟩) NB557_558.out _).trans (hHeld.1)))),((cell_far (p:=⟨gb558,_,none⟩) NB557_558.out _).trans (((cell_far (p:=⟨gb558,_,none⟩) NB557_558.out _).trans (hHeld.2.1)))),((cell_far (p:=⟨gb558,_,none⟩) NB556_558.out _).trans (((cell_far (p:=⟨gb558,_,none⟩) NB556_558.out _).trans (hHeld.2.2.1)))),((cell_far (p:=⟨gb558,_,none⟩) NB556_558.out _).trans (((cell_far (p:=⟨gb558,_,none⟩) NB556_558.out _).trans (hHeld.2.2.2))))⟩ (fun hHeld=>?_)
   clear hK K
   refine done_ (done_of HT_.out kr_) ?_
   try go_wp2
   refine bodyPost_ret (results_cell_row rfl _ _ gb558 51 #[.bool t577,.slice Ao55 t578.length co55] (0,0) _ rfl bk_ Tryz.underlying51 rfl kr_) rfl ?_
   exact ⟨_,rf_,by (with_reducible repeat (first|apply Kd.V_alloc|apply Kd.V_drewN|apply Kd.V_drew));exact Kd.V_mono (Kd.V_far (p:=⟨gb558,1,none⟩) (Kd.V_far (p:=⟨gb558,0,none⟩) (Kd.V_mono HO580.out (fun k_ hk=>(⟨hk,hk.2.2.2⟩:_∧k_≠gb558))) (fun _ hk=>hk.2) (.bool t577)) (fun _ hk=>hk.2) (.slice Ao55 t578.length co55)) (fun _ hk=>hk.1.1),bx_⟩
end Go.Proofs.YtaknchlegjcdhaaGreatDoor.Pr
namespace Go.Proofs.YtaknchlegjcdhaaGreatDoor.Pr
open Go.RowKit Go.Proofs.YtaknchlegjcdhaaGreatDoorW.PrintWords Go.Proofs.YtaknchlegjcdhaaGreatDoorW.PrintLast Go.Proofs.YtaknchlegjcdhaaGreatDoorW.PrintMore
attribute [local go_sem] max2_int min2_int max_two min_two max_three min_three max_four min_four
set_option maxHeartbeats 8000000
set_option maxRecDepth 100000
set_option linter.unusedVariables false
set_option linter.unusedSimpArgs false
def garboardref02_Minus.f (k:Nat) (a0_0:Bool) (l0_1:List Int) (a1_0:Bool) (l1_1:List Int):Option (Bool × List Int):=(garboardref02_Opposite.f a1_0 l1_1).bind fun bt584=>((garboardref02_Plus.f k a0_0 l0_1 bt584.1 bt584.2).bind fun bt588=>(some (bt588.1,bt588.2)))
theorem garboardref02_Minus.calls (k:Nat) (a0_0:Bool) (A0_1:Option Addr) (c0_1:Nat) (l0_1:List Int) (a1_0:Bool) (P1_1_:Nat→Prop) (A1_1:Option Addr) (c1_1:Nat) (l1_1:List Int) (r1:Bool) (r2:List Int) (w:World) (hr0_1:Kd.C (Kd.int .u32) w A0_1 l0_1.length l0_1) (hc0_1:l0_1.length≤c0_1) (hs1_1:Kd.V (Kd.int .u32) 95 w w.heap.size (fun k_=>P1_1_ k_) (.slice A1_1 l1_1.length c1_1) l1_1) (h:garboardref02_Minus.f k a0_0 l0_1 a1_0 l1_1 = some (r1,r2)) :
  Calls Tryz.prog 56 #[.agg #[.bool a0_0,.slice A0_1 l0_1.length c0_1],.agg #[.bool a1_0,.slice A1_1 l1_1.length c1_1]] w fun e w'=>∃ v1_:Value,e = .returned (.agg #[.bool r1,v1_])∧Kd.V (Kd.int .u32) 95 w' w.heap.size (fun k_=>(P1_1_ k_ ∨ w.heap.size≤k_)) v1_ r2∧Below w.heap.size w w':=by
 have hu51:=Tryz.underlying51
 have HR0_1:=Aside0.mk hr0_1
 have HC0_1:=Aside0.mk hc0_1
 clear hr0_1 hc0_1
 have HO1_1:=Aside0.mk (show Kd.V (Kd.int .u32) 95 w w.heap.size (fun k_=>(P1_1_ k_ ∨ w.heap.size≤k_)) (.slice A1_1 l1_1.length c1_1) l1_1 from Kd.V_mono hs1_1 (fun k_ hk=>.inl hk))
 have HB:=Aside0.mk (Below.refl w.heap.size w)
 have H:((garboardref02_Opposite.f a1_0 l1_1).bind fun bt584=>((garboardref02_Plus.f k a0_0 l0_1 bt584.1 bt584.2).bind fun bt588=>(some (bt588.1,bt588.2)))) = some (r1,r2):=h
 clear h
 obtain ⟨⟨t584,t585⟩,A3,H⟩:=bn_ H
 dsimp only at H
 obtain ⟨⟨t588,t589⟩,A4,H⟩:=bn_ H
 dsimp only at H
 simp only [Option.some.injEq,Prod.mk.injEq] at H
 obtain ⟨rfl,rfl⟩:=H
 go_enter Tryz.func56,Tryz.ntmps56
 try go_wp2_with (first|((with_reducible refine gate_dst (N:=2) rfl ?_);refine bv_ #[.bool a0_0,.slice A0_1 l0_1.length c0_1] 51 ?_;clear HB;intro gb581 hg w5 BK581 GE581 hb HB;replace HO1_1:=Aside0.mk (Kd.V_below (Kd.V_elderB (by (with_reducible repeat (first|apply Kd.V_alloc|apply Kd.V_drewN|apply Kd.V_drew));exact HO1_1.out) gb581 (Nat.le_of_eq hg.symm)) hb);clear hb hg)|((with_reducible refine gate_dst (N:=3) rfl ?_);refine bv_ #[.bool a1_0,.slice A1_1 l1_1.length c1_1] 51 ?_;clear HB;intro gb582 hg w6 BK582 GE582 hb HB;have x_:=ol_ BK581 hg hb;clear BK581;obtain ⟨BK581,NB581_582,NB582_581⟩:=x_;replace HO1_1:=Aside0.mk (Kd.V_below (Kd.V_elderB (by (with_reducible repeat (first|apply Kd.V_alloc|apply Kd.V_drewN|apply Kd.V_drew));exact HO1_1.out) gb582 (Nat.le_of_eq hg.symm)) hb);clear hb hg)|((with_reducible refine gate_dst (N:=4) rfl ?_);refine bv_ #[.bool false,.slice none 0 0] 51 ?_;clear HB;intro gb583 hg w7 BK583 GE583 hb HB;have x_:=ol_ BK581 hg hb;clear BK581;obtain ⟨BK581,NB581_583,NB583_581⟩:=x_;have x_:=ol_ BK582 hg hb;clear BK582;obtain ⟨BK582,NB582_583,NB583_582⟩:=x_;replace HO1_1:=Aside0.mk (Kd.V_below (Kd.V_elderB (by (with_reducible repeat (first|apply Kd.V_alloc|apply Kd.V_drewN|apply Kd.V_drew));exact HO1_1.out) gb583 (Nat.le_of_eq hg.symm)) hb);clear hb hg))
 replace HO1_1:=Aside0.mk (Kd.V_drew HO1_1.out)
 replace BK581:=dr_ BK581
 replace BK582:=dr_ BK582
 replace BK583:=dr_ BK583
 replace HB:=db_ HB
 refine start_ (n:=5) (S:=fun w'=>w'.cell? ⟨gb581,0,none⟩ = some (.bool a0_0)∧w'.cell? ⟨gb581,1,none⟩ = some (.slice A0_1 l0_1.length c0_1)∧w'.cell? ⟨gb582,0,none⟩ = some (.bool a1_0)∧w'.cell? ⟨gb582,1,none⟩ = some (.slice A1_1 l1_1.length c1_1)) (ds:=[]) #[false,false,false,false,false] kr_ rfl rfl hc_ (fun hHeld=>?_)
 generalize w7.drew = w8 at HO1_1 BK581 BK582 BK583 HB hHeld ⊢
 refine tk4_ 0 (some 5) #[true,false,false,false,false] hHeld ?_
 refine tk4_ 1 (some 6) #[true,true,false,false,false] hHeld ?_
 refine oc_ 2 (some 7) #[true,true,true,false,false] Tryz.func47 #[.agg #[.bool a1_0,.slice A1_1 l1_1.length c1_1]] (fun K hK=>?_)
 with_reducible refine (garboardref02_Opposite.calls a1_0 (fun k_=>((((P1_1_ k_ ∨ w.heap.size≤k_)∧k_≠gb581)∧k_≠gb582)∧k_≠gb583)) _ _ l1_1 t584 t585 _ ?side1 A3.out).mono ?_
 (case side1=>exact HO1_1.out)
 rintro e w9 ⟨v586,rfl,ho0,hb⟩
 refine ⟨_,rfl,?_⟩
 have HO587:=Aside0.mk (Kd.V_lower (Kd.V_mono (ok':=fun k_=>(P1_1_ k_ ∨ w.heap.size≤k_)∧k_≠gb581∧k_≠gb582∧k_≠gb583) ho0 (fun k_ hk_=>⟨Or.elim hk_ (fun hs_=>hs_.1.1.1) (fun hn_=>(.inr (Nat.le_trans (below_size bx_) hn_))),Or.elim hk_ (fun hs_=>hs_.1.1.2) (fun hn_=>(Kd.freshB (g:=gb581) (o:=.cells #[.bool a0_0,.slice A0_1 l0_1.length c0_1] 51 (0,0)) bk_ k_ hn_)),Or.elim hk_ (fun hs_=>hs_.1.2) (fun hn_=>(Kd.freshB (g:=gb582) (o:=.cells #[.bool a1_0,.slice A1_1 l1_1.length c1_1] 51 (0,0)) bk_ k_ hn_)),Or.elim hk_ (fun hs_=>hs_.2) (fun hn_=>(Kd.freshB (g:=gb583) (o:=.cells #[.bool false,.slice none 0 0] 51 (0,0)) bk_ k_ hn_))⟩)) (below_size bx_))
 replace HO1_1:=vb_ HO1_1 hb
 replace BK581:=bb_ BK581 hb
 replace BK582:=bb_ BK582 hb
 replace BK583:=bb_ BK583 hb
 replace HB:=bs_ hb
 (try clear hb)
 (try clear ho0)
 obtain ⟨Ao10,co10,eo10⟩:=Kd.V_slice HO587.out
 (first|subst eo10|(injection eo10 with f1_ f2_ f3_;have f4_:=f1_.symm;have f5_:=f3_.symm;clear f1_ f2_ f3_;subst f4_;subst f5_))
 refine hk_ hK (fun hHeld=>?_);clear hK K
 refine oc_ 3 (some 8) #[true,true,true,true,false] Tryz.func55 #[.agg #[.bool a0_0,.slice A0_1 l0_1.length c0_1],.agg #[.bool t584,.slice Ao10 t585.length co10]] (fun K hK=>?_)
 with_reducible refine (garboardref02_Plus.calls k a0_0 _ _ l0_1 t584 _ _ t585 t588 t589 _ ?side1 ?side2 ?side3 ?side4 A4.out).mono ?_
 (case side1=>exact cx_ (Kd.C_below HR0_1.out HB.out))
 (case side2=>exact HC0_1.out)
 (case side3=>exact cx_ ((Kd.V_reads' HO587.out).2.2))
 (case side4=>exact (Kd.V_reads' HO587.out).2.1)
 rintro e w11 ⟨v590,rfl,ho0,hb⟩
 refine ⟨_,rfl,?_⟩
 have HO591:=Aside0.mk (Kd.V_lower (Kd.V_mono (ok':=fun k_=>(P1_1_ k_ ∨ w.heap.size≤k_)∧k_≠gb581∧k_≠gb582∧k_≠gb583) ho0 (fun k_ hk_=>⟨(.inr (Nat.le_trans (below_size bx_) hk_)),(Kd.freshB (g:=gb581) (o:=.cells #[.bool a0_0,.slice A0_1 l0_1.length c0_1] 51 (0,0)) bk_ k_ hk_),(Kd.freshB (g:=gb582) (o:=.cells #[.bool a1_0,.slice A1_1 l1_1.length c1_1] 51 (0,0)) bk_ k_ hk_),(Kd.freshB (g:=gb583) (o:=.cells #[.bool false,.slice none 0 0] 51 (0,0)) bk_ k_ hk_)⟩)) (below_size bx_))
 replace HO1_1:=vb_ HO1_1 hb
 replace HO587:=vb_ HO587 hb
 replace BK581:=bb_ BK581 hb
 replace BK582:=bb_ BK582 hb
 replace BK583:=bb_ BK583 hb
 replace HB:=bs_ hb
 (try clear hb)
 (try clear ho0)
 obtain ⟨Ao13,co13,eo13⟩:=Kd.V_slice HO591.out
 (first|subst eo13|(injection eo13 with f1_ f2_ f3_;have f4_:=f1_.symm;have f5_:=f3_.symm;clear f1_ f2_ f3_;subst f4_;subst f5_))
 refine hk_ hK (fun hHeld=>?_);clear hK K
 refine one_ (i:=4) (N:=none) #[true,true,true,true,true] rfl rfl kr_ de_ (fun K hK=>?_)
 have hs12:w11.cell? ⟨gb583,0,none⟩ = some (.bool false):=(blk_cell BK583.out 0).trans rfl
 have hfs12:=blk_frozen BK583.out 0
 have hns12_0:=NB581_583.out
 have hns12_1:=NB582_583.out
 have hms12_0:=NB583_581.out
 have hms12_1:=NB583_582.out
 have hs14:w11.cell? ⟨gb583,1,none⟩ = some (.slice none 0 0):=(blk_cell BK583.out 1).trans rfl
 have hfs14:=blk_frozen BK583.out 1
 have hns14_0:=NB581_583.out
 have hns14_1:=NB582_583.out
 have hms14_0:=NB583_581.out
 have hms14_1:=NB583_582.out
 refine skip_ (w1:=?_) (by rfl) rfl ?_ ?_
 rotate_left
 ·go_simp
  rfl
 refine hK.out _ _ ⟨((cell_far (p:=⟨gb583,_,none⟩) NB581_583.out _).trans (((cell_far (p:=⟨gb583,_,none⟩) NB581_583.out _).trans (hHeld.1)))),((cell_far (p:=⟨gb583,_,none⟩) NB581_583.out _).trans (((cell_far (p:=⟨gb583,_,none⟩) NB581_583.out _).trans (hHeld.2.1)))),((cell_far (p:=⟨gb583,_,none⟩) NB582_583.out _).trans (((cell_far (p:=⟨gb583,_,none⟩) NB582_583.out _).trans (hHeld.2.2.1)))),((cell_far (p:=⟨gb583,_,none⟩) NB582_583.out _).trans (((cell_far (p:=⟨gb583,_,none⟩) NB582_583.out _).trans (hHeld.2.2.2))))⟩ (fun hHeld=>?_)
 clear hK K
 refine done_ kr_ ?_
 try go_wp2
 refine bodyPost_ret (results_cell_row rfl _ _ gb583 51 #[.bool t588,.slice Ao13 t589.length co13] (0,0) _ rfl bk_ Tryz.underlying51 rfl kr_) rfl ?_
 exact ⟨_,rf_,by (with_reducible repeat (first|apply Kd.V_alloc|apply Kd.V_drewN|apply Kd.V_drew));exact Kd.V_mono (Kd.V_far (p:=⟨gb583,1,none⟩) (Kd.V_far (p:=⟨gb583,0,none⟩) (Kd.V_mono HO591.out (fun k_ hk=>(⟨hk,hk.2.2.2⟩:_∧k_≠gb583))) (fun _ hk=>hk.2) (.bool t588)) (fun _ hk=>hk.2) (.slice Ao13 t589.length co13)) (fun _ hk=>hk.1.1),bx_⟩
end Go.Proofs.YtaknchlegjcdhaaGreatDoor.Pr
namespace Go.Proofs.YtaknchlegjcdhaaGreatDoor.Pr
open Go.RowKit Go.Proofs.YtaknchlegjcdhaaGreatDoorW.PrintWords Go.Proofs.YtaknchlegjcdhaaGreatDoorW.PrintLast Go.Proofs.YtaknchlegjcdhaaGreatDoorW.PrintMore
attribute [local go_sem] max2_int min2_int max_two min_two max_three min_three max_four min_four
set_option maxHeartbeats 8000000
set_option maxRecDepth 100000
set_option linter.unusedVariables false
set_option linter.unusedSimpArgs false
def garboardref02_Cmp.f (k:Nat) (a0_0:Bool) (l0_1:List Int) (a1_0:Bool) (l1_1:List Int):Option (Int):=(garboardref02_Minus.f k a0_0 l0_1 a1_0 l1_1).bind fun bt594=>((garboardref02_Signum.f bt594.1 bt594.2).bind fun t598=>(some t598))
theorem garboardref02_Cmp.calls (k:Nat) (a0_0:Bool) (A0_1:Option Addr) (c0_1:Nat) (l0_1:List Int) (a1_0:Bool) (A1_1:Option Addr) (c1_1:Nat) (l1_1:List Int) (r:Int) (w:World) (hr0_1:Kd.C (Kd.int .u32) w A0_1 l0_1.length l0_1) (hc0_1:l0_1.length≤c0_1) (hr1_1:Kd.C (Kd.int .u32) w A1_1 l1_1.length l1_1) (hc1_1:l1_1.length≤c1_1) (h:garboardref02_Cmp.f k a0_0 l0_1 a1_0 l1_1 = some r) :
  Calls Tryz.prog 54 #[.agg #[.bool a0_0,.slice A0_1 l0_1.length c0_1],.agg #[.bool a1_0,.slice A1_1 l1_1.length c1_1]] w fun e w'=>e = .returned (.int .i64 r)∧Below w.heap.size w w':=by
 have hu51:=Tryz.underlying51
 have HR0_1:=Aside0.mk hr0_1
 have HC0_1:=Aside0.mk hc0_1
 clear hr0_1 hc0_1
 have HR1_1:=Aside0.mk hr1_1
 have HC1_1:=Aside0.mk hc1_1
 clear hr1_1 hc1_1
 have HB:=Aside0.mk (Below.refl w.heap.size w)
 have H:((garboardref02_Minus.f k a0_0 l0_1 a1_0 l1_1).bind fun bt594=>((garboardref02_Signum.f bt594.1 bt594.2).bind fun t598=>(some t598))) = some r:=h
 clear h
 obtain ⟨⟨t594,t595⟩,A3,H⟩:=bn_ H
 dsimp only at H
 obtain ⟨t598,A4,H⟩:=bn_ H
 obtain rfl:=Option.some.inj H
 go_enter Tryz.func54,Tryz.ntmps54
 go_wp2_with (first|((with_reducible refine gate_dst (N:=2) rfl ?_);refine bv_ #[.bool a0_0,.slice A0_1 l0_1.length c0_1] 51 ?_;clear HB;intro gb592 hg w5 BK592 GE592 hb HB;clear hb hg)|((with_reducible refine gate_dst (N:=3) rfl ?_);refine bv_ #[.bool a1_0,.slice A1_1 l1_1.length c1_1] 51 ?_;clear HB;intro gb593 hg w6 BK593 GE593 hb HB;have x_:=ol_ BK592 hg hb;clear BK592;obtain ⟨BK592,NB592_593,NB593_592⟩:=x_;clear hb hg;have hnb7:=NB592_593.out;have hnc7:=NB593_592.out;obtain ⟨hcz8_0,hcz8_1,hfz8_0,hfz8_1⟩:=c2_ BK592;obtain ⟨hcz9_0,hcz9_1,hfz9_0,hfz9_1⟩:=c2_ BK593)|((with_reducible refine gate_callee (f:=56) rfl ?_);refine gm_ (some 7) Tryz.func56 #[.agg #[.bool a0_0,.slice A0_1 l0_1.length c0_1],.agg #[.bool a1_0,.slice A1_1 l1_1.length c1_1]] ?_;(with_reducible refine (garboardref02_Minus.calls k a0_0 _ _ l0_1 a1_0 (fun k_=>k_ < w.heap.size) _ _ l1_1 t594 t595 _ ?side1 ?side2 ?side3 A3.out).mono ?_);(case side1=>exact cx_ (Kd.C_below HR0_1.out HB.out));(case side2=>exact HC0_1.out);(case side3=>exact Kd.V_mk HC1_1.out (Kd.F_below (Kd.C_F (Kd.heap_int .u32) HR1_1.out) bx_));rintro e w10 ⟨v596,rfl,ho0,hb⟩;refine ⟨_,rfl,?_⟩;have HO597:=Aside0.mk (Kd.V_lower (Kd.V_mono (ok':=fun k_=>k_≠gb592∧k_≠gb593) ho0 (fun k_ hk_=>⟨Or.elim hk_ (fun hs_=>fun e_=>Nat.not_le.2 hs_ (by rw [e_];exact GE592.out)) (fun hn_=>(Kd.freshB (g:=gb592) (o:=.cells #[.bool a0_0,.slice A0_1 l0_1.length c0_1] 51 (0,0)) bk_ k_ hn_)),Or.elim hk_ (fun hs_=>fun e_=>Nat.not_le.2 hs_ (by rw [e_];exact GE593.out)) (fun hn_=>(Kd.freshB (g:=gb593) (o:=.cells #[.bool a1_0,.slice A1_1 l1_1.length c1_1] 51 (0,0)) bk_ k_ hn_))⟩)) (below_size bx_));replace BK592:=bb_ BK592 hb;replace BK593:=bb_ BK593 hb;replace HB:=bs_ hb;(try clear hb);(try clear ho0);obtain ⟨Ao11,co11,eo11⟩:=Kd.V_slice HO597.out;subst eo11)|((with_reducible refine gate_callee (f:=41) rfl ?_);refine gm_ (some 8) Tryz.func41 #[.agg #[.bool t594,.slice Ao11 t595.length co11]] ?_;(with_reducible refine (garboardref02_Signum.calls t594 _ _ t595 t598 _ ?side1 ?side2 A4.out).mono ?_);(case side1=>exact cx_ ((Kd.V_reads' HO597.out).2.2));(case side2=>exact (Kd.V_reads' HO597.out).2.1);rintro e w12 ⟨rfl,hb⟩;refine ⟨_,rfl,?_⟩;replace HO597:=vb_ HO597 hb;replace BK592:=bb_ BK592 hb;replace BK593:=bb_ BK593 hb;replace HB:=bs_ hb;(try clear hb)))
 go_ret
 exact ⟨rf_,bx_⟩
end Go.Proofs.YtaknchlegjcdhaaGreatDoor.Pr
namespace Go.Proofs.YtaknchlegjcdhaaGreatDoor.Pr
open Go.RowKit Go.Proofs.YtaknchlegjcdhaaGreatDoorW.PrintWords Go.Proofs.YtaknchlegjcdhaaGreatDoorW.PrintLast Go.Proofs.YtaknchlegjcdhaaGreatDoorW.PrintMore
attribute [local go_sem] max2_int min2_int max_two min_two max_three min_three max_four min_four
set_option maxHeartbeats 8000000
set_option maxRecDepth 100000
set_option linter.unusedVariables false
set_option linter.unusedSimpArgs false
def garboardref02_Compare.f (k:Nat) (a0:ByteArray) (a1:ByteArray):Option (Int × Int):=(garboardref02_both.f k a0 a1).bind fun bt599=>(if bt599.2.2.2.2 = 0 then ((garboardref02_Cmp.f k bt599.1 bt599.2.1 bt599.2.2.1 bt599.2.2.2.1).bind fun t610=>(some (t610,0))) else (some (0,bt599.2.2.2.2)))
theorem garboardref02_Compare.calls (k:Nat) (a0:ByteArray) (a1:ByteArray) (r1:Int) (r2:Int) (w:World) (h:garboardref02_Compare.f k a0 a1 = some (r1,r2)) :
  Calls Tryz.prog 23 #[.string a0,.string a1] w fun e w'=>e = .returned (.tuple #[.int .i64 r1,.int .i64 r2])∧Below w.heap.size w w':=by
 have hu51:=Tryz.underlying51
 have HB:=Aside0.mk (Below.refl w.heap.size w)
 have H:((garboardref02_both.f k a0 a1).bind fun bt599=>(if bt599.2.2.2.2 = 0 then ((garboardref02_Cmp.f k bt599.1 bt599.2.1 bt599.2.2.1 bt599.2.2.2.1).bind fun t610=>(some (t610,0))) else (some (0,bt599.2.2.2.2)))) = some (r1,r2):=h
 clear h
 obtain ⟨⟨t599,t600,t603,t604,t607⟩,A3,H⟩:=bn_ H
 dsimp only at H
 by_cases c4:t607 = 0
 ·rw [if_pos c4] at H
  have c4b0:(t607 == 0) = true:=beq_iff_eq.mpr c4
  have c4b1:(t607 != 0) = false:=bne_eq_false_iff_eq.mpr c4
  clear c4
  obtain ⟨t610,A5,H⟩:=bn_ H
  simp only [Option.some.injEq,Prod.mk.injEq] at H
  obtain ⟨rfl,rfl⟩:=H
  go_enter Tryz.func23,Tryz.ntmps23
  go_wp2_with (first|((with_reducible refine gate_callee (f:=53) rfl ?_);refine gm_ (some 12) Tryz.func53 #[.string a0,.string a1] ?_;(with_reducible refine (garboardref02_both.calls k a0 a1 t599 t600 t603 t604 t607 _ A3.out).mono ?_);rintro e w6 ⟨v601,v605,rfl,ho0,ho1,hb⟩;refine ⟨_,rfl,?_⟩;have HO602:=Aside0.mk (Kd.V_lower (Kd.V_mono (ok':=fun k_=>True) ho0 (fun k_ hk_=>trivial)) (below_size bx_));have HO606:=Aside0.mk (Kd.V_lower (Kd.V_mono (ok':=fun k_=>True) ho1 (fun k_ hk_=>trivial)) (below_size bx_));replace HB:=bs_ hb;(try clear hb);(try clear ho0);(try clear ho1))|((with_reducible refine gate_dst (N:=6) rfl ?_);refine bv_ #[.bool false,.slice none 0 0] 51 ?_;clear HB;intro gb608 hg w7 BK608 GE608 hb HB;replace HO602:=Aside0.mk (Kd.V_below (Kd.V_elderB (by (with_reducible repeat (first|apply Kd.V_alloc|apply Kd.V_drewN|apply Kd.V_drew));exact HO602.out) gb608 (Nat.le_of_eq hg.symm)) hb);replace HO606:=Aside0.mk (Kd.V_below (Kd.V_elderB (by (with_reducible repeat (first|apply Kd.V_alloc|apply Kd.V_drewN|apply Kd.V_drew));exact HO606.out) gb608 (Nat.le_of_eq hg.symm)) hb);clear hb hg)|((with_reducible refine gate_dst (N:=7) rfl ?_);refine bv_ #[.bool false,.slice none 0 0] 51 ?_;clear HB;intro gb609 hg w8 BK609 GE609 hb HB;have x_:=ol_ BK608 hg hb;clear BK608;obtain ⟨BK608,NB608_609,NB609_608⟩:=x_;replace HO602:=Aside0.mk (Kd.V_below (Kd.V_elderB (by (with_reducible repeat (first|apply Kd.V_alloc|apply Kd.V_drewN|apply Kd.V_drew));exact HO602.out) gb609 (Nat.le_of_eq hg.symm)) hb);replace HO606:=Aside0.mk (Kd.V_below (Kd.V_elderB (by (with_reducible repeat (first|apply Kd.V_alloc|apply Kd.V_drewN|apply Kd.V_drew));exact HO606.out) gb609 (Nat.le_of_eq hg.symm)) hb);clear hb hg;have hnb9:=NB608_609.out;have hnc9:=NB609_608.out;obtain ⟨hcz10_0,hcz10_1,hfz10_0,hfz10_1⟩:=c2_ BK608;obtain ⟨Ao11,co11,eo11⟩:=Kd.V_slice HO602.out;subst eo11;obtain ⟨hcz12_0,hcz12_1,hfz12_0,hfz12_1⟩:=c2_ BK609;obtain ⟨Ao13,co13,eo13⟩:=Kd.V_slice HO606.out;subst eo13)|((with_reducible refine gate_callee (f:=54) rfl ?_);refine gm_ (some 21) Tryz.func54 #[.agg #[.bool t599,.slice Ao11 t600.length co11],.agg #[.bool t603,.slice Ao13 t604.length co13]] ?_;(with_reducible refine (garboardref02_Cmp.calls k t599 _ _ t600 t603 _ _ t604 t610 _ ?side1 ?side2 ?side3 ?side4 A5.out).mono ?_);(case side1=>refine (Kd.V_reads' (e:=95) (base:=w.heap.size) (ok:=fun k_=>((True∧k_≠gb608)∧k_≠gb609)) (n:=t600.length) (c:=co11) ?_).2.2;exact (by (with_reducible repeat (first|apply Kd.V_alloc|apply Kd.V_drewN|apply Kd.V_drew));exact (Kd.V_mono (Kd.V_mono (Kd.V_far (p:=⟨gb609,1,none⟩) (Kd.V_far (p:=⟨gb609,0,none⟩) (Kd.V_far (p:=⟨gb608,1,none⟩) (Kd.V_far (p:=⟨gb608,0,none⟩) (Kd.V_mono (Kd.V_mono HO602.out (fun k_ hk=>(⟨hk,hk.1.2⟩:_∧k_≠gb608))) (fun k_ hk=>(⟨hk,hk.1.2⟩:_∧k_≠gb609))) (fun _ hk=>hk.1.2) (.bool t599)) (fun _ hk=>hk.1.2) (.slice Ao11 t600.length co11)) (fun _ hk=>hk.2) (.bool t603)) (fun _ hk=>hk.2) (.slice Ao13 t604.length co13)) (fun _ h_=>h_.1)) (fun _ h_=>h_.1))));(case side2=>exact (Kd.V_reads' HO602.out).2.1);(case side3=>refine (Kd.V_reads' (e:=95) (base:=w.heap.size) (ok:=fun k_=>((True∧k_≠gb608)∧k_≠gb609)) (n:=t604.length) (c:=co13) ?_).2.2;exact (by (with_reducible repeat (first|apply Kd.V_alloc|apply Kd.V_drewN|apply Kd.V_drew));exact (Kd.V_mono (Kd.V_mono (Kd.V_far (p:=⟨gb609,1,none⟩) (Kd.V_far (p:=⟨gb609,0,none⟩) (Kd.V_far (p:=⟨gb608,1,none⟩) (Kd.V_far (p:=⟨gb608,0,none⟩) (Kd.V_mono (Kd.V_mono HO606.out (fun k_ hk=>(⟨hk,hk.1.2⟩:_∧k_≠gb608))) (fun k_ hk=>(⟨hk,hk.1.2⟩:_∧k_≠gb609))) (fun _ hk=>hk.1.2) (.bool t599)) (fun _ hk=>hk.1.2) (.slice Ao11 t600.length co11)) (fun _ hk=>hk.2) (.bool t603)) (fun _ hk=>hk.2) (.slice Ao13 t604.length co13)) (fun _ h_=>h_.1)) (fun _ h_=>h_.1))));(case side4=>exact (Kd.V_reads' HO606.out).2.1);rintro e w14 ⟨rfl,hb⟩;refine ⟨_,rfl,?_⟩;replace HO602:=Aside0.mk (Kd.V_below (by (with_reducible repeat (first|apply Kd.V_alloc|apply Kd.V_drewN|apply Kd.V_drew));exact (Kd.V_mono (Kd.V_mono (Kd.V_far (p:=⟨gb609,1,none⟩) (Kd.V_far (p:=⟨gb609,0,none⟩) (Kd.V_far (p:=⟨gb608,1,none⟩) (Kd.V_far (p:=⟨gb608,0,none⟩) (Kd.V_mono (Kd.V_mono HO602.out (fun k_ hk=>(⟨hk,hk.1.2⟩:_∧k_≠gb608))) (fun k_ hk=>(⟨hk,hk.1.2⟩:_∧k_≠gb609))) (fun _ hk=>hk.1.2) (.bool t599)) (fun _ hk=>hk.1.2) (.slice Ao11 t600.length co11)) (fun _ hk=>hk.2) (.bool t603)) (fun _ hk=>hk.2) (.slice Ao13 t604.length co13)) (fun _ h_=>h_.1)) (fun _ h_=>h_.1))) hb);replace HO606:=Aside0.mk (Kd.V_below (by (with_reducible repeat (first|apply Kd.V_alloc|apply Kd.V_drewN|apply Kd.V_drew));exact (Kd.V_mono (Kd.V_mono (Kd.V_far (p:=⟨gb609,1,none⟩) (Kd.V_far (p:=⟨gb609,0,none⟩) (Kd.V_far (p:=⟨gb608,1,none⟩) (Kd.V_far (p:=⟨gb608,0,none⟩) (Kd.V_mono (Kd.V_mono HO606.out (fun k_ hk=>(⟨hk,hk.1.2⟩:_∧k_≠gb608))) (fun k_ hk=>(⟨hk,hk.1.2⟩:_∧k_≠gb609))) (fun _ hk=>hk.1.2) (.bool t599)) (fun _ hk=>hk.1.2) (.slice Ao11 t600.length co11)) (fun _ hk=>hk.2) (.bool t603)) (fun _ hk=>hk.2) (.slice Ao13 t604.length co13)) (fun _ h_=>h_.1)) (fun _ h_=>h_.1))) hb);replace BK608:=Aside0.mk (blk_below (g:=gb608) (o:=.cells #[.bool t599,.slice Ao11 t600.length co11] 51 (0,0)) bk_ hb);replace BK609:=Aside0.mk (blk_below (g:=gb609) (o:=.cells #[.bool t603,.slice Ao13 t604.length co13] 51 (0,0)) bk_ hb);replace HB:=bs_ hb;(try clear hb)))
  go_ret2
  exact ⟨rf_,bx_⟩
 ·rw [if_neg c4] at H
  have c4b0:(t607 == 0) = false:=beq_eq_false_iff_ne.mpr c4
  have c4b1:(t607 != 0) = true:=bne_iff_ne.mpr c4
  simp only [Option.some.injEq,Prod.mk.injEq] at H
  obtain ⟨rfl,rfl⟩:=H
  go_enter Tryz.func23,Tryz.ntmps23
  go_wp2_with (first|((with_reducible refine gate_callee (f:=53) rfl ?_);refine gm_ (some 12) Tryz.func53 #[.string a0,.string a1] ?_;(with_reducible refine (garboardref02_both.calls k a0 a1 t599 t600 t603 t604 t607 _ A3.out).mono ?_);rintro e w15 ⟨v601,v605,rfl,ho0,ho1,hb⟩;refine ⟨_,rfl,?_⟩;have HO602:=Aside0.mk (Kd.V_lower (Kd.V_mono (ok':=fun k_=>True) ho0 (fun k_ hk_=>trivial)) (below_size bx_));have HO606:=Aside0.mk (Kd.V_lower (Kd.V_mono (ok':=fun k_=>True) ho1 (fun k_ hk_=>trivial)) (below_size bx_));replace HB:=bs_ hb;(try clear hb);(try clear ho0);(try clear ho1))|((with_reducible refine gate_dst (N:=6) rfl ?_);refine bv_ #[.bool false,.slice none 0 0] 51 ?_;clear HB;intro gb608 hg w16 BK608 GE608 hb HB;replace HO602:=Aside0.mk (Kd.V_below (Kd.V_elderB (by (with_reducible repeat (first|apply Kd.V_alloc|apply Kd.V_drewN|apply Kd.V_drew));exact HO602.out) gb608 (Nat.le_of_eq hg.symm)) hb);replace HO606:=Aside0.mk (Kd.V_below (Kd.V_elderB (by (with_reducible repeat (first|apply Kd.V_alloc|apply Kd.V_drewN|apply Kd.V_drew));exact HO606.out) gb608 (Nat.le_of_eq hg.symm)) hb);clear hb hg)|((with_reducible refine gate_dst (N:=7) rfl ?_);refine bv_ #[.bool false,.slice none 0 0] 51 ?_;clear HB;intro gb609 hg w17 BK609 GE609 hb HB;have x_:=ol_ BK608 hg hb;clear BK608;obtain ⟨BK608,NB608_609,NB609_608⟩:=x_;replace HO602:=Aside0.mk (Kd.V_below (Kd.V_elderB (by (with_reducible repeat (first|apply Kd.V_alloc|apply Kd.V_drewN|apply Kd.V_drew));exact HO602.out) gb609 (Nat.le_of_eq hg.symm)) hb);replace HO606:=Aside0.mk (Kd.V_below (Kd.V_elderB (by (with_reducible repeat (first|apply Kd.V_alloc|apply Kd.V_drewN|apply Kd.V_drew));exact HO606.out) gb609 (Nat.le_of_eq hg.symm)) hb);clear hb hg;have hnb18:=NB608_609.out;have hnc18:=NB609_608.out;obtain ⟨hcz19_0,hcz19_1,hfz19_0,hfz19_1⟩:=c2_ BK608;obtain ⟨Ao20,co20,eo20⟩:=Kd.V_slice HO602.out;subst eo20;obtain ⟨hcz21_0,hcz21_1,hfz21_0,hfz21_1⟩:=c2_ BK609;obtain ⟨Ao22,co22,eo22⟩:=Kd.V_slice HO606.out;subst eo22))
  go_ret2
  exact ⟨rf_,bx_⟩
end Go.Proofs.YtaknchlegjcdhaaGreatDoor.Pr
namespace Go.Proofs.YtaknchlegjcdhaaGreatDoor.Pr
open Go.RowKit Go.Proofs.YtaknchlegjcdhaaGreatDoorW.PrintWords Go.Proofs.YtaknchlegjcdhaaGreatDoorW.PrintLast Go.Proofs.YtaknchlegjcdhaaGreatDoorW.PrintMore
attribute [local go_sem] max2_int min2_int max_two min_two max_three min_three max_four min_four
set_option maxHeartbeats 8000000
set_option maxRecDepth 100000
set_option linter.unusedVariables false
set_option linter.unusedSimpArgs false
theorem garboardref02_Add.calls (k:Nat) (a0:ByteArray) (a1:ByteArray) (r1:ByteArray) (r2:Int) (w:World) (h:garboardref02_Add.f k a0 a1 = some (r1,r2)) :
  Calls Tryz.prog 25 #[.string a0,.string a1] w fun e w'=>e = .returned (.tuple #[.string r1,.int .i64 r2])∧Below w.heap.size w w':=by
 have hu51:=Tryz.underlying51
 have HB:=Aside0.mk (Below.refl w.heap.size w)
 have H:((garboardref02_both.f k a0 a1).bind fun bt611=>(if bt611.2.2.2.2 = 0 then ((garboardref02_Plus.f k bt611.1 bt611.2.1 bt611.2.2.1 bt611.2.2.2.1).bind fun bt622=>((garboardref02_To.f k bt622.1 bt622.2).bind fun t626=>(some (t626,0)))) else (some ((⟨#[]⟩:ByteArray),bt611.2.2.2.2)))) = some (r1,r2):=h
 clear h
 obtain ⟨⟨t611,t612,t615,t616,t619⟩,A3,H⟩:=bn_ H
 dsimp only at H
 by_cases c4:t619 = 0
 ·rw [if_pos c4] at H
  have c4b0:(t619 == 0) = true:=beq_iff_eq.mpr c4
  have c4b1:(t619 != 0) = false:=bne_eq_false_iff_eq.mpr c4
  clear c4
  obtain ⟨⟨t622,t623⟩,A5,H⟩:=bn_ H
  dsimp only at H
  obtain ⟨t626,A6,H⟩:=bn_ H
  simp only [Option.some.injEq,Prod.mk.injEq] at H
  obtain ⟨rfl,rfl⟩:=H
  go_enter Tryz.func25,Tryz.ntmps25
  go_wp2_with (first|((with_reducible refine gate_callee (f:=53) rfl ?_);refine gm_ (some 12) Tryz.func53 #[.string a0,.string a1] ?_;(with_reducible refine (garboardref02_both.calls k a0 a1 t611 t612 t615 t616 t619 _ A3.out).mono ?_);rintro e w7 ⟨v613,v617,rfl,ho0,ho1,hb⟩;refine ⟨_,rfl,?_⟩;have HO614:=Aside0.mk (Kd.V_lower (Kd.V_mono (ok':=fun k_=>True) ho0 (fun k_ hk_=>trivial)) (below_size bx_));have HO618:=Aside0.mk (Kd.V_lower (Kd.V_mono (ok':=fun k_=>True) ho1 (fun k_ hk_=>trivial)) (below_size bx_));replace HB:=bs_ hb;(try clear hb);(try clear ho0);(try clear ho1))|((with_reducible refine gate_dst (N:=6) rfl ?_);refine bv_ #[.bool false,.slice none 0 0] 51 ?_;clear HB;intro gb620 hg w8 BK620 GE620 hb HB;replace HO614:=Aside0.mk (Kd.V_below (Kd.V_elderB (by (with_reducible repeat (first|apply Kd.V_alloc|apply Kd.V_drewN|apply Kd.V_drew));exact HO614.out) gb620 (Nat.le_of_eq hg.symm)) hb);replace HO618:=Aside0.mk (Kd.V_below (Kd.V_elderB (by (with_reducible repeat (first|apply Kd.V_alloc|apply Kd.V_drewN|apply Kd.V_drew));exact HO618.out) gb620 (Nat.le_of_eq hg.symm)) hb);clear hb hg)|((with_reducible refine gate_dst (N:=7) rfl ?_);refine bv_ #[.bool false,.slice none 0 0] 51 ?_;clear HB;intro gb621 hg w9 BK621 GE621 hb HB;have x_:=ol_ BK620 hg hb;clear BK620;obtain ⟨BK620,NB620_621,NB621_620⟩:=x_;replace HO614:=Aside0.mk (Kd.V_below (Kd.V_elderB (by (with_reducible repeat (first|apply Kd.V_alloc|apply Kd.V_drewN|apply Kd.V_drew));exact HO614.out) gb621 (Nat.le_of_eq hg.symm)) hb);replace HO618:=Aside0.mk (Kd.V_below (Kd.V_elderB (by (with_reducible repeat (first|apply Kd.V_alloc|apply Kd.V_drewN|apply Kd.V_drew));exact HO618.out) gb621 (Nat.le_of_eq hg.symm)) hb);clear hb hg;have hnb10:=NB620_621.out;have hnc10:=NB621_620.out;obtain ⟨hcz11_0,hcz11_1,hfz11_0,hfz11_1⟩:=c2_ BK620;obtain ⟨Ao12,co12,eo12⟩:=Kd.V_slice HO614.out;subst eo12;obtain ⟨hcz13_0,hcz13_1,hfz13_0,hfz13_1⟩:=c2_ BK621;obtain ⟨Ao14,co14,eo14⟩:=Kd.V_slice HO618.out;subst eo14)|((with_reducible refine gate_callee (f:=55) rfl ?_);refine gm_ (some 21) Tryz.func55 #[.agg #[.bool t611,.slice Ao12 t612.length co12],.agg #[.bool t615,.slice Ao14 t616.length co14]] ?_;(with_reducible refine (garboardref02_Plus.calls k t611 _ _ t612 t615 _ _ t616 t622 t623 _ ?side1 ?side2 ?side3 ?side4 A5.out).mono ?_);(case side1=>refine (Kd.V_reads' (e:=95) (base:=w.heap.size) (ok:=fun k_=>((True∧k_≠gb620)∧k_≠gb621)) (n:=t612.length) (c:=co12) ?_).2.2;exact (by (with_reducible repeat (first|apply Kd.V_alloc|apply Kd.V_drewN|apply Kd.V_drew));exact (Kd.V_mono (Kd.V_mono (Kd.V_far (p:=⟨gb621,1,none⟩) (Kd.V_far (p:=⟨gb621,0,none⟩) (Kd.V_far (p:=⟨gb620,1,none⟩) (Kd.V_far (p:=⟨gb620,0,none⟩) (Kd.V_mono (Kd.V_mono HO614.out (fun k_ hk=>(⟨hk,hk.1.2⟩:_∧k_≠gb620))) (fun k_ hk=>(⟨hk,hk.1.2⟩:_∧k_≠gb621))) (fun _ hk=>hk.1.2) (.bool t611)) (fun _ hk=>hk.1.2) (.slice Ao12 t612.length co12)) (fun _ hk=>hk.2) (.bool t615)) (fun _ hk=>hk.2) (.slice Ao14 t616.length co14)) (fun _ h_=>h_.1)) (fun _ h_=>h_.1))));(case side2=>exact (Kd.V_reads' HO614.out).2.1);(case side3=>refine (Kd.V_reads' (e:=95) (base:=w.heap.size) (ok:=fun k_=>((True∧k_≠gb620)∧k_≠gb621)) (n:=t616.length) (c:=co14) ?_).2.2;exact (by (with_reducible repeat (first|apply Kd.V_alloc|apply Kd.V_drewN|apply Kd.V_drew));exact (Kd.V_mono (Kd.V_mono (Kd.V_far (p:=⟨gb621,1,none⟩) (Kd.V_far (p:=⟨gb621,0,none⟩) (Kd.V_far (p:=⟨gb620,1,none⟩) (Kd.V_far (p:=⟨gb620,0,none⟩) (Kd.V_mono (Kd.V_mono HO618.out (fun k_ hk=>(⟨hk,hk.1.2⟩:_∧k_≠gb620))) (fun k_ hk=>(⟨hk,hk.1.2⟩:_∧k_≠gb621))) (fun _ hk=>hk.1.2) (.bool t611)) (fun _ hk=>hk.1.2) (.slice Ao12 t612.length co12)) (fun _ hk=>hk.2) (.bool t615)) (fun _ hk=>hk.2) (.slice Ao14 t616.length co14)) (fun _ h_=>h_.1)) (fun _ h_=>h_.1))));(case side4=>exact (Kd.V_reads' HO618.out).2.1);rintro e w15 ⟨v624,rfl,ho0,hb⟩;refine ⟨_,rfl,?_⟩;have HO625:=Aside0.mk (Kd.V_lower (Kd.V_mono (ok':=fun k_=>k_≠gb620∧k_≠gb621) ho0 (fun k_ hk_=>⟨(Kd.freshB (g:=gb620) (o:=.cells #[.bool t611,.slice Ao12 t612.length co12] 51 (0,0)) bk_ k_ hk_),(Kd.freshB (g:=gb621) (o:=.cells #[.bool t615,.slice Ao14 t616.length co14] 51 (0,0)) bk_ k_ hk_)⟩)) (below_size bx_));replace HO614:=Aside0.mk (Kd.V_below (by (with_reducible repeat (first|apply Kd.V_alloc|apply Kd.V_drewN|apply Kd.V_drew));exact (Kd.V_mono (Kd.V_mono (Kd.V_far (p:=⟨gb621,1,none⟩) (Kd.V_far (p:=⟨gb621,0,none⟩) (Kd.V_far (p:=⟨gb620,1,none⟩) (Kd.V_far (p:=⟨gb620,0,none⟩) (Kd.V_mono (Kd.V_mono HO614.out (fun k_ hk=>(⟨hk,hk.1.2⟩:_∧k_≠gb620))) (fun k_ hk=>(⟨hk,hk.1.2⟩:_∧k_≠gb621))) (fun _ hk=>hk.1.2) (.bool t611)) (fun _ hk=>hk.1.2) (.slice Ao12 t612.length co12)) (fun _ hk=>hk.2) (.bool t615)) (fun _ hk=>hk.2) (.slice Ao14 t616.length co14)) (fun _ h_=>h_.1)) (fun _ h_=>h_.1))) hb);replace HO618:=Aside0.mk (Kd.V_below (by (with_reducible repeat (first|apply Kd.V_alloc|apply Kd.V_drewN|apply Kd.V_drew));exact (Kd.V_mono (Kd.V_mono (Kd.V_far (p:=⟨gb621,1,none⟩) (Kd.V_far (p:=⟨gb621,0,none⟩) (Kd.V_far (p:=⟨gb620,1,none⟩) (Kd.V_far (p:=⟨gb620,0,none⟩) (Kd.V_mono (Kd.V_mono HO618.out (fun k_ hk=>(⟨hk,hk.1.2⟩:_∧k_≠gb620))) (fun k_ hk=>(⟨hk,hk.1.2⟩:_∧k_≠gb621))) (fun _ hk=>hk.1.2) (.bool t611)) (fun _ hk=>hk.1.2) (.slice Ao12 t612.length co12)) (fun _ hk=>hk.2) (.bool t615)) (fun _ hk=>hk.2) (.slice Ao14 t616.length co14)) (fun _ h_=>h_.1)) (fun _ h_=>h_.1))) hb);replace BK620:=Aside0.mk (blk_below (g:=gb620) (o:=.cells #[.bool t611,.slice Ao12 t612.length co12] 51 (0,0)) bk_ hb);replace BK621:=Aside0.mk (blk_below (g:=gb621) (o:=.cells #[.bool t615,.slice Ao14 t616.length co14] 51 (0,0)) bk_ hb);replace HB:=bs_ hb;(try clear hb);(try clear ho0);obtain ⟨Ao16,co16,eo16⟩:=Kd.V_slice HO625.out;subst eo16)|((with_reducible refine gate_callee (f:=43) rfl ?_);refine gm_ (some 22) Tryz.func43 #[.agg #[.bool t622,.slice Ao16 t623.length co16]] ?_;(with_reducible refine (garboardref02_To.calls k t622 _ _ t623 t626 _ ?side1 ?side2 A6.out).mono ?_);(case side1=>exact cx_ ((Kd.V_reads' HO625.out).2.2));(case side2=>exact (Kd.V_reads' HO625.out).2.1);rintro e w17 ⟨rfl,hb⟩;refine ⟨_,rfl,?_⟩;replace HO614:=vb_ HO614 hb;replace HO618:=vb_ HO618 hb;replace HO625:=vb_ HO625 hb;replace BK620:=bb_ BK620 hb;replace BK621:=bb_ BK621 hb;replace HB:=bs_ hb;(try clear hb)))
  go_ret2
  exact ⟨rf_,bx_⟩
 ·rw [if_neg c4] at H
  have c4b0:(t619 == 0) = false:=beq_eq_false_iff_ne.mpr c4
  have c4b1:(t619 != 0) = true:=bne_iff_ne.mpr c4
  simp only [Option.some.injEq,Prod.mk.injEq] at H
  obtain ⟨rfl,rfl⟩:=H
  go_enter Tryz.func25,Tryz.ntmps25
  go_wp2_with (first|((with_reducible refine gate_callee (f:=53) rfl ?_);refine gm_ (some 12) Tryz.func53 #[.string a0,.string a1] ?_;(with_reducible refine (garboardref02_both.calls k a0 a1 t611 t612 t615 t616 t619 _ A3.out).mono ?_);rintro e w18 ⟨v613,v617,rfl,ho0,ho1,hb⟩;refine ⟨_,rfl,?_⟩;have HO614:=Aside0.mk (Kd.V_lower (Kd.V_mono (ok':=fun k_=>True) ho0 (fun k_ hk_=>trivial)) (below_size bx_));have HO618:=Aside0.mk (Kd.V_lower (Kd.V_mono (ok':=fun k_=>True) ho1 (fun k_ hk_=>trivial)) (below_size bx_));replace HB:=bs_ hb;(try clear hb);(try clear ho0);(try clear ho1))|((with_reducible refine gate_dst (N:=6) rfl ?_);refine bv_ #[.bool false,.slice none 0 0] 51 ?_;clear HB;intro gb620 hg w19 BK620 GE620 hb HB;replace HO614:=Aside0.mk (Kd.V_below (Kd.V_elderB (by (with_reducible repeat (first|apply Kd.V_alloc|apply Kd.V_drewN|apply Kd.V_drew));exact HO614.out) gb620 (Nat.le_of_eq hg.symm)) hb);replace HO618:=Aside0.mk (Kd.V_below (Kd.V_elderB (by (with_reducible repeat (first|apply Kd.V_alloc|apply Kd.V_drewN|apply Kd.V_drew));exact HO618.out) gb620 (Nat.le_of_eq hg.symm)) hb);clear hb hg)|((with_reducible refine gate_dst (N:=7) rfl ?_);refine bv_ #[.bool false,.slice none 0 0] 51 ?_;clear HB;intro gb621 hg w20 BK621 GE621 hb HB;have x_:=ol_ BK620 hg hb;clear BK620;obtain ⟨BK620,NB620_621,NB621_620⟩:=x_;replace HO614:=Aside0.mk (Kd.V_below (Kd.V_elderB (by (with_reducible repeat (first|apply Kd.V_alloc|apply Kd.V_drewN|apply Kd.V_drew));exact HO614.out) gb621 (Nat.le_of_eq hg.symm)) hb);replace HO618:=Aside0.mk (Kd.V_below (Kd.V_elderB (by (with_reducible repeat (first|apply Kd.V_alloc|apply Kd.V_drewN|apply Kd.V_drew));exact HO618.out) gb621 (Nat.le_of_eq hg.symm)) hb);clear hb hg;have hnb21:=NB620_621.out;have hnc21:=NB621_620.out;obtain ⟨hcz22_0,hcz22_1,hfz22_0,hfz22_1⟩:=c2_ BK620;obtain ⟨Ao23,co23,eo23⟩:=Kd.V_slice HO614.out;subst eo23;obtain ⟨hcz24_0,hcz24_1,hfz24_0,hfz24_1⟩:=c2_ BK621;obtain ⟨Ao25,co25,eo25⟩:=Kd.V_slice HO618.out;subst eo25))
  go_ret2
  exact ⟨rf_,bx_⟩
end Go.Proofs.YtaknchlegjcdhaaGreatDoor.Pr
namespace Go.Proofs.YtaknchlegjcdhaaGreatDoor.Pr
open Go.RowKit Go.Proofs.YtaknchlegjcdhaaGreatDoorW.PrintWords Go.Proofs.YtaknchlegjcdhaaGreatDoorW.PrintLast Go.Proofs.YtaknchlegjcdhaaGreatDoorW.PrintMore
attribute [local go_sem] max2_int min2_int max_two min_two max_three min_three max_four min_four
set_option maxHeartbeats 8000000
set_option maxRecDepth 100000
set_option linter.unusedVariables false
set_option linter.unusedSimpArgs false
def garboardref02_Sub.f (k:Nat) (a0:ByteArray) (a1:ByteArray):Option (ByteArray × Int):=(garboardref02_both.f k a0 a1).bind fun bt627=>(if bt627.2.2.2.2 = 0 then ((garboardref02_Minus.f k bt627.1 bt627.2.1 bt627.2.2.1 bt627.2.2.2.1).bind fun bt638=>((garboardref02_To.f k bt638.1 bt638.2).bind fun t642=>(some (t642,0)))) else (some ((⟨#[]⟩:ByteArray),bt627.2.2.2.2)))
theorem garboardref02_Sub.calls (k:Nat) (a0:ByteArray) (a1:ByteArray) (r1:ByteArray) (r2:Int) (w:World) (h:garboardref02_Sub.f k a0 a1 = some (r1,r2)) :
  Calls Tryz.prog 27 #[.string a0,.string a1] w fun e w'=>e = .returned (.tuple #[.string r1,.int .i64 r2])∧Below w.heap.size w w':=by
 have hu51:=Tryz.underlying51
 have HB:=Aside0.mk (Below.refl w.heap.size w)
 have H:((garboardref02_both.f k a0 a1).bind fun bt627=>(if bt627.2.2.2.2 = 0 then ((garboardref02_Minus.f k bt627.1 bt627.2.1 bt627.2.2.1 bt627.2.2.2.1).bind fun bt638=>((garboardref02_To.f k bt638.1 bt638.2).bind fun t642=>(some (t642,0)))) else (some ((⟨#[]⟩:ByteArray),bt627.2.2.2.2)))) = some (r1,r2):=h
 clear h
 obtain ⟨⟨t627,t628,t631,t632,t635⟩,A3,H⟩:=bn_ H
 dsimp only at H
 by_cases c4:t635 = 0
 ·rw [if_pos c4] at H
  have c4b0:(t635 == 0) = true:=beq_iff_eq.mpr c4
  have c4b1:(t635 != 0) = false:=bne_eq_false_iff_eq.mpr c4
  clear c4
  obtain ⟨⟨t638,t639⟩,A5,H⟩:=bn_ H
  dsimp only at H
  obtain ⟨t642,A6,H⟩:=bn_ H
  simp only [Option.some.injEq,Prod.mk.injEq] at H
  obtain ⟨rfl,rfl⟩:=H
  go_enter Tryz.func27,Tryz.ntmps27
  go_wp2_with (first|((with_reducible refine gate_callee (f:=53) rfl ?_);refine gm_ (some 12) Tryz.func53 #[.string a0,.string a1] ?_;(with_reducible refine (garboardref02_both.calls k a0 a1 t627 t628 t631 t632 t635 _ A3.out).mono ?_);rintro e w7 ⟨v629,v633,rfl,ho0,ho1,hb⟩;refine ⟨_,rfl,?_⟩;have HO630:=Aside0.mk (Kd.V_lower (Kd.V_mono (ok':=fun k_=>True) ho0 (fun k_ hk_=>trivial)) (below_size bx_));have HO634:=Aside0.mk (Kd.V_lower (Kd.V_mono (ok':=fun k_=>True) ho1 (fun k_ hk_=>trivial)) (below_size bx_));replace HB:=bs_ hb;(try clear hb);(try clear ho0);(try clear ho1))|((with_reducible refine gate_dst (N:=6) rfl ?_);refine bv_ #[.bool false,.slice none 0 0] 51 ?_;clear HB;intro gb636 hg w8 BK636 GE636 hb HB;replace HO630:=Aside0.mk (Kd.V_below (Kd.V_elderB (by (with_reducible repeat (first|apply Kd.V_alloc|apply Kd.V_drewN|apply Kd.V_drew));exact HO630.out) gb636 (Nat.le_of_eq hg.symm)) hb);replace HO634:=Aside0.mk (Kd.V_below (Kd.V_elderB (by (with_reducible repeat (first|apply Kd.V_alloc|apply Kd.V_drewN|apply Kd.V_drew));exact HO634.out) gb636 (Nat.le_of_eq hg.symm)) hb);clear hb hg)|((with_reducible refine gate_dst (N:=7) rfl ?_);refine bv_ #[.bool false,.slice none 0 0] 51 ?_;clear HB;intro gb637 hg w9 BK637 GE637 hb HB;have x_:=ol_ BK636 hg hb;clear BK636;obtain ⟨BK636,NB636_637,NB637_636⟩:=x_;replace HO630:=Aside0.mk (Kd.V_below (Kd.V_elderB (by (with_reducible repeat (first|apply Kd.V_alloc|apply Kd.V_drewN|apply Kd.V_drew));exact HO630.out) gb637 (Nat.le_of_eq hg.symm)) hb);replace HO634:=Aside0.mk (Kd.V_below (Kd.V_elderB (by (with_reducible repeat (first|apply Kd.V_alloc|apply Kd.V_drewN|apply Kd.V_drew));exact HO634.out) gb637 (Nat.le_of_eq hg.symm)) hb);clear hb hg;have hnb10:=NB636_637.out;have hnc10:=NB637_636.out;obtain ⟨hcz11_0,hcz11_1,hfz11_0,hfz11_1⟩:=c2_ BK636;obtain ⟨Ao12,co12,eo12⟩:=Kd.V_slice HO630.out;subst eo12)|((with_reducible refine gate_store (t:=51) (p:=6) rfl ?_);refine store_event (t:=51) (p:=6) (v:=?vo_w13) (w1:=((w9.setCell ⟨gb636,0,none⟩ (.bool t627)).setCell ⟨gb636,1,none⟩ (.slice Ao12 t628.length co12))) ?hg ?ho ?hn ?hr ?_;(case ho=>rfl);(case hg=>rfl);(case hn=>rfl);(case hr=>first|(go_simp;done)|(go_simp;rfl));intro w13 hw;replace HO630:Aside0 (Kd.V (Kd.int .u32) 95 w13 w.heap.size (fun k_=>k_≠gb636∧k_≠gb637) (.slice Ao12 t628.length co12) t628):=⟨(by rw [hw];exact (by (with_reducible repeat (first|apply Kd.V_alloc|apply Kd.V_drewN|apply Kd.V_drew));exact Kd.V_mono (Kd.V_far (p:=⟨gb636,1,none⟩) (Kd.V_far (p:=⟨gb636,0,none⟩) (Kd.V_mono HO630.out (fun k_ hk=>(⟨hk,hk.1.2⟩:_∧k_≠gb636))) (fun _ hk=>hk.2) (.bool t627)) (fun _ hk=>hk.2) (.slice Ao12 t628.length co12)) (fun _ hk=>⟨hk.1.1.2,hk.1.2⟩)))⟩;replace HO634:Aside0 (Kd.V (Kd.int .u32) 95 w13 w.heap.size (fun k_=>k_≠gb636∧k_≠gb637) v633 t632):=⟨(by rw [hw];exact (by (with_reducible repeat (first|apply Kd.V_alloc|apply Kd.V_drewN|apply Kd.V_drew));exact Kd.V_mono (Kd.V_far (p:=⟨gb636,1,none⟩) (Kd.V_far (p:=⟨gb636,0,none⟩) (Kd.V_mono HO634.out (fun k_ hk=>(⟨hk,hk.1.2⟩:_∧k_≠gb636))) (fun _ hk=>hk.2) (.bool t627)) (fun _ hk=>hk.2) (.slice Ao12 t628.length co12)) (fun _ hk=>⟨hk.1.1.2,hk.1.2⟩)))⟩;replace BK636:Aside0 (w13.heap[gb636]? = some (.cells #[.bool t627,.slice Ao12 t628.length co12] 51 (0,0))):=⟨(by rw [hw];exact bk_)⟩;replace BK637:Aside0 (w13.heap[gb637]? = some (.cells #[.bool false,.slice none 0 0] 51 (0,0))):=⟨(by rw [hw];exact bk_)⟩;replace HB:Aside0 (Below w.heap.size w w13):=⟨(by rw [hw];exact bx_)⟩;clear hw;obtain ⟨hcz14_0,hcz14_1,hfz14_0,hfz14_1⟩:=c2_ BK637;obtain ⟨Ao15,co15,eo15⟩:=Kd.V_slice HO634.out;subst eo15)|((with_reducible refine gate_store (t:=51) (p:=7) rfl ?_);refine store_event (t:=51) (p:=7) (v:=?vo_w16) (w1:=((w13.setCell ⟨gb637,0,none⟩ (.bool t631)).setCell ⟨gb637,1,none⟩ (.slice Ao15 t632.length co15))) ?hg ?ho ?hn ?hr ?_;(case ho=>rfl);(case hg=>rfl);(case hn=>rfl);(case hr=>first|(go_simp;done)|(go_simp;rfl));intro w16 hw;replace HO630:Aside0 (Kd.V (Kd.int .u32) 95 w16 w.heap.size (fun k_=>k_≠gb636∧k_≠gb637) (.slice Ao12 t628.length co12) t628):=⟨(by rw [hw];exact (by (with_reducible repeat (first|apply Kd.V_alloc|apply Kd.V_drewN|apply Kd.V_drew));exact Kd.V_mono (Kd.V_far (p:=⟨gb637,1,none⟩) (Kd.V_far (p:=⟨gb637,0,none⟩) (Kd.V_mono HO630.out (fun k_ hk=>(⟨hk,hk.2⟩:_∧k_≠gb637))) (fun _ hk=>hk.2) (.bool t631)) (fun _ hk=>hk.2) (.slice Ao15 t632.length co15)) (fun _ hk=>⟨hk.1.1,hk.1.2⟩)))⟩;replace HO634:Aside0 (Kd.V (Kd.int .u32) 95 w16 w.heap.size (fun k_=>k_≠gb636∧k_≠gb637) (.slice Ao15 t632.length co15) t632):=⟨(by rw [hw];exact (by (with_reducible repeat (first|apply Kd.V_alloc|apply Kd.V_drewN|apply Kd.V_drew));exact Kd.V_mono (Kd.V_far (p:=⟨gb637,1,none⟩) (Kd.V_far (p:=⟨gb637,0,none⟩) (Kd.V_mono HO634.out (fun k_ hk=>(⟨hk,hk.2⟩:_∧k_≠gb637))) (fun _ hk=>hk.2) (.bool t631)) (fun _ hk=>hk.2) (.slice Ao15 t632.length co15)) (fun _ hk=>⟨hk.1.1,hk.1.2⟩)))⟩;replace BK636:Aside0 (w16.heap[gb636]? = some (.cells #[.bool t627,.slice Ao12 t628.length co12] 51 (0,0))):=⟨(by rw [hw];exact bk_)⟩;replace BK637:Aside0 (w16.heap[gb637]? = some (.cells #[.bool t631,.slice Ao15 t632.length co15] 51 (0,0))):=⟨(by rw [hw];exact bk_)⟩;replace HB:Aside0 (Below w.heap.size w w16):=⟨(by rw [hw];exact bx_)⟩;clear hw;obtain ⟨hcz17_0,hcz17_1,hfz17_0,hfz17_1⟩:=c2_ BK636;obtain ⟨hcz18_0,hcz18_1,hfz18_0,hfz18_1⟩:=c2_ BK637)|((with_reducible refine gate_callee (f:=56) rfl ?_);refine gm_ (some 21) Tryz.func56 #[.agg #[.bool t627,.slice Ao12 t628.length co12],.agg #[.bool t631,.slice Ao15 t632.length co15]] ?_;(with_reducible refine (garboardref02_Minus.calls k t627 _ _ t628 t631 (fun k_=>(k_≠gb636∧k_≠gb637)) _ _ t632 t638 t639 _ ?side1 ?side2 ?side3 A5.out).mono ?_);(case side1=>exact cx_ ((Kd.V_reads' HO630.out).2.2));(case side2=>exact (Kd.V_reads' HO630.out).2.1);(case side3=>exact HO634.out);rintro e w19 ⟨v640,rfl,ho0,hb⟩;refine ⟨_,rfl,?_⟩;have HO641:=Aside0.mk (Kd.V_lower (Kd.V_mono (ok':=fun k_=>k_≠gb636∧k_≠gb637) ho0 (fun k_ hk_=>⟨Or.elim hk_ (fun hs_=>hs_.1) (fun hn_=>(Kd.freshB (g:=gb636) (o:=.cells #[.bool t627,.slice Ao12 t628.length co12] 51 (0,0)) bk_ k_ hn_)),Or.elim hk_ (fun hs_=>hs_.2) (fun hn_=>(Kd.freshB (g:=gb637) (o:=.cells #[.bool t631,.slice Ao15 t632.length co15] 51 (0,0)) bk_ k_ hn_))⟩)) (below_size bx_));replace HO630:=vb_ HO630 hb;replace HO634:=vb_ HO634 hb;replace BK636:=bb_ BK636 hb;replace BK637:=bb_ BK637 hb;replace HB:=bs_ hb;(try clear hb);(try clear ho0);obtain ⟨Ao20,co20,eo20⟩:=Kd.V_slice HO641.out;subst eo20)|((with_reducible refine gate_callee (f:=43) rfl ?_);refine gm_ (some 22) Tryz.func43 #[.agg #[.bool t638,.slice Ao20 t639.length co20]] ?_;(with_reducible refine (garboardref02_To.calls k t638 _ _ t639 t642 _ ?side1 ?side2 A6.out).mono ?_);(case side1=>exact cx_ ((Kd.V_reads' HO641.out).2.2));(case side2=>exact (Kd.V_reads' HO641.out).2.1);rintro e w21 ⟨rfl,hb⟩;refine ⟨_,rfl,?_⟩;replace HO630:=vb_ HO630 hb;replace HO634:=vb_ HO634 hb;replace HO641:=vb_ HO641 hb;replace BK636:=bb_ BK636 hb;replace BK637:=bb_ BK637 hb;replace HB:=bs_ hb;(try clear hb)))
  go_ret2
  exact ⟨rf_,bx_⟩
 ·rw [if_neg c4] at H
  have c4b0:(t635 == 0) = false:=beq_eq_false_iff_ne.mpr c4
  have c4b1:(t635 != 0) = true:=bne_iff_ne.mpr c4
  simp only [Option.some.injEq,Prod.mk.injEq] at H
  obtain ⟨rfl,rfl⟩:=H
  go_enter Tryz.func27,Tryz.ntmps27
  go_wp2_with (first|((with_reducible refine gate_callee (f:=53) rfl ?_);refine gm_ (some 12) Tryz.func53 #[.string a0,.string a1] ?_;(with_reducible refine (garboardref02_both.calls k a0 a1 t627 t628 t631 t632 t635 _ A3.out).mono ?_);rintro e w22 ⟨v629,v633,rfl,ho0,ho1,hb⟩;refine ⟨_,rfl,?_⟩;have HO630:=Aside0.mk (Kd.V_lower (Kd.V_mono (ok':=fun k_=>True) ho0 (fun k_ hk_=>trivial)) (below_size bx_));have HO634:=Aside0.mk (Kd.V_lower (Kd.V_mono (ok':=fun k_=>True) ho1 (fun k_ hk_=>trivial)) (below_size bx_));replace HB:=bs_ hb;(try clear hb);(try clear ho0);(try clear ho1))|((with_reducible refine gate_dst (N:=6) rfl ?_);refine bv_ #[.bool false,.slice none 0 0] 51 ?_;clear HB;intro gb636 hg w23 BK636 GE636 hb HB;replace HO630:=Aside0.mk (Kd.V_below (Kd.V_elderB (by (with_reducible repeat (first|apply Kd.V_alloc|apply Kd.V_drewN|apply Kd.V_drew));exact HO630.out) gb636 (Nat.le_of_eq hg.symm)) hb);replace HO634:=Aside0.mk (Kd.V_below (Kd.V_elderB (by (with_reducible repeat (first|apply Kd.V_alloc|apply Kd.V_drewN|apply Kd.V_drew));exact HO634.out) gb636 (Nat.le_of_eq hg.symm)) hb);clear hb hg)|((with_reducible refine gate_dst (N:=7) rfl ?_);refine bv_ #[.bool false,.slice none 0 0] 51 ?_;clear HB;intro gb637 hg w24 BK637 GE637 hb HB;have x_:=ol_ BK636 hg hb;clear BK636;obtain ⟨BK636,NB636_637,NB637_636⟩:=x_;replace HO630:=Aside0.mk (Kd.V_below (Kd.V_elderB (by (with_reducible repeat (first|apply Kd.V_alloc|apply Kd.V_drewN|apply Kd.V_drew));exact HO630.out) gb637 (Nat.le_of_eq hg.symm)) hb);replace HO634:=Aside0.mk (Kd.V_below (Kd.V_elderB (by (with_reducible repeat (first|apply Kd.V_alloc|apply Kd.V_drewN|apply Kd.V_drew));exact HO634.out) gb637 (Nat.le_of_eq hg.symm)) hb);clear hb hg;have hnb25:=NB636_637.out;have hnc25:=NB637_636.out;obtain ⟨hcz26_0,hcz26_1,hfz26_0,hfz26_1⟩:=c2_ BK636;obtain ⟨Ao27,co27,eo27⟩:=Kd.V_slice HO630.out;subst eo27;obtain ⟨hcz28_0,hcz28_1,hfz28_0,hfz28_1⟩:=c2_ BK637;obtain ⟨Ao29,co29,eo29⟩:=Kd.V_slice HO634.out;subst eo29))
  go_ret2
  exact ⟨rf_,bx_⟩
end Go.Proofs.YtaknchlegjcdhaaGreatDoor.Pr
namespace Go.Proofs.YtaknchlegjcdhaaGreatDoor.Pr
open Go.RowKit Go.Proofs.YtaknchlegjcdhaaGreatDoorW.PrintWords Go.Proofs.YtaknchlegjcdhaaGreatDoorW.PrintLast Go.Proofs.YtaknchlegjcdhaaGreatDoorW.PrintMore
attribute [local go_sem] max2_int min2_int max_two min_two max_three min_three max_four min_four
set_option maxHeartbeats 8000000
set_option maxRecDepth 100000
set_option linter.unusedVariables false
set_option linter.unusedSimpArgs false
def garboardref02_Times.f (k:Nat) (a0_0:Bool) (l0_1:List Int) (a1_0:Bool) (l1_1:List Int):Option (Bool × List Int):=(garboardref01_Times.f k l0_1 l1_1).bind fun t657=>((garboardref02_Make.f (a0_0 != a1_0) t657).bind fun bt660=>(some (bt660.1,bt660.2)))
def garboardref02_Times.T1:Bool × List (List Nat × List Nat):=(true,[([],[]),([0],[0]),([],[]),([2],[2]),([1,3],[1,3]),([],[]),([5],[5]),([],[]),([7],[7]),([6,8],[6,8]),([4,9,9],[4,9]),([10,10,0,1,2,3,4,5,6,7,8,9,10],[10])])
def garboardref02_Times.B1:List Nat:=[0,1,0,4,15,0,32,0,128,480,1023,2047]
theorem garboardref02_Times.tab1:rtab .any (opsOf Tryz.f58 1) = garboardref02_Times.T1:=by kernel_rfl
theorem garboardref02_Times.bits1:waitsOk garboardref02_Times.T1.2 garboardref02_Times.B1 = true:=by kernel_rfl
theorem garboardref02_Times.calls (k:Nat) (a0_0:Bool) (A0_1:Option Addr) (c0_1:Nat) (l0_1:List Int) (a1_0:Bool) (A1_1:Option Addr) (c1_1:Nat) (l1_1:List Int) (r1:Bool) (r2:List Int) (w:World) (hr0_1:Kd.C (Kd.int .u32) w A0_1 l0_1.length l0_1) (hc0_1:l0_1.length≤c0_1) (hr1_1:Kd.C (Kd.int .u32) w A1_1 l1_1.length l1_1) (hc1_1:l1_1.length≤c1_1) (h:garboardref02_Times.f k a0_0 l0_1 a1_0 l1_1 = some (r1,r2)) :
  Calls Tryz.prog 58 #[.agg #[.bool a0_0,.slice A0_1 l0_1.length c0_1],.agg #[.bool a1_0,.slice A1_1 l1_1.length c1_1]] w fun e w'=>∃ v1_:Value,e = .returned (.agg #[.bool r1,v1_])∧Kd.V (Kd.int .u32) 95 w' w.heap.size (fun k_=>(w.heap.size≤k_)) v1_ r2∧Below w.heap.size w w':=by
 have hu51:=Tryz.underlying51
 have HR0_1:=Aside0.mk hr0_1
 have HC0_1:=Aside0.mk hc0_1
 clear hr0_1 hc0_1
 have HR1_1:=Aside0.mk hr1_1
 have HC1_1:=Aside0.mk hc1_1
 clear hr1_1 hc1_1
 have HB:=Aside0.mk (Below.refl w.heap.size w)
 have H:((garboardref01_Times.f k l0_1 l1_1).bind fun t657=>((garboardref02_Make.f (a0_0 != a1_0) t657).bind fun bt660=>(some (bt660.1,bt660.2)))) = some (r1,r2):=h
 clear h
 obtain ⟨t657,A3,H⟩:=bn_ H
 obtain ⟨⟨t660,t661⟩,A4,H⟩:=bn_ H
 dsimp only at H
 simp only [Option.some.injEq,Prod.mk.injEq] at H
 obtain ⟨rfl,rfl⟩:=H
 go_enter Tryz.func58,Tryz.ntmps58
 try go_wp2_with (first|((with_reducible refine gate_dst (N:=2) rfl ?_);refine bv_ #[.bool a0_0,.slice A0_1 l0_1.length c0_1] 51 ?_;clear HB;intro gb654 hg w5 BK654 GE654 hb HB;clear hb hg)|((with_reducible refine gate_dst (N:=3) rfl ?_);refine bv_ #[.bool a1_0,.slice A1_1 l1_1.length c1_1] 51 ?_;clear HB;intro gb655 hg w6 BK655 GE655 hb HB;have x_:=ol_ BK654 hg hb;clear BK654;obtain ⟨BK654,NB654_655,NB655_654⟩:=x_;clear hb hg)|((with_reducible refine gate_dst (N:=4) rfl ?_);refine bv_ #[.bool false,.slice none 0 0] 51 ?_;clear HB;intro gb656 hg w7 BK656 GE656 hb HB;have x_:=ol_ BK654 hg hb;clear BK654;obtain ⟨BK654,NB654_656,NB656_654⟩:=x_;have x_:=ol_ BK655 hg hb;clear BK655;obtain ⟨BK655,NB655_656,NB656_655⟩:=x_;clear hb hg))
 replace BK654:=dr_ BK654
 replace BK655:=dr_ BK655
 replace BK656:=dr_ BK656
 replace HB:=db_ HB
 refine start_ (n:=12) (S:=fun w'=>w'.cell? ⟨gb654,0,none⟩ = some (.bool a0_0)∧w'.cell? ⟨gb654,1,none⟩ = some (.slice A0_1 l0_1.length c0_1)∧w'.cell? ⟨gb655,0,none⟩ = some (.bool a1_0)∧w'.cell? ⟨gb655,1,none⟩ = some (.slice A1_1 l1_1.length c1_1)) (ds:=[]) #[false,false,false,false,false,false,false,false,false,false,false,false] kr_ rfl rfl hc_ (fun hHeld=>?_);refine with_tabW garboardref02_Times.tab1 garboardref02_Times.bits1 (fun HT_ HW_=>?_)
 generalize w7.drew = w8 at BK654 BK655 BK656 HB hHeld ⊢
 refine pu_ 0 (some 5) #[true,false,false,false,false,false,false,false,false,false,false,false] ?_
 refine pu_ 2 (some 7) #[true,false,true,false,false,false,false,false,false,false,false,false] ?_
 refine pu_ 5 (some 10) #[true,false,true,false,false,true,false,false,false,false,false,false] ?_
 refine pu_ 7 (some 12) #[true,false,true,false,false,true,false,true,false,false,false,false] ?_
 refine tk4_ 1 (some 6) #[true,true,true,false,false,true,false,true,false,false,false,false] hHeld ?_
 refine tk4_ 3 (some 8) #[true,true,true,true,false,true,false,true,false,false,false,false] hHeld ?_
 refine pu_ 4 (some 9) #[true,true,true,true,true,true,false,true,false,false,false,false] ?_
 refine tk4_ 6 (some 11) #[true,true,true,true,true,true,true,true,false,false,false,false] hHeld ?_
 refine tk4_ 8 (some 13) #[true,true,true,true,true,true,true,true,true,false,false,false] hHeld ?_
 refine oc_ 9 (some 14) #[true,true,true,true,true,true,true,true,true,true,false,false] Tryz.func83 #[.slice A0_1 l0_1.length c0_1,.slice A1_1 l1_1.length c1_1] (fun K hK=>?_)
 with_reducible refine (garboardref01_Times.calls k _ _ l0_1 _ _ l1_1 t657 _ ?side1 ?side2 ?side3 ?side4 A3.out).mono ?_
 (case side1=>exact cx_ (Kd.C_below HR0_1.out HB.out))
 (case side2=>exact HC0_1.out)
 (case side3=>exact cx_ (Kd.C_below HR1_1.out HB.out))
 (case side4=>exact HC1_1.out)
 rintro e w9 ⟨v658,rfl,ho0,hb⟩
 refine ⟨_,rfl,?_⟩
 have HO659:=Aside0.mk (Kd.V_lower (Kd.V_mono (ok':=fun k_=>(w.heap.size≤k_)∧k_≠gb654∧k_≠gb655∧k_≠gb656) ho0 (fun k_ hk_=>⟨(Nat.le_trans (below_size bx_) hk_),(Kd.freshB (g:=gb654) (o:=.cells #[.bool a0_0,.slice A0_1 l0_1.length c0_1] 51 (0,0)) bk_ k_ hk_),(Kd.freshB (g:=gb655) (o:=.cells #[.bool a1_0,.slice A1_1 l1_1.length c1_1] 51 (0,0)) bk_ k_ hk_),(Kd.freshB (g:=gb656) (o:=.cells #[.bool false,.slice none 0 0] 51 (0,0)) bk_ k_ hk_)⟩)) (below_size bx_))
 replace BK654:=bb_ BK654 hb
 replace BK655:=bb_ BK655 hb
 replace BK656:=bb_ BK656 hb
 replace HB:=bs_ hb
 (try clear hb)
 (try clear ho0)
 obtain ⟨Ao10,co10,eo10⟩:=Kd.V_slice HO659.out
 (first|subst eo10|(injection eo10 with f1_ f2_ f3_;have f4_:=f1_.symm;have f5_:=f3_.symm;clear f1_ f2_ f3_;subst f4_;subst f5_))
 refine hk_ hK (fun hHeld=>?_);clear hK K
 refine oc_ 10 (some 15) #[true,true,true,true,true,true,true,true,true,true,true,false] Tryz.func44 #[.bool (a0_0 != a1_0),.slice Ao10 t657.length co10] (fun K hK=>?_)
 with_reducible refine (garboardref02_Make.calls (a0_0 != a1_0) (fun k_=>((w.heap.size≤k_)∧(k_≠gb654∧(k_≠gb655∧k_≠gb656)))) _ _ t657 t660 t661 _ ?side1 A4.out).mono ?_
 (case side1=>exact HO659.out)
 rintro e w11 ⟨v662,rfl,ho0,hb⟩
 refine ⟨_,rfl,?_⟩
 have HO663:=Aside0.mk (Kd.V_lower (Kd.V_mono (ok':=fun k_=>(w.heap.size≤k_)∧k_≠gb654∧k_≠gb655∧k_≠gb656) ho0 (fun k_ hk_=>⟨Or.elim hk_ (fun hs_=>hs_.1) (fun hn_=>(Nat.le_trans (below_size bx_) hn_)),Or.elim hk_ (fun hs_=>hs_.2.1) (fun hn_=>(Kd.freshB (g:=gb654) (o:=.cells #[.bool a0_0,.slice A0_1 l0_1.length c0_1] 51 (0,0)) bk_ k_ hn_)),Or.elim hk_ (fun hs_=>hs_.2.2.1) (fun hn_=>(Kd.freshB (g:=gb655) (o:=.cells #[.bool a1_0,.slice A1_1 l1_1.length c1_1] 51 (0,0)) bk_ k_ hn_)),Or.elim hk_ (fun hs_=>hs_.2.2.2) (fun hn_=>(Kd.freshB (g:=gb656) (o:=.cells #[.bool false,.slice none 0 0] 51 (0,0)) bk_ k_ hn_))⟩)) (below_size bx_))
 replace HO659:=vb_ HO659 hb
 replace BK654:=bb_ BK654 hb
 replace BK655:=bb_ BK655 hb
 replace BK656:=bb_ BK656 hb
 replace HB:=bs_ hb
 (try clear hb)
 (try clear ho0)
 obtain ⟨Ao13,co13,eo13⟩:=Kd.V_slice HO663.out
 (first|subst eo13|(injection eo13 with f1_ f2_ f3_;have f4_:=f1_.symm;have f5_:=f3_.symm;clear f1_ f2_ f3_;subst f4_;subst f5_))
 refine hk_ hK (fun hHeld=>?_);clear hK K
 refine one_ (i:=11) (N:=none) #[true,true,true,true,true,true,true,true,true,true,true,true] rfl rfl (one_of HT_.out kr_) de_ (fun K hK=>?_)
 have hs12:w11.cell? ⟨gb656,0,none⟩ = some (.bool false):=(blk_cell BK656.out 0).trans rfl
 have hfs12:=blk_frozen BK656.out 0
 have hns12_0:=NB654_656.out
 have hns12_1:=NB655_656.out
 have hms12_0:=NB656_654.out
 have hms12_1:=NB656_655.out
 have hs14:w11.cell? ⟨gb656,1,none⟩ = some (.slice none 0 0):=(blk_cell BK656.out 1).trans rfl
 have hfs14:=blk_frozen BK656.out 1
 have hns14_0:=NB654_656.out
 have hns14_1:=NB655_656.out
 have hms14_0:=NB656_654.out
 have hms14_1:=NB656_655.out
 refine skip_ (w1:=?_) (by rfl) rfl ?_ ?_
 rotate_left
 ·go_simp
  rfl
 refine hK.out _ _ ⟨((cell_far (p:=⟨gb656,_,none⟩) NB654_656.out _).trans (((cell_far (p:=⟨gb656,_,none⟩) NB654_656.out _).trans (hHeld.1)))),((cell_far (p:=⟨gb656,_,none⟩) NB654_656.out _).trans (((cell_far (p:=⟨gb656,_,none⟩) NB654_656.out _).trans (hHeld.2.1)))),((cell_far (p:=⟨gb656,_,none⟩) NB655_656.out _).trans (((cell_far (p:=⟨gb656,_,none⟩) NB655_656.out _).trans (hHeld.2.2.1)))),((cell_far (p:=⟨gb656,_,none⟩) NB655_656.out _).trans (((cell_far (p:=⟨gb656,_,none⟩) NB655_656.out _).trans (hHeld.2.2.2))))⟩ (fun hHeld=>?_)
 clear hK K
 refine done_ (done_of HT_.out kr_) ?_
 try go_wp2
 refine bodyPost_ret (results_cell_row rfl _ _ gb656 51 #[.bool t660,.slice Ao13 t661.length co13] (0,0) _ rfl bk_ Tryz.underlying51 rfl kr_) rfl ?_
 exact ⟨_,rf_,by (with_reducible repeat (first|apply Kd.V_alloc|apply Kd.V_drewN|apply Kd.V_drew));exact Kd.V_mono (Kd.V_far (p:=⟨gb656,1,none⟩) (Kd.V_far (p:=⟨gb656,0,none⟩) (Kd.V_mono HO663.out (fun k_ hk=>(⟨hk,hk.2.2.2⟩:_∧k_≠gb656))) (fun _ hk=>hk.2) (.bool t660)) (fun _ hk=>hk.2) (.slice Ao13 t661.length co13)) (fun _ hk=>hk.1.1),bx_⟩
end Go.Proofs.YtaknchlegjcdhaaGreatDoor.Pr
namespace Go.Proofs.YtaknchlegjcdhaaGreatDoor.Pr
open Go.RowKit Go.Proofs.YtaknchlegjcdhaaGreatDoorW.PrintWords Go.Proofs.YtaknchlegjcdhaaGreatDoorW.PrintLast Go.Proofs.YtaknchlegjcdhaaGreatDoorW.PrintMore
attribute [local go_sem] max2_int min2_int max_two min_two max_three min_three max_four min_four
set_option maxHeartbeats 8000000
set_option maxRecDepth 100000
set_option linter.unusedVariables false
set_option linter.unusedSimpArgs false
def garboardref02_Mul.f (k:Nat) (a0:ByteArray) (a1:ByteArray):Option (ByteArray × Int):=(garboardref02_both.f k a0 a1).bind fun bt664=>(if bt664.2.2.2.2 = 0 then ((garboardref02_Times.f k bt664.1 bt664.2.1 bt664.2.2.1 bt664.2.2.2.1).bind fun bt675=>((garboardref02_To.f k bt675.1 bt675.2).bind fun t679=>(some (t679,0)))) else (some ((⟨#[]⟩:ByteArray),bt664.2.2.2.2)))
theorem garboardref02_Mul.calls (k:Nat) (a0:ByteArray) (a1:ByteArray) (r1:ByteArray) (r2:Int) (w:World) (h:garboardref02_Mul.f k a0 a1 = some (r1,r2)) :
  Calls Tryz.prog 29 #[.string a0,.string a1] w fun e w'=>e = .returned (.tuple #[.string r1,.int .i64 r2])∧Below w.heap.size w w':=by
 have hu51:=Tryz.underlying51
 have HB:=Aside0.mk (Below.refl w.heap.size w)
 have H:((garboardref02_both.f k a0 a1).bind fun bt664=>(if bt664.2.2.2.2 = 0 then ((garboardref02_Times.f k bt664.1 bt664.2.1 bt664.2.2.1 bt664.2.2.2.1).bind fun bt675=>((garboardref02_To.f k bt675.1 bt675.2).bind fun t679=>(some (t679,0)))) else (some ((⟨#[]⟩:ByteArray),bt664.2.2.2.2)))) = some (r1,r2):=h
 clear h
 obtain ⟨⟨t664,t665,t668,t669,t672⟩,A3,H⟩:=bn_ H
 dsimp only at H
 by_cases c4:t672 = 0
 ·rw [if_pos c4] at H
  have c4b0:(t672 == 0) = true:=beq_iff_eq.mpr c4
  have c4b1:(t672 != 0) = false:=bne_eq_false_iff_eq.mpr c4
  clear c4
  obtain ⟨⟨t675,t676⟩,A5,H⟩:=bn_ H
  dsimp only at H
  obtain ⟨t679,A6,H⟩:=bn_ H
  simp only [Option.some.injEq,Prod.mk.injEq] at H
  obtain ⟨rfl,rfl⟩:=H
  go_enter Tryz.func29,Tryz.ntmps29
  go_wp2_with (first|((with_reducible refine gate_callee (f:=53) rfl ?_);refine gm_ (some 12) Tryz.func53 #[.string a0,.string a1] ?_;(with_reducible refine (garboardref02_both.calls k a0 a1 t664 t665 t668 t669 t672 _ A3.out).mono ?_);rintro e w7 ⟨v666,v670,rfl,ho0,ho1,hb⟩;refine ⟨_,rfl,?_⟩;have HO667:=Aside0.mk (Kd.V_lower (Kd.V_mono (ok':=fun k_=>True) ho0 (fun k_ hk_=>trivial)) (below_size bx_));have HO671:=Aside0.mk (Kd.V_lower (Kd.V_mono (ok':=fun k_=>True) ho1 (fun k_ hk_=>trivial)) (below_size bx_));replace HB:=bs_ hb;(try clear hb);(try clear ho0);(try clear ho1))|((with_reducible refine gate_dst (N:=6) rfl ?_);refine bv_ #[.bool false,.slice none 0 0] 51 ?_;clear HB;intro gb673 hg w8 BK673 GE673 hb HB;replace HO667:=Aside0.mk (Kd.V_below (Kd.V_elderB (by (with_reducible repeat (first|apply Kd.V_alloc|apply Kd.V_drewN|apply Kd.V_drew));exact HO667.out) gb673 (Nat.le_of_eq hg.symm)) hb);replace HO671:=Aside0.mk (Kd.V_below (Kd.V_elderB (by (with_reducible repeat (first|apply Kd.V_alloc|apply Kd.V_drewN|apply Kd.V_drew));exact HO671.out) gb673 (Nat.le_of_eq hg.symm)) hb);clear hb hg)|((with_reducible refine gate_dst (N:=7) rfl ?_);refine bv_ #[.bool false,.slice none 0 0] 51 ?_;clear HB;intro gb674 hg w9 BK674 GE674 hb HB;have x_:=ol_ BK673 hg hb;clear BK673;obtain ⟨BK673,NB673_674,NB674_673⟩:=x_;replace HO667:=Aside0.mk (Kd.V_below (Kd.V_elderB (by (with_reducible repeat (first|apply Kd.V_alloc|apply Kd.V_drewN|apply Kd.V_drew));exact HO667.out) gb674 (Nat.le_of_eq hg.symm)) hb);replace HO671:=Aside0.mk (Kd.V_below (Kd.V_elderB (by (with_reducible repeat (first|apply Kd.V_alloc|apply Kd.V_drewN|apply Kd.V_drew));exact HO671.out) gb674 (Nat.le_of_eq hg.symm)) hb);clear hb hg;have hnb10:=NB673_674.out;have hnc10:=NB674_673.out;obtain ⟨hcz11_0,hcz11_1,hfz11_0,hfz11_1⟩:=c2_ BK673;obtain ⟨Ao12,co12,eo12⟩:=Kd.V_slice HO667.out;subst eo12;obtain ⟨hcz13_0,hcz13_1,hfz13_0,hfz13_1⟩:=c2_ BK674;obtain ⟨Ao14,co14,eo14⟩:=Kd.V_slice HO671.out;subst eo14)|((with_reducible refine gate_callee (f:=58) rfl ?_);refine gm_ (some 21) Tryz.func58 #[.agg #[.bool t664,.slice Ao12 t665.length co12],.agg #[.bool t668,.slice Ao14 t669.length co14]] ?_;(with_reducible refine (garboardref02_Times.calls k t664 _ _ t665 t668 _ _ t669 t675 t676 _ ?side1 ?side2 ?side3 ?side4 A5.out).mono ?_);(case side1=>refine (Kd.V_reads' (e:=95) (base:=w.heap.size) (ok:=fun k_=>((True∧k_≠gb673)∧k_≠gb674)) (n:=t665.length) (c:=co12) ?_).2.2;exact (by (with_reducible repeat (first|apply Kd.V_alloc|apply Kd.V_drewN|apply Kd.V_drew));exact (Kd.V_mono (Kd.V_mono (Kd.V_far (p:=⟨gb674,1,none⟩) (Kd.V_far (p:=⟨gb674,0,none⟩) (Kd.V_far (p:=⟨gb673,1,none⟩) (Kd.V_far (p:=⟨gb673,0,none⟩) (Kd.V_mono (Kd.V_mono HO667.out (fun k_ hk=>(⟨hk,hk.1.2⟩:_∧k_≠gb673))) (fun k_ hk=>(⟨hk,hk.1.2⟩:_∧k_≠gb674))) (fun _ hk=>hk.1.2) (.bool t664)) (fun _ hk=>hk.1.2) (.slice Ao12 t665.length co12)) (fun _ hk=>hk.2) (.bool t668)) (fun _ hk=>hk.2) (.slice Ao14 t669.length co14)) (fun _ h_=>h_.1)) (fun _ h_=>h_.1))));(case side2=>exact (Kd.V_reads' HO667.out).2.1);(case side3=>refine (Kd.V_reads' (e:=95) (base:=w.heap.size) (ok:=fun k_=>((True∧k_≠gb673)∧k_≠gb674)) (n:=t669.length) (c:=co14) ?_).2.2;exact (by (with_reducible repeat (first|apply Kd.V_alloc|apply Kd.V_drewN|apply Kd.V_drew));exact (Kd.V_mono (Kd.V_mono (Kd.V_far (p:=⟨gb674,1,none⟩) (Kd.V_far (p:=⟨gb674,0,none⟩) (Kd.V_far (p:=⟨gb673,1,none⟩) (Kd.V_far (p:=⟨gb673,0,none⟩) (Kd.V_mono (Kd.V_mono HO671.out (fun k_ hk=>(⟨hk,hk.1.2⟩:_∧k_≠gb673))) (fun k_ hk=>(⟨hk,hk.1.2⟩:_∧k_≠gb674))) (fun _ hk=>hk.1.2) (.bool t664)) (fun _ hk=>hk.1.2) (.slice Ao12 t665.length co12)) (fun _ hk=>hk.2) (.bool t668)) (fun _ hk=>hk.2) (.slice Ao14 t669.length co14)) (fun _ h_=>h_.1)) (fun _ h_=>h_.1))));(case side4=>exact (Kd.V_reads' HO671.out).2.1);rintro e w15 ⟨v677,rfl,ho0,hb⟩;refine ⟨_,rfl,?_⟩;have HO678:=Aside0.mk (Kd.V_lower (Kd.V_mono (ok':=fun k_=>k_≠gb673∧k_≠gb674) ho0 (fun k_ hk_=>⟨(Kd.freshB (g:=gb673) (o:=.cells #[.bool t664,.slice Ao12 t665.length co12] 51 (0,0)) bk_ k_ hk_),(Kd.freshB (g:=gb674) (o:=.cells #[.bool t668,.slice Ao14 t669.length co14] 51 (0,0)) bk_ k_ hk_)⟩)) (below_size bx_));replace HO667:=Aside0.mk (Kd.V_below (by (with_reducible repeat (first|apply Kd.V_alloc|apply Kd.V_drewN|apply Kd.V_drew));exact (Kd.V_mono (Kd.V_mono (Kd.V_far (p:=⟨gb674,1,none⟩) (Kd.V_far (p:=⟨gb674,0,none⟩) (Kd.V_far (p:=⟨gb673,1,none⟩) (Kd.V_far (p:=⟨gb673,0,none⟩) (Kd.V_mono (Kd.V_mono HO667.out (fun k_ hk=>(⟨hk,hk.1.2⟩:_∧k_≠gb673))) (fun k_ hk=>(⟨hk,hk.1.2⟩:_∧k_≠gb674))) (fun _ hk=>hk.1.2) (.bool t664)) (fun _ hk=>hk.1.2) (.slice Ao12 t665.length co12)) (fun _ hk=>hk.2) (.bool t668)) (fun _ hk=>hk.2) (.slice Ao14 t669.length co14)) (fun _ h_=>h_.1)) (fun _ h_=>h_.1))) hb);replace HO671:=Aside0.mk (Kd.V_below (by (with_reducible repeat (first|apply Kd.V_alloc|apply Kd.V_drewN|apply Kd.V_drew));exact (Kd.V_mono (Kd.V_mono (Kd.V_far (p:=⟨gb674,1,none⟩) (Kd.V_far (p:=⟨gb674,0,none⟩) (Kd.V_far (p:=⟨gb673,1,none⟩) (Kd.V_far (p:=⟨gb673,0,none⟩) (Kd.V_mono (Kd.V_mono HO671.out (fun k_ hk=>(⟨hk,hk.1.2⟩:_∧k_≠gb673))) (fun k_ hk=>(⟨hk,hk.1.2⟩:_∧k_≠gb674))) (fun _ hk=>hk.1.2) (.bool t664)) (fun _ hk=>hk.1.2) (.slice Ao12 t665.length co12)) (fun _ hk=>hk.2) (.bool t668)) (fun _ hk=>hk.2) (.slice Ao14 t669.length co14)) (fun _ h_=>h_.1)) (fun _ h_=>h_.1))) hb);replace BK673:=Aside0.mk (blk_below (g:=gb673) (o:=.cells #[.bool t664,.slice Ao12 t665.length co12] 51 (0,0)) bk_ hb);replace BK674:=Aside0.mk (blk_below (g:=gb674) (o:=.cells #[.bool t668,.slice Ao14 t669.length co14] 51 (0,0)) bk_ hb);replace HB:=bs_ hb;(try clear hb);(try clear ho0);obtain ⟨Ao16,co16,eo16⟩:=Kd.V_slice HO678.out;subst eo16)|((with_reducible refine gate_callee (f:=43) rfl ?_);refine gm_ (some 22) Tryz.func43 #[.agg #[.bool t675,.slice Ao16 t676.length co16]] ?_;(with_reducible refine (garboardref02_To.calls k t675 _ _ t676 t679 _ ?side1 ?side2 A6.out).mono ?_);(case side1=>exact cx_ ((Kd.V_reads' HO678.out).2.2));(case side2=>exact (Kd.V_reads' HO678.out).2.1);rintro e w17 ⟨rfl,hb⟩;refine ⟨_,rfl,?_⟩;replace HO667:=vb_ HO667 hb;replace HO671:=vb_ HO671 hb;replace HO678:=vb_ HO678 hb;replace BK673:=bb_ BK673 hb;replace BK674:=bb_ BK674 hb;replace HB:=bs_ hb;(try clear hb)))
  go_ret2
  exact ⟨rf_,bx_⟩
 ·rw [if_neg c4] at H
  have c4b0:(t672 == 0) = false:=beq_eq_false_iff_ne.mpr c4
  have c4b1:(t672 != 0) = true:=bne_iff_ne.mpr c4
  simp only [Option.some.injEq,Prod.mk.injEq] at H
  obtain ⟨rfl,rfl⟩:=H
  go_enter Tryz.func29,Tryz.ntmps29
  go_wp2_with (first|((with_reducible refine gate_callee (f:=53) rfl ?_);refine gm_ (some 12) Tryz.func53 #[.string a0,.string a1] ?_;(with_reducible refine (garboardref02_both.calls k a0 a1 t664 t665 t668 t669 t672 _ A3.out).mono ?_);rintro e w18 ⟨v666,v670,rfl,ho0,ho1,hb⟩;refine ⟨_,rfl,?_⟩;have HO667:=Aside0.mk (Kd.V_lower (Kd.V_mono (ok':=fun k_=>True) ho0 (fun k_ hk_=>trivial)) (below_size bx_));have HO671:=Aside0.mk (Kd.V_lower (Kd.V_mono (ok':=fun k_=>True) ho1 (fun k_ hk_=>trivial)) (below_size bx_));replace HB:=bs_ hb;(try clear hb);(try clear ho0);(try clear ho1))|((with_reducible refine gate_dst (N:=6) rfl ?_);refine bv_ #[.bool false,.slice none 0 0] 51 ?_;clear HB;intro gb673 hg w19 BK673 GE673 hb HB;replace HO667:=Aside0.mk (Kd.V_below (Kd.V_elderB (by (with_reducible repeat (first|apply Kd.V_alloc|apply Kd.V_drewN|apply Kd.V_drew));exact HO667.out) gb673 (Nat.le_of_eq hg.symm)) hb);replace HO671:=Aside0.mk (Kd.V_below (Kd.V_elderB (by (with_reducible repeat (first|apply Kd.V_alloc|apply Kd.V_drewN|apply Kd.V_drew));exact HO671.out) gb673 (Nat.le_of_eq hg.symm)) hb);clear hb hg)|((with_reducible refine gate_dst (N:=7) rfl ?_);refine bv_ #[.bool false,.slice none 0 0] 51 ?_;clear HB;intro gb674 hg w20 BK674 GE674 hb HB;have x_:=ol_ BK673 hg hb;clear BK673;obtain ⟨BK673,NB673_674,NB674_673⟩:=x_;replace HO667:=Aside0.mk (Kd.V_below (Kd.V_elderB (by (with_reducible repeat (first|apply Kd.V_alloc|apply Kd.V_drewN|apply Kd.V_drew));exact HO667.out) gb674 (Nat.le_of_eq hg.symm)) hb);replace HO671:=Aside0.mk (Kd.V_below (Kd.V_elderB (by (with_reducible repeat (first|apply Kd.V_alloc|apply Kd.V_drewN|apply Kd.V_drew));exact HO671.out) gb674 (Nat.le_of_eq hg.symm)) hb);clear hb hg;have hnb21:=NB673_674.out;have hnc21:=NB674_673.out;obtain ⟨hcz22_0,hcz22_1,hfz22_0,hfz22_1⟩:=c2_ BK673;obtain ⟨Ao23,co23,eo23⟩:=Kd.V_slice HO667.out;subst eo23;obtain ⟨hcz24_0,hcz24_1,hfz24_0,hfz24_1⟩:=c2_ BK674;obtain ⟨Ao25,co25,eo25⟩:=Kd.V_slice HO671.out;subst eo25))
  go_ret2
  exact ⟨rf_,bx_⟩
end Go.Proofs.YtaknchlegjcdhaaGreatDoor.Pr
set_option linter.unusedVariables false
set_option linter.unusedSimpArgs false
namespace Go.Proofs.YtaknchlegjcdhaaGreatDoor.Pr
open Go.RowKit Go.Lib Go.Proofs.YtaknchlegjcdhaaGreatDoorW.PrintWords Go.Proofs.YtaknchlegjcdhaaGreatDoorW.PrintLast Go.Proofs.YtaknchlegjcdhaaGreatDoorW.PrintMore Go.Proofs.YtaknchlegjcdhaaGreatDoor.NatTh
theorem zn_self (z:Int):zn (decide (z < 0)) z.natAbs = z:=by
 unfold zn
 by_cases hz:z < 0
 ·rw [decide_eq_true hz,if_pos rfl];omega
 ·rw [decide_eq_false hz,if_neg (by simp)];omega
theorem rminus_ev {e:Nat} {y z:Int} (hy:Zs e y) (hz:Zs e z) (h2:e≤100000):Ev (fun k=>garboardref02_Minus.f k (zr y).1 (zr y).2 (zr z).1 (zr z).2) (zr (y - z)):=by
 unfold garboardref02_Minus.f
 refine Ev.congr (fun k=>by rw [ropp_eq,Option.bind_some]) (Ev.bind (rplus_ev hy hz.neg h2) (Ev.congr (fun k=>?_) (Ev.now _)))
 rw [Int.sub_eq_add_neg]
theorem rcmp_ev {e:Nat} {y z:Int} (hy:Zs e y) (hz:Zs e z) (h2:e≤100000):Ev (fun k=>garboardref02_Cmp.f k (zr y).1 (zr y).2 (zr z).1 (zr z).2) (y - z).sign:=by
 unfold garboardref02_Cmp.f
 refine Ev.bind (rminus_ev hy hz h2) (Ev.congr (fun k=>?_) (Ev.now _))
 rw [rsign_eq,Option.bind_some]
theorem zn_mul (y z:Int):zn (decide (y < 0) != decide (z < 0)) (y.natAbs * z.natAbs) = y * z:=by
 unfold zn
 rw [Int.natCast_mul]
 by_cases h1:y < 0
 ·have a1:(y.natAbs:Int) = -y:=by omega
  by_cases h3:z < 0
  ·have a2:(z.natAbs:Int) = -z:=by omega
   rw [decide_eq_true h1,decide_eq_true h3,if_neg (by simp),a1,a2,Int.neg_mul_neg]
  ·have a2:(z.natAbs:Int) = z:=by omega
   rw [decide_eq_true h1,decide_eq_false h3,if_pos (by rfl),a1,a2,Int.neg_mul,Int.neg_neg]
 ·have a1:(y.natAbs:Int) = y:=by omega
  by_cases h3:z < 0
  ·have a2:(z.natAbs:Int) = -z:=by omega
   rw [decide_eq_false h1,decide_eq_true h3,if_pos (by rfl),a1,a2,Int.mul_neg,Int.neg_neg]
  ·have a2:(z.natAbs:Int) = z:=by omega
   rw [decide_eq_false h1,decide_eq_false h3,if_neg (by simp),a1,a2]
theorem rtimes_ev {e:Nat} {y z:Int} (hy:Zs e y) (hz:Zs e z) (h2:e≤100000):Ev (fun k=>garboardref02_Times.f k (zr y).1 (zr y).2 (zr z).1 (zr z).2) (zr (y * z)):=by
 have l1:=hy.len
 have l2:=hz.len
 unfold garboardref02_Times.f
 refine Ev.bind (times_ev _ _ (by unfold Ok;omega) (by unfold Ok;omega)).2 (Ev.congr (fun k=>?_) (Ev.now _))
 rw [zr_fst,zr_fst,make_eq,Option.bind_some,zn_mul]
end Go.Proofs.YtaknchlegjcdhaaGreatDoor.Pr
set_option linter.unusedVariables false
set_option linter.unusedSimpArgs false
namespace Go.Proofs.YtaknchlegjcdhaaGreatDoor.Pr
open Go.RowKit Go.Lib Go.Proofs.YtaknchlegjcdhaaGreatDoorW.PrintWords Go.Proofs.YtaknchlegjcdhaaGreatDoorW.PrintLast Go.Proofs.YtaknchlegjcdhaaGreatDoorW.PrintMore Go.Proofs.YtaknchlegjcdhaaGreatDoor.NatTh
theorem rSub_ev (a b:ByteArray) (ha:S1 a) (hb:S1 b):Ev (fun k=>garboardref02_Sub.f k a b) (subZ a b):=by
 refine Ev.congr (fun k=>rfl) (Ev.bind (rboth_ev a b ha hb) ?_)
 unfold subZ bothR
 by_cases h:okB a b = true
 ·obtain ⟨h1,h2⟩:=ok_and h
  have z1:=zs_zof h1 ha
  have z2:=zs_zof h2 hb
  rw [if_pos h,if_pos h]
  exact Ev.congr (fun k=>if_pos rfl) (Ev.bind (rminus_ev z1 z2 (by omega)) (Ev.bind (rto_ev (z1.sub z2) (by omega) (by omega)) (Ev.now _)))
 ·rw [if_neg h,if_neg h]
  exact Ev.congr (fun k=>if_neg (by simp)) (Ev.now _)
theorem rMul_ev (a b:ByteArray) (ha:S1 a) (hb:S1 b):Ev (fun k=>garboardref02_Mul.f k a b) (mulZ a b):=by
 refine Ev.congr (fun k=>rfl) (Ev.bind (rboth_ev a b ha hb) ?_)
 unfold mulZ bothR
 by_cases h:okB a b = true
 ·obtain ⟨h1,h2⟩:=ok_and h
  have z1:=zs_zof h1 ha
  have z2:=zs_zof h2 hb
  rw [if_pos h,if_pos h]
  exact Ev.congr (fun k=>if_pos rfl) (Ev.bind (rtimes_ev z1 z2 (by omega)) (Ev.bind (rto_ev (z1.mul z2) (by omega) (by omega)) (Ev.now _)))
 ·rw [if_neg h,if_neg h]
  exact Ev.congr (fun k=>if_neg (by simp)) (Ev.now _)
theorem rCompare_ev2 (a b:ByteArray) (ha:S1 a) (hb:S1 b):Ev (fun k=>garboardref02_Compare.f k a b) (cmpZ a b):=by
 refine Ev.congr (fun k=>rfl) (Ev.bind (rboth_ev a b ha hb) ?_)
 unfold cmpZ bothR
 by_cases h:okB a b = true
 ·obtain ⟨h1,h2⟩:=ok_and h
  have z1:=zs_zof h1 ha
  have z2:=zs_zof h2 hb
  rw [if_pos h,if_pos h]
  exact Ev.congr (fun k=>if_pos rfl) (Ev.bind (rcmp_ev z1 z2 (by omega)) (Ev.now _))
 ·rw [if_neg h,if_neg h]
  exact Ev.congr (fun k=>if_neg (by simp)) (Ev.now _)
end Go.Proofs.YtaknchlegjcdhaaGreatDoor.Pr
namespace Go.Proofs.YtaknchlegjcdhaaGreatDoor.Pr
open Go.RowKit Go.Proofs.YtaknchlegjcdhaaGreatDoorW.PrintWords Go.Proofs.YtaknchlegjcdhaaGreatDoorW.PrintLast Go.Proofs.YtaknchlegjcdhaaGreatDoorW.PrintMore
attribute [local go_sem] max2_int min2_int max_two min_two max_three min_three max_four min_four
set_option maxHeartbeats 8000000
set_option maxRecDepth 100000
set_option linter.unusedVariables false
set_option linter.unusedSimpArgs false
def garboardlaw02_IntegerComputes.j0:Nat→ByteArray→ByteArray→Bool→Option (Bool)
 | 0,_,_,_=>none
 | k + 1,x0,x1,x28=>if x28 = true then ((garboardlaw02_awake.f k).bind fun t685=>(some t685)) else ((integer_Compare.f k x0 x1).bind fun bt686=>((garboardref02_Compare.f k x0 x1).bind fun bt688=>((integer_Add.f k x0 x1).bind fun bt690=>((garboardref02_Add.f k x0 x1).bind fun bt692=>((integer_Sub.f k x0 x1).bind fun bt694=>((garboardref02_Sub.f k x0 x1).bind fun bt696=>((integer_Mul.f k x0 x1).bind fun bt698=>((garboardref02_Mul.f k x0 x1).bind fun bt700=>(if bt686.1 = bt688.1 then (if bt686.2 = bt688.2 then (if bt690.1.toList = bt692.1.toList then (if bt690.2 = bt692.2 then (if bt694.1.toList = bt696.1.toList then (if bt694.2 = bt696.2 then (if bt698.1.toList = bt700.1.toList then (some (bt698.2 == bt700.2)) else (some false)) else (some false)) else (some false)) else (some false)) else (some false)) else (some false)) else (some false))))))))))
def garboardlaw02_IntegerComputes.f (k:Nat) (a0:ByteArray) (a1:ByteArray):Option (Bool):=(garboardlaw02_awake.f k).bind fun t680=>(if t680 = true then ((garboardlaw02_long.f k (([a0,a1]:List ByteArray))).bind fun t684=>(garboardlaw02_IntegerComputes.j0 k a0 a1 t684)) else (garboardlaw02_IntegerComputes.j0 k a0 a1 true))
theorem garboardlaw02_IntegerComputes.calls (k:Nat) (a0:ByteArray) (a1:ByteArray) (r:Bool) (w:World) (hL:LaidW w) (h:garboardlaw02_IntegerComputes.f k a0 a1 = some r) (hr:r = true) :
  Calls Tryz.prog 4 #[.string a0,.string a1] w fun e w'=>e = .returned (.bool r)∧Below w.heap.size w w':=by
 have HB:=Aside0.mk (Below.refl w.heap.size w)
 have HLW:=Aside0.mk hL
 clear hL
 have HRT:=Aside0.mk (hr)
 clear hr
 have H:((garboardlaw02_awake.f k).bind fun t680=>(if t680 = true then ((garboardlaw02_long.f k (([a0,a1]:List ByteArray))).bind fun t684=>(garboardlaw02_IntegerComputes.j0 k a0 a1 t684)) else (garboardlaw02_IntegerComputes.j0 k a0 a1 true))) = some r:=h
 clear h
 have HC3:=Aside0.mk H
 clear H
 go_enter Tryz.func4,Tryz.ntmps4
 go_upto_region 1 with (fail)
 go_cut [28] (fun v28 wc=>∃ (kq:Nat) (x28_2:Bool),v28 = .bool x28_2∧Aside0 (garboardlaw02_IntegerComputes.j0 kq a0 a1 x28_2 = some r)∧Aside0 (kq≤k)∧Aside0 (Below w.heap.size w wc))
 case first =>
  have H:=HC3.out
  clear HC3
  obtain ⟨t680,A4,H⟩:=bn_ H
  by_cases c5:t680 = true
  ·subst c5
   have H1:((garboardlaw02_long.f k (([a0,a1]:List ByteArray))).bind fun t684=>(garboardlaw02_IntegerComputes.j0 k a0 a1 t684)) = some r:=by rw [if_pos rfl] at H;exact H
   clear H
   have H:=H1
   clear H1
   obtain ⟨y681,hy681⟩:∃ y_:List ByteArray,y_ = (([a0,a1]:List ByteArray)):=⟨_,rfl⟩
   replace H:((garboardlaw02_long.f k y681).bind fun t684=>(garboardlaw02_IntegerComputes.j0 k a0 a1 t684)) = some r:=by first|(rw [hy681];with_reducible exact H)|(have H2_:=(Option.bind_some _ _).symm.trans H;rw [hy681];with_reducible exact H2_)|(have H2_:=(Option.bind_some _ _).symm.trans H;with_reducible exact H2_)|with_reducible exact H|(rw [hy681];exact H)|exact H
   have Ny681:=Aside0.mk hy681
   clear hy681
   obtain ⟨t684,A6,H⟩:=bn_ H
   have H':=Aside0.mk H
   clear H
   go_wp2_with (first|((with_reducible refine gate_callee (f:=10) rfl ?_);refine gl_ (some 21) Tryz.func10 #[] (garboardlaw02_awake.calls k  true _ (HLW.out.below bx_) A4.out) ?_;clear HB;intro w7 hb HB;clear hb)|((with_reducible refine gate_dst (N:=26) rfl ?_);(try (refine gate_guard (by rfl) ?_;dsimp only));refine Kd.R_lit Kd.string _ 9 ?hg (N:=26) ?hd (xs:=([a0,a1]:List ByteArray)) (inner:=[.string a0,.string a1]) (ok:=fun _=>True) (okp:=fun _=>True) ?hr ?hp (fun _ hk=>hk) trivial (Below.refl _ _) (Nat.le_refl _) sm_ ?_;(case hd=>rfl);(case hg=>rfl);(case hr=>first|(go_simp;done)|(go_simp;rfl));(case hp=>exact (Reps.one (show Kd.M Kd.string _ _ _ a0 [.string a0] from rfl) (Reps.one (show Kd.M Kd.string _ _ _ a1 [.string a1] from rfl) (Reps.none _ _))));intro v682 w8 ho9 hb hg_ hnew_;clear hg_ hnew_;(first|rw [← Ny681.out] at ho9|(simp only [Int.reduceToNat] at ho9;rw [← Ny681.out] at ho9));have HO683:=Aside0.mk (Kd.R_lower ho9 (below_size bx_));replace HB:=bs_ hb;clear hb ho9;obtain ⟨Ao10,co10,eo10⟩:=Kd.R_slice HO683.out;subst eo10)|(go_at_call 11;(with_reducible refine (garboardlaw02_long.calls k _ _ y681 t684 _ ?side1 ?side2 A6.out).mono ?_);(case side1=>exact cx_ ((Kd.R_reads' HO683.out).2.2));(case side2=>exact (Kd.R_reads' HO683.out).2.1);rintro e w' ⟨rfl,⟨nd,rfl⟩⟩))
   go_meet
   case rel=>exact ⟨_,(t684),(by first|rfl|(simp;done)|(simp [*];done)),H',⟨by first|omega|exact Nat.le_refl _⟩,⟨bx_⟩⟩
  ·replace c5:=Bool.eq_false_iff.mpr c5
   subst c5
   have H1:(garboardlaw02_IntegerComputes.j0 k a0 a1 true) = some r:=by rw [if_neg (show ¬ (false = true) by decide)] at H;exact H
   clear H
   have H:=H1
   clear H1
   have H':=Aside0.mk H
   clear H
   go_wp2_with (first|((with_reducible refine gate_callee (f:=10) rfl ?_);refine gl_ (some 21) Tryz.func10 #[] (garboardlaw02_awake.calls k  false _ (HLW.out.below bx_) A4.out) ?_;clear HB;intro w11 hb HB;clear hb))
   go_meet
   case rel=>exact ⟨_,(true),(by first|rfl|(simp;done)|(simp [*];done)),H',⟨by first|omega|exact Nat.le_refl _⟩,⟨bx_⟩⟩
 case rest =>
  clear HC3
  try clear c1
  try clear p2
  try clear c4
  try clear c5
  try clear c10
  obtain ⟨kq,x28_2,rfl,HA,HJ2,HB⟩:=hcut
  cases kq with
  | zero=>exact absurd HA.out (by simp [garboardlaw02_IntegerComputes.j0])
  | succ kj2 =>
   have H:=HA.out
   clear HA
   simp only [garboardlaw02_IntegerComputes.j0] at H
   by_cases c12:x28_2 = true
   ·subst c12
    have H1:((garboardlaw02_awake.f kj2).bind fun t685=>(some t685)) = some r:=by rw [if_pos rfl] at H;exact H
    clear H
    have H:=H1
    clear H1
    obtain ⟨t685,A13,H⟩:=bn_ H
    obtain rfl:=Option.some.inj H
    go_wp2_with (first|((with_reducible refine gate_callee (f:=10) rfl ?_);refine gl_ (some 29) Tryz.func10 #[] (garboardlaw02_awake.calls kj2  t685 _ (HLW.out.below bx_) A13.out) ?_;clear HB;intro w14 hb HB;clear hb))
    go_ret
    exact ⟨rf_,bx_⟩
   ·replace c12:=Bool.eq_false_iff.mpr c12
    subst c12
    have H1:((integer_Compare.f kj2 a0 a1).bind fun bt686=>((garboardref02_Compare.f kj2 a0 a1).bind fun bt688=>((integer_Add.f kj2 a0 a1).bind fun bt690=>((garboardref02_Add.f kj2 a0 a1).bind fun bt692=>((integer_Sub.f kj2 a0 a1).bind fun bt694=>((garboardref02_Sub.f kj2 a0 a1).bind fun bt696=>((integer_Mul.f kj2 a0 a1).bind fun bt698=>((garboardref02_Mul.f kj2 a0 a1).bind fun bt700=>(if bt686.1 = bt688.1 then (if bt686.2 = bt688.2 then (if bt690.1.toList = bt692.1.toList then (if bt690.2 = bt692.2 then (if bt694.1.toList = bt696.1.toList then (if bt694.2 = bt696.2 then (if bt698.1.toList = bt700.1.toList then (some (bt698.2 == bt700.2)) else (some false)) else (some false)) else (some false)) else (some false)) else (some false)) else (some false)) else (some false)))))))))) = some r:=by rw [if_neg (show ¬ (false = true) by decide)] at H;exact H
    clear H
    have H:=H1
    clear H1
    obtain ⟨⟨t686,t687⟩,A15,H⟩:=bn_ H
    dsimp only at H
    obtain ⟨⟨t688,t689⟩,A16,H⟩:=bn_ H
    dsimp only at H
    obtain ⟨⟨t690,t691⟩,A17,H⟩:=bn_ H
    dsimp only at H
    obtain ⟨⟨t692,t693⟩,A18,H⟩:=bn_ H
    dsimp only at H
    obtain ⟨⟨t694,t695⟩,A19,H⟩:=bn_ H
    dsimp only at H
    obtain ⟨⟨t696,t697⟩,A20,H⟩:=bn_ H
    dsimp only at H
    obtain ⟨⟨t698,t699⟩,A21,H⟩:=bn_ H
    dsimp only at H
    obtain ⟨⟨t700,t701⟩,A22,H⟩:=bn_ H
    dsimp only at H
    by_cases c23:t686 = t688
    ·rw [if_pos c23] at H
     have c23b0:(t686 == t688) = true:=beq_iff_eq.mpr c23
     have c23b1:(t686 != t688) = false:=bne_eq_false_iff_eq.mpr c23
     clear c23
     by_cases c24:t687 = t689
     ·rw [if_pos c24] at H
      have c24b0:(t687 == t689) = true:=beq_iff_eq.mpr c24
      have c24b1:(t687 != t689) = false:=bne_eq_false_iff_eq.mpr c24
      clear c24
      by_cases c25:t690.toList = t692.toList
      ·rw [if_pos c25] at H
       have c25b0:(t690.toList == t692.toList) = true:=beq_iff_eq.mpr c25
       have c25b1:(t690.toList != t692.toList) = false:=bne_eq_false_iff_eq.mpr c25
       clear c25
       by_cases c26:t691 = t693
       ·rw [if_pos c26] at H
        have c26b0:(t691 == t693) = true:=beq_iff_eq.mpr c26
        have c26b1:(t691 != t693) = false:=bne_eq_false_iff_eq.mpr c26
        clear c26
        by_cases c27:t694.toList = t696.toList
        ·rw [if_pos c27] at H
         have c27b0:(t694.toList == t696.toList) = true:=beq_iff_eq.mpr c27
         have c27b1:(t694.toList != t696.toList) = false:=bne_eq_false_iff_eq.mpr c27
         clear c27
         by_cases c28:t695 = t697
         ·rw [if_pos c28] at H
          have c28b0:(t695 == t697) = true:=beq_iff_eq.mpr c28
          have c28b1:(t695 != t697) = false:=bne_eq_false_iff_eq.mpr c28
          clear c28
          by_cases c29:t698.toList = t700.toList
          ·rw [if_pos c29] at H
           have c29b0:(t698.toList == t700.toList) = true:=beq_iff_eq.mpr c29
           have c29b1:(t698.toList != t700.toList) = false:=bne_eq_false_iff_eq.mpr c29
           clear c29
           obtain rfl:=Option.some.inj H
           go_wp2_with (first|((with_reducible refine gate_callee (f:=22) rfl ?_);refine gl_ (some 33) Tryz.func22 #[.string a0,.string a1] (integer_Compare.calls kj2 a0 a1 t686 t687 _ (HLW.out.below bx_) A15.out) ?_;clear HB;intro w30 hb HB;clear hb)|((with_reducible refine gate_callee (f:=23) rfl ?_);refine gl_ (some 39) Tryz.func23 #[.string a0,.string a1] (garboardref02_Compare.calls kj2 a0 a1 t688 t689 _ A16.out) ?_;clear HB;intro w31 hb HB;clear hb)|((with_reducible refine gate_callee (f:=24) rfl ?_);refine gl_ (some 45) Tryz.func24 #[.string a0,.string a1] (integer_Add.calls kj2 a0 a1 t690 t691 _ (HLW.out.below bx_) A17.out) ?_;clear HB;intro w32 hb HB;clear hb)|((with_reducible refine gate_callee (f:=25) rfl ?_);refine gl_ (some 51) Tryz.func25 #[.string a0,.string a1] (garboardref02_Add.calls kj2 a0 a1 t692 t693 _ A18.out) ?_;clear HB;intro w33 hb HB;clear hb)|((with_reducible refine gate_callee (f:=26) rfl ?_);refine gl_ (some 57) Tryz.func26 #[.string a0,.string a1] (integer_Sub.calls kj2 a0 a1 t694 t695 _ (HLW.out.below bx_) A19.out) ?_;clear HB;intro w34 hb HB;clear hb)|((with_reducible refine gate_callee (f:=27) rfl ?_);refine gl_ (some 63) Tryz.func27 #[.string a0,.string a1] (garboardref02_Sub.calls kj2 a0 a1 t696 t697 _ A20.out) ?_;clear HB;intro w35 hb HB;clear hb)|((with_reducible refine gate_callee (f:=28) rfl ?_);refine gl_ (some 69) Tryz.func28 #[.string a0,.string a1] (integer_Mul.calls kj2 a0 a1 t698 t699 _ (HLW.out.below bx_) A21.out) ?_;clear HB;intro w36 hb HB;clear hb)|((with_reducible refine gate_callee (f:=29) rfl ?_);refine gl_ (some 75) Tryz.func29 #[.string a0,.string a1] (garboardref02_Mul.calls kj2 a0 a1 t700 t701 _ A22.out) ?_;clear HB;intro w37 hb HB;clear hb))
           go_ret
           exact ⟨rf_,bx_⟩
          ·rw [if_neg c29] at H
           have c29b0:(t698.toList == t700.toList) = false:=beq_eq_false_iff_ne.mpr c29
           have c29b1:(t698.toList != t700.toList) = true:=bne_iff_ne.mpr c29
           exact absurd (Option.some.inj H) (by rw [HRT.out];decide)
         ·rw [if_neg c28] at H
          have c28b0:(t695 == t697) = false:=beq_eq_false_iff_ne.mpr c28
          have c28b1:(t695 != t697) = true:=bne_iff_ne.mpr c28
          exact absurd (Option.some.inj H) (by rw [HRT.out];decide)
        ·rw [if_neg c27] at H
         have c27b0:(t694.toList == t696.toList) = false:=beq_eq_false_iff_ne.mpr c27
         have c27b1:(t694.toList != t696.toList) = true:=bne_iff_ne.mpr c27
         exact absurd (Option.some.inj H) (by rw [HRT.out];decide)
       ·rw [if_neg c26] at H
        have c26b0:(t691 == t693) = false:=beq_eq_false_iff_ne.mpr c26
        have c26b1:(t691 != t693) = true:=bne_iff_ne.mpr c26
        exact absurd (Option.some.inj H) (by rw [HRT.out];decide)
      ·rw [if_neg c25] at H
       have c25b0:(t690.toList == t692.toList) = false:=beq_eq_false_iff_ne.mpr c25
       have c25b1:(t690.toList != t692.toList) = true:=bne_iff_ne.mpr c25
       exact absurd (Option.some.inj H) (by rw [HRT.out];decide)
     ·rw [if_neg c24] at H
      have c24b0:(t687 == t689) = false:=beq_eq_false_iff_ne.mpr c24
      have c24b1:(t687 != t689) = true:=bne_iff_ne.mpr c24
      exact absurd (Option.some.inj H) (by rw [HRT.out];decide)
    ·rw [if_neg c23] at H
     have c23b0:(t686 == t688) = false:=beq_eq_false_iff_ne.mpr c23
     have c23b1:(t686 != t688) = true:=bne_iff_ne.mpr c23
     exact absurd (Option.some.inj H) (by rw [HRT.out];decide)
end Go.Proofs.YtaknchlegjcdhaaGreatDoor.Pr
set_option linter.unusedVariables false
set_option linter.unusedSimpArgs false
namespace Go.Proofs.YtaknchlegjcdhaaGreatDoor.Pr
open Go.RowKit Go.Lib Go.Proofs.YtaknchlegjcdhaaGreatDoorW.PrintWords Go.Proofs.YtaknchlegjcdhaaGreatDoorW.PrintLast Go.Proofs.YtaknchlegjcdhaaGreatDoorW.PrintMore Go.Proofs.YtaknchlegjcdhaaGreatDoor.NatTh
theorem Computes_law (a b:ByteArray):Ev (fun k=>garboardlaw02_IntegerComputes.f k a b) true:=by
 refine law_head [a,b] (by simp) (fun k t=>garboardlaw02_IntegerComputes.j0 k a b t) _ (fun k=>rfl) (fun k=>by rw [garboardlaw02_IntegerComputes.j0,if_pos rfl]) (fun hs=>?_)
 have ha:=s1_120 (hs a (by simp))
 have hb:=s1_120 (hs b (by simp))
 refine Ev.step (fun k=>by rw [garboardlaw02_IntegerComputes.j0,if_neg (by simp)]) (Ev.bind (zCompare_ev a b ha hb) (Ev.bind (rCompare_ev2 a b ha hb) (Ev.bind (zAdd_ev a b ha hb) (Ev.bind (rAdd_ev a b ha hb) (Ev.bind (zSub_ev a b ha hb) (Ev.bind (rSub_ev a b ha hb) (Ev.bind (zMul_ev a b ha hb) (Ev.bind (rMul_ev a b ha hb) ?_))))))))
 refine Ev.congr (fun k=>?_) (Ev.now _)
 rw [if_pos rfl,if_pos rfl,if_pos rfl,if_pos rfl,if_pos rfl,if_pos rfl,if_pos rfl,beq_self_eq_true]
end Go.Proofs.YtaknchlegjcdhaaGreatDoor.Pr
namespace Go.Proofs.YtaknchlegjcdhaaGreatDoor.Pr
set_option linter.unusedVariables false
set_option linter.unusedSimpArgs false
open Go.ChangeShapes Go.WideShapes Go.ChangeAt Go.RowKit Go.Proofs.YtaknchlegjcdhaaGreatDoorW.PrintWords
set_option maxRecDepth 100000 in
theorem integerComputes_lifted (os:Os) (started:os.Started) (H:Type) (enc:TypeId × Value→H) :
  ReturnsInHanded {} Tryz.checked os 4 .any (fun w args=>(Rows.integerComputesSpec.pre enc Tryz.prog Tryz.f4 [] false w args∧laidMetH Tryz.prog laid5 w)∧sizedMet enc Tryz.prog Tryz.f4 (OpenSpec.ofChange Rows.integerComputesSpec) false w args)
   (Rows.integerComputesSpec.post enc Tryz.prog Tryz.f4 false true false false):=by
 refine returnsInHanded_of_change_and (C:=Tryz.checked) (X:=fun w _=>laidMetH Tryz.prog laid5 w) (fun _ _ _ hh h=>h.of_heap hh) own started (by kernel_rfl) Tryz.func4
  (ChangeSpec.witness_shaped (enc:=enc) (C:=Tryz.checked) (os:=os) (X:=fun w _=>laidMetH Tryz.prog laid5 w) false (World.doorLaid Tryz.prog 400 os) #[.string ⟨#[]⟩,.string ⟨#[]⟩] 8 rfl (World.shaped_of_RefB (by kernel_rfl) (by kernel_rfl)) (by kernel_rfl) (by kernel_rfl) (by kernel_rfl) (door_met os _)) ?_
 intro W base args ds gs before hval0 hW _ _ hL _
 have hval:∀ (j:Nat) t v,Tryz.f4.params[j]? = some t→args[j]? = some v→Value.okWide Tryz.prog W .any base t v:=hval0
 have hW':=hW
 obtain ⟨p,q,hA0,hV,rfl,hfz,hnd⟩:=hW
 have hA:DataW.TrodAll enc Tryz.prog W 0 (fun _=>true) true Tryz.f4.params.toList args.toList ds p:=hA0
 rw [Tryz.params4] at hA hval
 obtain ⟨v0,vs0,d0,ds0,p0,q0,hargs,rfl,rfl,h0,r0⟩:=trodAll_cons hA
 obtain ⟨v1,vs1,d1,ds1,p1,q1,rfl,rfl,rfl,h1,r1⟩:=trodAll_cons r0
 obtain ⟨rfl,rfl,rfl⟩:=trodAll_nil r1
 obtain rfl:args = #[v0,v1]:=by cases args;simp_all
 obtain ⟨rfl,rfl⟩:=trodVars_none hV
 have lt0:∀ x ∈ p0,x.block < W.heap.size:=by obtain ⟨m,hm⟩:=h0;exact DataW.trod_lt m _ _ _ hm
 have lt1:∀ x ∈ p1,x.block < W.heap.size:=by obtain ⟨m,hm⟩:=h1;exact DataW.trod_lt m _ _ _ hm
 have k0:=h0
 have k1:=h1
 obtain ⟨a0,rfl⟩:=openS (hval 0 9 v0 rfl rfl) h0
 obtain ⟨a1,rfl⟩:=openS (hval 1 9 v1 rfl rfl) h1
 have hT:=laid_tab hL
 clear hA0 hval0 hval
 obtain ⟨k,hk⟩:=(Computes_law a0 a1).rounds
 refine (garboardlaw02_IntegerComputes.calls k a0 a1 true W hT hk rfl).mono fun e W' ⟨he,bel⟩=>?_
 subst he
 exact ⟨_,rfl,_,_,_,[],_,[],hW',trodAll_mk1 (shut_bool Tryz.underlying4 _),(trodAll_cons_mk (Below.trod laidOut (by kernel_rfl) (of_decide_eq_true (by kernel_rfl)) k0 bel lt0) (trodAll_cons_mk (Below.trod laidOut (by kernel_rfl) (of_decide_eq_true (by kernel_rfl)) k1 bel lt1) trodAll_mk0)),rfl,bel.frame _,fun h=>by cases h⟩
theorem integerComputes_row:Rows.IntegerComputesSaid :=
 OpenClaim.holds_of_wide 4 Tryz.f4 rfl rfl rfl rfl rfl rfl rfl ⟨rfl,rfl,rfl,rfl,rfl⟩ rfl rfl rfl rfl rfl (by kernel_rfl) Tryz.func4 (by kernel_rfl)
  (of_decide_eq_true (by kernel_rfl)) (by unfold Func.isWrapper;first|(rw [if_pos (by decide +kernel)];kernel_rfl)|(rw [if_neg (by decide +kernel)];exact ⟨rfl,rfl⟩))
  (fun os started H enc _=>integerComputes_lifted os started H enc)
end Go.Proofs.YtaknchlegjcdhaaGreatDoor.Pr
namespace Go.Proofs.YtaknchlegjcdhaaGreatDoor
open Go
theorem integerComputes_card_holds:Rows.IntegerComputesCardSaid :=
 Claim7.holds_tied_plain_at .later [] [.data,.data,.data,.sentinel,.sentinel] true (true, "0afddc1d5b9fa5532b563da11c0d14509486c5c674670dcc3f772662c7f756d9") true
  Pr.integerComputes_row (fun _ h=>by cases h) (by kernel_rfl) (fun _ h=>by cases h) integerComputes_row_tie rfl ⟨rfl,rfl⟩ (by kernel_rfl) rfl
  (fun f fn hf hfn=>by
   obtain rfl:f = 4:=Option.some.inj ((show Tryz.prog.funcNamed "garboard/garboardlaw02.IntegerComputes" = some 4 by kernel_rfl).symm.trans hf) |>.symm
   obtain rfl:fn = Tryz.f4:=(Option.some.inj (Tryz.func4.symm.trans hfn)).symm
   exact ⟨by kernel_rfl,fun j t ht=>by
    rw [Tryz.params4] at ht
    have hm:t ∈ [9,9]:=by simpa using Array.mem_of_getElem? ht
    have hall:([9,9].all fun u=>!Tryz.prog.wantsStandIn u) = true:=by kernel_rfl
    exact (show Tryz.prog.wantsStandIn t = false by simpa using List.all_eq_true.1 hall t hm)⟩)
  (by kernel_rfl)
end Go.Proofs.YtaknchlegjcdhaaGreatDoor
