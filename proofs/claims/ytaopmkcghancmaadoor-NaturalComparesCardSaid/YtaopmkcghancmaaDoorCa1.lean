/- Part 1 of 1: garboardlaw01.NaturalCompares (comparing two numbers given as text: the program's answers and the reference's are the same; at most 120 bytes each) answers true for every input, and each argument reads behind the call as before. The library's tables are tied to the program's text by the card. -/
import Derived.Below
import Derived.Deep.Draws
import Derived.Deep.AppendLies
import Derived.Maps.AppendAt
import Derived.OwnWalk
import Derived.Laws.BytesArg
import Derived.Laws.MakeOwn
import Derived.Laws.OwnMore
import Derived.Deep.OwnRows
import Derived.Tactics
import Derived.Lib.ConvBytes
import Derived.Laws.Slices
import Derived.WalkKit
import Derived.KernelRfl
import Derived.RowKit3
import Derived.Deep.LoopGhost
import Derived.Deep.QuietTactic
import Derived.BigQuiet
import Derived.WideLaws
import Derived.Deep.DeepCutAuto
import Derived.Deep.CutBlock
import Derived.Deep.RegionHeld3
import Derived.Laws.Rows
import Derived.Lib.AppendStr
import Derived.ArgAppend
import Derived.Laws.IdiomCopy
import Derived.RowKit
import Derived.OrdersHeld
import Derived.Laws.BitsLemmas
import Derived.Laws.StructEq
import Derived.Test.YtaopmkcghancmaaDoorProg
import Derived.Shelf.Strings.Builder1
import Derived.Shelf.Strings.Builder2
import Derived.Shelf.Small.Wraps
import Derived.Shelf.Strings.BuilderF
import Derived.Shelf.Strings.BuilderK
import Derived.Shelf.Strings.Builder2Cap
import Derived.Shelf.Strconv.Itoa0
import Derived.Shelf.Strconv.Itoa1
import Derived.Shelf.LaysM
import Derived.Shelf.Strconv.Itoa2
import Derived.Shelf.Strconv.Itoa3
import Derived.Shelf.Strconv.Clone
import Derived.Shelf.Strconv.SyntaxError
import Derived.Shelf.Strconv.Lower
import Derived.Shelf.Strconv.ParseUint10
import Derived.Shelf.Strconv.ParseUint10Empty
import Derived.Shelf.Strconv.RangeError
import Derived.Shelf.Strconv.ParseUintEmpty
import Derived.Shelf.Strconv.ParseUint10b64
import Derived.Shelf.Strconv.ParseUint10b32
import Derived.Shelf.Strconv.ParseUint10b16
import Derived.Shelf.Strconv.ParseUint10b8
import Derived.Ground.MpProg
import Derived.Shelf.Pu.ParseUintPublic10
import Derived.Shelf.Strings.Prefix
import Derived.Shelf.Bits.Mul64
import Derived.Shelf.Strings.Repeat
import Derived.Ground.Names2Prog
import Derived.Shelf.Slices.SearchI
import Derived.Lib.AtoiErrMem
import Derived.Lib.ItoaNum
import Derived.Lib.ParseIntB
import Derived.RangeFuncFrom
import Derived.RangeFuncBox
import Derived.RangeFuncLeaves
import Derived.RangeFuncCalls
import Derived.RangeFuncBound
import Derived.Shelf.Abstract
import Derived.OwnWalkIn
import Derived.TacticsInMore
import Derived.LoopNIn
import Derived.LoopIn
import Derived.Lib.Hide
import Derived.Lib.FrozenHead
import Derived.Lib.AppendIntMem
import Derived.Lib.Walk
import Derived.Lib.ItoaMem
import Derived.BigCall
import Derived.BigGuard
import Derived.Lib.SmallJoins
import Derived.LaidMore
import Derived.ProofKit
import Derived.Stop.Joined
import Derived.SizedLaws
import Derived.DataShut
import Derived.SevenTiedAt
import Derived.Test.YtaopmkcghancmaaDoorCz4
namespace Go.Proofs.YtaopmkcghancmaaDoor.Pr
open Go.RowKit Go.Proofs.YtaopmkcghancmaaDoorW.PrintWords Go.Proofs.YtaopmkcghancmaaDoorW.PrintLast Go.Proofs.YtaopmkcghancmaaDoorW.PrintMore
attribute [local go_sem] max2_int min2_int max_two min_two max_three min_three max_four min_four
set_option linter.unusedVariables false
set_option linter.unusedSimpArgs false
set_option maxHeartbeats 8000000 in
set_option maxRecDepth 100000 in
theorem garboardref01_trim.calls (k:Nat) (P0_:Nat→Prop) (A0:Option Addr) (c0:Nat) (l0:List Int) (r:List Int) (w:World) (hs0:Kd.V (Kd.int .u32) 64 w w.heap.size (fun k_=>P0_ k_) (.slice A0 l0.length c0) l0) (h:garboardref01_trim.f k l0 = some r) :
  Calls Tryd.prog 59 #[.slice A0 l0.length c0] w fun e w'=>∃ v0_:Value,e = .returned (v0_)∧Kd.V (Kd.int .u32) 64 w' w.heap.size (fun k_=>(P0_ k_ ∨ w.heap.size≤k_)) v0_ r∧Below w.heap.size w w':=by
 have HO0:=Aside0.mk (show Kd.V (Kd.int .u32) 64 w w.heap.size (fun k_=>(P0_ k_ ∨ w.heap.size≤k_)) (.slice A0 l0.length c0) l0 from Kd.V_mono hs0 (fun k_ hk=>.inl hk))
 have HB:=Aside0.mk (Below.refl w.heap.size w)
 have H:(garboardref01_trim.l0 k l0) = some r:=h
 clear h
 have H':=Aside0.mk H
 clear H
 go_enter Tryd.func59,Tryd.ntmps59
 go_wp2
 go_loopg [0] k (fun kq v0 w'=>∃ (x0_1:List Int),Aside0 (garboardref01_trim.l0 kq x0_1 = some r)∧Aside0 (kq≤k)∧Aside0 (Kd.V (Kd.int .u32) 64 w' w.heap.size (fun k_=>(P0_ k_ ∨ w.heap.size≤k_)) v0 x0_1)∧Aside0 (Below w.heap.size w w'))
 case atStart=>exact ⟨(l0),H',⟨Nat.le_refl _⟩,⟨by (with_reducible repeat (first|apply Kd.V_alloc|apply Kd.V_drewN|apply Kd.V_drew));exact HO0.out⟩,⟨by repeat (first|(with_reducible first|exact HB.out|apply below_alloc|apply pw_below_drewN|apply below_drew1)|exact HB.out)⟩⟩
 case round =>
  clear H'
  obtain ⟨x0_1,HA,HK1,HO_0,HB⟩:=hrel
  cases gk with
  | zero=>exact absurd HA.out (by simp [garboardref01_trim.l0])
  | succ k1 =>
   have H:=HA.out
   clear HA
   simp only [garboardref01_trim.l0] at H
   by_cases c2:(x0_1.length:Int) > 0
   ·rw [if_pos c2] at H
    have c2b0:decide (0 < (x0_1.length:Int)) = true:=decide_eq_true c2
    have c2b1:decide (0 < x0_1.length) = true:=decide_eq_true (by omega)
    clear c2
    obtain ⟨ji3,hji3⟩:∃ j_:Int,(wrap64 ((x0_1.length:Int) - 1)) = j_:=⟨_,rfl⟩
    replace H:(if 0≤(ji3) then (if (ji3) < (x0_1.length:Int) then (if (rd x0_1 (ji3)) = 0 then (if (ji3)≤(x0_1.length:Int) then (garboardref01_trim.l0 k1 (x0_1.take ((ji3):Int).toNat)) else (none)) else (some x0_1)) else (none)) else (none)) = some r:=by first|(rw [hji3] at H;exact H)|(simp only [hji3] at H ⊢;exact H)
    have hji3w:(IntKind.i64.wrap ((x0_1.length:Int) - 1)) = ji3:=(i64_w _).trans hji3
    by_cases c4:0≤(ji3)
    ·rw [if_pos c4] at H
     have c4b0:decide (0≤(ji3)) = true:=decide_eq_true c4
     clear c4
     by_cases c5:(ji3) < (x0_1.length:Int)
     ·rw [if_pos c5] at H
      have c5b0:decide ((ji3) < (x0_1.length:Int)) = true:=decide_eq_true c5
      clear c5
      by_cases c6:(rd x0_1 (ji3)) = 0
      ·rw [if_pos c6] at H
       have c6b0:((rd x0_1 (ji3)) == 0) = true:=beq_iff_eq.mpr c6
       have c6b1:((rd x0_1 (ji3)) != 0) = false:=bne_eq_false_iff_eq.mpr c6
       clear c6
       have c7b0:=eq_true (of_decide_eq_true (by first|(with_reducible assumption)|assumption):0≤(ji3))
       by_cases c8:(ji3)≤(x0_1.length:Int)
       ·rw [if_pos c8] at H
        have c8b0:=eq_true c8
        have c8b1:decide ((ji3)≤(x0_1.length:Int)) = true:=decide_eq_true c8
        clear c8
        obtain ⟨y284,hy284⟩:∃ y_:List Int,y_ = (x0_1.take ((ji3):Int).toNat):=⟨_,rfl⟩
        replace H:(garboardref01_trim.l0 k1 y284) = some r:=by first|(rw [hy284];with_reducible exact H)|(have H2_:=(Option.bind_some _ _).symm.trans H;rw [hy284];with_reducible exact H2_)|(have H2_:=(Option.bind_some _ _).symm.trans H;with_reducible exact H2_)|with_reducible exact H|(rw [hy284];exact H)|exact H
        have Ny284:=Aside0.mk hy284
        clear hy284
        have H':=Aside0.mk H
        clear H
        obtain ⟨Ao9,co9,eo9⟩:=Kd.V_slice HO_0.out
        subst eo9
        have p283:0≤((ji3):Int):=of_decide_eq_true (by first|(with_reducible assumption)|assumption)
        have q283:(ji3) < (x0_1.length:Int):=of_decide_eq_true (by first|(with_reducible assumption)|assumption)
        obtain ⟨ad283,e283,hx283_0⟩:=Kd.at_int (Kd.V_reads' HO_0.out).2.2 (ji3) p283 q283
        cases e283
        replace p283:=eq_true p283
        replace q283:=eq_true q283
        have q10:((ji3):Int)≤((x0_1.length:Int):Int):=of_decide_eq_true (by first|(with_reducible assumption)|assumption)
        obtain ⟨i010,hi010,_,hsz10,_⟩:=info_parts info64
        have hroom10:x0_1.length≤co9:=(Kd.V_reads' HO_0.out).2.1
        have hC10:Kd.F (Kd.int .u32) _ _ (some ad283) x0_1.length x0_1:=(Kd.V_at (base:=w.heap.size) HO_0.out).2.2
        have hcut10:=cut_to (P:=Tryd.prog) 45 64 .i64 Tryd.underlying45 hi010 (some ad283) x0_1.length co9 (ji3) (of_decide_eq_true (by first|(with_reducible assumption)|assumption)) q10 hroom10
        have hr10:=Kd.F_take (m:=((ji3):Int).toNat) hC10 (by omega)
        have hy10:y284.length = ((ji3):Int).toNat:=(by rw [Ny284.out,List.length_take];omega)
        rw [← Ny284.out] at hr10
        rw [← hy10] at hcut10
        have HO288:=Aside0.mk (show Kd.V (Kd.int .u32) 64 _ w.heap.size _ (.slice (some ad283) y284.length co9) y284 from Kd.V_mk (by omega) hr10)
        have HC288:=Aside0.mk (show y284.length≤co9 from by omega)
        clear hr10 hC10 hroom10 hi010 hsz10
        have KY10:=Aside0.mk hy10
        clear hy10
        replace q10:=eq_true q10
        go_wp2
        go_roundg k1
        case measure=>have:=HK1.out;omega
        case rel=>exact ⟨(y284),H',⟨by have:=HK1.out;omega⟩,⟨by (with_reducible repeat (first|apply Kd.V_alloc|apply Kd.V_drewN|apply Kd.V_drew));exact HO288.out⟩,⟨by repeat (first|(with_reducible first|exact HB.out|apply below_alloc|apply pw_below_drewN|apply below_drew1)|exact HB.out)⟩⟩
       ·rw [if_neg c8] at H
        exact absurd H (by simp)
      ·rw [if_neg c6] at H
       have c6b0:((rd x0_1 (ji3)) == 0) = false:=beq_eq_false_iff_ne.mpr c6
       have c6b1:((rd x0_1 (ji3)) != 0) = true:=bne_iff_ne.mpr c6
       obtain rfl:=Option.some.inj H
       obtain ⟨Ao11,co11,eo11⟩:=Kd.V_slice HO_0.out
       subst eo11
       have p283:0≤((ji3):Int):=of_decide_eq_true (by first|(with_reducible assumption)|assumption)
       have q283:(ji3) < (x0_1.length:Int):=of_decide_eq_true (by first|(with_reducible assumption)|assumption)
       obtain ⟨ad283,e283,hx283_0⟩:=Kd.at_int (Kd.V_reads' HO_0.out).2.2 (ji3) p283 q283
       cases e283
       replace p283:=eq_true p283
       replace q283:=eq_true q283
       go_wp2
       go_ret
       exact ⟨_,by first|rfl|(simp [errW_none,errW_some]<;>rfl)|(simp only [← hji3];first|rfl|(simp [errW_none,errW_some]<;>rfl))|(simp [*,errW_none,errW_some]<;>rfl),by (with_reducible repeat (first|apply Kd.V_alloc|apply Kd.V_drewN|apply Kd.V_drew));exact HO_0.out,by repeat (first|(with_reducible first|exact HB.out|apply below_alloc|apply pw_below_drewN|apply below_drew1)|exact HB.out)⟩
     ·rw [if_neg c5] at H
      exact absurd H (by simp)
    ·rw [if_neg c4] at H
     exact absurd H (by simp)
   ·rw [if_neg c2] at H
    have c2b0:decide (0 < (x0_1.length:Int)) = false:=decide_eq_false c2
    have c2b1:decide (0 < x0_1.length) = false:=decide_eq_false (by omega)
    clear c2
    obtain rfl:=Option.some.inj H
    obtain ⟨Ao12,co12,eo12⟩:=Kd.V_slice HO_0.out
    subst eo12
    go_wp2
    go_ret
    exact ⟨_,by first|rfl|(simp [errW_none,errW_some]<;>rfl)|(simp [*,errW_none,errW_some]<;>rfl),by (with_reducible repeat (first|apply Kd.V_alloc|apply Kd.V_drewN|apply Kd.V_drew));exact HO_0.out,by repeat (first|(with_reducible first|exact HB.out|apply below_alloc|apply pw_below_drewN|apply below_drew1)|exact HB.out)⟩
end Go.Proofs.YtaopmkcghancmaaDoor.Pr
namespace Go.Proofs.YtaopmkcghancmaaDoor.Pr
open Go.RowKit Go.Proofs.YtaopmkcghancmaaDoorW.PrintWords Go.Proofs.YtaopmkcghancmaaDoorW.PrintLast Go.Proofs.YtaopmkcghancmaaDoorW.PrintMore
attribute [local go_sem] max2_int min2_int max_two min_two max_three min_three max_four min_four
set_option linter.unusedVariables false
set_option linter.unusedSimpArgs false
set_option maxHeartbeats 8000000 in
set_option maxRecDepth 100000 in
theorem garboardref01_Cmp.calls (k:Nat) (A0:Option Addr) (c0:Nat) (l0:List Int) (A1:Option Addr) (c1:Nat) (l1:List Int) (r:Int) (w:World) (hr0:Kd.C (Kd.int .u32) w A0 l0.length l0) (hc0:l0.length≤c0) (hr1:Kd.C (Kd.int .u32) w A1 l1.length l1) (hc1:l1.length≤c1) (h:garboardref01_Cmp.f k l0 l1 = some r) :
  Calls Tryd.prog 36 #[.slice A0 l0.length c0,.slice A1 l1.length c1] w fun e w'=>e = .returned (.int .i64 r)∧Drawn0 w w':=by
 have HR0:=Aside0.mk hr0
 have HC0:=Aside0.mk hc0
 clear hr0 hc0
 have HR1:=Aside0.mk hr1
 have HC1:=Aside0.mk hc1
 clear hr1 hc1
 have H:(if (l0.length:Int) = (l1.length:Int) then (garboardref01_Cmp.l0 k l0 l1 (wrap64 ((l0.length:Int) - 1))) else (if (l0.length:Int) < (l1.length:Int) then (some (-1)) else (some 1))) = some r:=h
 clear h
 by_cases c3:(l0.length:Int) = (l1.length:Int)
 ·rw [if_pos c3] at H
  have c3b0:((l0.length:Int) == (l1.length:Int)) = true:=beq_iff_eq.mpr c3
  have c3b1:((l0.length:Int) != (l1.length:Int)) = false:=bne_eq_false_iff_eq.mpr c3
  have c3b2:(l0.length == l1.length) = true:=by first|simpa using c3|(simp at c3 ⊢;omega)
  clear c3
  have H':=Aside0.mk H
  clear H
  go_enter Tryd.func36,Tryd.ntmps36
  go_wp2
  repeat (go_quiet (fail);try go_wp2)
  go_loopg [5] k (fun kq v5 w'=>∃ (x5_1:Int),v5 = .int .i64 x5_1∧Aside0 (garboardref01_Cmp.l0 kq l0 l1 x5_1 = some r)∧Aside0 (kq≤k)∧Drawn0 w w')
  case atStart=>exact ⟨(wrap64 ((l0.length:Int) - 1)),(by first|rfl|(simp;done)|(simp [*];done)),H',⟨Nat.le_refl _⟩,by repeat (first|exact Drawn0.refl _|apply Drawn0.step)⟩
  case round =>
   clear H'
   try clear c1
   try clear p2
   try clear c3
   try clear c3b0
   try clear c3b1
   try clear c3b2
   obtain ⟨x5_1,rfl,HA,HK1,⟨m1,rfl⟩⟩:=hrel
   cases gk with
   | zero=>exact absurd HA.out (by simp [garboardref01_Cmp.l0])
   | succ k1 =>
    have H:=HA.out
    clear HA
    simp only [garboardref01_Cmp.l0] at H
    by_cases c4:x5_1 ≥ 0
    ·rw [if_pos c4] at H
     have c4b0:decide (0≤x5_1) = true:=decide_eq_true c4
     clear c4
     by_cases c5:0≤x5_1
     ·rw [if_pos c5] at H
      have c5b0:decide (0≤x5_1) = true:=decide_eq_true c5
      clear c5
      by_cases c6:x5_1 < (l0.length:Int)
      ·rw [if_pos c6] at H
       have c6b0:decide (x5_1 < (l0.length:Int)) = true:=decide_eq_true c6
       clear c6
       by_cases c7:x5_1 < (l1.length:Int)
       ·rw [if_pos c7] at H
        have c7b0:decide (x5_1 < (l1.length:Int)) = true:=decide_eq_true c7
        clear c7
        by_cases c8:(rd l0 x5_1) < (rd l1 x5_1)
        ·rw [if_pos c8] at H
         have c8b0:decide ((rd l0 x5_1) < (rd l1 x5_1)) = true:=decide_eq_true c8
         clear c8
         obtain rfl:=Option.some.inj H
         have p303:0≤(x5_1:Int):=of_decide_eq_true (by first|(with_reducible assumption)|assumption)
         have q303:x5_1 < (l0.length:Int):=of_decide_eq_true (by first|(with_reducible assumption)|assumption)
         obtain ⟨ad303,e303,hx303_0⟩:=Kd.at_int HR0.out x5_1 p303 q303
         cases e303
         replace p303:=eq_true p303
         replace q303:=eq_true q303
         have p304:0≤(x5_1:Int):=of_decide_eq_true (by first|(with_reducible assumption)|assumption)
         have q304:x5_1 < (l1.length:Int):=of_decide_eq_true (by first|(with_reducible assumption)|assumption)
         obtain ⟨ad304,e304,hx304_0⟩:=Kd.at_int HR1.out x5_1 p304 q304
         cases e304
         replace p304:=eq_true p304
         replace q304:=eq_true q304
         go_wp2
         repeat (go_quiet (fail);try go_wp2)
         go_ret
         exact ⟨by first|rfl|(simp;done)|(simp [*];done),by repeat (first|exact Drawn0.refl _|apply Drawn0.step)⟩
        ·rw [if_neg c8] at H
         have c8b0:decide ((rd l0 x5_1) < (rd l1 x5_1)) = false:=decide_eq_false c8
         clear c8
         by_cases c9:(rd l0 x5_1) > (rd l1 x5_1)
         ·rw [if_pos c9] at H
          have c9b0:decide ((rd l1 x5_1) < (rd l0 x5_1)) = true:=decide_eq_true c9
          clear c9
          obtain rfl:=Option.some.inj H
          have p303:0≤(x5_1:Int):=of_decide_eq_true (by first|(with_reducible assumption)|assumption)
          have q303:x5_1 < (l0.length:Int):=of_decide_eq_true (by first|(with_reducible assumption)|assumption)
          obtain ⟨ad303,e303,hx303_0⟩:=Kd.at_int HR0.out x5_1 p303 q303
          cases e303
          replace p303:=eq_true p303
          replace q303:=eq_true q303
          have p304:0≤(x5_1:Int):=of_decide_eq_true (by first|(with_reducible assumption)|assumption)
          have q304:x5_1 < (l1.length:Int):=of_decide_eq_true (by first|(with_reducible assumption)|assumption)
          obtain ⟨ad304,e304,hx304_0⟩:=Kd.at_int HR1.out x5_1 p304 q304
          cases e304
          replace p304:=eq_true p304
          replace q304:=eq_true q304
          have p305:0≤(x5_1:Int):=of_decide_eq_true (by first|(with_reducible assumption)|assumption)
          have q305:x5_1 < (l0.length:Int):=of_decide_eq_true (by first|(with_reducible assumption)|assumption)
          obtain ⟨ad305,e305,hx305_0⟩:=Kd.at_int HR0.out x5_1 p305 q305
          obtain rfl:ad303 = ad305:=(by injection e305)
          replace p305:=eq_true p305
          replace q305:=eq_true q305
          have p306:0≤(x5_1:Int):=of_decide_eq_true (by first|(with_reducible assumption)|assumption)
          have q306:x5_1 < (l1.length:Int):=of_decide_eq_true (by first|(with_reducible assumption)|assumption)
          obtain ⟨ad306,e306,hx306_0⟩:=Kd.at_int HR1.out x5_1 p306 q306
          obtain rfl:ad304 = ad306:=(by injection e306)
          replace p306:=eq_true p306
          replace q306:=eq_true q306
          go_wp2
          repeat (go_quiet (fail);try go_wp2)
          go_ret
          exact ⟨by first|rfl|(simp;done)|(simp [*];done),by repeat (first|exact Drawn0.refl _|apply Drawn0.step)⟩
         ·rw [if_neg c9] at H
          have c9b0:decide ((rd l1 x5_1) < (rd l0 x5_1)) = false:=decide_eq_false c9
          clear c9
          have H':=Aside0.mk H
          clear H
          have p303:0≤(x5_1:Int):=of_decide_eq_true (by first|(with_reducible assumption)|assumption)
          have q303:x5_1 < (l0.length:Int):=of_decide_eq_true (by first|(with_reducible assumption)|assumption)
          obtain ⟨ad303,e303,hx303_0⟩:=Kd.at_int HR0.out x5_1 p303 q303
          cases e303
          replace p303:=eq_true p303
          replace q303:=eq_true q303
          have p304:0≤(x5_1:Int):=of_decide_eq_true (by first|(with_reducible assumption)|assumption)
          have q304:x5_1 < (l1.length:Int):=of_decide_eq_true (by first|(with_reducible assumption)|assumption)
          obtain ⟨ad304,e304,hx304_0⟩:=Kd.at_int HR1.out x5_1 p304 q304
          cases e304
          replace p304:=eq_true p304
          replace q304:=eq_true q304
          have p305:0≤(x5_1:Int):=of_decide_eq_true (by first|(with_reducible assumption)|assumption)
          have q305:x5_1 < (l0.length:Int):=of_decide_eq_true (by first|(with_reducible assumption)|assumption)
          obtain ⟨ad305,e305,hx305_0⟩:=Kd.at_int HR0.out x5_1 p305 q305
          obtain rfl:ad303 = ad305:=(by injection e305)
          replace p305:=eq_true p305
          replace q305:=eq_true q305
          have p306:0≤(x5_1:Int):=of_decide_eq_true (by first|(with_reducible assumption)|assumption)
          have q306:x5_1 < (l1.length:Int):=of_decide_eq_true (by first|(with_reducible assumption)|assumption)
          obtain ⟨ad306,e306,hx306_0⟩:=Kd.at_int HR1.out x5_1 p306 q306
          obtain rfl:ad304 = ad306:=(by injection e306)
          replace p306:=eq_true p306
          replace q306:=eq_true q306
          go_wp2
          repeat (go_quiet (fail);try go_wp2)
          go_roundg k1
          case measure=>have:=HK1.out;omega
          case rel=>exact ⟨(wrap64 (x5_1 - 1)),(by first|rfl|(simp;done)|(simp [*];done)),H',⟨by have:=HK1.out;omega⟩,by repeat (first|exact Drawn0.refl _|apply Drawn0.step)⟩
       ·rw [if_neg c7] at H
        exact absurd H (by simp)
      ·rw [if_neg c6] at H
       exact absurd H (by simp)
     ·rw [if_neg c5] at H
      exact absurd H (by simp)
    ·rw [if_neg c4] at H
     have c4b0:decide (0≤x5_1) = false:=decide_eq_false c4
     clear c4
     obtain rfl:=Option.some.inj H
     go_wp2
     repeat (go_quiet (fail);try go_wp2)
     go_ret
     exact ⟨by first|rfl|(simp;done)|(simp [*];done),by repeat (first|exact Drawn0.refl _|apply Drawn0.step)⟩
 ·rw [if_neg c3] at H
  have c3b0:((l0.length:Int) == (l1.length:Int)) = false:=beq_eq_false_iff_ne.mpr c3
  have c3b1:((l0.length:Int) != (l1.length:Int)) = true:=bne_iff_ne.mpr c3
  have c3b2:(l0.length == l1.length) = false:=by first|simpa using c3|(simp at c3 ⊢;omega)
  by_cases c10:(l0.length:Int) < (l1.length:Int)
  ·rw [if_pos c10] at H
   have c10b0:decide ((l0.length:Int) < (l1.length:Int)) = true:=decide_eq_true c10
   have c10b1:decide (l0.length < l1.length) = true:=decide_eq_true (Int.ofNat_lt.mp c10)
   clear c10
   obtain rfl:=Option.some.inj H
   go_enter Tryd.func36,Tryd.ntmps36
   go_wp2
   repeat (go_quiet (fail);try go_wp2)
   go_ret
   exact ⟨by first|rfl|(simp;done)|(simp [*];done),by repeat (first|exact Drawn0.refl _|apply Drawn0.step)⟩
  ·rw [if_neg c10] at H
   have c10b0:decide ((l0.length:Int) < (l1.length:Int)) = false:=decide_eq_false c10
   have c10b1:decide (l0.length < l1.length) = false:=decide_eq_false (fun h=>c10 (Int.ofNat_lt.mpr h))
   clear c10
   obtain rfl:=Option.some.inj H
   go_enter Tryd.func36,Tryd.ntmps36
   go_wp2
   repeat (go_quiet (fail);try go_wp2)
   go_ret
   exact ⟨by first|rfl|(simp;done)|(simp [*];done),by repeat (first|exact Drawn0.refl _|apply Drawn0.step)⟩
end Go.Proofs.YtaopmkcghancmaaDoor.Pr
namespace Go.Proofs.YtaopmkcghancmaaDoor.Pr
open Go.RowKit Go.Proofs.YtaopmkcghancmaaDoorW.PrintWords Go.Proofs.YtaopmkcghancmaaDoorW.PrintLast Go.Proofs.YtaopmkcghancmaaDoorW.PrintMore
attribute [local go_sem] max2_int min2_int max_two min_two max_three min_three max_four min_four
set_option linter.unusedVariables false
set_option linter.unusedSimpArgs false
def garboardref01_Valid.l0:Nat→ByteArray→Int→Option (Bool)
 | 0,_,_=>none
 | k + 1,x0,x3=>if x3 < (x0.size:Int) then (if 0≤x3 then (if (bt x0 x3) < 48 then (some false) else (if (bt x0 x3) > 57 then (some false) else (garboardref01_Valid.l0 k x0 (wrap64 (x3 + 1))))) else (none)) else (if (x0.size:Int) = 1 then (some true) else (if (x0.size:Int) > 1 then (if 0 < (x0.size:Int) then (some ((bt x0 0) != 48)) else (none)) else (some false)))
def garboardref01_Valid.f (k:Nat) (a0:ByteArray):Option (Bool):=garboardref01_Valid.l0 k a0 0
set_option maxHeartbeats 8000000 in
set_option maxRecDepth 100000 in
theorem garboardref01_Valid.calls (k:Nat) (a0:ByteArray) (r:Bool) (w:World) (h:garboardref01_Valid.f k a0 = some r) :
  Calls Tryd.prog 16 #[.string a0] w fun e w'=>e = .returned (.bool r)∧Drawn0 w w':=by
 have H:(garboardref01_Valid.l0 k a0 0) = some r:=h
 clear h
 have H':=Aside0.mk H
 clear H
 go_enter Tryd.func16,Tryd.ntmps16
 go_wp2
 go_loopg [3] k (fun kq v3 w'=>∃ (x3_1:Int),v3 = .int .i64 x3_1∧Aside0 (garboardref01_Valid.l0 kq a0 x3_1 = some r)∧Aside0 (kq≤k)∧Drawn0 w w')
 case atStart=>exact ⟨(0),(by first|rfl|(simp;done)|(simp [*];done)),H',⟨Nat.le_refl _⟩,by repeat (first|exact Drawn0.refl _|apply Drawn0.step)⟩
 case round =>
  clear H'
  try clear c1
  obtain ⟨x3_1,rfl,HA,HK1,⟨m1,rfl⟩⟩:=hrel
  cases gk with
  | zero=>exact absurd HA.out (by simp [garboardref01_Valid.l0])
  | succ k1 =>
   have H:=HA.out
   clear HA
   simp only [garboardref01_Valid.l0] at H
   by_cases c2:x3_1 < (a0.size:Int)
   ·rw [if_pos c2] at H
    have c2b0:decide (x3_1 < (a0.size:Int)) = true:=decide_eq_true c2
    clear c2
    by_cases c3:0≤x3_1
    ·rw [if_pos c3] at H
     have c3b0:decide (0≤x3_1) = true:=decide_eq_true c3
     clear c3
     by_cases c5:(bt a0 x3_1) < 48
     ·rw [if_pos c5] at H
      have c5b0:decide ((bt a0 x3_1) < 48) = true:=decide_eq_true c5
      clear c5
      obtain rfl:=Option.some.inj H
      have p4:0≤(x3_1:Int):=of_decide_eq_true (by first|(with_reducible assumption)|assumption)
      have q4:x3_1 < (a0.size:Int):=of_decide_eq_true (by first|(with_reducible assumption)|assumption)
      have hx4:=bt_at a0 x3_1
      replace p4:=eq_true p4
      replace q4:=eq_true q4
      go_wp2
      go_ret
      exact ⟨by first|rfl|(simp;done)|(simp [*];done),by repeat (first|exact Drawn0.refl _|apply Drawn0.step)⟩
     ·rw [if_neg c5] at H
      have c5b0:decide ((bt a0 x3_1) < 48) = false:=decide_eq_false c5
      clear c5
      by_cases c7:(bt a0 x3_1) > 57
      ·rw [if_pos c7] at H
       have c7b0:decide (57 < (bt a0 x3_1)) = true:=decide_eq_true c7
       clear c7
       obtain rfl:=Option.some.inj H
       have p4:0≤(x3_1:Int):=of_decide_eq_true (by first|(with_reducible assumption)|assumption)
       have q4:x3_1 < (a0.size:Int):=of_decide_eq_true (by first|(with_reducible assumption)|assumption)
       have hx4:=bt_at a0 x3_1
       replace p4:=eq_true p4
       replace q4:=eq_true q4
       have p6:0≤(x3_1:Int):=of_decide_eq_true (by first|(with_reducible assumption)|assumption)
       have q6:x3_1 < (a0.size:Int):=of_decide_eq_true (by first|(with_reducible assumption)|assumption)
       have hx6:=bt_at a0 x3_1
       replace p6:=eq_true p6
       replace q6:=eq_true q6
       go_wp2
       go_ret
       exact ⟨by first|rfl|(simp;done)|(simp [*];done),by repeat (first|exact Drawn0.refl _|apply Drawn0.step)⟩
      ·rw [if_neg c7] at H
       have c7b0:decide (57 < (bt a0 x3_1)) = false:=decide_eq_false c7
       clear c7
       have H':=Aside0.mk H
       clear H
       have p4:0≤(x3_1:Int):=of_decide_eq_true (by first|(with_reducible assumption)|assumption)
       have q4:x3_1 < (a0.size:Int):=of_decide_eq_true (by first|(with_reducible assumption)|assumption)
       have hx4:=bt_at a0 x3_1
       replace p4:=eq_true p4
       replace q4:=eq_true q4
       have p6:0≤(x3_1:Int):=of_decide_eq_true (by first|(with_reducible assumption)|assumption)
       have q6:x3_1 < (a0.size:Int):=of_decide_eq_true (by first|(with_reducible assumption)|assumption)
       have hx6:=bt_at a0 x3_1
       replace p6:=eq_true p6
       replace q6:=eq_true q6
       go_wp2
       go_roundg k1
       case measure=>have:=HK1.out;omega
       case rel=>exact ⟨(wrap64 (x3_1 + 1)),(by first|rfl|(simp;done)|(simp [*];done)),H',⟨by have:=HK1.out;omega⟩,by repeat (first|exact Drawn0.refl _|apply Drawn0.step)⟩
    ·rw [if_neg c3] at H
     exact absurd H (by simp)
   ·rw [if_neg c2] at H
    have c2b0:decide (x3_1 < (a0.size:Int)) = false:=decide_eq_false c2
    clear c2
    by_cases c8:(a0.size:Int) = 1
    ·rw [if_pos c8] at H
     have c8b0:((a0.size:Int) == 1) = true:=beq_iff_eq.mpr c8
     have c8b1:((a0.size:Int) != 1) = false:=bne_eq_false_iff_eq.mpr c8
     clear c8
     obtain rfl:=Option.some.inj H
     go_wp2
     go_ret
     exact ⟨by first|rfl|(simp;done)|(simp [*];done),by repeat (first|exact Drawn0.refl _|apply Drawn0.step)⟩
    ·rw [if_neg c8] at H
     have c8b0:((a0.size:Int) == 1) = false:=beq_eq_false_iff_ne.mpr c8
     have c8b1:((a0.size:Int) != 1) = true:=bne_iff_ne.mpr c8
     by_cases c9:(a0.size:Int) > 1
     ·rw [if_pos c9] at H
      have c9b0:decide (1 < (a0.size:Int)) = true:=decide_eq_true c9
      have c9b1:decide (1 < a0.size) = true:=decide_eq_true (by omega)
      clear c9
      by_cases c10:0 < (a0.size:Int)
      ·rw [if_pos c10] at H
       have c10b0:decide (0 < (a0.size:Int)) = true:=decide_eq_true c10
       have c10b1:decide (0 < a0.size) = true:=decide_eq_true (by omega)
       clear c10
       obtain rfl:=Option.some.inj H
       have p11:0≤(0:Int):=(by omega)
       have q11:0 < a0.size:=(by have:(0:Int) < (a0.size:Int):=of_decide_eq_true (by first|(with_reducible assumption)|assumption);omega)
       have hx11:∀ h:0 < a0.size,((a0[0]'h).toNat:Int) = bt a0 0:=bt_at a0 0
       clear p11
       have qi11:(0 < (a0.size:Int)) = True:=eq_true (of_decide_eq_true (by first|(with_reducible assumption)|assumption))
       replace q11:=eq_true q11
       go_wp2
       go_ret
       exact ⟨by first|rfl|(simp;done)|(simp [*];done),by repeat (first|exact Drawn0.refl _|apply Drawn0.step)⟩
      ·rw [if_neg c10] at H
       exact absurd H (by simp)
     ·rw [if_neg c9] at H
      have c9b0:decide (1 < (a0.size:Int)) = false:=decide_eq_false c9
      have c9b1:decide (1 < a0.size) = false:=decide_eq_false (by omega)
      clear c9
      obtain rfl:=Option.some.inj H
      go_wp2
      go_ret
      exact ⟨by first|rfl|(simp;done)|(simp [*];done),by repeat (first|exact Drawn0.refl _|apply Drawn0.step)⟩
end Go.Proofs.YtaopmkcghancmaaDoor.Pr
namespace Go.Proofs.YtaopmkcghancmaaDoor.Pr
open Go.RowKit Go.Proofs.YtaopmkcghancmaaDoorW.PrintWords Go.Proofs.YtaopmkcghancmaaDoorW.PrintLast Go.Proofs.YtaopmkcghancmaaDoorW.PrintMore
attribute [local go_sem] max2_int min2_int max_two min_two max_three min_three max_four min_four
set_option linter.unusedVariables false
set_option linter.unusedSimpArgs false
mutual
def garboardref01_From.l0:Nat→ByteArray→List Int→Int→Option (List Int)
 | 0,_,_,_=>none
 | k + 1,x0,x3,x4=>if x4 > 0 then (garboardref01_From.l1 k x0 x3 x4 0 (mx 0 (wrap64 (x4 - 9)))) else ((garboardref01_trim.f k x3).bind fun t289=>(some t289))
def garboardref01_From.l1:Nat→ByteArray→List Int→Int→Int→Int→Option (List Int)
 | 0,_,_,_,_,_=>none
 | k + 1,x0,x3,x4,x5,x6=>if x6 < x4 then (if 0≤x6 then (if x6 < (x0.size:Int) then (garboardref01_From.l1 k x0 x3 x4 ((((10 * x5) % 4294967296) + (((bt x0 x6) - 48) % 256)) % 4294967296) (wrap64 (x6 + 1))) else (none)) else (none)) else (if x3.length < 35184372088832 then (garboardref01_From.l0 k x0 (x3 ++ [x5]) (wrap64 (x4 - 9))) else (none))
end
def garboardref01_From.f (k:Nat) (a0:ByteArray):Option (List Int):=garboardref01_From.l0 k a0 ([]:List Int) (a0.size:Int)
set_option maxHeartbeats 8000000 in
set_option maxRecDepth 100000 in
theorem garboardref01_From.calls (k:Nat) (a0:ByteArray) (r:List Int) (w:World) (h:garboardref01_From.f k a0 = some r) :
  Calls Tryd.prog 54 #[.string a0] w fun e w'=>∃ v0_:Value,e = .returned (v0_)∧Kd.V (Kd.int .u32) 64 w' w.heap.size (fun k_=>(w.heap.size≤k_)) v0_ r∧Below w.heap.size w w':=by
 have HB:=Aside0.mk (Below.refl w.heap.size w)
 have H:(garboardref01_From.l0 k a0 ([]:List Int) (a0.size:Int)) = some r:=h
 clear h
 have H':=Aside0.mk H
 clear H
 go_enter Tryd.func54,Tryd.ntmps54
 go_wp2
 go_loopg [3,4] k (fun kq v3 v4 w'=>∃ (x3_1:List Int) (x4_1:Int),v4 = .int .i64 x4_1∧Aside0 (garboardref01_From.l0 kq a0 x3_1 x4_1 = some r)∧Aside0 (kq≤k)∧Aside0 (Kd.R (Kd.int .u32) 64 w' w.heap.size (fun k_=>(w.heap.size≤k_)) v3 x3_1)∧Aside0 (Below w.heap.size w w'))
 case atStart=>exact ⟨(([]:List Int)),((a0.size:Int)),(by first|rfl|(simp;done)|(simp [*];done)),H',⟨Nat.le_refl _⟩,⟨by first|exact Kd.R_nil _ _ _ _ _|exact Kd.N_nil _ _ _ _ _|exact Kd.V_nil _ _ _ _ _|exact Kd.Q_nil _ _ _ _ _|exact Kd.S_nil _ _ _ _ _⟩,⟨by repeat (first|(with_reducible first|exact HB.out|apply below_alloc|apply pw_below_drewN|apply below_drew1)|exact HB.out)⟩⟩
 case round =>
  clear H'
  obtain ⟨x3_1,x4_1,rfl,HA,HK1,HO_3,HB⟩:=hrel
  cases gk with
  | zero=>exact absurd HA.out (by simp [garboardref01_From.l0])
  | succ k1 =>
   have H:=HA.out
   clear HA
   simp only [garboardref01_From.l0] at H
   by_cases c2:x4_1 > 0
   ·rw [if_pos c2] at H
    have c2b0:decide (0 < x4_1) = true:=decide_eq_true c2
    clear c2
    obtain ⟨ji3,hji3⟩:∃ j_:Int,(mx 0 (wrap64 (x4_1 - 9))) = j_:=⟨_,rfl⟩
    replace H:(garboardref01_From.l1 k1 a0 x3_1 x4_1 0 ji3) = some r:=by first|(rw [hji3] at H;exact H)|(simp only [hji3] at H ⊢;exact H)
    have hji3_:(if 0 < (wrap64 (x4_1 - 9)) then (wrap64 (x4_1 - 9)) else 0) = ji3:=hji3
    have H':=Aside0.mk H
    clear H
    go_wp2
    go_loopg [5,6] k1 (fun kq v5 v6 w'=>∃ (x5_2:Int) (x6_2:Int),v5 = .int .u32 x5_2∧v6 = .int .i64 x6_2∧Aside0 (garboardref01_From.l1 kq a0 x3_1 x4_1 x5_2 x6_2 = some r)∧Aside0 (kq≤k1)∧Aside0 (Kd.R (Kd.int .u32) 64 w' w.heap.size (fun k_=>(w.heap.size≤k_)) u3 x3_1)∧Aside0 (Below w.heap.size w w'))
    case atStart=>exact ⟨(0),(ji3),(by first|rfl|(simp;done)|(simp [*];done)),(by first|rfl|(simp;done)|(simp only [← hji3]<;>(first|rfl|simp))|(simp [*];done)),H',⟨Nat.le_refl _⟩,⟨by (with_reducible repeat (first|apply Kd.R_alloc|apply Kd.R_drewN|apply Kd.R_drew));exact HO_3.out⟩,⟨by repeat (first|(with_reducible first|exact HB.out|apply below_alloc|apply pw_below_drewN|apply below_drew1)|exact HB.out)⟩⟩
    case round =>
     clear H'
     try clear c2
     try clear c2b0
     try clear p2
     obtain ⟨x5_2,x6_2,rfl,rfl,HA,HK2,HO_3,HB⟩:=hrel
     cases gk with
     | zero=>exact absurd HA.out (by simp [garboardref01_From.l1])
     | succ k2 =>
      have H:=HA.out
      clear HA
      simp only [garboardref01_From.l1] at H
      by_cases c4:x6_2 < x4_1
      ·rw [if_pos c4] at H
       have c4b0:decide (x6_2 < x4_1) = true:=decide_eq_true c4
       clear c4
       by_cases c5:0≤x6_2
       ·rw [if_pos c5] at H
        have c5b0:decide (0≤x6_2) = true:=decide_eq_true c5
        clear c5
        by_cases c6:x6_2 < (a0.size:Int)
        ·rw [if_pos c6] at H
         have c6b0:decide (x6_2 < (a0.size:Int)) = true:=decide_eq_true c6
         clear c6
         have H':=Aside0.mk H
         clear H
         have p7:0≤(x6_2:Int):=of_decide_eq_true (by first|(with_reducible assumption)|assumption)
         have q7:x6_2 < (a0.size:Int):=of_decide_eq_true (by first|(with_reducible assumption)|assumption)
         have hx7:=bt_at a0 x6_2
         replace p7:=eq_true p7
         replace q7:=eq_true q7
         go_wp2
         go_roundg k2
         case measure=>have:=HK1.out;have:=HK2.out;omega
         case rel=>exact ⟨((((10 * x5_2) % 4294967296) + (((bt a0 x6_2) - 48) % 256)) % 4294967296),(wrap64 (x6_2 + 1)),(by first|rfl|(simp;done)|(simp [*];done)),(by first|rfl|(simp;done)|(simp [*];done)),H',⟨by have:=HK1.out;have:=HK2.out;omega⟩,⟨by (with_reducible repeat (first|apply Kd.R_alloc|apply Kd.R_drewN|apply Kd.R_drew));exact HO_3.out⟩,⟨by repeat (first|(with_reducible first|exact HB.out|apply below_alloc|apply pw_below_drewN|apply below_drew1)|exact HB.out)⟩⟩
        ·rw [if_neg c6] at H
         exact absurd H (by simp)
       ·rw [if_neg c5] at H
        exact absurd H (by simp)
      ·rw [if_neg c4] at H
       have c4b0:decide (x6_2 < x4_1) = false:=decide_eq_false c4
       clear c4
       by_cases c8:x3_1.length < 35184372088832
       ·rw [if_pos c8] at H
        have LMc8:=Aside0.mk c8
        clear c8
        obtain ⟨y292,hy292⟩:∃ y_:List Int,y_ = (x3_1 ++ [x5_2]):=⟨_,rfl⟩
        replace H:(garboardref01_From.l0 k2 a0 y292 (wrap64 (x4_1 - 9))) = some r:=by first|(rw [hy292];with_reducible exact H)|(have H2_:=(Option.bind_some _ _).symm.trans H;rw [hy292];with_reducible exact H2_)|(have H2_:=(Option.bind_some _ _).symm.trans H;with_reducible exact H2_)|with_reducible exact H|(rw [hy292];exact H)|exact H
        have Ny292:=Aside0.mk hy292
        clear hy292
        have H':=Aside0.mk H
        clear H
        go_wp2_with (first|((with_reducible refine gate_builtin (b:=.append) (xs:=#[.tmp 29,.tmp 31]) rfl ?_);at_builtin;refine Kd.R_append (Kd.int .u32) (w0:=w) w.heap.size rfl (.tmp 29) (.tmp 31) 45 64 (.int .u32 0) 4 rfl Tryd.underlying45 info64 rfl (by decide) (by omega) u3 x3_1 x5_2 [.int .u32 x5_2] (fun k_=>(w.heap.size≤k_)) (fun _=>False) rfl rfl ?aP (fun _ hk=>hk.elim) ?aF ?aO ?aB ?aS ?aL ?_;(case aP=>exact rfl);(case aB=>exact (by repeat (first|(with_reducible first|exact HB.out|apply below_alloc|apply pw_below_drewN|apply below_drew1)|exact HB.out)));(case aF=>exact (fun k_ hk=>(Nat.le_trans (below_size (by repeat (first|(with_reducible first|exact HB.out|apply below_alloc|apply pw_below_drewN|apply below_drew1)|exact HB.out))) hk)));(case aO=>exact (by (with_reducible repeat (first|apply Kd.R_alloc|apply Kd.R_drewN|apply Kd.R_drew));exact HO_3.out));(case aS=>exact (below_size (by repeat (first|(with_reducible first|exact HB.out|apply below_alloc|apply pw_below_drewN|apply below_drew1)|exact HB.out))));(case aL=>have:=LMc8.out;omega);intro v293 w9 ho hb hg hat;rw [← Ny292.out] at ho;have n0_:=Aside0.mk (hb);have n1_:=Aside0.mk (ho);clear HB;clear HO_3;have HB:=n0_;have HO294:=n1_;clear n0_ n1_;clear ho hb hg hat))
        go_roundg k2
        case measure=>have:=HK1.out;have:=HK2.out;omega
        case rel=>exact ⟨(y292),(wrap64 (x4_1 - 9)),(by first|rfl|(simp;done)|(simp [*];done)),H',⟨by have:=HK1.out;have:=HK2.out;omega⟩,⟨by (with_reducible repeat (first|apply Kd.R_alloc|apply Kd.R_drewN|apply Kd.R_drew));exact HO294.out⟩,⟨by repeat (first|(with_reducible first|exact HB.out|apply below_alloc|apply pw_below_drewN|apply below_drew1)|exact HB.out)⟩⟩
       ·rw [if_neg c8] at H
        exact absurd H (by simp)
   ·rw [if_neg c2] at H
    have c2b0:decide (0 < x4_1) = false:=decide_eq_false c2
    clear c2
    replace H:=Option.bind_eq_some_iff.mp H
    obtain ⟨t289,A100,H⟩:=H
    replace H:(some t289) = some r:=H
    have A10:=Aside0.mk A100
    clear A100
    obtain rfl:=Option.some.inj H
    obtain ⟨Ao11,co11,eo11⟩:=Kd.R_slice HO_3.out
    subst eo11
    go_wp2_with (first|((with_reducible refine gate_callee (f:=59) rfl ?_);refine goesL_ (some 34) rfl rfl Tryd.func59 (by kernel_rfl) rfl #[.slice Ao11 x3_1.length co11] rfl (by (try simp only [List.map_toArray,List.map_cons,List.map_nil]);first|done|rfl|(simp only [List.length_drop,List.length_take];rfl)) ?_;(with_reducible refine (garboardref01_trim.calls k1 (fun k_=>some k_ = (.slice Ao11 x3_1.length co11:Value).ownBlock) _ _ x3_1 t289 _ ?side1 A10.out).mono ?_);(case side1=>exact Kd.R_V (Kd.R_tight rfl (HO_3.out)));rintro e w12 ⟨v290,rfl,ho0,hb⟩;refine ⟨_,rfl,?_⟩;have n0_:=Aside0.mk (Kd.R_below (by (with_reducible repeat (first|apply Kd.R_alloc|apply Kd.R_drewN|apply Kd.R_drew));exact HO_3.out) hb);have n1_:=Aside0.mk (Kd.V_lower (Kd.V_mono (ok':=fun k_=>(w.heap.size≤k_)) ho0 (fun k_ hk_=>Or.elim hk_ (fun hs_=>((HO_3.out).1 k_ hs_.symm)) (fun hn_=>(Nat.le_trans (below_size (by repeat (first|(with_reducible first|exact HB.out|apply below_alloc|apply pw_below_drewN|apply below_drew1)|exact HB.out))) hn_)))) (below_size (by repeat (first|(with_reducible first|exact HB.out|apply below_alloc|apply pw_below_drewN|apply below_drew1)|exact HB.out))));have n2_:=Aside0.mk (below_step (by repeat (first|(with_reducible first|exact HB.out|apply below_alloc|apply pw_below_drewN|apply below_drew1)|exact HB.out)) hb);clear HO_3;clear HB;have HO_3:=n0_;have HO291:=n1_;have HB:=n2_;clear n0_ n1_ n2_;(try clear hb);(try clear hb2);(try clear hk);(try clear hi);(try clear ho0)))
    go_ret
    exact ⟨_,by first|rfl|(simp [errW_none,errW_some]<;>rfl)|(simp [*,errW_none,errW_some]<;>rfl),by (with_reducible repeat (first|apply Kd.V_alloc|apply Kd.V_drewN|apply Kd.V_drew));exact HO291.out,by repeat (first|(with_reducible first|exact HB.out|apply below_alloc|apply pw_below_drewN|apply below_drew1)|exact HB.out)⟩
end Go.Proofs.YtaopmkcghancmaaDoor.Pr
set_option linter.unusedVariables false
set_option linter.unusedSimpArgs false
namespace Go.Proofs.YtaopmkcghancmaaDoor.Pr
open Go.RowKit Go.Proofs.YtaopmkcghancmaaDoorW.PrintWords Go.Proofs.YtaopmkcghancmaaDoorW.PrintLast Go.Proofs.YtaopmkcghancmaaDoorW.PrintMore Go.Proofs.YtaopmkcghancmaaDoor.NatTh
theorem rvalid_loop (s:ByteArray) (hs:s.size < 1152921504606846976):∀ (m n:Nat),n + m = s.size→∀ k,garboardref01_Valid.l0 (k + 1 + m) s n = some (((bs s).drop n).all dgB && (!(bs s).isEmpty && (decide ((bs s).length≤1) || (bs s).head? != some 48))):=by
 have hl:=bs_length s
 intro m
 induction m with
 | zero =>
  intro n hn k
  show garboardref01_Valid.l0 (k + 1) s n = _
  unfold garboardref01_Valid.l0
  rw [if_neg (by omega),List.drop_of_length_le (by rw [bs_length];omega)]
  by_cases h1:(s.size:Int) = 1
  ·rw [if_pos h1,decide_eq_true (by omega)]
   have e1:(bs s).isEmpty = false:=by
    rw [List.isEmpty_eq_false_iff,← List.length_pos_iff]
    omega
   rw [e1]
   rfl
  ·rw [if_neg h1]
   by_cases h2:(s.size:Int) > 1
   ·have e1:(bs s).isEmpty = false:=by
     rw [List.isEmpty_eq_false_iff,← List.length_pos_iff]
     omega
    rw [if_pos h2,if_pos (by omega),show (0:Int) = ((0:Nat):Int) from rfl,bt_get s 0 (by omega),e1,decide_eq_false (by omega)]
    have e2:(bs s).head? = some ((bs s).getD 0 0):=by
     rw [List.head?_eq_getElem?,List.getD_eq_getElem?_getD,List.getElem?_eq_getElem (by omega)]
     rfl
    rw [e2]
    by_cases h3:(bs s).getD 0 0 = 48
    ·rw [h3]
     rfl
    ·rw [show ((((bs s).getD 0 0).toNat:Int) != 48) = true by
      rw [bne_iff_ne]
      intro h4
      exact h3 (UInt8.toNat.inj (by have:(48:UInt8).toNat = 48:=rfl;omega))]
     rw [show (some ((bs s).getD 0 0) != some 48) = true by rw [bne_iff_ne];intro h4;exact h3 (Option.some.inj h4)]
     rfl
   ·have e1:bs s = []:=List.eq_nil_of_length_eq_zero (by omega)
    rw [if_neg h2,e1]
    rfl
 | succ m ih =>
  intro n hn k
  have h1:=ih (n + 1) (by omega) k
  rw [all_drop _ n (by rw [bs_length];omega)]
  rw [show k + 1 + (m + 1) = k + 1 + m + 1 by omega]
  unfold garboardref01_Valid.l0
  rw [if_pos (by omega),if_pos (by omega),bt_get s n (by omega),wi1 n (by omega),h1]
  have e3:dgB ((bs s).getD n 0) = (decide (48≤((bs s).getD n 0).toNat) && decide (((bs s).getD n 0).toNat≤57)):=rfl
  rw [e3]
  by_cases h2:(((bs s).getD n 0).toNat:Int) < 48
  ·rw [if_pos h2,decide_eq_false (p:=48≤((bs s).getD n 0).toNat) (by omega)]
   rfl
  ·rw [if_neg h2,decide_eq_true (p:=48≤((bs s).getD n 0).toNat) (by omega)]
   by_cases h3:(((bs s).getD n 0).toNat:Int) > 57
   ·rw [if_pos h3,decide_eq_false (p:=((bs s).getD n 0).toNat≤57) (by omega)]
    rfl
   ·rw [if_neg h3,decide_eq_true (p:=((bs s).getD n 0).toNat≤57) (by omega)]
    rfl
theorem rValid_ev (s:ByteArray) (hs:s.size < 1152921504606846976):Ev (fun k=>garboardref01_Valid.f k s) (nv s):=by
 refine ⟨s.size + 1,fun k hk=>?_⟩
 obtain ⟨k,rfl⟩:∃ j,k = j + 1 + s.size:=⟨k - 1 - s.size,by omega⟩
 simp only [garboardref01_Valid.f,nv]
 rw [show (0:Int) = ((0:Nat):Int) from rfl,rvalid_loop s hs s.size 0 (by omega) k,List.drop_zero,Bool.and_assoc]
end Go.Proofs.YtaopmkcghancmaaDoor.Pr
set_option linter.unusedVariables false
set_option linter.unusedSimpArgs false
namespace Go.Proofs.YtaopmkcghancmaaDoor.Pr
open Go.RowKit Go.Proofs.YtaopmkcghancmaaDoorW.PrintWords Go.Proofs.YtaopmkcghancmaaDoorW.PrintLast Go.Proofs.YtaopmkcghancmaaDoorW.PrintMore Go.Proofs.YtaopmkcghancmaaDoor.NatTh
theorem take_drop_snoc (l:List UInt8) (a i:Nat) (ha:a≤i) (hi:i < l.length):(l.take (i + 1)).drop a = (l.take i).drop a ++ [l.getD i 0]:=by
 rw [List.take_succ_eq_append_getElem hi,List.drop_append_of_le_length (by rw [List.length_take];omega),List.getD_eq_getElem?_getD,List.getElem?_eq_getElem hi]
 rfl
theorem from_inner (s:ByteArray) (hd:∀ c ∈ bs s,isDig c) (e a:Nat) (out:List Int) (he:e≤s.size) (hs:s.size < 1152921504606846976) (hae:e≤a + 9) (hae2:a≤e):∀ (m i:Nat),i + m = e→a≤i→∀ k,garboardref01_From.l1 (k + m) s out e (pv (((bs s).take i).drop a):Int) i = garboardref01_From.l1 k s out e (pv (((bs s).take e).drop a):Int) e:=by
 intro m
 induction m with
 | zero =>
  intro i hi hai k
  obtain rfl:i = e:=by omega
  rfl
 | succ m ih =>
  intro i hi hai k
  have hl:=bs_length s
  have h1:=ih (i + 1) (by omega) (by omega) k
  have hlt:=pv_lt (((bs s).take i).drop a) (fun c hc=>hd c (List.mem_of_mem_take (List.mem_of_mem_drop hc)))
  have hp8:10 ^ (((bs s).take i).drop a).length≤10 ^ 8:=Nat.pow_le_pow_right (by omega) (by rw [List.length_drop,List.length_take];omega)
  have hc:=hd ((bs s).getD i 0) (by
   rw [List.getD_eq_getElem?_getD,List.getElem?_eq_getElem (by omega)]
   exact List.getElem_mem _)
  unfold isDig at hc
  rw [← h1,take_drop_snoc _ _ _ hai (by omega),pv_snoc]
  generalize pv (((bs s).take i).drop a) = p at hlt ⊢
  rw [show k + (m + 1) = k + m + 1 by omega]
  conv=>lhs;unfold garboardref01_From.l1
  rw [if_pos (by omega),if_pos (by omega),if_pos (by omega),bt_get s i (by omega),wi1 i (by omega)]
  rw [Int.emod_eq_of_lt (a:=10 * (p:Int)) (by omega) (by omega),Int.emod_eq_of_lt (b:=256) (by omega) (by omega),Int.emod_eq_of_lt (b:=4294967296) (by omega) (by omega)]
  congr 1
  omega
theorem from_end (s:ByteArray) (out:List Int) (e:Int) (he:e≤0) (k:Nat):garboardref01_From.l0 (k + 1) s out e = (garboardref01_trim.f k out).bind fun t=>some t:=by
 unfold garboardref01_From.l0
 rw [if_neg (by omega)]
theorem from_loop (s:ByteArray) (hd:∀ c ∈ bs s,isDig c) (hs:s.size < 1099511627776) (n:Nat):∀ (e:Nat),e = n→e≤s.size→∀ (out:List Int),out.length + e < 35184372088832 →
  ∃ c,∀ k,garboardref01_From.l0 (k + c) s out e = (garboardref01_trim.f k (out ++ words ((bs s).take e))).bind fun t=>some t:=by
 induction n using Nat.strongRecOn with
 | ind n ih =>
  intro e he hes out ho
  have hl:=bs_length s
  by_cases h0:e = 0
  ·subst h0
   refine ⟨1,fun k=>?_⟩
   rw [List.take_zero,words_nil,List.append_nil]
   exact from_end s out 0 (by omega) k
  ·have hte:((bs s).take e).length = e:=by rw [List.length_take];omega
   have hne:(bs s).take e≠[]:=by
    intro hh
    rw [hh] at hte
    simp at hte
    omega
   have hw:words ((bs s).take e) = (pv (((bs s).take e).drop (e - 9)):Int) :: words ((bs s).take (e - 9)):=by
    rw [words,dif_neg hne,hte,List.take_take,Nat.min_eq_left (by omega)]
   have hat:mx 0 (wrap64 ((e:Int) - 9)) = ((e - 9:Nat):Int):=by
    rw [w64 (by omega) (by omega)]
    unfold mx
    split<;>omega
   have hin:=fun k=>from_inner s hd e (e - 9) out hes (by omega) (by omega) (by omega) (e - (e - 9)) (e - 9) (by omega) (by omega) k
   have hz:((bs s).take (e - 9)).drop (e - 9) = []:=by rw [List.drop_of_length_le (by rw [List.length_take];omega)]
   rw [hz] at hin
   have hout:out.length < 35184372088832:=by omega
   obtain ⟨c,hc⟩:∃ c,∀ k,garboardref01_From.l0 (k + c) s (out ++ [(pv (((bs s).take e).drop (e - 9)):Int)]) (wrap64 ((e:Int) - 9)) = (garboardref01_trim.f k (out ++ words ((bs s).take e))).bind fun t=>some t:=by
    rw [w64 (by omega) (by omega),hw]
    by_cases h9:e≤9
    ·refine ⟨1,fun k=>?_⟩
     rw [show e - 9 = 0 by omega,List.take_zero,words_nil]
     exact from_end s _ _ (by omega) k
    ·obtain ⟨c,hc⟩:=ih (e - 9) (by omega) (e - 9) rfl (by omega) (out ++ [(pv (((bs s).take e).drop (e - 9)):Int)]) (by rw [List.length_append];simp;omega)
     refine ⟨c,fun k=>?_⟩
     have h2:=hc k
     rw [List.append_assoc,List.singleton_append] at h2
     rw [show (e:Int) - 9 = ((e - 9:Nat):Int) by omega]
     exact h2
   refine ⟨c + 1 + (e - (e - 9)) + 1,fun k=>?_⟩
   rw [← hc k]
   have h3:=hin (k + c + 1)
   rw [show k + (c + 1 + (e - (e - 9)) + 1) = k + c + 1 + (e - (e - 9)) + 1 by omega]
   conv=>lhs;unfold garboardref01_From.l0
   rw [if_pos (by omega),hat]
   refine Eq.trans h3 ?_
   conv=>lhs;unfold garboardref01_From.l1
   rw [if_neg (by omega),if_pos hout]
theorem From_ev (s:ByteArray) (hs:s.size < 1099511627776) (h:nv s = true):Ev (fun k=>garboardref01_From.f k s) (numOf (nat s)):=by
 have hn:=(nv_iff s).1 h
 have hl:=bs_length s
 have hw:=words_len _ (bs s) rfl
 have h1:=words_spec _ (bs s) rfl hn.1
 obtain ⟨c,hc⟩:=from_loop s hn.1 hs s.size s.size rfl (Nat.le_refl _) [] (by simp;omega)
 rw [List.take_of_length_le (by omega),List.nil_append] at hc
 have ht:=rtrim_ev (l:=words (bs s)) (by omega)
 rw [trim_numOf (n:=nat s) h1.1 h1.2] at ht
 obtain ⟨K,hK⟩:=ht
 refine ⟨K + c,fun k hk=>?_⟩
 obtain ⟨j,rfl⟩:∃ j,k = j + c:=⟨k - c,by omega⟩
 have h2:=hK j (by omega)
 dsimp only at h2
 simp only [garboardref01_From.f]
 rw [hc j,h2]
 rfl
end Go.Proofs.YtaopmkcghancmaaDoor.Pr
namespace Go.Proofs.YtaopmkcghancmaaDoor.Pr
open Go.RowKit Go.Proofs.YtaopmkcghancmaaDoorW.PrintWords Go.Proofs.YtaopmkcghancmaaDoorW.PrintLast Go.Proofs.YtaopmkcghancmaaDoorW.PrintMore
attribute [local go_sem] max2_int min2_int max_two min_two max_three min_three max_four min_four
set_option linter.unusedVariables false
set_option linter.unusedSimpArgs false
def garboardref01_both.j0:Nat→ByteArray→ByteArray→Bool→Option (List Int × List Int × Int)
 | 0,_,_,_=>none
 | k + 1,x0,x1,x14=>if x14 = true then (some (([]:List Int),([]:List Int),1)) else ((garboardref01_From.f k x0).bind fun t297=>((garboardref01_From.f k x1).bind fun t300=>(some (t297,t300,0))))
def garboardref01_both.f (k:Nat) (a0:ByteArray) (a1:ByteArray):Option (List Int × List Int × Int):=(garboardref01_Valid.f k a0).bind fun t295=>(if t295 = true then ((garboardref01_Valid.f k a1).bind fun t296=>(garboardref01_both.j0 k a0 a1 (!t296))) else (garboardref01_both.j0 k a0 a1 true))
set_option maxHeartbeats 8000000 in
set_option maxRecDepth 100000 in
theorem garboardref01_both.calls (k:Nat) (a0:ByteArray) (a1:ByteArray) (r1:List Int) (r2:List Int) (r3:Int) (w:World) (h:garboardref01_both.f k a0 a1 = some (r1,r2,r3)) :
  Calls Tryd.prog 35 #[.string a0,.string a1] w fun e w'=>∃ v0_ v1_:Value,e = .returned (.tuple #[v0_,v1_,.int .i64 r3])∧Kd.V (Kd.int .u32) 64 w' w.heap.size (fun k_=>(w.heap.size≤k_)) v0_ r1∧Kd.V (Kd.int .u32) 64 w' w.heap.size (fun k_=>(w.heap.size≤k_)) v1_ r2∧Below w.heap.size w w':=by
 have HB:=Aside0.mk (Below.refl w.heap.size w)
 have H:((garboardref01_Valid.f k a0).bind fun t295=>(if t295 = true then ((garboardref01_Valid.f k a1).bind fun t296=>(garboardref01_both.j0 k a0 a1 (!t296))) else (garboardref01_both.j0 k a0 a1 true))) = some (r1,r2,r3):=h
 clear h
 have HC3:=Aside0.mk H
 clear H
 go_enter Tryd.func35,Tryd.ntmps35
 go_upto_region 1 with (fail)
 go_cut [14] (fun v14 wc=>∃ (kq:Nat) (x14_2:Bool),v14 = .bool x14_2∧Aside0 (garboardref01_both.j0 kq a0 a1 x14_2 = some (r1,r2,r3))∧Aside0 (kq≤k)∧Aside0 (Below w.heap.size w wc))
 case first =>
  have H:=HC3.out
  clear HC3
  replace H:=Option.bind_eq_some_iff.mp H
  obtain ⟨t295,A40,H⟩:=H
  replace H:(if t295 = true then ((garboardref01_Valid.f k a1).bind fun t296=>(garboardref01_both.j0 k a0 a1 (!t296))) else (garboardref01_both.j0 k a0 a1 true)) = some (r1,r2,r3):=H
  have A4:=Aside0.mk A40
  clear A40
  by_cases c5:t295 = true
  ·subst c5
   have H1:((garboardref01_Valid.f k a1).bind fun t296=>(garboardref01_both.j0 k a0 a1 (!t296))) = some (r1,r2,r3):=by rw [if_pos rfl] at H;exact H
   clear H
   have H:=H1
   clear H1
   replace H:=Option.bind_eq_some_iff.mp H
   obtain ⟨t296,A60,H⟩:=H
   replace H:(garboardref01_both.j0 k a0 a1 (!t296)) = some (r1,r2,r3):=H
   have A6:=Aside0.mk A60
   clear A60
   have H':=Aside0.mk H
   clear H
   go_wp2_with (first|((with_reducible refine gate_callee (f:=16) rfl ?_);refine goesL_ (some 8) rfl rfl Tryd.func16 (by kernel_rfl) rfl #[.string a0] rfl (by (try simp only [List.map_toArray,List.map_cons,List.map_nil]);first|done|rfl|(simp only [List.length_drop,List.length_take];rfl)) ?_;(with_reducible refine (garboardref01_Valid.calls k a0 true _ A4.out).mono ?_);rintro e w' ⟨rfl,⟨nd,rfl⟩⟩;refine ⟨_,rfl,?_⟩)|(go_at_call 16;(with_reducible refine (garboardref01_Valid.calls k a1 t296 _ A6.out).mono ?_);rintro e w' ⟨rfl,⟨nd,rfl⟩⟩))
   go_meet
   case rel=>exact ⟨_,(!t296),(by first|rfl|(simp;done)|(simp [*];done)),H',⟨by first|omega|exact Nat.le_refl _⟩,⟨by repeat (first|(with_reducible first|exact HB.out|apply below_alloc|apply pw_below_drewN|apply below_drew1)|exact HB.out)⟩⟩
  ·replace c5:=Bool.eq_false_iff.mpr c5
   subst c5
   have H1:(garboardref01_both.j0 k a0 a1 true) = some (r1,r2,r3):=by rw [if_neg (show ¬ (false = true) by decide)] at H;exact H
   clear H
   have H:=H1
   clear H1
   have H':=Aside0.mk H
   clear H
   go_wp2_with (first|((with_reducible refine gate_callee (f:=16) rfl ?_);refine goesL_ (some 8) rfl rfl Tryd.func16 (by kernel_rfl) rfl #[.string a0] rfl (by (try simp only [List.map_toArray,List.map_cons,List.map_nil]);first|done|rfl|(simp only [List.length_drop,List.length_take];rfl)) ?_;(with_reducible refine (garboardref01_Valid.calls k a0 false _ A4.out).mono ?_);rintro e w' ⟨rfl,⟨nd,rfl⟩⟩;refine ⟨_,rfl,?_⟩))
   go_meet
   case rel=>exact ⟨_,(true),(by first|rfl|(simp;done)|(simp [*];done)),H',⟨by first|omega|exact Nat.le_refl _⟩,⟨by repeat (first|(with_reducible first|exact HB.out|apply below_alloc|apply pw_below_drewN|apply below_drew1)|exact HB.out)⟩⟩
 case rest =>
  clear HC3
  try clear c1
  try clear p2
  try clear c3
  try clear c5
  obtain ⟨kq,x14_2,rfl,HA,HJ2,HB⟩:=hcut
  cases kq with
  | zero=>exact absurd HA.out (by simp [garboardref01_both.j0])
  | succ kj2 =>
   have H:=HA.out
   clear HA
   simp only [garboardref01_both.j0] at H
   by_cases c7:x14_2 = true
   ·subst c7
    have H1:(some (([]:List Int),([]:List Int),1)) = some (r1,r2,r3):=by rw [if_pos rfl] at H;exact H
    clear H
    have H:=H1
    clear H1
    simp only [Option.some.injEq,Prod.mk.injEq] at H
    obtain ⟨rfl,rfl,rfl⟩:=H
    go_wp2
    go_ret3
    exact ⟨_,_,by first|rfl|(simp [errW_none,errW_some]<;>rfl)|(simp [*,errW_none,errW_some]<;>rfl),Kd.R_V (base:=w.heap.size) (by first|exact Kd.R_nil _ _ _ _ _|exact Kd.N_nil _ _ _ _ _|exact Kd.V_nil _ _ _ _ _|exact Kd.Q_nil _ _ _ _ _|exact Kd.S_nil _ _ _ _ _),Kd.R_V (base:=w.heap.size) (by first|exact Kd.R_nil _ _ _ _ _|exact Kd.N_nil _ _ _ _ _|exact Kd.V_nil _ _ _ _ _|exact Kd.Q_nil _ _ _ _ _|exact Kd.S_nil _ _ _ _ _),by repeat (first|(with_reducible first|exact HB.out|apply below_alloc|apply pw_below_drewN|apply below_drew1)|exact HB.out)⟩
   ·replace c7:=Bool.eq_false_iff.mpr c7
    subst c7
    have H1:((garboardref01_From.f kj2 a0).bind fun t297=>((garboardref01_From.f kj2 a1).bind fun t300=>(some (t297,t300,0)))) = some (r1,r2,r3):=by rw [if_neg (show ¬ (false = true) by decide)] at H;exact H
    clear H
    have H:=H1
    clear H1
    replace H:=Option.bind_eq_some_iff.mp H
    obtain ⟨t297,A80,H⟩:=H
    replace H:((garboardref01_From.f kj2 a1).bind fun t300=>(some (t297,t300,0))) = some (r1,r2,r3):=H
    have A8:=Aside0.mk A80
    clear A80
    replace H:=Option.bind_eq_some_iff.mp H
    obtain ⟨t300,A90,H⟩:=H
    replace H:(some (t297,t300,0)) = some (r1,r2,r3):=H
    have A9:=Aside0.mk A90
    clear A90
    simp only [Option.some.injEq,Prod.mk.injEq] at H
    obtain ⟨rfl,rfl,rfl⟩:=H
    go_wp2_with (first|((with_reducible refine gate_callee (f:=54) rfl ?_);refine goesL_ (some 16) rfl rfl Tryd.func54 (by kernel_rfl) rfl #[.string a0] rfl (by (try simp only [List.map_toArray,List.map_cons,List.map_nil]);first|done|rfl|(simp only [List.length_drop,List.length_take];rfl)) ?_;(with_reducible refine (garboardref01_From.calls kj2 a0 t297 _ A8.out).mono ?_);rintro e w10 ⟨v298,rfl,ho0,hb⟩;refine ⟨_,rfl,?_⟩;have n0_:=Aside0.mk (Kd.V_lower (Kd.V_mono (ok':=fun k_=>(w.heap.size≤k_)) ho0 (fun k_ hk_=>(Nat.le_trans (below_size (by repeat (first|(with_reducible first|exact HB.out|apply below_alloc|apply pw_below_drewN|apply below_drew1)|exact HB.out))) hk_))) (below_size (by repeat (first|(with_reducible first|exact HB.out|apply below_alloc|apply pw_below_drewN|apply below_drew1)|exact HB.out))));have n1_:=Aside0.mk (below_step (by repeat (first|(with_reducible first|exact HB.out|apply below_alloc|apply pw_below_drewN|apply below_drew1)|exact HB.out)) hb);clear HB;have HO299:=n0_;have HB:=n1_;clear n0_ n1_;(try clear hb);(try clear hb2);(try clear hk);(try clear hi);(try clear ho0))|((with_reducible refine gate_callee (f:=54) rfl ?_);refine goesL_ (some 18) rfl rfl Tryd.func54 (by kernel_rfl) rfl #[.string a1] rfl (by (try simp only [List.map_toArray,List.map_cons,List.map_nil]);first|done|rfl|(simp only [List.length_drop,List.length_take];rfl)) ?_;(with_reducible refine (garboardref01_From.calls kj2 a1 t300 _ A9.out).mono ?_);rintro e w11 ⟨v301,rfl,ho0,hb⟩;refine ⟨_,rfl,?_⟩;have n0_:=Aside0.mk (Kd.V_below (by (with_reducible repeat (first|apply Kd.V_alloc|apply Kd.V_drewN|apply Kd.V_drew));exact HO299.out) hb);have n1_:=Aside0.mk (Kd.V_lower (Kd.V_mono (ok':=fun k_=>(w.heap.size≤k_)) ho0 (fun k_ hk_=>(Nat.le_trans (below_size (by repeat (first|(with_reducible first|exact HB.out|apply below_alloc|apply pw_below_drewN|apply below_drew1)|exact HB.out))) hk_))) (below_size (by repeat (first|(with_reducible first|exact HB.out|apply below_alloc|apply pw_below_drewN|apply below_drew1)|exact HB.out))));have n2_:=Aside0.mk (below_step (by repeat (first|(with_reducible first|exact HB.out|apply below_alloc|apply pw_below_drewN|apply below_drew1)|exact HB.out)) hb);clear HO299;clear HB;have HO299:=n0_;have HO302:=n1_;have HB:=n2_;clear n0_ n1_ n2_;(try clear hb);(try clear hb2);(try clear hk);(try clear hi);(try clear ho0)))
    go_ret3
    exact ⟨_,_,by first|rfl|(simp [errW_none,errW_some]<;>rfl)|(simp [*,errW_none,errW_some]<;>rfl),by (with_reducible repeat (first|apply Kd.V_alloc|apply Kd.V_drewN|apply Kd.V_drew));exact HO299.out,by (with_reducible repeat (first|apply Kd.V_alloc|apply Kd.V_drewN|apply Kd.V_drew));exact HO302.out,by repeat (first|(with_reducible first|exact HB.out|apply below_alloc|apply pw_below_drewN|apply below_drew1)|exact HB.out)⟩
end Go.Proofs.YtaopmkcghancmaaDoor.Pr
set_option linter.unusedVariables false
set_option linter.unusedSimpArgs false
namespace Go.Proofs.YtaopmkcghancmaaDoor.Pr
open Go.RowKit Go.Proofs.YtaopmkcghancmaaDoorW.PrintWords Go.Proofs.YtaopmkcghancmaaDoorW.PrintLast Go.Proofs.YtaopmkcghancmaaDoorW.PrintMore Go.Proofs.YtaopmkcghancmaaDoor.NatTh
theorem rboth_ev (a b:ByteArray) (ha:Sh a) (hb:Sh b):Ev (fun k=>garboardref01_both.f k a b) (bothV a b):=by
 unfold Sh at ha hb
 have va:=rValid_ev a (by omega)
 have vb:=rValid_ev b (by omega)
 unfold bothV
 cases hna:nv a with
 | false =>
  rw [hna] at va
  rw [Bool.false_and,if_neg (by simp)]
  refine Ev.congr (f:=fun k=>(garboardref01_Valid.f k a).bind fun t=>(if t = true then ((garboardref01_Valid.f k b).bind fun t142=>(garboardref01_both.j0 k a b (!t142))) else (garboardref01_both.j0 k a b true))) (fun k=>rfl) (Ev.bind va ?_)
  refine Ev.congr (f:=fun k=>garboardref01_both.j0 k a b true) (fun k=>if_neg (by simp)) ?_
  refine Ev.step (f:=fun k=>some ([],[],1)) (fun k=>?_) (Ev.now _)
  rw [garboardref01_both.j0,if_pos (by rfl)]
 | true =>
  rw [hna] at va
  rw [Bool.true_and]
  refine Ev.congr (f:=fun k=>(garboardref01_Valid.f k a).bind fun t=>(if t = true then ((garboardref01_Valid.f k b).bind fun t142=>(garboardref01_both.j0 k a b (!t142))) else (garboardref01_both.j0 k a b true))) (fun k=>rfl) (Ev.bind va ?_)
  refine Ev.congr (f:=fun k=>((garboardref01_Valid.f k b).bind fun t142=>(garboardref01_both.j0 k a b (!t142)))) (fun k=>if_pos rfl) (Ev.bind vb ?_)
  cases hnb:nv b with
  | false =>
   rw [if_neg (by simp)]
   refine Ev.step (f:=fun k=>some ([],[],1)) (fun k=>?_) (Ev.now _)
   rw [garboardref01_both.j0,if_pos (by rfl)]
  | true =>
   rw [if_pos rfl]
   refine Ev.step (f:=fun k=>((garboardref01_From.f k a).bind fun t297=>((garboardref01_From.f k b).bind fun t300=>(some (t297,t300,0))))) (fun k=>?_) ?_
   ·rw [garboardref01_both.j0,if_neg (by simp)]
   ·exact Ev.bind (From_ev a (by omega) hna) (Ev.bind (From_ev b (by omega) hnb) (Ev.now _))
end Go.Proofs.YtaopmkcghancmaaDoor.Pr
namespace Go.Proofs.YtaopmkcghancmaaDoor.Pr
open Go.RowKit Go.Proofs.YtaopmkcghancmaaDoorW.PrintWords Go.Proofs.YtaopmkcghancmaaDoorW.PrintLast Go.Proofs.YtaopmkcghancmaaDoorW.PrintMore
attribute [local go_sem] max2_int min2_int max_two min_two max_three min_three max_four min_four
set_option linter.unusedVariables false
set_option linter.unusedSimpArgs false
def garboardref01_Compare.f (k:Nat) (a0:ByteArray) (a1:ByteArray):Option (Int × Int):=(garboardref01_both.f k a0 a1).bind fun bt307=>(if bt307.2.2 = 0 then ((garboardref01_Cmp.f k bt307.1 bt307.2.1).bind fun t314=>(some (t314,0))) else (some (0,bt307.2.2)))
set_option maxHeartbeats 8000000 in
set_option maxRecDepth 100000 in
theorem garboardref01_Compare.calls (k:Nat) (a0:ByteArray) (a1:ByteArray) (r1:Int) (r2:Int) (w:World) (h:garboardref01_Compare.f k a0 a1 = some (r1,r2)) :
  Calls Tryd.prog 14 #[.string a0,.string a1] w fun e w'=>e = .returned (.tuple #[.int .i64 r1,.int .i64 r2])∧Below w.heap.size w w':=by
 have HB:=Aside0.mk (Below.refl w.heap.size w)
 have H:((garboardref01_both.f k a0 a1).bind fun bt307=>(if bt307.2.2 = 0 then ((garboardref01_Cmp.f k bt307.1 bt307.2.1).bind fun t314=>(some (t314,0))) else (some (0,bt307.2.2)))) = some (r1,r2):=h
 clear h
 replace H:=Option.bind_eq_some_iff.mp H
 obtain ⟨⟨t307,t310,t313⟩,A30,H⟩:=H
 replace H:(if t313 = 0 then ((garboardref01_Cmp.f k t307 t310).bind fun t314=>(some (t314,0))) else (some (0,t313))) = some (r1,r2):=H
 have A3:=Aside0.mk A30
 clear A30
 by_cases c4:t313 = 0
 ·rw [if_pos c4] at H
  have c4b0:(t313 == 0) = true:=beq_iff_eq.mpr c4
  have c4b1:(t313 != 0) = false:=bne_eq_false_iff_eq.mpr c4
  clear c4
  replace H:=Option.bind_eq_some_iff.mp H
  obtain ⟨t314,A50,H⟩:=H
  replace H:(some (t314,0)) = some (r1,r2):=H
  have A5:=Aside0.mk A50
  clear A50
  simp only [Option.some.injEq,Prod.mk.injEq] at H
  obtain ⟨rfl,rfl⟩:=H
  go_enter Tryd.func14,Tryd.ntmps14
  go_wp2_with (first|((with_reducible refine gate_callee (f:=35) rfl ?_);refine goesL_ (some 12) rfl rfl Tryd.func35 (by kernel_rfl) rfl #[.string a0,.string a1] rfl (by (try simp only [List.map_toArray,List.map_cons,List.map_nil]);first|done|rfl|(simp only [List.length_drop,List.length_take];rfl)) ?_;(with_reducible refine (garboardref01_both.calls k a0 a1 t307 t310 t313 _ A3.out).mono ?_);rintro e w6 ⟨v308,v311,rfl,ho0,ho1,hb⟩;refine ⟨_,rfl,?_⟩;have n0_:=Aside0.mk (Kd.V_lower (Kd.V_mono (ok':=fun k_=>True) ho0 (fun k_ hk_=>trivial)) (below_size (by repeat (first|(with_reducible first|exact HB.out|apply below_alloc|apply pw_below_drewN|apply below_drew1)|exact HB.out))));have n1_:=Aside0.mk (Kd.V_lower (Kd.V_mono (ok':=fun k_=>True) ho1 (fun k_ hk_=>trivial)) (below_size (by repeat (first|(with_reducible first|exact HB.out|apply below_alloc|apply pw_below_drewN|apply below_drew1)|exact HB.out))));have n2_:=Aside0.mk (below_step (by repeat (first|(with_reducible first|exact HB.out|apply below_alloc|apply pw_below_drewN|apply below_drew1)|exact HB.out)) hb);clear HB;have HO309:=n0_;have HO312:=n1_;have HB:=n2_;clear n0_ n1_ n2_;(try clear hb);(try clear hb2);(try clear hk);(try clear hi);(try clear ho0);(try clear ho1);obtain ⟨Ao7,co7,eo7⟩:=Kd.V_slice HO309.out;subst eo7;obtain ⟨Ao8,co8,eo8⟩:=Kd.V_slice HO312.out;subst eo8)|((with_reducible refine gate_callee (f:=36) rfl ?_);refine goesL_ (some 21) rfl rfl Tryd.func36 (by kernel_rfl) rfl #[.slice Ao7 t307.length co7,.slice Ao8 t310.length co8] rfl (by (try simp only [List.map_toArray,List.map_cons,List.map_nil]);first|done|rfl|(simp only [List.length_drop,List.length_take];rfl)) ?_;(with_reducible refine (garboardref01_Cmp.calls k _ _ t307 _ _ t310 t314 _ ?side1 ?side2 ?side3 ?side4 A5.out).mono ?_);(case side1=>repeat (first|exact (Kd.V_reads' HO309.out).2.2|(with_reducible refine Kd.C_alloc ?_ _)|(with_reducible refine Kd.C_drewN ?_ _)|(with_reducible refine Kd.C_drew ?_)));(case side2=>exact (Kd.V_reads' HO309.out).2.1);(case side3=>repeat (first|exact (Kd.V_reads' HO312.out).2.2|(with_reducible refine Kd.C_alloc ?_ _)|(with_reducible refine Kd.C_drewN ?_ _)|(with_reducible refine Kd.C_drew ?_)));(case side4=>exact (Kd.V_reads' HO312.out).2.1);rintro e w' ⟨rfl,⟨nd,rfl⟩⟩;refine ⟨_,rfl,?_⟩))
  go_ret2
  exact ⟨by first|rfl|(simp [errW_none,errW_some]<;>rfl)|(simp [*,errW_none,errW_some]<;>rfl),by repeat (first|(with_reducible first|exact HB.out|apply below_alloc|apply pw_below_drewN|apply below_drew1)|exact HB.out)⟩
 ·rw [if_neg c4] at H
  have c4b0:(t313 == 0) = false:=beq_eq_false_iff_ne.mpr c4
  have c4b1:(t313 != 0) = true:=bne_iff_ne.mpr c4
  simp only [Option.some.injEq,Prod.mk.injEq] at H
  obtain ⟨rfl,rfl⟩:=H
  go_enter Tryd.func14,Tryd.ntmps14
  go_wp2_with (first|((with_reducible refine gate_callee (f:=35) rfl ?_);refine goesL_ (some 12) rfl rfl Tryd.func35 (by kernel_rfl) rfl #[.string a0,.string a1] rfl (by (try simp only [List.map_toArray,List.map_cons,List.map_nil]);first|done|rfl|(simp only [List.length_drop,List.length_take];rfl)) ?_;(with_reducible refine (garboardref01_both.calls k a0 a1 t307 t310 t313 _ A3.out).mono ?_);rintro e w9 ⟨v308,v311,rfl,ho0,ho1,hb⟩;refine ⟨_,rfl,?_⟩;have n0_:=Aside0.mk (Kd.V_lower (Kd.V_mono (ok':=fun k_=>True) ho0 (fun k_ hk_=>trivial)) (below_size (by repeat (first|(with_reducible first|exact HB.out|apply below_alloc|apply pw_below_drewN|apply below_drew1)|exact HB.out))));have n1_:=Aside0.mk (Kd.V_lower (Kd.V_mono (ok':=fun k_=>True) ho1 (fun k_ hk_=>trivial)) (below_size (by repeat (first|(with_reducible first|exact HB.out|apply below_alloc|apply pw_below_drewN|apply below_drew1)|exact HB.out))));have n2_:=Aside0.mk (below_step (by repeat (first|(with_reducible first|exact HB.out|apply below_alloc|apply pw_below_drewN|apply below_drew1)|exact HB.out)) hb);clear HB;have HO309:=n0_;have HO312:=n1_;have HB:=n2_;clear n0_ n1_ n2_;(try clear hb);(try clear hb2);(try clear hk);(try clear hi);(try clear ho0);(try clear ho1)))
  go_ret2
  exact ⟨by first|rfl|(simp [errW_none,errW_some]<;>rfl)|(simp [*,errW_none,errW_some]<;>rfl),by repeat (first|(with_reducible first|exact HB.out|apply below_alloc|apply pw_below_drewN|apply below_drew1)|exact HB.out)⟩
end Go.Proofs.YtaopmkcghancmaaDoor.Pr
set_option linter.unusedVariables false
set_option linter.unusedSimpArgs false
namespace Go.Proofs.YtaopmkcghancmaaDoor.Pr
open Go.RowKit Go.Lib Go.Proofs.YtaopmkcghancmaaDoorW.PrintWords Go.Proofs.YtaopmkcghancmaaDoorW.PrintLast Go.Proofs.YtaopmkcghancmaaDoorW.PrintMore Go.Proofs.YtaopmkcghancmaaDoor.NatTh
theorem rCompare_ev (a b:ByteArray) (ha:Sh a) (hb:Sh b):Ev (fun k=>garboardref01_Compare.f k a b) (cmpSV a b):=by
 refine Ev.congr (fun k=>rfl) (Ev.bind (rboth_ev a b ha hb) ?_)
 unfold cmpSV bothV
 by_cases h:(nv a && nv b) = true
 ·obtain ⟨h1,h2⟩:=Bool.and_eq_true_iff.1 h
  rw [if_pos h,if_pos h]
  have la:=nat_can a h1 ha
  have lb:=nat_can b h2 hb
  have hc:=(compare_ev (nat a) (nat b) (by unfold Ok;omega) (by unfold Ok;omega)).2
  exact Ev.congr (f:=fun k=>(garboardref01_Cmp.f k (numOf (nat a)) (numOf (nat b))).bind fun t=>some (t,0)) (fun k=>if_pos rfl) (Ev.bind hc (Ev.now _))
 ·rw [if_neg h,if_neg h]
  exact ⟨0,fun k _=>rfl⟩
end Go.Proofs.YtaopmkcghancmaaDoor.Pr
namespace Go.Proofs.YtaopmkcghancmaaDoor.Pr
open Go.RowKit Go.Proofs.YtaopmkcghancmaaDoorW.PrintWords Go.Proofs.YtaopmkcghancmaaDoorW.PrintLast Go.Proofs.YtaopmkcghancmaaDoorW.PrintMore
attribute [local go_sem] max2_int min2_int max_two min_two max_three min_three max_four min_four
set_option linter.unusedVariables false
set_option linter.unusedSimpArgs false
def garboardlaw01_NaturalCompares.j0:Nat→ByteArray→ByteArray→Bool→Option (Bool)
 | 0,_,_,_=>none
 | k + 1,x0,x1,x16=>if x16 = true then ((garboardlaw01_awake.f k).bind fun t320=>(some t320)) else ((natural_Compare.f k x0 x1).bind fun bt321=>((garboardref01_Compare.f k x0 x1).bind fun bt323=>((natural_Valid.f k x0).bind fun t325=>((garboardref01_Valid.f k x0).bind fun t326=>(if (t325 == t326) = true then (if bt321.1 = bt323.1 then (some (bt321.2 == bt323.2)) else (some false)) else (some false))))))
def garboardlaw01_NaturalCompares.f (k:Nat) (a0:ByteArray) (a1:ByteArray):Option (Bool):=(garboardlaw01_awake.f k).bind fun t315=>(if t315 = true then ((garboardlaw01_long.f k (([a0,a1]:List ByteArray))).bind fun t319=>(garboardlaw01_NaturalCompares.j0 k a0 a1 t319)) else (garboardlaw01_NaturalCompares.j0 k a0 a1 true))
set_option maxHeartbeats 8000000 in
set_option maxRecDepth 100000 in
theorem garboardlaw01_NaturalCompares.calls (k:Nat) (a0:ByteArray) (a1:ByteArray) (r:Bool) (w:World) (hL:LaidW w) (h:garboardlaw01_NaturalCompares.f k a0 a1 = some r) :
  Calls Tryd.prog 3 #[.string a0,.string a1] w fun e w'=>e = .returned (.bool r)∧Below w.heap.size w w':=by
 have HB:=Aside0.mk (Below.refl w.heap.size w)
 have HLW:=Aside0.mk hL
 clear hL
 have H:((garboardlaw01_awake.f k).bind fun t315=>(if t315 = true then ((garboardlaw01_long.f k (([a0,a1]:List ByteArray))).bind fun t319=>(garboardlaw01_NaturalCompares.j0 k a0 a1 t319)) else (garboardlaw01_NaturalCompares.j0 k a0 a1 true))) = some r:=h
 clear h
 have HC3:=Aside0.mk H
 clear H
 go_enter Tryd.func3,Tryd.ntmps3
 go_upto_region 1 with (fail)
 go_cut [16] (fun v16 wc=>∃ (kq:Nat) (x16_2:Bool),v16 = .bool x16_2∧Aside0 (garboardlaw01_NaturalCompares.j0 kq a0 a1 x16_2 = some r)∧Aside0 (kq≤k)∧Aside0 (Below w.heap.size w wc))
 case first =>
  have H:=HC3.out
  clear HC3
  replace H:=Option.bind_eq_some_iff.mp H
  obtain ⟨t315,A40,H⟩:=H
  replace H:(if t315 = true then ((garboardlaw01_long.f k (([a0,a1]:List ByteArray))).bind fun t319=>(garboardlaw01_NaturalCompares.j0 k a0 a1 t319)) else (garboardlaw01_NaturalCompares.j0 k a0 a1 true)) = some r:=H
  have A4:=Aside0.mk A40
  clear A40
  by_cases c5:t315 = true
  ·subst c5
   have H1:((garboardlaw01_long.f k (([a0,a1]:List ByteArray))).bind fun t319=>(garboardlaw01_NaturalCompares.j0 k a0 a1 t319)) = some r:=by rw [if_pos rfl] at H;exact H
   clear H
   have H:=H1
   clear H1
   obtain ⟨y316,hy316⟩:∃ y_:List ByteArray,y_ = (([a0,a1]:List ByteArray)):=⟨_,rfl⟩
   replace H:((garboardlaw01_long.f k y316).bind fun t319=>(garboardlaw01_NaturalCompares.j0 k a0 a1 t319)) = some r:=by first|(rw [hy316];with_reducible exact H)|(have H2_:=(Option.bind_some _ _).symm.trans H;rw [hy316];with_reducible exact H2_)|(have H2_:=(Option.bind_some _ _).symm.trans H;with_reducible exact H2_)|with_reducible exact H|(rw [hy316];exact H)|exact H
   have Ny316:=Aside0.mk hy316
   clear hy316
   replace H:=Option.bind_eq_some_iff.mp H
   obtain ⟨t319,A60,H⟩:=H
   replace H:(garboardlaw01_NaturalCompares.j0 k a0 a1 t319) = some r:=H
   have A6:=Aside0.mk A60
   clear A60
   have H':=Aside0.mk H
   clear H
   go_wp2_with (first|((with_reducible refine gate_callee (f:=11) rfl ?_);refine goesL_ (some 9) rfl rfl Tryd.func11 (by kernel_rfl) rfl #[] rfl (by (try simp only [List.map_toArray,List.map_cons,List.map_nil]);first|done|rfl|(simp only [List.length_drop,List.length_take];rfl)) ?_;(with_reducible refine (garboardlaw01_awake.calls k  true _ ?side1 A4.out).mono ?_);(case side1=>exact HLW.out.below (by repeat (first|(with_reducible first|exact HB.out|apply below_alloc|apply pw_below_drewN|apply below_drew1)|exact HB.out)));rintro e w7 ⟨rfl,hb⟩;refine ⟨_,rfl,?_⟩;have n0_:=Aside0.mk (below_step (by repeat (first|(with_reducible first|exact HB.out|apply below_alloc|apply pw_below_drewN|apply below_drew1)|exact HB.out)) hb);clear HB;have HB:=n0_;clear n0_;(try clear hb);(try clear hb2);(try clear hk);(try clear hi))|((with_reducible refine gate_dst (N:=14) rfl ?_);(try (refine gate_guard (by rfl) ?_;dsimp only));refine Kd.R_lit Kd.string _ 9 ?hg (N:=14) ?hd (xs:=([a0,a1]:List ByteArray)) (inner:=[.string a0,.string a1]) (ok:=fun _=>True) (okp:=fun _=>True) ?hr ?hp (fun _ hk=>hk) trivial (Below.refl _ _) (Nat.le_refl _) (by simp) ?_;(case hd=>rfl);(case hg=>rfl);(case hr=>first|(go_simp;done)|(go_simp;rfl));(case hp=>exact (Reps.one (show Kd.M Kd.string _ _ _ a0 [.string a0] from rfl) (Reps.one (show Kd.M Kd.string _ _ _ a1 [.string a1] from rfl) (Reps.none _ _))));intro v317 w8 ho9 hb hg_ hnew_;clear hg_ hnew_;(first|rw [← Ny316.out] at ho9|(simp only [Int.reduceToNat] at ho9;rw [← Ny316.out] at ho9));have n0_:=Aside0.mk (Kd.R_lower ho9 (below_size (by repeat (first|(with_reducible first|exact HB.out|apply below_alloc|apply pw_below_drewN|apply below_drew1)|exact HB.out))));have n1_:=Aside0.mk (below_step (by repeat (first|(with_reducible first|exact HB.out|apply below_alloc|apply pw_below_drewN|apply below_drew1)|exact HB.out)) hb);clear HB;have HO318:=n0_;have HB:=n1_;clear n0_ n1_;clear hb ho9;obtain ⟨Ao10,co10,eo10⟩:=Kd.R_slice HO318.out;subst eo10)|(go_at_call 12;(with_reducible refine (garboardlaw01_long.calls k _ _ y316 t319 _ ?side1 ?side2 A6.out).mono ?_);(case side1=>repeat (first|exact (Kd.R_reads' HO318.out).2.2|(with_reducible refine Kd.C_alloc ?_ _)|(with_reducible refine Kd.C_drewN ?_ _)|(with_reducible refine Kd.C_drew ?_)));(case side2=>exact (Kd.R_reads' HO318.out).2.1);rintro e w' ⟨rfl,⟨nd,rfl⟩⟩))
   go_meet
   case rel=>exact ⟨_,(t319),(by first|rfl|(simp;done)|(simp [*];done)),H',⟨by first|omega|exact Nat.le_refl _⟩,⟨by repeat (first|(with_reducible first|exact HB.out|apply below_alloc|apply pw_below_drewN|apply below_drew1)|exact HB.out)⟩⟩
  ·replace c5:=Bool.eq_false_iff.mpr c5
   subst c5
   have H1:(garboardlaw01_NaturalCompares.j0 k a0 a1 true) = some r:=by rw [if_neg (show ¬ (false = true) by decide)] at H;exact H
   clear H
   have H:=H1
   clear H1
   have H':=Aside0.mk H
   clear H
   go_wp2_with (first|((with_reducible refine gate_callee (f:=11) rfl ?_);refine goesL_ (some 9) rfl rfl Tryd.func11 (by kernel_rfl) rfl #[] rfl (by (try simp only [List.map_toArray,List.map_cons,List.map_nil]);first|done|rfl|(simp only [List.length_drop,List.length_take];rfl)) ?_;(with_reducible refine (garboardlaw01_awake.calls k  false _ ?side1 A4.out).mono ?_);(case side1=>exact HLW.out.below (by repeat (first|(with_reducible first|exact HB.out|apply below_alloc|apply pw_below_drewN|apply below_drew1)|exact HB.out)));rintro e w11 ⟨rfl,hb⟩;refine ⟨_,rfl,?_⟩;have n0_:=Aside0.mk (below_step (by repeat (first|(with_reducible first|exact HB.out|apply below_alloc|apply pw_below_drewN|apply below_drew1)|exact HB.out)) hb);clear HB;have HB:=n0_;clear n0_;(try clear hb);(try clear hb2);(try clear hk);(try clear hi)))
   go_meet
   case rel=>exact ⟨_,(true),(by first|rfl|(simp;done)|(simp [*];done)),H',⟨by first|omega|exact Nat.le_refl _⟩,⟨by repeat (first|(with_reducible first|exact HB.out|apply below_alloc|apply pw_below_drewN|apply below_drew1)|exact HB.out)⟩⟩
 case rest =>
  clear HC3
  try clear c1
  try clear p2
  try clear c3
  try clear c5
  try clear c11
  obtain ⟨kq,x16_2,rfl,HA,HJ2,HB⟩:=hcut
  cases kq with
  | zero=>exact absurd HA.out (by simp [garboardlaw01_NaturalCompares.j0])
  | succ kj2 =>
   have H:=HA.out
   clear HA
   simp only [garboardlaw01_NaturalCompares.j0] at H
   by_cases c12:x16_2 = true
   ·subst c12
    have H1:((garboardlaw01_awake.f kj2).bind fun t320=>(some t320)) = some r:=by rw [if_pos rfl] at H;exact H
    clear H
    have H:=H1
    clear H1
    replace H:=Option.bind_eq_some_iff.mp H
    obtain ⟨t320,A130,H⟩:=H
    replace H:(some t320) = some r:=H
    have A13:=Aside0.mk A130
    clear A130
    obtain rfl:=Option.some.inj H
    go_wp2_with (first|((with_reducible refine gate_callee (f:=11) rfl ?_);refine goesL_ (some 17) rfl rfl Tryd.func11 (by kernel_rfl) rfl #[] rfl (by (try simp only [List.map_toArray,List.map_cons,List.map_nil]);first|done|rfl|(simp only [List.length_drop,List.length_take];rfl)) ?_;(with_reducible refine (garboardlaw01_awake.calls kj2  t320 _ ?side1 A13.out).mono ?_);(case side1=>exact HLW.out.below (by repeat (first|(with_reducible first|exact HB.out|apply below_alloc|apply pw_below_drewN|apply below_drew1)|exact HB.out)));rintro e w14 ⟨rfl,hb⟩;refine ⟨_,rfl,?_⟩;have n0_:=Aside0.mk (below_step (by repeat (first|(with_reducible first|exact HB.out|apply below_alloc|apply pw_below_drewN|apply below_drew1)|exact HB.out)) hb);clear HB;have HB:=n0_;clear n0_;(try clear hb);(try clear hb2);(try clear hk);(try clear hi)))
    go_ret
    exact ⟨by first|rfl|(simp [errW_none,errW_some]<;>rfl)|(simp [*,errW_none,errW_some]<;>rfl),by repeat (first|(with_reducible first|exact HB.out|apply below_alloc|apply pw_below_drewN|apply below_drew1)|exact HB.out)⟩
   ·replace c12:=Bool.eq_false_iff.mpr c12
    subst c12
    have H1:((natural_Compare.f kj2 a0 a1).bind fun bt321=>((garboardref01_Compare.f kj2 a0 a1).bind fun bt323=>((natural_Valid.f kj2 a0).bind fun t325=>((garboardref01_Valid.f kj2 a0).bind fun t326=>(if (t325 == t326) = true then (if bt321.1 = bt323.1 then (some (bt321.2 == bt323.2)) else (some false)) else (some false)))))) = some r:=by rw [if_neg (show ¬ (false = true) by decide)] at H;exact H
    clear H
    have H:=H1
    clear H1
    replace H:=Option.bind_eq_some_iff.mp H
    obtain ⟨⟨t321,t322⟩,A150,H⟩:=H
    replace H:((garboardref01_Compare.f kj2 a0 a1).bind fun bt323=>((natural_Valid.f kj2 a0).bind fun t325=>((garboardref01_Valid.f kj2 a0).bind fun t326=>(if (t325 == t326) = true then (if t321 = bt323.1 then (some (t322 == bt323.2)) else (some false)) else (some false))))) = some r:=H
    have A15:=Aside0.mk A150
    clear A150
    replace H:=Option.bind_eq_some_iff.mp H
    obtain ⟨⟨t323,t324⟩,A160,H⟩:=H
    replace H:((natural_Valid.f kj2 a0).bind fun t325=>((garboardref01_Valid.f kj2 a0).bind fun t326=>(if (t325 == t326) = true then (if t321 = t323 then (some (t322 == t324)) else (some false)) else (some false)))) = some r:=H
    have A16:=Aside0.mk A160
    clear A160
    replace H:=Option.bind_eq_some_iff.mp H
    obtain ⟨t325,A170,H⟩:=H
    replace H:((garboardref01_Valid.f kj2 a0).bind fun t326=>(if (t325 == t326) = true then (if t321 = t323 then (some (t322 == t324)) else (some false)) else (some false))) = some r:=H
    have A17:=Aside0.mk A170
    clear A170
    replace H:=Option.bind_eq_some_iff.mp H
    obtain ⟨t326,A180,H⟩:=H
    replace H:(if (t325 == t326) = true then (if t321 = t323 then (some (t322 == t324)) else (some false)) else (some false)) = some r:=H
    have A18:=Aside0.mk A180
    clear A180
    by_cases c19:(t325 == t326) = true
    ·rw [if_pos c19] at H
     have c19b0:(t325 == t326) = true:=c19
     (try (have c19b1:decide (t325 = t326) = true:=by simpa using c19))
     (try (have c19b2:(t325 == t326) = true:=by simpa using c19))
     clear c19
     by_cases c20:t321 = t323
     ·rw [if_pos c20] at H
      have c20b0:(t321 == t323) = true:=beq_iff_eq.mpr c20
      have c20b1:(t321 != t323) = false:=bne_eq_false_iff_eq.mpr c20
      clear c20
      obtain rfl:=Option.some.inj H
      go_wp2_with (first|((with_reducible refine gate_callee (f:=13) rfl ?_);refine goesL_ (some 21) rfl rfl Tryd.func13 (by kernel_rfl) rfl #[.string a0,.string a1] rfl (by (try simp only [List.map_toArray,List.map_cons,List.map_nil]);first|done|rfl|(simp only [List.length_drop,List.length_take];rfl)) ?_;(with_reducible refine (natural_Compare.calls kj2 a0 a1 t321 t322 _ A15.out).mono ?_);rintro e w21 ⟨rfl,hb⟩;refine ⟨_,rfl,?_⟩;have n0_:=Aside0.mk (below_step (by repeat (first|(with_reducible first|exact HB.out|apply below_alloc|apply pw_below_drewN|apply below_drew1)|exact HB.out)) hb);clear HB;have HB:=n0_;clear n0_;(try clear hb);(try clear hb2);(try clear hk);(try clear hi))|((with_reducible refine gate_callee (f:=14) rfl ?_);refine goesL_ (some 27) rfl rfl Tryd.func14 (by kernel_rfl) rfl #[.string a0,.string a1] rfl (by (try simp only [List.map_toArray,List.map_cons,List.map_nil]);first|done|rfl|(simp only [List.length_drop,List.length_take];rfl)) ?_;(with_reducible refine (garboardref01_Compare.calls kj2 a0 a1 t323 t324 _ A16.out).mono ?_);rintro e w22 ⟨rfl,hb⟩;refine ⟨_,rfl,?_⟩;have n0_:=Aside0.mk (below_step (by repeat (first|(with_reducible first|exact HB.out|apply below_alloc|apply pw_below_drewN|apply below_drew1)|exact HB.out)) hb);clear HB;have HB:=n0_;clear n0_;(try clear hb);(try clear hb2);(try clear hk);(try clear hi))|((with_reducible refine gate_callee (f:=15) rfl ?_);refine goesL_ (some 31) rfl rfl Tryd.func15 (by kernel_rfl) rfl #[.string a0] rfl (by (try simp only [List.map_toArray,List.map_cons,List.map_nil]);first|done|rfl|(simp only [List.length_drop,List.length_take];rfl)) ?_;(with_reducible refine (natural_Valid.calls kj2 a0 t325 _ A17.out).mono ?_);rintro e w' ⟨rfl,⟨nd,rfl⟩⟩;refine ⟨_,rfl,?_⟩)|((with_reducible refine gate_callee (f:=16) rfl ?_);refine goesL_ (some 33) rfl rfl Tryd.func16 (by kernel_rfl) rfl #[.string a0] rfl (by (try simp only [List.map_toArray,List.map_cons,List.map_nil]);first|done|rfl|(simp only [List.length_drop,List.length_take];rfl)) ?_;(with_reducible refine (garboardref01_Valid.calls kj2 a0 t326 _ A18.out).mono ?_);rintro e w' ⟨rfl,⟨nd,rfl⟩⟩;refine ⟨_,rfl,?_⟩))
      go_ret
      exact ⟨by first|rfl|(simp [errW_none,errW_some]<;>rfl)|(simp [*,errW_none,errW_some]<;>rfl),by repeat (first|(with_reducible first|exact HB.out|apply below_alloc|apply pw_below_drewN|apply below_drew1)|exact HB.out)⟩
     ·rw [if_neg c20] at H
      have c20b0:(t321 == t323) = false:=beq_eq_false_iff_ne.mpr c20
      have c20b1:(t321 != t323) = true:=bne_iff_ne.mpr c20
      obtain rfl:=Option.some.inj H
      go_wp2_with (first|((with_reducible refine gate_callee (f:=13) rfl ?_);refine goesL_ (some 21) rfl rfl Tryd.func13 (by kernel_rfl) rfl #[.string a0,.string a1] rfl (by (try simp only [List.map_toArray,List.map_cons,List.map_nil]);first|done|rfl|(simp only [List.length_drop,List.length_take];rfl)) ?_;(with_reducible refine (natural_Compare.calls kj2 a0 a1 t321 t322 _ A15.out).mono ?_);rintro e w23 ⟨rfl,hb⟩;refine ⟨_,rfl,?_⟩;have n0_:=Aside0.mk (below_step (by repeat (first|(with_reducible first|exact HB.out|apply below_alloc|apply pw_below_drewN|apply below_drew1)|exact HB.out)) hb);clear HB;have HB:=n0_;clear n0_;(try clear hb);(try clear hb2);(try clear hk);(try clear hi))|((with_reducible refine gate_callee (f:=14) rfl ?_);refine goesL_ (some 27) rfl rfl Tryd.func14 (by kernel_rfl) rfl #[.string a0,.string a1] rfl (by (try simp only [List.map_toArray,List.map_cons,List.map_nil]);first|done|rfl|(simp only [List.length_drop,List.length_take];rfl)) ?_;(with_reducible refine (garboardref01_Compare.calls kj2 a0 a1 t323 t324 _ A16.out).mono ?_);rintro e w24 ⟨rfl,hb⟩;refine ⟨_,rfl,?_⟩;have n0_:=Aside0.mk (below_step (by repeat (first|(with_reducible first|exact HB.out|apply below_alloc|apply pw_below_drewN|apply below_drew1)|exact HB.out)) hb);clear HB;have HB:=n0_;clear n0_;(try clear hb);(try clear hb2);(try clear hk);(try clear hi))|((with_reducible refine gate_callee (f:=15) rfl ?_);refine goesL_ (some 31) rfl rfl Tryd.func15 (by kernel_rfl) rfl #[.string a0] rfl (by (try simp only [List.map_toArray,List.map_cons,List.map_nil]);first|done|rfl|(simp only [List.length_drop,List.length_take];rfl)) ?_;(with_reducible refine (natural_Valid.calls kj2 a0 t325 _ A17.out).mono ?_);rintro e w' ⟨rfl,⟨nd,rfl⟩⟩;refine ⟨_,rfl,?_⟩)|((with_reducible refine gate_callee (f:=16) rfl ?_);refine goesL_ (some 33) rfl rfl Tryd.func16 (by kernel_rfl) rfl #[.string a0] rfl (by (try simp only [List.map_toArray,List.map_cons,List.map_nil]);first|done|rfl|(simp only [List.length_drop,List.length_take];rfl)) ?_;(with_reducible refine (garboardref01_Valid.calls kj2 a0 t326 _ A18.out).mono ?_);rintro e w' ⟨rfl,⟨nd,rfl⟩⟩;refine ⟨_,rfl,?_⟩))
      go_ret
      exact ⟨by first|rfl|(simp [errW_none,errW_some]<;>rfl)|(simp [*,errW_none,errW_some]<;>rfl),by repeat (first|(with_reducible first|exact HB.out|apply below_alloc|apply pw_below_drewN|apply below_drew1)|exact HB.out)⟩
    ·rw [if_neg c19] at H
     have c19b0:(t325 == t326) = false:=by simpa using c19
     (try (have c19b1:decide (t325 = t326) = false:=by simpa using c19))
     (try (have c19b2:(t325 == t326) = false:=by simpa using c19))
     (try (have c19b3:¬ (t325 = t326):=by simpa using c19))
     clear c19
     obtain rfl:=Option.some.inj H
     go_wp2_with (first|((with_reducible refine gate_callee (f:=13) rfl ?_);refine goesL_ (some 21) rfl rfl Tryd.func13 (by kernel_rfl) rfl #[.string a0,.string a1] rfl (by (try simp only [List.map_toArray,List.map_cons,List.map_nil]);first|done|rfl|(simp only [List.length_drop,List.length_take];rfl)) ?_;(with_reducible refine (natural_Compare.calls kj2 a0 a1 t321 t322 _ A15.out).mono ?_);rintro e w25 ⟨rfl,hb⟩;refine ⟨_,rfl,?_⟩;have n0_:=Aside0.mk (below_step (by repeat (first|(with_reducible first|exact HB.out|apply below_alloc|apply pw_below_drewN|apply below_drew1)|exact HB.out)) hb);clear HB;have HB:=n0_;clear n0_;(try clear hb);(try clear hb2);(try clear hk);(try clear hi))|((with_reducible refine gate_callee (f:=14) rfl ?_);refine goesL_ (some 27) rfl rfl Tryd.func14 (by kernel_rfl) rfl #[.string a0,.string a1] rfl (by (try simp only [List.map_toArray,List.map_cons,List.map_nil]);first|done|rfl|(simp only [List.length_drop,List.length_take];rfl)) ?_;(with_reducible refine (garboardref01_Compare.calls kj2 a0 a1 t323 t324 _ A16.out).mono ?_);rintro e w26 ⟨rfl,hb⟩;refine ⟨_,rfl,?_⟩;have n0_:=Aside0.mk (below_step (by repeat (first|(with_reducible first|exact HB.out|apply below_alloc|apply pw_below_drewN|apply below_drew1)|exact HB.out)) hb);clear HB;have HB:=n0_;clear n0_;(try clear hb);(try clear hb2);(try clear hk);(try clear hi))|((with_reducible refine gate_callee (f:=15) rfl ?_);refine goesL_ (some 31) rfl rfl Tryd.func15 (by kernel_rfl) rfl #[.string a0] rfl (by (try simp only [List.map_toArray,List.map_cons,List.map_nil]);first|done|rfl|(simp only [List.length_drop,List.length_take];rfl)) ?_;(with_reducible refine (natural_Valid.calls kj2 a0 t325 _ A17.out).mono ?_);rintro e w' ⟨rfl,⟨nd,rfl⟩⟩;refine ⟨_,rfl,?_⟩)|((with_reducible refine gate_callee (f:=16) rfl ?_);refine goesL_ (some 33) rfl rfl Tryd.func16 (by kernel_rfl) rfl #[.string a0] rfl (by (try simp only [List.map_toArray,List.map_cons,List.map_nil]);first|done|rfl|(simp only [List.length_drop,List.length_take];rfl)) ?_;(with_reducible refine (garboardref01_Valid.calls kj2 a0 t326 _ A18.out).mono ?_);rintro e w' ⟨rfl,⟨nd,rfl⟩⟩;refine ⟨_,rfl,?_⟩))
     go_ret
     exact ⟨by first|rfl|(simp [errW_none,errW_some]<;>rfl)|(simp [*,errW_none,errW_some]<;>rfl),by repeat (first|(with_reducible first|exact HB.out|apply below_alloc|apply pw_below_drewN|apply below_drew1)|exact HB.out)⟩
end Go.Proofs.YtaopmkcghancmaaDoor.Pr
set_option linter.unusedVariables false
set_option linter.unusedSimpArgs false
namespace Go.Proofs.YtaopmkcghancmaaDoor.Pr
open Go.RowKit Go.Lib Go.Proofs.YtaopmkcghancmaaDoorW.PrintWords Go.Proofs.YtaopmkcghancmaaDoorW.PrintLast Go.Proofs.YtaopmkcghancmaaDoorW.PrintMore Go.Proofs.YtaopmkcghancmaaDoor.NatTh
theorem sh120 {a:ByteArray} (h:a.size≤120):Sh a:=(Nat.le_trans h (by omega):a.size≤274877906944)
theorem Compares_law (a b:ByteArray):Ev (fun k=>garboardlaw01_NaturalCompares.f k a b) true:=by
 refine law_head [a,b] (by simp) (fun k t=>garboardlaw01_NaturalCompares.j0 k a b t) _ (fun k=>rfl) (fun k=>by rw [garboardlaw01_NaturalCompares.j0,if_pos rfl]) (fun hs=>?_)
 have ha:=hs a (by simp)
 have hb:=hs b (by simp)
 refine Ev.step (fun k=>by rw [garboardlaw01_NaturalCompares.j0,if_neg (by simp)]) (Ev.bind (Compare_ev a b (sh120 ha) (sh120 hb)) (Ev.bind (rCompare_ev a b (sh120 ha) (sh120 hb)) (Ev.bind (Valid_ev a (by omega)) (Ev.bind (rValid_ev a (by omega)) ?_))))
 refine Ev.congr (fun k=>?_) (Ev.now _)
 rw [if_pos (by simp),if_pos rfl,beq_self_eq_true]
end Go.Proofs.YtaopmkcghancmaaDoor.Pr
namespace Go.Proofs.YtaopmkcghancmaaDoor.Pr
set_option linter.unusedVariables false
set_option linter.unusedSimpArgs false
open Go.ChangeShapes Go.WideShapes Go.ChangeAt Go.Deep Go.Joins Go.RowKit Go.Proofs.YtaopmkcghancmaaDoorW.PrintWords
theorem own:ownKnob Tryd.prog.godebug = none:=by kernel_rfl
theorem laidOut:laidOutB Tryd.prog = true:=by kernel_rfl
set_option maxRecDepth 100000 in
theorem openS {H:Type} {enc:TypeId × Value→H} {W:World} {r:Reach} {b0:Nat} {v:Value} {d:DataW H} {p:List MemPlace} (hv:Value.okWide Tryd.prog W r b0 9 v) (h:DataW.Trod enc Tryd.prog W 0 (fun _=>true) true 9 v d p):∃ s,v = .string s:=by
 obtain ⟨s,e,_⟩:=Go.ChangeMaps.open_string Tryd.underlying9 hv h
 exact ⟨s,e⟩
def laid5:List (String × DataW Unit):=[("math/bits.deBruijn32tab",Rows.laid_math_bits_deBruijn32tab),("math/bits.deBruijn64tab",Rows.laid_math_bits_deBruijn64tab),("internal/strconv.uint64pow10",Rows.laid_internal_strconv_uint64pow10),("strconv.ErrRange",Rows.laid_strconv_ErrRange),("strconv.ErrSyntax",Rows.laid_strconv_ErrSyntax)]
theorem gPow:Tryd.prog.globalNamed "internal/strconv.uint64pow10" = some 0:=by kernel_rfl
theorem gPowType:(Tryd.prog.globals[0]?).map (·.type) = some 123:=by kernel_rfl
theorem laid_tab {W:World} (h:laidMetH Tryd.prog laid5 W):LaidW W:=by
 rw [MakeChecks.laidMetH_plain _ _ _ (by kernel_rfl)] at h
 obtain ⟨ps,⟨g0,t0,cs0,f0,p0,q0,hg0,ht0,hv0,hd0,⟨g1,t1,cs1,f1,p1,q1,hg1,ht1,hv1,hd1,⟨g2,t2,cs2,f2,p2,q2,hg2,ht2,hv2,hd2,_,_⟩,_⟩,_⟩,_⟩:=h
 obtain rfl:=Option.some.inj (gPow.symm.trans hg2)
 obtain rfl:=Option.some.inj (gPowType.symm.trans ht2)
 have e:(Rows.laid_internal_strconv_uint64pow10:DataW Unit) = Lib.tabData .u64 Lib.pow10Tab:=rfl
 rw [e] at hd2
 unfold LaidW Lib.TabIs
 rw [hv2,← Lib.cells_of_tab Tryd.underlying123 Tryd.underlying61 (by kernel_rfl) (by kernel_rfl) hd2]
theorem door_met (os:Os) (args:Array Value):laidMetH Tryd.prog laid5 ((World.doorLaid Tryd.prog 400 os).forCall (fun _ _=>0) ⟨#[],args,[]⟩).memory :=
 laidMetH_of_parts3 (fuel:=8) (laidMet_of_run' 8 (by kernel_rfl) (by kernel_rfl)) (by kernel_rfl) (by kernel_rfl)
end Go.Proofs.YtaopmkcghancmaaDoor.Pr
namespace Go.Proofs.YtaopmkcghancmaaDoor.Pr
set_option linter.unusedVariables false
set_option linter.unusedSimpArgs false
open Go.ChangeShapes Go.WideShapes Go.ChangeAt Go.RowKit Go.Proofs.YtaopmkcghancmaaDoorW.PrintWords
set_option maxRecDepth 100000 in
theorem naturalCompares_lifted (os:Os) (started:os.Started) (H:Type) (enc:TypeId × Value→H) :
  ReturnsInHanded {} Tryd.checked os 3 .any (fun w args=>(Rows.naturalComparesSpec.pre enc Tryd.prog Tryd.f3 [] false w args∧laidMetH Tryd.prog laid5 w)∧sizedMet enc Tryd.prog Tryd.f3 (OpenSpec.ofChange Rows.naturalComparesSpec) false w args)
   (Rows.naturalComparesSpec.post enc Tryd.prog Tryd.f3 false true false false):=by
 refine returnsInHanded_of_change_and (C:=Tryd.checked) (X:=fun w _=>laidMetH Tryd.prog laid5 w) (fun _ _ _ hh h=>h.of_heap hh) own started (by kernel_rfl) Tryd.func3
  (ChangeSpec.witness_shaped (enc:=enc) (C:=Tryd.checked) (os:=os) (X:=fun w _=>laidMetH Tryd.prog laid5 w) false (World.doorLaid Tryd.prog 400 os) #[.string ⟨#[]⟩,.string ⟨#[]⟩] 8 rfl (World.shaped_of_RefB (by kernel_rfl) (by kernel_rfl)) (by kernel_rfl) (by kernel_rfl) (by kernel_rfl) (door_met os _)) ?_
 intro W base args ds gs before hval0 hW _ _ hL _
 have hval:∀ (j:Nat) t v,Tryd.f3.params[j]? = some t→args[j]? = some v→Value.okWide Tryd.prog W .any base t v:=hval0
 have hW':=hW
 obtain ⟨p,q,hA0,hV,rfl,hfz,hnd⟩:=hW
 have hA:DataW.TrodAll enc Tryd.prog W 0 (fun _=>true) true Tryd.f3.params.toList args.toList ds p:=hA0
 rw [Tryd.params3] at hA hval
 obtain ⟨v0,vs0,d0,ds0,p0,q0,hargs,rfl,rfl,h0,r0⟩:=trodAll_cons hA
 obtain ⟨v1,vs1,d1,ds1,p1,q1,rfl,rfl,rfl,h1,r1⟩:=trodAll_cons r0
 obtain ⟨rfl,rfl,rfl⟩:=trodAll_nil r1
 obtain rfl:args = #[v0,v1]:=by cases args;simp_all
 obtain ⟨rfl,rfl⟩:=trodVars_none hV
 have lt0:∀ x ∈ p0,x.block < W.heap.size:=by obtain ⟨m,hm⟩:=h0;exact DataW.trod_lt m _ _ _ hm
 have lt1:∀ x ∈ p1,x.block < W.heap.size:=by obtain ⟨m,hm⟩:=h1;exact DataW.trod_lt m _ _ _ hm
 have k0:=h0
 have k1:=h1
 obtain ⟨a0,rfl⟩:=openS (hval 0 9 v0 rfl rfl) h0
 obtain ⟨a1,rfl⟩:=openS (hval 1 9 v1 rfl rfl) h1
 have hT:=laid_tab hL
 clear hA0 hval0 hval
 obtain ⟨k,hk⟩:=(Compares_law a0 a1).rounds
 refine (garboardlaw01_NaturalCompares.calls k a0 a1 true W hT hk).mono fun e W' ⟨he,bel⟩=>?_
 subst he
 exact ⟨_,rfl,_,_,_,[],_,[],hW',trodAll_mk1 (shut_bool Tryd.underlying4 _),(trodAll_cons_mk (Below.trod laidOut (by kernel_rfl) (of_decide_eq_true (by kernel_rfl)) k0 bel lt0) (trodAll_cons_mk (Below.trod laidOut (by kernel_rfl) (of_decide_eq_true (by kernel_rfl)) k1 bel lt1) trodAll_mk0)),rfl,bel.frame _,fun h=>by cases h⟩
theorem naturalCompares_row:Rows.NaturalComparesSaid :=
 OpenClaim.holds_of_wide 3 Tryd.f3 rfl rfl rfl rfl rfl rfl rfl ⟨rfl,rfl,rfl,rfl,rfl⟩ rfl rfl rfl rfl rfl (by kernel_rfl) Tryd.func3 (by kernel_rfl)
  (of_decide_eq_true (by kernel_rfl)) (by unfold Func.isWrapper;first|(rw [if_pos (by decide +kernel)];kernel_rfl)|(rw [if_neg (by decide +kernel)];exact ⟨rfl,rfl⟩))
  (fun os started H enc _=>naturalCompares_lifted os started H enc)
end Go.Proofs.YtaopmkcghancmaaDoor.Pr
namespace Go.Proofs.YtaopmkcghancmaaDoor
open Go
theorem naturalCompares_card_holds:Rows.NaturalComparesCardSaid :=
 Claim7.holds_tied_plain_at .later [] [.data,.data,.data,.sentinel,.sentinel] true (true, "15e2bb534210d3ebfac1118a7fbd3a9c70502882d4f4aec048f40a6a26db7ede") true
  Pr.naturalCompares_row (fun _ h=>by cases h) (by kernel_rfl) (fun _ h=>by cases h) naturalCompares_row_tie rfl ⟨rfl,rfl⟩ (by kernel_rfl) rfl
  (fun f fn hf hfn=>by
   obtain rfl:f = 3:=Option.some.inj ((show Tryd.prog.funcNamed "garboard/garboardlaw01.NaturalCompares" = some 3 by kernel_rfl).symm.trans hf) |>.symm
   obtain rfl:fn = Tryd.f3:=(Option.some.inj (Tryd.func3.symm.trans hfn)).symm
   exact ⟨by kernel_rfl,fun j t ht=>by
    rw [Tryd.params3] at ht
    have hm:t ∈ [9,9]:=by simpa using Array.mem_of_getElem? ht
    have hall:([9,9].all fun u=>!Tryd.prog.wantsStandIn u) = true:=by kernel_rfl
    exact (show Tryd.prog.wantsStandIn t = false by simpa using List.all_eq_true.1 hall t hm)⟩)
  (by kernel_rfl)
end Go.Proofs.YtaopmkcghancmaaDoor
