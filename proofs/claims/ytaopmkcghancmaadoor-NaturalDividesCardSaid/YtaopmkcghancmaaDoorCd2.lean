/- Part 2 of 3: garboardlaw01.NaturalDivides (quotient, remainder, greatest common divisor: the program's answers and the reference's are the same; at most 120 bytes each) answers true for every input, and each argument reads behind the call as before. The library's tables are tied to the program's text by the card. -/
import Derived.Laws.StructEq
import Derived.Test.YtaopmkcghancmaaDoorProg
import Derived.Below
import Derived.Deep.Draws
import Derived.Deep.AppendLies
import Derived.Maps.AppendAt
import Derived.OwnWalk
import Derived.Laws.BytesArg
import Derived.Laws.MakeOwn
import Derived.Laws.OwnMore
import Derived.Deep.OwnRows
import Derived.Tactics
import Derived.Lib.ConvBytes
import Derived.Laws.Slices
import Derived.WalkKit
import Derived.KernelRfl
import Derived.RowKit3
import Derived.Deep.LoopGhost
import Derived.Deep.QuietTactic
import Derived.BigQuiet
import Derived.WideLaws
import Derived.Deep.DeepCutAuto
import Derived.Deep.CutBlock
import Derived.Deep.RegionHeld3
import Derived.Laws.Rows
import Derived.Lib.AppendStr
import Derived.ArgAppend
import Derived.Laws.IdiomCopy
import Derived.OrdersHeld
import Derived.Laws.BitsLemmas
import Derived.RowKit
import Derived.Lib.ItoaNum
import Derived.Lib.ParseIntB
import Derived.Shelf.Strings.Builder1
import Derived.Shelf.Strings.Builder2
import Derived.Shelf.Small.Wraps
import Derived.Shelf.Strings.BuilderF
import Derived.Shelf.Strings.BuilderK
import Derived.Shelf.Strings.Builder2Cap
import Derived.Shelf.Strconv.Itoa0
import Derived.Shelf.Strconv.Itoa1
import Derived.Shelf.LaysM
import Derived.Shelf.Strconv.Itoa2
import Derived.Shelf.Strconv.Itoa3
import Derived.Shelf.Strconv.Clone
import Derived.Shelf.Strconv.SyntaxError
import Derived.Shelf.Strconv.Lower
import Derived.Shelf.Strconv.ParseUint10
import Derived.Shelf.Strconv.ParseUint10Empty
import Derived.Shelf.Strconv.RangeError
import Derived.Shelf.Strconv.ParseUintEmpty
import Derived.Shelf.Strconv.ParseUint10b64
import Derived.Shelf.Strconv.ParseUint10b32
import Derived.Shelf.Strconv.ParseUint10b16
import Derived.Shelf.Strconv.ParseUint10b8
import Derived.Ground.MpProg
import Derived.Shelf.Pu.ParseUintPublic10
import Derived.Shelf.Strings.Prefix
import Derived.Shelf.Bits.Mul64
import Derived.Shelf.Strings.Repeat
import Derived.Ground.Names2Prog
import Derived.Shelf.Slices.SearchI
import Derived.Lib.AtoiErrMem
import Derived.RangeFuncFrom
import Derived.RangeFuncBox
import Derived.RangeFuncLeaves
import Derived.RangeFuncCalls
import Derived.RangeFuncBound
import Derived.Shelf.Abstract
import Derived.OwnWalkIn
import Derived.TacticsInMore
import Derived.LoopNIn
import Derived.LoopIn
import Derived.Lib.Hide
import Derived.Lib.FrozenHead
import Derived.Lib.AppendIntMem
import Derived.Lib.Walk
import Derived.Lib.ItoaMem
import Derived.BigCall
import Derived.BigGuard
import Derived.Test.YtaopmkcghancmaaDoorCd1
namespace Go.Proofs.YtaopmkcghancmaaDoor.Pr
open Go.RowKit Go.Proofs.YtaopmkcghancmaaDoorW.PrintWords Go.Proofs.YtaopmkcghancmaaDoorW.PrintLast Go.Proofs.YtaopmkcghancmaaDoorW.PrintMore
attribute [local go_sem] max2_int min2_int max_two min_two max_three min_three max_four min_four
set_option linter.unusedVariables false
set_option linter.unusedSimpArgs false
theorem info5:(Tryd.prog.info? 5).map (fun i=>(i.zero,i.size,i.bytes)) = some (some (.int .u8 0),1,1):=by kernel_rfl
end Go.Proofs.YtaopmkcghancmaaDoor.Pr
namespace Go.Proofs.YtaopmkcghancmaaDoor.Pr
open Go.RowKit Go.Proofs.YtaopmkcghancmaaDoorW.PrintWords Go.Proofs.YtaopmkcghancmaaDoorW.PrintLast Go.Proofs.YtaopmkcghancmaaDoorW.PrintMore
attribute [local go_sem] max2_int min2_int max_two min_two max_three min_three max_four min_four
set_option linter.unusedVariables false
set_option linter.unusedSimpArgs false
theorem natural_num_trim.mono_l:∀ k,(∀ y0,LeO (natural_num_trim.l0 k y0) (natural_num_trim.l0 (k + 1) y0))
 | 0=>fun _ r h=>by simp [natural_num_trim.l0] at h
 | k + 1=>by
  have ih0:=natural_num_trim.mono_l k
  ·intro y0
   unfold natural_num_trim.l0
   repeat' first
   | (with_reducible exact ih0 _)
   | (with_reducible exact LeO.refl _)
   | (with_reducible exact LeO.none _)
   | (with_reducible refine LeO.ite ?_ ?_)
   | (with_reducible refine LeO.bind ?_ (fun _=>?_))
   | exact ih0 _
   | exact LeO.none _
   | refine LeO.ite ?_ ?_
   | refine LeO.bind ?_ (fun _=>?_)
theorem natural_num_trim.mono:∀ a0 k,LeO (natural_num_trim.f k a0) (natural_num_trim.f (k + 1) a0):=by
 intro a0 k
 have ih0:=natural_num_trim.mono_l k
 unfold natural_num_trim.f
 repeat' first
   | (with_reducible exact ih0 _)
   | (with_reducible exact LeO.refl _)
   | (with_reducible exact LeO.none _)
   | (with_reducible refine LeO.ite ?_ ?_)
   | (with_reducible refine LeO.bind ?_ (fun _=>?_))
   | exact ih0 _
   | exact LeO.none _
   | refine LeO.ite ?_ ?_
   | refine LeO.bind ?_ (fun _=>?_)
end Go.Proofs.YtaopmkcghancmaaDoor.Pr
namespace Go.Proofs.YtaopmkcghancmaaDoor.Pr
open Go.RowKit Go.Proofs.YtaopmkcghancmaaDoorW.PrintWords Go.Proofs.YtaopmkcghancmaaDoorW.PrintLast Go.Proofs.YtaopmkcghancmaaDoorW.PrintMore
attribute [local go_sem] max2_int min2_int max_two min_two max_three min_three max_four min_four
set_option linter.unusedVariables false
set_option linter.unusedSimpArgs false
set_option maxHeartbeats 8000000 in
set_option maxRecDepth 100000 in
theorem garboardref01_trim.calls (k:Nat) (P0_:Nat→Prop) (A0:Option Addr) (c0:Nat) (l0:List Int) (r:List Int) (w:World) (hs0:Kd.V (Kd.int .u32) 64 w w.heap.size (fun k_=>P0_ k_) (.slice A0 l0.length c0) l0) (h:garboardref01_trim.f k l0 = some r) :
  Calls Tryd.prog 59 #[.slice A0 l0.length c0] w fun e w'=>∃ v0_:Value,e = .returned (v0_)∧Kd.V (Kd.int .u32) 64 w' w.heap.size (fun k_=>(P0_ k_ ∨ w.heap.size≤k_)) v0_ r∧Below w.heap.size w w':=by
 have HO0:=Aside0.mk (show Kd.V (Kd.int .u32) 64 w w.heap.size (fun k_=>(P0_ k_ ∨ w.heap.size≤k_)) (.slice A0 l0.length c0) l0 from Kd.V_mono hs0 (fun k_ hk=>.inl hk))
 have HB:=Aside0.mk (Below.refl w.heap.size w)
 have H:(garboardref01_trim.l0 k l0) = some r:=h
 clear h
 have H':=Aside0.mk H
 clear H
 go_enter Tryd.func59,Tryd.ntmps59
 go_wp2
 go_loopg [0] k (fun kq v0 w'=>∃ (x0_1:List Int),Aside0 (garboardref01_trim.l0 kq x0_1 = some r)∧Aside0 (kq≤k)∧Aside0 (Kd.V (Kd.int .u32) 64 w' w.heap.size (fun k_=>(P0_ k_ ∨ w.heap.size≤k_)) v0 x0_1)∧Aside0 (Below w.heap.size w w'))
 case atStart=>exact ⟨(l0),H',⟨Nat.le_refl _⟩,⟨by (with_reducible repeat (first|apply Kd.V_alloc|apply Kd.V_drewN|apply Kd.V_drew));exact HO0.out⟩,⟨by repeat (first|(with_reducible first|exact HB.out|apply below_alloc|apply pw_below_drewN|apply below_drew1)|exact HB.out)⟩⟩
 case round =>
  clear H'
  obtain ⟨x0_1,HA,HK1,HO_0,HB⟩:=hrel
  cases gk with
  | zero=>exact absurd HA.out (by simp [garboardref01_trim.l0])
  | succ k1 =>
   have H:=HA.out
   clear HA
   simp only [garboardref01_trim.l0] at H
   by_cases c2:(x0_1.length:Int) > 0
   ·rw [if_pos c2] at H
    have c2b0:decide (0 < (x0_1.length:Int)) = true:=decide_eq_true c2
    have c2b1:decide (0 < x0_1.length) = true:=decide_eq_true (by omega)
    clear c2
    obtain ⟨ji3,hji3⟩:∃ j_:Int,(wrap64 ((x0_1.length:Int) - 1)) = j_:=⟨_,rfl⟩
    replace H:(if 0≤(ji3) then (if (ji3) < (x0_1.length:Int) then (if (rd x0_1 (ji3)) = 0 then (if (ji3)≤(x0_1.length:Int) then (garboardref01_trim.l0 k1 (x0_1.take ((ji3):Int).toNat)) else (none)) else (some x0_1)) else (none)) else (none)) = some r:=by first|(rw [hji3] at H;exact H)|(simp only [hji3] at H ⊢;exact H)
    have hji3w:(IntKind.i64.wrap ((x0_1.length:Int) - 1)) = ji3:=(i64_w _).trans hji3
    by_cases c4:0≤(ji3)
    ·rw [if_pos c4] at H
     have c4b0:decide (0≤(ji3)) = true:=decide_eq_true c4
     clear c4
     by_cases c5:(ji3) < (x0_1.length:Int)
     ·rw [if_pos c5] at H
      have c5b0:decide ((ji3) < (x0_1.length:Int)) = true:=decide_eq_true c5
      clear c5
      by_cases c6:(rd x0_1 (ji3)) = 0
      ·rw [if_pos c6] at H
       have c6b0:((rd x0_1 (ji3)) == 0) = true:=beq_iff_eq.mpr c6
       have c6b1:((rd x0_1 (ji3)) != 0) = false:=bne_eq_false_iff_eq.mpr c6
       clear c6
       have c7b0:=eq_true (of_decide_eq_true (by first|(with_reducible assumption)|assumption):0≤(ji3))
       by_cases c8:(ji3)≤(x0_1.length:Int)
       ·rw [if_pos c8] at H
        have c8b0:=eq_true c8
        have c8b1:decide ((ji3)≤(x0_1.length:Int)) = true:=decide_eq_true c8
        clear c8
        obtain ⟨y284,hy284⟩:∃ y_:List Int,y_ = (x0_1.take ((ji3):Int).toNat):=⟨_,rfl⟩
        replace H:(garboardref01_trim.l0 k1 y284) = some r:=by first|(rw [hy284];with_reducible exact H)|(have H2_:=(Option.bind_some _ _).symm.trans H;rw [hy284];with_reducible exact H2_)|(have H2_:=(Option.bind_some _ _).symm.trans H;with_reducible exact H2_)|with_reducible exact H|(rw [hy284];exact H)|exact H
        have Ny284:=Aside0.mk hy284
        clear hy284
        have H':=Aside0.mk H
        clear H
        obtain ⟨Ao9,co9,eo9⟩:=Kd.V_slice HO_0.out
        subst eo9
        have p283:0≤((ji3):Int):=of_decide_eq_true (by first|(with_reducible assumption)|assumption)
        have q283:(ji3) < (x0_1.length:Int):=of_decide_eq_true (by first|(with_reducible assumption)|assumption)
        obtain ⟨ad283,e283,hx283_0⟩:=Kd.at_int (Kd.V_reads' HO_0.out).2.2 (ji3) p283 q283
        cases e283
        replace p283:=eq_true p283
        replace q283:=eq_true q283
        have q10:((ji3):Int)≤((x0_1.length:Int):Int):=of_decide_eq_true (by first|(with_reducible assumption)|assumption)
        obtain ⟨i010,hi010,_,hsz10,_⟩:=info_parts info64
        have hroom10:x0_1.length≤co9:=(Kd.V_reads' HO_0.out).2.1
        have hC10:Kd.F (Kd.int .u32) _ _ (some ad283) x0_1.length x0_1:=(Kd.V_at (base:=w.heap.size) HO_0.out).2.2
        have hcut10:=cut_to (P:=Tryd.prog) 45 64 .i64 Tryd.underlying45 hi010 (some ad283) x0_1.length co9 (ji3) (of_decide_eq_true (by first|(with_reducible assumption)|assumption)) q10 hroom10
        have hr10:=Kd.F_take (m:=((ji3):Int).toNat) hC10 (by omega)
        have hy10:y284.length = ((ji3):Int).toNat:=(by rw [Ny284.out,List.length_take];omega)
        rw [← Ny284.out] at hr10
        rw [← hy10] at hcut10
        have HO288:=Aside0.mk (show Kd.V (Kd.int .u32) 64 _ w.heap.size _ (.slice (some ad283) y284.length co9) y284 from Kd.V_mk (by omega) hr10)
        have HC288:=Aside0.mk (show y284.length≤co9 from by omega)
        clear hr10 hC10 hroom10 hi010 hsz10
        have KY10:=Aside0.mk hy10
        clear hy10
        replace q10:=eq_true q10
        go_wp2
        go_roundg k1
        case measure=>have:=HK1.out;omega
        case rel=>exact ⟨(y284),H',⟨by have:=HK1.out;omega⟩,⟨by (with_reducible repeat (first|apply Kd.V_alloc|apply Kd.V_drewN|apply Kd.V_drew));exact HO288.out⟩,⟨by repeat (first|(with_reducible first|exact HB.out|apply below_alloc|apply pw_below_drewN|apply below_drew1)|exact HB.out)⟩⟩
       ·rw [if_neg c8] at H
        exact absurd H (by simp)
      ·rw [if_neg c6] at H
       have c6b0:((rd x0_1 (ji3)) == 0) = false:=beq_eq_false_iff_ne.mpr c6
       have c6b1:((rd x0_1 (ji3)) != 0) = true:=bne_iff_ne.mpr c6
       obtain rfl:=Option.some.inj H
       obtain ⟨Ao11,co11,eo11⟩:=Kd.V_slice HO_0.out
       subst eo11
       have p283:0≤((ji3):Int):=of_decide_eq_true (by first|(with_reducible assumption)|assumption)
       have q283:(ji3) < (x0_1.length:Int):=of_decide_eq_true (by first|(with_reducible assumption)|assumption)
       obtain ⟨ad283,e283,hx283_0⟩:=Kd.at_int (Kd.V_reads' HO_0.out).2.2 (ji3) p283 q283
       cases e283
       replace p283:=eq_true p283
       replace q283:=eq_true q283
       go_wp2
       go_ret
       exact ⟨_,by first|rfl|(simp [errW_none,errW_some]<;>rfl)|(simp only [← hji3];first|rfl|(simp [errW_none,errW_some]<;>rfl))|(simp [*,errW_none,errW_some]<;>rfl),by (with_reducible repeat (first|apply Kd.V_alloc|apply Kd.V_drewN|apply Kd.V_drew));exact HO_0.out,by repeat (first|(with_reducible first|exact HB.out|apply below_alloc|apply pw_below_drewN|apply below_drew1)|exact HB.out)⟩
     ·rw [if_neg c5] at H
      exact absurd H (by simp)
    ·rw [if_neg c4] at H
     exact absurd H (by simp)
   ·rw [if_neg c2] at H
    have c2b0:decide (0 < (x0_1.length:Int)) = false:=decide_eq_false c2
    have c2b1:decide (0 < x0_1.length) = false:=decide_eq_false (by omega)
    clear c2
    obtain rfl:=Option.some.inj H
    obtain ⟨Ao12,co12,eo12⟩:=Kd.V_slice HO_0.out
    subst eo12
    go_wp2
    go_ret
    exact ⟨_,by first|rfl|(simp [errW_none,errW_some]<;>rfl)|(simp [*,errW_none,errW_some]<;>rfl),by (with_reducible repeat (first|apply Kd.V_alloc|apply Kd.V_drewN|apply Kd.V_drew));exact HO_0.out,by repeat (first|(with_reducible first|exact HB.out|apply below_alloc|apply pw_below_drewN|apply below_drew1)|exact HB.out)⟩
end Go.Proofs.YtaopmkcghancmaaDoor.Pr
namespace Go.Proofs.YtaopmkcghancmaaDoor.Pr
open Go.RowKit Go.Proofs.YtaopmkcghancmaaDoorW.PrintWords Go.Proofs.YtaopmkcghancmaaDoorW.PrintLast Go.Proofs.YtaopmkcghancmaaDoorW.PrintMore
attribute [local go_sem] max2_int min2_int max_two min_two max_three min_three max_four min_four
set_option linter.unusedVariables false
set_option linter.unusedSimpArgs false
set_option maxHeartbeats 8000000 in
set_option maxRecDepth 100000 in
theorem garboardref01_Cmp.calls (k:Nat) (A0:Option Addr) (c0:Nat) (l0:List Int) (A1:Option Addr) (c1:Nat) (l1:List Int) (r:Int) (w:World) (hr0:Kd.C (Kd.int .u32) w A0 l0.length l0) (hc0:l0.length≤c0) (hr1:Kd.C (Kd.int .u32) w A1 l1.length l1) (hc1:l1.length≤c1) (h:garboardref01_Cmp.f k l0 l1 = some r) :
  Calls Tryd.prog 36 #[.slice A0 l0.length c0,.slice A1 l1.length c1] w fun e w'=>e = .returned (.int .i64 r)∧Drawn0 w w':=by
 have HR0:=Aside0.mk hr0
 have HC0:=Aside0.mk hc0
 clear hr0 hc0
 have HR1:=Aside0.mk hr1
 have HC1:=Aside0.mk hc1
 clear hr1 hc1
 have H:(if (l0.length:Int) = (l1.length:Int) then (garboardref01_Cmp.l0 k l0 l1 (wrap64 ((l0.length:Int) - 1))) else (if (l0.length:Int) < (l1.length:Int) then (some (-1)) else (some 1))) = some r:=h
 clear h
 by_cases c3:(l0.length:Int) = (l1.length:Int)
 ·rw [if_pos c3] at H
  have c3b0:((l0.length:Int) == (l1.length:Int)) = true:=beq_iff_eq.mpr c3
  have c3b1:((l0.length:Int) != (l1.length:Int)) = false:=bne_eq_false_iff_eq.mpr c3
  have c3b2:(l0.length == l1.length) = true:=by first|simpa using c3|(simp at c3 ⊢;omega)
  clear c3
  have H':=Aside0.mk H
  clear H
  go_enter Tryd.func36,Tryd.ntmps36
  go_wp2
  repeat (go_quiet (fail);try go_wp2)
  go_loopg [5] k (fun kq v5 w'=>∃ (x5_1:Int),v5 = .int .i64 x5_1∧Aside0 (garboardref01_Cmp.l0 kq l0 l1 x5_1 = some r)∧Aside0 (kq≤k)∧Drawn0 w w')
  case atStart=>exact ⟨(wrap64 ((l0.length:Int) - 1)),(by first|rfl|(simp;done)|(simp [*];done)),H',⟨Nat.le_refl _⟩,by repeat (first|exact Drawn0.refl _|apply Drawn0.step)⟩
  case round =>
   clear H'
   try clear c1
   try clear p2
   try clear c3
   try clear c3b0
   try clear c3b1
   try clear c3b2
   obtain ⟨x5_1,rfl,HA,HK1,⟨m1,rfl⟩⟩:=hrel
   cases gk with
   | zero=>exact absurd HA.out (by simp [garboardref01_Cmp.l0])
   | succ k1 =>
    have H:=HA.out
    clear HA
    simp only [garboardref01_Cmp.l0] at H
    by_cases c4:x5_1 ≥ 0
    ·rw [if_pos c4] at H
     have c4b0:decide (0≤x5_1) = true:=decide_eq_true c4
     clear c4
     by_cases c5:0≤x5_1
     ·rw [if_pos c5] at H
      have c5b0:decide (0≤x5_1) = true:=decide_eq_true c5
      clear c5
      by_cases c6:x5_1 < (l0.length:Int)
      ·rw [if_pos c6] at H
       have c6b0:decide (x5_1 < (l0.length:Int)) = true:=decide_eq_true c6
       clear c6
       by_cases c7:x5_1 < (l1.length:Int)
       ·rw [if_pos c7] at H
        have c7b0:decide (x5_1 < (l1.length:Int)) = true:=decide_eq_true c7
        clear c7
        by_cases c8:(rd l0 x5_1) < (rd l1 x5_1)
        ·rw [if_pos c8] at H
         have c8b0:decide ((rd l0 x5_1) < (rd l1 x5_1)) = true:=decide_eq_true c8
         clear c8
         obtain rfl:=Option.some.inj H
         have p303:0≤(x5_1:Int):=of_decide_eq_true (by first|(with_reducible assumption)|assumption)
         have q303:x5_1 < (l0.length:Int):=of_decide_eq_true (by first|(with_reducible assumption)|assumption)
         obtain ⟨ad303,e303,hx303_0⟩:=Kd.at_int HR0.out x5_1 p303 q303
         cases e303
         replace p303:=eq_true p303
         replace q303:=eq_true q303
         have p304:0≤(x5_1:Int):=of_decide_eq_true (by first|(with_reducible assumption)|assumption)
         have q304:x5_1 < (l1.length:Int):=of_decide_eq_true (by first|(with_reducible assumption)|assumption)
         obtain ⟨ad304,e304,hx304_0⟩:=Kd.at_int HR1.out x5_1 p304 q304
         cases e304
         replace p304:=eq_true p304
         replace q304:=eq_true q304
         go_wp2
         repeat (go_quiet (fail);try go_wp2)
         go_ret
         exact ⟨by first|rfl|(simp;done)|(simp [*];done),by repeat (first|exact Drawn0.refl _|apply Drawn0.step)⟩
        ·rw [if_neg c8] at H
         have c8b0:decide ((rd l0 x5_1) < (rd l1 x5_1)) = false:=decide_eq_false c8
         clear c8
         by_cases c9:(rd l0 x5_1) > (rd l1 x5_1)
         ·rw [if_pos c9] at H
          have c9b0:decide ((rd l1 x5_1) < (rd l0 x5_1)) = true:=decide_eq_true c9
          clear c9
          obtain rfl:=Option.some.inj H
          have p303:0≤(x5_1:Int):=of_decide_eq_true (by first|(with_reducible assumption)|assumption)
          have q303:x5_1 < (l0.length:Int):=of_decide_eq_true (by first|(with_reducible assumption)|assumption)
          obtain ⟨ad303,e303,hx303_0⟩:=Kd.at_int HR0.out x5_1 p303 q303
          cases e303
          replace p303:=eq_true p303
          replace q303:=eq_true q303
          have p304:0≤(x5_1:Int):=of_decide_eq_true (by first|(with_reducible assumption)|assumption)
          have q304:x5_1 < (l1.length:Int):=of_decide_eq_true (by first|(with_reducible assumption)|assumption)
          obtain ⟨ad304,e304,hx304_0⟩:=Kd.at_int HR1.out x5_1 p304 q304
          cases e304
          replace p304:=eq_true p304
          replace q304:=eq_true q304
          have p305:0≤(x5_1:Int):=of_decide_eq_true (by first|(with_reducible assumption)|assumption)
          have q305:x5_1 < (l0.length:Int):=of_decide_eq_true (by first|(with_reducible assumption)|assumption)
          obtain ⟨ad305,e305,hx305_0⟩:=Kd.at_int HR0.out x5_1 p305 q305
          obtain rfl:ad303 = ad305:=(by injection e305)
          replace p305:=eq_true p305
          replace q305:=eq_true q305
          have p306:0≤(x5_1:Int):=of_decide_eq_true (by first|(with_reducible assumption)|assumption)
          have q306:x5_1 < (l1.length:Int):=of_decide_eq_true (by first|(with_reducible assumption)|assumption)
          obtain ⟨ad306,e306,hx306_0⟩:=Kd.at_int HR1.out x5_1 p306 q306
          obtain rfl:ad304 = ad306:=(by injection e306)
          replace p306:=eq_true p306
          replace q306:=eq_true q306
          go_wp2
          repeat (go_quiet (fail);try go_wp2)
          go_ret
          exact ⟨by first|rfl|(simp;done)|(simp [*];done),by repeat (first|exact Drawn0.refl _|apply Drawn0.step)⟩
         ·rw [if_neg c9] at H
          have c9b0:decide ((rd l1 x5_1) < (rd l0 x5_1)) = false:=decide_eq_false c9
          clear c9
          have H':=Aside0.mk H
          clear H
          have p303:0≤(x5_1:Int):=of_decide_eq_true (by first|(with_reducible assumption)|assumption)
          have q303:x5_1 < (l0.length:Int):=of_decide_eq_true (by first|(with_reducible assumption)|assumption)
          obtain ⟨ad303,e303,hx303_0⟩:=Kd.at_int HR0.out x5_1 p303 q303
          cases e303
          replace p303:=eq_true p303
          replace q303:=eq_true q303
          have p304:0≤(x5_1:Int):=of_decide_eq_true (by first|(with_reducible assumption)|assumption)
          have q304:x5_1 < (l1.length:Int):=of_decide_eq_true (by first|(with_reducible assumption)|assumption)
          obtain ⟨ad304,e304,hx304_0⟩:=Kd.at_int HR1.out x5_1 p304 q304
          cases e304
          replace p304:=eq_true p304
          replace q304:=eq_true q304
          have p305:0≤(x5_1:Int):=of_decide_eq_true (by first|(with_reducible assumption)|assumption)
          have q305:x5_1 < (l0.length:Int):=of_decide_eq_true (by first|(with_reducible assumption)|assumption)
          obtain ⟨ad305,e305,hx305_0⟩:=Kd.at_int HR0.out x5_1 p305 q305
          obtain rfl:ad303 = ad305:=(by injection e305)
          replace p305:=eq_true p305
          replace q305:=eq_true q305
          have p306:0≤(x5_1:Int):=of_decide_eq_true (by first|(with_reducible assumption)|assumption)
          have q306:x5_1 < (l1.length:Int):=of_decide_eq_true (by first|(with_reducible assumption)|assumption)
          obtain ⟨ad306,e306,hx306_0⟩:=Kd.at_int HR1.out x5_1 p306 q306
          obtain rfl:ad304 = ad306:=(by injection e306)
          replace p306:=eq_true p306
          replace q306:=eq_true q306
          go_wp2
          repeat (go_quiet (fail);try go_wp2)
          go_roundg k1
          case measure=>have:=HK1.out;omega
          case rel=>exact ⟨(wrap64 (x5_1 - 1)),(by first|rfl|(simp;done)|(simp [*];done)),H',⟨by have:=HK1.out;omega⟩,by repeat (first|exact Drawn0.refl _|apply Drawn0.step)⟩
       ·rw [if_neg c7] at H
        exact absurd H (by simp)
      ·rw [if_neg c6] at H
       exact absurd H (by simp)
     ·rw [if_neg c5] at H
      exact absurd H (by simp)
    ·rw [if_neg c4] at H
     have c4b0:decide (0≤x5_1) = false:=decide_eq_false c4
     clear c4
     obtain rfl:=Option.some.inj H
     go_wp2
     repeat (go_quiet (fail);try go_wp2)
     go_ret
     exact ⟨by first|rfl|(simp;done)|(simp [*];done),by repeat (first|exact Drawn0.refl _|apply Drawn0.step)⟩
 ·rw [if_neg c3] at H
  have c3b0:((l0.length:Int) == (l1.length:Int)) = false:=beq_eq_false_iff_ne.mpr c3
  have c3b1:((l0.length:Int) != (l1.length:Int)) = true:=bne_iff_ne.mpr c3
  have c3b2:(l0.length == l1.length) = false:=by first|simpa using c3|(simp at c3 ⊢;omega)
  by_cases c10:(l0.length:Int) < (l1.length:Int)
  ·rw [if_pos c10] at H
   have c10b0:decide ((l0.length:Int) < (l1.length:Int)) = true:=decide_eq_true c10
   have c10b1:decide (l0.length < l1.length) = true:=decide_eq_true (Int.ofNat_lt.mp c10)
   clear c10
   obtain rfl:=Option.some.inj H
   go_enter Tryd.func36,Tryd.ntmps36
   go_wp2
   repeat (go_quiet (fail);try go_wp2)
   go_ret
   exact ⟨by first|rfl|(simp;done)|(simp [*];done),by repeat (first|exact Drawn0.refl _|apply Drawn0.step)⟩
  ·rw [if_neg c10] at H
   have c10b0:decide ((l0.length:Int) < (l1.length:Int)) = false:=decide_eq_false c10
   have c10b1:decide (l0.length < l1.length) = false:=decide_eq_false (fun h=>c10 (Int.ofNat_lt.mpr h))
   clear c10
   obtain rfl:=Option.some.inj H
   go_enter Tryd.func36,Tryd.ntmps36
   go_wp2
   repeat (go_quiet (fail);try go_wp2)
   go_ret
   exact ⟨by first|rfl|(simp;done)|(simp [*];done),by repeat (first|exact Drawn0.refl _|apply Drawn0.step)⟩
end Go.Proofs.YtaopmkcghancmaaDoor.Pr
namespace Go.Proofs.YtaopmkcghancmaaDoor.Pr
open Go.RowKit Go.Proofs.YtaopmkcghancmaaDoorW.PrintWords Go.Proofs.YtaopmkcghancmaaDoorW.PrintLast Go.Proofs.YtaopmkcghancmaaDoorW.PrintMore
attribute [local go_sem] max2_int min2_int max_two min_two max_three min_three max_four min_four
set_option linter.unusedVariables false
set_option linter.unusedSimpArgs false
set_option maxHeartbeats 8000000 in
set_option maxRecDepth 100000 in
theorem garboardref01_small.calls (k:Nat) (A0:Option Addr) (c0:Nat) (l0:List Int) (a1:Int) (r1:List Int) (r2:Int) (w:World) (hr0:Kd.C (Kd.int .u32) w A0 l0.length l0) (hc0:l0.length≤c0) (h:garboardref01_small.f k l0 a1 = some (r1,r2)) :
  Calls Tryd.prog 67 #[.slice A0 l0.length c0,.int .u32 a1] w fun e w'=>∃ v0_:Value,e = .returned (.tuple #[v0_,.int .u32 r2])∧Kd.V (Kd.int .u32) 64 w' w.heap.size (fun k_=>(w.heap.size≤k_)) v0_ r1∧Below w.heap.size w w':=by
 have HR0:=Aside0.mk hr0
 have HC0:=Aside0.mk hc0
 clear hr0 hc0
 have HB:=Aside0.mk (Below.refl w.heap.size w)
 have H:(if 0≤(l0.length:Int) then (if ((l0.length:Int):Int).toNat≤70368744177664 then (garboardref01_small.l0 k l0 a1 (List.replicate ((l0.length:Int):Int).toNat 0) 0 (wrap64 ((l0.length:Int) - 1))) else (none)) else (none)) = some (r1,r2):=h
 clear h
 by_cases c3:0≤(l0.length:Int)
 ·rw [if_pos c3] at H
  have c3b0:=eq_true c3
  have c3b1:decide (0≤(l0.length:Int)) = true:=decide_eq_true c3
  clear c3
  by_cases c4:((l0.length:Int):Int).toNat≤70368744177664
  ·rw [if_pos c4] at H
   have c4b0:=eq_true c4
   have c4b1:decide (((l0.length:Int):Int).toNat≤70368744177664) = true:=decide_eq_true c4
   clear c4
   obtain ⟨y436,hy436⟩:∃ y_:List Int,y_ = (List.replicate ((l0.length:Int):Int).toNat 0):=⟨_,rfl⟩
   replace H:(garboardref01_small.l0 k l0 a1 y436 0 (wrap64 ((l0.length:Int) - 1))) = some (r1,r2):=by first|(rw [hy436];with_reducible exact H)|(have H2_:=(Option.bind_some _ _).symm.trans H;rw [hy436];with_reducible exact H2_)|(have H2_:=(Option.bind_some _ _).symm.trans H;with_reducible exact H2_)|with_reducible exact H|(rw [hy436];exact H)|exact H
   have Ny436:=Aside0.mk hy436
   clear hy436
   have H':=Aside0.mk H
   clear H
   go_enter Tryd.func67,Tryd.ntmps67
   go_wp2_with (first|((with_reducible refine gate_dst (N:=12) rfl ?_);refine Kd.R_make (Kd.int .u32) _ 64 rfl (N:=12) rfl 45 _ _ rfl (l0.length:Int) rfl rfl Tryd.underlying45 (.int .u32 0) 4 info64 rfl (by decide) (by omega) 0 (ok:=fun _=>True) (okp:=fun _=>True) rfl (fun _ hk=>hk) trivial (of_decide_eq_true (by first|(with_reducible assumption)|assumption)) (Nat.le_trans (Nat.mul_le_mul_right _ (of_decide_eq_true (by first|(with_reducible assumption)|assumption):(l0.length:Int).toNat≤70368744177664)) (by omega)) (Below.refl _ _) (Nat.le_refl _) ?_;intro v437 w5 ho6 hb hg_ hnew_;clear hg_ hnew_;(first|rw [← Ny436.out] at ho6|(simp only [Int.reduceToNat] at ho6;rw [← Ny436.out] at ho6));have n0_:=Aside0.mk (Kd.R_lower (Kd.R_newM (M:=fun k_=>(w.heap.size≤k_)) ho6 (below_size (by repeat (first|(with_reducible first|exact HB.out|apply below_alloc|apply pw_below_drewN|apply below_drew1)|exact HB.out))) (fun k_ h_=>h_)) (below_size (by repeat (first|(with_reducible first|exact HB.out|apply below_alloc|apply pw_below_drewN|apply below_drew1)|exact HB.out))));have n1_:=Aside0.mk (below_step (by repeat (first|(with_reducible first|exact HB.out|apply below_alloc|apply pw_below_drewN|apply below_drew1)|exact HB.out)) hb);clear HB;have HO438:=n0_;have HB:=n1_;clear n0_ n1_;clear hb ho6))
   go_loopg [7,8] k (fun kq v7 v8 w'=>∃ (x6_1:List Int) (x7_1:Int) (x8_1:Int),v7 = .int .u64 x7_1∧v8 = .int .i64 x8_1∧Aside0 (garboardref01_small.l0 kq l0 a1 x6_1 x7_1 x8_1 = some (r1,r2))∧Aside0 (kq≤k)∧Aside0 (Kd.R (Kd.int .u32) 64 w' w.heap.size (fun k_=>(w.heap.size≤k_)) v437 x6_1)∧Aside0 (Below w.heap.size w w'))
   case atStart=>exact ⟨(y436),(0),(wrap64 ((l0.length:Int) - 1)),(by first|rfl|(simp;done)|(simp [*];done)),(by first|rfl|(simp;done)|(simp [*];done)),H',⟨Nat.le_refl _⟩,⟨by (with_reducible repeat (first|apply Kd.R_alloc|apply Kd.R_drewN|apply Kd.R_drew));exact Kd.R_mono HO438.out (fun _ hk=>hk.1)⟩,⟨by repeat (first|(with_reducible first|exact HB.out|apply below_alloc|apply pw_below_drewN|apply below_drew1)|exact HB.out)⟩⟩
   case round =>
    clear H'
    try clear p2
    try clear c3
    try clear c3b0
    try clear c3b1
    try clear c4
    try clear c4b0
    try clear c4b1
    try clear c6
    try clear p6
    obtain ⟨x6_1,x7_1,x8_1,rfl,rfl,HA,HK1,HO_6,HB⟩:=hrel
    cases gk with
    | zero=>exact absurd HA.out (by simp [garboardref01_small.l0])
    | succ k1 =>
     have H:=HA.out
     clear HA
     simp only [garboardref01_small.l0] at H
     by_cases c7:x8_1 ≥ 0
     ·rw [if_pos c7] at H
      have c7b0:decide (0≤x8_1) = true:=decide_eq_true c7
      clear c7
      by_cases c8:0≤x8_1
      ·rw [if_pos c8] at H
       have c8b0:decide (0≤x8_1) = true:=decide_eq_true c8
       clear c8
       by_cases c9:x8_1 < (l0.length:Int)
       ·rw [if_pos c9] at H
        have c9b0:decide (x8_1 < (l0.length:Int)) = true:=decide_eq_true c9
        clear c9
        by_cases c10:(IntKind.u64.wrap (a1)) = 0
        ·rw [if_pos c10] at H
         exact absurd H (by simp)
        ·rw [if_neg c10] at H
         have c10b0:((IntKind.u64.wrap (a1)) == 0) = false:=beq_eq_false_iff_ne.mpr c10
         have c10b1:((IntKind.u64.wrap (a1)) != 0) = true:=bne_iff_ne.mpr c10
         by_cases c11:x8_1 < (x6_1.length:Int)
         ·rw [if_pos c11] at H
          have c11b0:decide (x8_1 < (x6_1.length:Int)) = true:=decide_eq_true c11
          clear c11
          obtain ⟨y440,hy440⟩:∃ y_:List Int,y_ = (x6_1.set (x8_1:Int).toNat ((IntKind.u64.wrap (Int.tdiv (IntKind.u64.wrap ((IntKind.u64.wrap (x7_1 * 1000000000)) + (IntKind.u64.wrap (rd l0 x8_1)))) (IntKind.u64.wrap (a1)))) % 4294967296)):=⟨_,rfl⟩
          replace H:(garboardref01_small.l0 k1 l0 a1 y440 (Int.tmod (IntKind.u64.wrap ((IntKind.u64.wrap (x7_1 * 1000000000)) + (IntKind.u64.wrap (rd l0 x8_1)))) (IntKind.u64.wrap (a1))) (wrap64 (x8_1 - 1))) = some (r1,r2):=by first|(rw [hy440];with_reducible exact H)|(have H2_:=(Option.bind_some _ _).symm.trans H;rw [hy440];with_reducible exact H2_)|(have H2_:=(Option.bind_some _ _).symm.trans H;with_reducible exact H2_)|with_reducible exact H|(rw [hy440];exact H)|exact H
          have Ny440:=Aside0.mk hy440
          clear hy440
          have H':=Aside0.mk H
          clear H
          have p439:0≤(x8_1:Int):=of_decide_eq_true (by first|(with_reducible assumption)|assumption)
          have q439:x8_1 < (l0.length:Int):=of_decide_eq_true (by first|(with_reducible assumption)|assumption)
          obtain ⟨ad439,e439,hx439_0⟩:=Kd.at_int HR0.out x8_1 p439 q439
          cases e439
          replace hx439_0:=(HB.out.cell (World.block_lt_of_cell? w _ hx439_0)).trans hx439_0
          replace p439:=eq_true p439
          replace q439:=eq_true q439
          have p12:0≤(x8_1:Int):=of_decide_eq_true (by first|(with_reducible assumption)|assumption)
          have q12:(x8_1:Int) < ((x6_1.length:Int):Int):=of_decide_eq_true (by first|(with_reducible assumption)|assumption)
          obtain ⟨go12,co12,eo12,gb12,gl12,cl12,HG12⟩:=Kd.R_form HO_6.out (by omega)
          (first|cases eo12|(injection eo12 with ea_ en_ ec_;(first|subst ea_|(injection ea_ with ea_;subst ea_));subst ec_;clear en_))
          have GB12:=Aside0.mk gb12
          have GG12:=Aside0.mk HG12
          clear gb12 gl12 HG12
          obtain ⟨hx12_0,hf12_0⟩:=Kd.R_celln 0 HO_6.out (x8_1:Int) p12 q12
          replace p12:=eq_true p12
          replace q12:=eq_true q12
          have HP13:=Kd.R_putg HO_6.out (x8_1:Int) ((IntKind.u64.wrap (Int.tdiv (IntKind.u64.wrap ((IntKind.u64.wrap (x7_1 * 1000000000)) + (IntKind.u64.wrap (rd l0 x8_1)))) (IntKind.u64.wrap (a1)))) % 4294967296)
          go_wp2_with (first|((with_reducible refine gate_store (t:=64) (p:=35) rfl ?_);refine store_event (t:=64) (p:=35) (v:=?vo_w14) (w1:=(wr.setCell ⟨go12,(x8_1:Int).toNat,none⟩ (.int .u32 ((IntKind.u64.wrap (Int.tdiv (IntKind.u64.wrap ((IntKind.u64.wrap (x7_1 * 1000000000)) + (IntKind.u64.wrap (rd l0 x8_1)))) (IntKind.u64.wrap (a1)))) % 4294967296)))) ?hg ?ho ?hn ?hr ?_;(case ho=>rfl);(case hg=>rfl);(case hn=>rfl);(case hr=>first|(go_simp;done)|(go_simp;rfl));intro w14 hw;have hg:wr.grownBy w14 (some go12):=(by rw [hw];exact HP13.2);have hp_:Kd.R (Kd.int .u32) 64 w14 w.heap.size (fun k_=>(w.heap.size≤k_)) (.slice (some ⟨go12,0,none⟩) x6_1.length co12) y440:=(by rw [hw,Ny440.out];exact HP13.1);clear HP13;have n0_:=Aside0.mk (hp_);have n1_:=Aside0.mk ((by rw [hw];exact below_set (HB.out) GB12.out:Below w.heap.size w w14));clear HO_6;clear HB;have HO_6:=n0_;have HB:=n1_;clear n0_ n1_;clear hg hw hp_))
          go_roundg k1
          case measure=>have:=HK1.out;omega
          case rel=>exact ⟨(y440),(Int.tmod (IntKind.u64.wrap ((IntKind.u64.wrap (x7_1 * 1000000000)) + (IntKind.u64.wrap (rd l0 x8_1)))) (IntKind.u64.wrap (a1))),(wrap64 (x8_1 - 1)),(by first|rfl|(simp;done)|(simp [*];done)),(by first|rfl|(simp;done)|(simp [*];done)),H',⟨by have:=HK1.out;omega⟩,⟨by (with_reducible repeat (first|apply Kd.R_alloc|apply Kd.R_drewN|apply Kd.R_drew));first|exact HO_6.out|(rw [Ny440.out];exact (Kd.R_putg (by first|exact Kd.R_drewN HO_6.out _|(apply Kd.R_drewN;exact HO_6.out)) (x8_1:Int) ((IntKind.u64.wrap (Int.tdiv (IntKind.u64.wrap ((IntKind.u64.wrap (x7_1 * 1000000000)) + (IntKind.u64.wrap (rd l0 x8_1)))) (IntKind.u64.wrap (a1)))) % 4294967296)).1)|(rw [Ny440.out];exact (Kd.R_putg HO_6.out (x8_1:Int) ((IntKind.u64.wrap (Int.tdiv (IntKind.u64.wrap ((IntKind.u64.wrap (x7_1 * 1000000000)) + (IntKind.u64.wrap (rd l0 x8_1)))) (IntKind.u64.wrap (a1)))) % 4294967296)).1)⟩,⟨by first|(exact below_set (by repeat (first|(with_reducible first|exact HB.out|apply below_alloc|apply pw_below_drewN|apply below_drew1)|exact HB.out)) GB12.out)|(repeat (first|(with_reducible first|exact HB.out|apply below_alloc|apply pw_below_drewN|apply below_drew1)|exact HB.out))⟩⟩
         ·rw [if_neg c11] at H
          exact absurd H (by simp)
       ·rw [if_neg c9] at H
        exact absurd H (by simp)
      ·rw [if_neg c8] at H
       exact absurd H (by simp)
     ·rw [if_neg c7] at H
      have c7b0:decide (0≤x8_1) = false:=decide_eq_false c7
      clear c7
      replace H:=Option.bind_eq_some_iff.mp H
      obtain ⟨t441,A150,H⟩:=H
      replace H:(some (t441,(x7_1) % 4294967296)) = some (r1,r2):=H
      have A15:=Aside0.mk A150
      clear A150
      simp only [Option.some.injEq,Prod.mk.injEq] at H
      obtain ⟨rfl,rfl⟩:=H
      obtain ⟨Ao16,co16,eo16⟩:=Kd.R_slice HO_6.out
      subst eo16
      go_wp2_with (first|((with_reducible refine gate_callee (f:=59) rfl ?_);refine goesL_ (some 41) rfl rfl Tryd.func59 (by kernel_rfl) rfl #[.slice Ao16 x6_1.length co16] rfl (by (try simp only [List.map_toArray,List.map_cons,List.map_nil]);first|done|rfl|(simp only [List.length_drop,List.length_take];rfl)) ?_;(with_reducible refine (garboardref01_trim.calls k1 (fun k_=>some k_ = (.slice Ao16 x6_1.length co16:Value).ownBlock) _ _ x6_1 t441 _ ?side1 A15.out).mono ?_);(case side1=>exact Kd.R_V (Kd.R_tight rfl (HO_6.out)));rintro e w17 ⟨v442,rfl,ho0,hb⟩;refine ⟨_,rfl,?_⟩;have n0_:=Aside0.mk (Kd.R_below (by (with_reducible repeat (first|apply Kd.R_alloc|apply Kd.R_drewN|apply Kd.R_drew));exact HO_6.out) hb);have n1_:=Aside0.mk (Kd.V_lower (Kd.V_mono (ok':=fun k_=>(w.heap.size≤k_)) ho0 (fun k_ hk_=>Or.elim hk_ (fun hs_=>((HO_6.out).1 k_ hs_.symm)) (fun hn_=>(Nat.le_trans (below_size (by repeat (first|(with_reducible first|exact HB.out|apply below_alloc|apply pw_below_drewN|apply below_drew1)|exact HB.out))) hn_)))) (below_size (by repeat (first|(with_reducible first|exact HB.out|apply below_alloc|apply pw_below_drewN|apply below_drew1)|exact HB.out))));have n2_:=Aside0.mk (below_step (by repeat (first|(with_reducible first|exact HB.out|apply below_alloc|apply pw_below_drewN|apply below_drew1)|exact HB.out)) hb);clear HO_6;clear HB;have HO_6:=n0_;have HO443:=n1_;have HB:=n2_;clear n0_ n1_ n2_;(try clear hb);(try clear hb2);(try clear hk);(try clear hi);(try clear ho0)))
      go_ret2
      exact ⟨_,by first|rfl|(simp [errW_none,errW_some]<;>rfl)|(simp [*,errW_none,errW_some]<;>rfl),by (with_reducible repeat (first|apply Kd.V_alloc|apply Kd.V_drewN|apply Kd.V_drew));exact HO443.out,by repeat (first|(with_reducible first|exact HB.out|apply below_alloc|apply pw_below_drewN|apply below_drew1)|exact HB.out)⟩
  ·rw [if_neg c4] at H
   exact absurd H (by simp)
 ·rw [if_neg c3] at H
  exact absurd H (by simp)
end Go.Proofs.YtaopmkcghancmaaDoor.Pr
namespace Go.Proofs.YtaopmkcghancmaaDoor.Pr
open Go.RowKit Go.Proofs.YtaopmkcghancmaaDoorW.PrintWords Go.Proofs.YtaopmkcghancmaaDoorW.PrintLast Go.Proofs.YtaopmkcghancmaaDoorW.PrintMore
attribute [local go_sem] max2_int min2_int max_two min_two max_three min_three max_four min_four
set_option linter.unusedVariables false
set_option linter.unusedSimpArgs false
def garboardref01_Small.f (k:Nat) (a0:Int):Option (List Int):=(garboardref01_trim.f k (([Int.tmod a0 1000000000,(Int.tdiv a0 1000000000) % 4294967296]:List Int))).bind fun t447=>(some t447)
set_option maxHeartbeats 8000000 in
set_option maxRecDepth 100000 in
theorem garboardref01_Small.calls (k:Nat) (a0:Int) (r:List Int) (w:World) (h:garboardref01_Small.f k a0 = some r) :
  Calls Tryd.prog 68 #[.int .u32 a0] w fun e w'=>∃ v0_:Value,e = .returned (v0_)∧Kd.V (Kd.int .u32) 64 w' w.heap.size (fun k_=>(w.heap.size≤k_)) v0_ r∧Below w.heap.size w w':=by
 have HB:=Aside0.mk (Below.refl w.heap.size w)
 have H:((garboardref01_trim.f k (([Int.tmod a0 1000000000,(Int.tdiv a0 1000000000) % 4294967296]:List Int))).bind fun t447=>(some t447)) = some r:=h
 clear h
 obtain ⟨y444,hy444⟩:∃ y_:List Int,y_ = (([Int.tmod a0 1000000000,(Int.tdiv a0 1000000000) % 4294967296]:List Int)):=⟨_,rfl⟩
 replace H:((garboardref01_trim.f k y444).bind fun t447=>(some t447)) = some r:=by first|(rw [hy444];with_reducible exact H)|(have H2_:=(Option.bind_some _ _).symm.trans H;rw [hy444];with_reducible exact H2_)|(have H2_:=(Option.bind_some _ _).symm.trans H;with_reducible exact H2_)|with_reducible exact H|(rw [hy444];exact H)|exact H
 have Ny444:=Aside0.mk hy444
 clear hy444
 replace H:=Option.bind_eq_some_iff.mp H
 obtain ⟨t447,A20,H⟩:=H
 replace H:(some t447) = some r:=H
 have A2:=Aside0.mk A20
 clear A20
 obtain rfl:=Option.some.inj H
 go_enter Tryd.func68,Tryd.ntmps68
 go_wp2_with (first|((with_reducible refine gate_dst (N:=7) rfl ?_);refine Kd.R_lit (Kd.int .u32) _ 64 ?hg (N:=7) ?hd (xs:=([Int.tmod a0 1000000000,(Int.tdiv a0 1000000000) % 4294967296]:List Int)) (inner:=[.int .u32 (Int.tmod a0 1000000000),.int .u32 ((Int.tdiv a0 1000000000) % 4294967296)]) (ok:=fun _=>True) (okp:=fun _=>True) ?hr ?hp (fun _ hk=>hk) trivial (Below.refl _ _) (Nat.le_refl _) (by simp) ?_;(case hd=>rfl);(case hg=>rfl);(case hr=>first|(go_simp;done)|(go_simp;rfl));(case hp=>exact (Reps.one (show Kd.M (Kd.int .u32) _ _ _ (Int.tmod a0 1000000000) [.int .u32 (Int.tmod a0 1000000000)] from rfl) (Reps.one (show Kd.M (Kd.int .u32) _ _ _ ((Int.tdiv a0 1000000000) % 4294967296) [.int .u32 ((Int.tdiv a0 1000000000) % 4294967296)] from rfl) (Reps.none _ _))));intro v445 w3 ho4 hb hg_ hnew_;clear hg_ hnew_;(first|rw [← Ny444.out] at ho4|(simp only [Int.reduceToNat] at ho4;rw [← Ny444.out] at ho4));have n0_:=Aside0.mk (Kd.R_lower (Kd.R_newM (M:=fun k_=>(w.heap.size≤k_)) ho4 (below_size (by repeat (first|(with_reducible first|exact HB.out|apply below_alloc|apply pw_below_drewN|apply below_drew1)|exact HB.out))) (fun k_ h_=>h_)) (below_size (by repeat (first|(with_reducible first|exact HB.out|apply below_alloc|apply pw_below_drewN|apply below_drew1)|exact HB.out))));have n1_:=Aside0.mk (below_step (by repeat (first|(with_reducible first|exact HB.out|apply below_alloc|apply pw_below_drewN|apply below_drew1)|exact HB.out)) hb);clear HB;have HO446:=n0_;have HB:=n1_;clear n0_ n1_;clear hb ho4;obtain ⟨Ao5,co5,eo5⟩:=Kd.R_slice HO446.out;subst eo5)|((with_reducible refine gate_callee (f:=59) rfl ?_);refine goesL_ (some 8) rfl rfl Tryd.func59 (by kernel_rfl) rfl #[.slice Ao5 y444.length co5] rfl (by (try simp only [List.map_toArray,List.map_cons,List.map_nil]);first|done|rfl|(simp only [List.length_drop,List.length_take];rfl)) ?_;(with_reducible refine (garboardref01_trim.calls k (fun k_=>some k_ = (.slice Ao5 y444.length co5:Value).ownBlock) _ _ y444 t447 _ ?side1 A2.out).mono ?_);(case side1=>exact Kd.R_V (Kd.R_tight rfl (HO446.out)));rintro e w6 ⟨v448,rfl,ho0,hb⟩;refine ⟨_,rfl,?_⟩;have n0_:=Aside0.mk (Kd.R_below (by (with_reducible repeat (first|apply Kd.R_alloc|apply Kd.R_drewN|apply Kd.R_drew));exact HO446.out) hb);have n1_:=Aside0.mk (Kd.V_lower (Kd.V_mono (ok':=fun k_=>(w.heap.size≤k_)) ho0 (fun k_ hk_=>Or.elim hk_ (fun hs_=>((HO446.out).1 k_ hs_.symm).1) (fun hn_=>(Nat.le_trans (below_size (by repeat (first|(with_reducible first|exact HB.out|apply below_alloc|apply pw_below_drewN|apply below_drew1)|exact HB.out))) hn_)))) (below_size (by repeat (first|(with_reducible first|exact HB.out|apply below_alloc|apply pw_below_drewN|apply below_drew1)|exact HB.out))));have n2_:=Aside0.mk (below_step (by repeat (first|(with_reducible first|exact HB.out|apply below_alloc|apply pw_below_drewN|apply below_drew1)|exact HB.out)) hb);clear HO446;clear HB;have HO446:=n0_;have HO449:=n1_;have HB:=n2_;clear n0_ n1_ n2_;(try clear hb);(try clear hb2);(try clear hk);(try clear hi);(try clear ho0)))
 go_ret
 exact ⟨_,by first|rfl|(simp [errW_none,errW_some]<;>rfl)|(simp [*,errW_none,errW_some]<;>rfl),by (with_reducible repeat (first|apply Kd.V_alloc|apply Kd.V_drewN|apply Kd.V_drew));exact HO449.out,by repeat (first|(with_reducible first|exact HB.out|apply below_alloc|apply pw_below_drewN|apply below_drew1)|exact HB.out)⟩
end Go.Proofs.YtaopmkcghancmaaDoor.Pr
namespace Go.Proofs.YtaopmkcghancmaaDoor.Pr
open Go.RowKit Go.Proofs.YtaopmkcghancmaaDoorW.PrintWords Go.Proofs.YtaopmkcghancmaaDoorW.PrintLast Go.Proofs.YtaopmkcghancmaaDoorW.PrintMore
attribute [local go_sem] max2_int min2_int max_two min_two max_three min_three max_four min_four
set_option linter.unusedVariables false
set_option linter.unusedSimpArgs false
set_option maxHeartbeats 8000000 in
set_option maxRecDepth 100000 in
theorem garboardref01_word.calls (k:Nat) (A0:Option Addr) (c0:Nat) (l0:List Int) (r:Int) (w:World) (hr0:Kd.C (Kd.int .u32) w A0 l0.length l0) (hc0:l0.length≤c0) (h:garboardref01_word.f k l0 = some r) :
  Calls Tryd.prog 70 #[.slice A0 l0.length c0] w fun e w'=>e = .returned (.int .u64 r)∧Drawn0 w w':=by
 have HR0:=Aside0.mk hr0
 have HC0:=Aside0.mk hc0
 clear hr0 hc0
 have H:(garboardref01_word.l0 k l0 0 (wrap64 ((l0.length:Int) - 1))) = some r:=h
 clear h
 have H':=Aside0.mk H
 clear H
 go_enter Tryd.func70,Tryd.ntmps70
 go_wp2
 go_loopg [3,4] k (fun kq v3 v4 w'=>∃ (x3_1:Int) (x4_1:Int),v3 = .int .u64 x3_1∧v4 = .int .i64 x4_1∧Aside0 (garboardref01_word.l0 kq l0 x3_1 x4_1 = some r)∧Aside0 (kq≤k)∧Drawn0 w w')
 case atStart=>exact ⟨(0),(wrap64 ((l0.length:Int) - 1)),(by first|rfl|(simp;done)|(simp [*];done)),(by first|rfl|(simp;done)|(simp [*];done)),H',⟨Nat.le_refl _⟩,by repeat (first|exact Drawn0.refl _|apply Drawn0.step)⟩
 case round =>
  clear H'
  obtain ⟨x3_1,x4_1,rfl,rfl,HA,HK1,⟨m1,rfl⟩⟩:=hrel
  cases gk with
  | zero=>exact absurd HA.out (by simp [garboardref01_word.l0])
  | succ k1 =>
   have H:=HA.out
   clear HA
   simp only [garboardref01_word.l0] at H
   by_cases c2:x4_1 ≥ 0
   ·rw [if_pos c2] at H
    have c2b0:decide (0≤x4_1) = true:=decide_eq_true c2
    clear c2
    by_cases c3:0≤x4_1
    ·rw [if_pos c3] at H
     have c3b0:decide (0≤x4_1) = true:=decide_eq_true c3
     clear c3
     by_cases c4:x4_1 < (l0.length:Int)
     ·rw [if_pos c4] at H
      have c4b0:decide (x4_1 < (l0.length:Int)) = true:=decide_eq_true c4
      clear c4
      have H':=Aside0.mk H
      clear H
      have p477:0≤(x4_1:Int):=of_decide_eq_true (by first|(with_reducible assumption)|assumption)
      have q477:x4_1 < (l0.length:Int):=of_decide_eq_true (by first|(with_reducible assumption)|assumption)
      obtain ⟨ad477,e477,hx477_0⟩:=Kd.at_int HR0.out x4_1 p477 q477
      cases e477
      replace p477:=eq_true p477
      replace q477:=eq_true q477
      go_wp2
      go_roundg k1
      case measure=>have:=HK1.out;omega
      case rel=>exact ⟨(IntKind.u64.wrap ((IntKind.u64.wrap (x3_1 * 1000000000)) + (IntKind.u64.wrap (rd l0 x4_1)))),(wrap64 (x4_1 - 1)),(by first|rfl|(simp;done)|(simp [*];done)),(by first|rfl|(simp;done)|(simp [*];done)),H',⟨by have:=HK1.out;omega⟩,by repeat (first|exact Drawn0.refl _|apply Drawn0.step)⟩
     ·rw [if_neg c4] at H
      exact absurd H (by simp)
    ·rw [if_neg c3] at H
     exact absurd H (by simp)
   ·rw [if_neg c2] at H
    have c2b0:decide (0≤x4_1) = false:=decide_eq_false c2
    clear c2
    obtain rfl:=Option.some.inj H
    go_wp2
    go_ret
    exact ⟨by first|rfl|(simp;done)|(simp [*];done),by repeat (first|exact Drawn0.refl _|apply Drawn0.step)⟩
end Go.Proofs.YtaopmkcghancmaaDoor.Pr
namespace Go.Proofs.YtaopmkcghancmaaDoor.Pr
open Go.RowKit Go.Proofs.YtaopmkcghancmaaDoorW.PrintWords Go.Proofs.YtaopmkcghancmaaDoorW.PrintLast Go.Proofs.YtaopmkcghancmaaDoorW.PrintMore
attribute [local go_sem] max2_int min2_int max_two min_two max_three min_three max_four min_four
set_option linter.unusedVariables false
set_option linter.unusedSimpArgs false
set_option maxHeartbeats 8000000 in
set_option maxRecDepth 100000 in
theorem garboardref01_wide.calls (k:Nat) (a0:Int) (r:List Int) (w:World) (h:garboardref01_wide.f k a0 = some r) :
  Calls Tryd.prog 71 #[.int .u64 a0] w fun e w'=>∃ v0_:Value,e = .returned (v0_)∧Kd.V (Kd.int .u32) 64 w' w.heap.size (fun k_=>(w.heap.size≤k_)) v0_ r∧Below w.heap.size w w':=by
 have HB:=Aside0.mk (Below.refl w.heap.size w)
 have H:((garboardref01_trim.f k (([(Int.tmod a0 1000000000) % 4294967296,(Int.tmod (IntKind.u64.wrap (Int.tdiv a0 1000000000)) 1000000000) % 4294967296,(IntKind.u64.wrap (Int.tdiv (IntKind.u64.wrap (Int.tdiv a0 1000000000)) 1000000000)) % 4294967296]:List Int))).bind fun t481=>(some t481)) = some r:=h
 clear h
 obtain ⟨y478,hy478⟩:∃ y_:List Int,y_ = (([(Int.tmod a0 1000000000) % 4294967296,(Int.tmod (IntKind.u64.wrap (Int.tdiv a0 1000000000)) 1000000000) % 4294967296,(IntKind.u64.wrap (Int.tdiv (IntKind.u64.wrap (Int.tdiv a0 1000000000)) 1000000000)) % 4294967296]:List Int)):=⟨_,rfl⟩
 replace H:((garboardref01_trim.f k y478).bind fun t481=>(some t481)) = some r:=by first|(rw [hy478];with_reducible exact H)|(have H2_:=(Option.bind_some _ _).symm.trans H;rw [hy478];with_reducible exact H2_)|(have H2_:=(Option.bind_some _ _).symm.trans H;with_reducible exact H2_)|with_reducible exact H|(rw [hy478];exact H)|exact H
 have Ny478:=Aside0.mk hy478
 clear hy478
 replace H:=Option.bind_eq_some_iff.mp H
 obtain ⟨t481,A20,H⟩:=H
 replace H:(some t481) = some r:=H
 have A2:=Aside0.mk A20
 clear A20
 obtain rfl:=Option.some.inj H
 go_enter Tryd.func71,Tryd.ntmps71
 go_wp2_with (first|((with_reducible refine gate_dst (N:=14) rfl ?_);refine Kd.R_lit (Kd.int .u32) _ 64 ?hg (N:=14) ?hd (xs:=([(Int.tmod a0 1000000000) % 4294967296,(Int.tmod (IntKind.u64.wrap (Int.tdiv a0 1000000000)) 1000000000) % 4294967296,(IntKind.u64.wrap (Int.tdiv (IntKind.u64.wrap (Int.tdiv a0 1000000000)) 1000000000)) % 4294967296]:List Int)) (inner:=[.int .u32 ((Int.tmod a0 1000000000) % 4294967296),.int .u32 ((Int.tmod (IntKind.u64.wrap (Int.tdiv a0 1000000000)) 1000000000) % 4294967296),.int .u32 ((IntKind.u64.wrap (Int.tdiv (IntKind.u64.wrap (Int.tdiv a0 1000000000)) 1000000000)) % 4294967296)]) (ok:=fun _=>True) (okp:=fun _=>True) ?hr ?hp (fun _ hk=>hk) trivial (Below.refl _ _) (Nat.le_refl _) (by simp) ?_;(case hd=>rfl);(case hg=>rfl);(case hr=>first|(go_simp;done)|(go_simp;rfl));(case hp=>exact (Reps.one (show Kd.M (Kd.int .u32) _ _ _ ((Int.tmod a0 1000000000) % 4294967296) [.int .u32 ((Int.tmod a0 1000000000) % 4294967296)] from rfl) (Reps.one (show Kd.M (Kd.int .u32) _ _ _ ((Int.tmod (IntKind.u64.wrap (Int.tdiv a0 1000000000)) 1000000000) % 4294967296) [.int .u32 ((Int.tmod (IntKind.u64.wrap (Int.tdiv a0 1000000000)) 1000000000) % 4294967296)] from rfl) (Reps.one (show Kd.M (Kd.int .u32) _ _ _ ((IntKind.u64.wrap (Int.tdiv (IntKind.u64.wrap (Int.tdiv a0 1000000000)) 1000000000)) % 4294967296) [.int .u32 ((IntKind.u64.wrap (Int.tdiv (IntKind.u64.wrap (Int.tdiv a0 1000000000)) 1000000000)) % 4294967296)] from rfl) (Reps.none _ _)))));intro v479 w3 ho4 hb hg_ hnew_;clear hg_ hnew_;(first|rw [← Ny478.out] at ho4|(simp only [Int.reduceToNat] at ho4;rw [← Ny478.out] at ho4));have n0_:=Aside0.mk (Kd.R_lower (Kd.R_newM (M:=fun k_=>(w.heap.size≤k_)) ho4 (below_size (by repeat (first|(with_reducible first|exact HB.out|apply below_alloc|apply pw_below_drewN|apply below_drew1)|exact HB.out))) (fun k_ h_=>h_)) (below_size (by repeat (first|(with_reducible first|exact HB.out|apply below_alloc|apply pw_below_drewN|apply below_drew1)|exact HB.out))));have n1_:=Aside0.mk (below_step (by repeat (first|(with_reducible first|exact HB.out|apply below_alloc|apply pw_below_drewN|apply below_drew1)|exact HB.out)) hb);clear HB;have HO480:=n0_;have HB:=n1_;clear n0_ n1_;clear hb ho4;obtain ⟨Ao5,co5,eo5⟩:=Kd.R_slice HO480.out;subst eo5)|((with_reducible refine gate_callee (f:=59) rfl ?_);refine goesL_ (some 15) rfl rfl Tryd.func59 (by kernel_rfl) rfl #[.slice Ao5 y478.length co5] rfl (by (try simp only [List.map_toArray,List.map_cons,List.map_nil]);first|done|rfl|(simp only [List.length_drop,List.length_take];rfl)) ?_;(with_reducible refine (garboardref01_trim.calls k (fun k_=>some k_ = (.slice Ao5 y478.length co5:Value).ownBlock) _ _ y478 t481 _ ?side1 A2.out).mono ?_);(case side1=>exact Kd.R_V (Kd.R_tight rfl (HO480.out)));rintro e w6 ⟨v482,rfl,ho0,hb⟩;refine ⟨_,rfl,?_⟩;have n0_:=Aside0.mk (Kd.R_below (by (with_reducible repeat (first|apply Kd.R_alloc|apply Kd.R_drewN|apply Kd.R_drew));exact HO480.out) hb);have n1_:=Aside0.mk (Kd.V_lower (Kd.V_mono (ok':=fun k_=>(w.heap.size≤k_)) ho0 (fun k_ hk_=>Or.elim hk_ (fun hs_=>((HO480.out).1 k_ hs_.symm).1) (fun hn_=>(Nat.le_trans (below_size (by repeat (first|(with_reducible first|exact HB.out|apply below_alloc|apply pw_below_drewN|apply below_drew1)|exact HB.out))) hn_)))) (below_size (by repeat (first|(with_reducible first|exact HB.out|apply below_alloc|apply pw_below_drewN|apply below_drew1)|exact HB.out))));have n2_:=Aside0.mk (below_step (by repeat (first|(with_reducible first|exact HB.out|apply below_alloc|apply pw_below_drewN|apply below_drew1)|exact HB.out)) hb);clear HO480;clear HB;have HO480:=n0_;have HO483:=n1_;have HB:=n2_;clear n0_ n1_ n2_;(try clear hb);(try clear hb2);(try clear hk);(try clear hi);(try clear ho0)))
 go_ret
 exact ⟨_,by first|rfl|(simp [errW_none,errW_some]<;>rfl)|(simp [*,errW_none,errW_some]<;>rfl),by (with_reducible repeat (first|apply Kd.V_alloc|apply Kd.V_drewN|apply Kd.V_drew));exact HO483.out,by repeat (first|(with_reducible first|exact HB.out|apply below_alloc|apply pw_below_drewN|apply below_drew1)|exact HB.out)⟩
end Go.Proofs.YtaopmkcghancmaaDoor.Pr
set_option linter.unusedVariables false
set_option linter.unusedSimpArgs false
namespace Go.Proofs.YtaopmkcghancmaaDoor.Pr
open Go.RowKit Go.Proofs.YtaopmkcghancmaaDoorW.PrintWords Go.Proofs.YtaopmkcghancmaaDoorW.PrintLast Go.Proofs.YtaopmkcghancmaaDoorW.PrintMore Go.Proofs.YtaopmkcghancmaaDoor.NatTh
theorem Small_ev (a:Nat) (h:a < 4294967296):Ev (fun k=>garboardref01_Small.f k a) (numOf a):=by
 have e1:Int.tmod (a:Int) 1000000000 = (a:Int) % 1000000000:=Int.tmod_eq_emod_of_nonneg (by omega)
 have e2:Int.tdiv (a:Int) 1000000000 = (a:Int) / 1000000000:=Int.tdiv_eq_ediv_of_nonneg (by omega)
 have ew:Wd [(a:Int) % 1000000000,(a:Int) / 1000000000]:=wd2 (by omega) (by omega)
 have ev:val [(a:Int) % 1000000000,(a:Int) / 1000000000] = a:=by
  simp only [val,BB]
  omega
 have h1:=rtrim_ev (l:=[(a:Int) % 1000000000,(a:Int) / 1000000000]) (by simp)
 rw [trim_numOf ew ev] at h1
 refine Ev.congr (f:=fun k=>(garboardref01_trim.f k [(a:Int) % 1000000000,(a:Int) / 1000000000]).bind fun t=>some t) (fun k=>?_) (Ev.bind h1 (Ev.now _))
 simp only [garboardref01_Small.f]
 rw [e1,e2,Int.emod_eq_of_lt (show (0:Int)≤(a:Int) / 1000000000 by omega) (by omega)]
end Go.Proofs.YtaopmkcghancmaaDoor.Pr
namespace Go.Proofs.YtaopmkcghancmaaDoor.Pt
open Go.RowKit Go.Proofs.YtaopmkcghancmaaDoorW.PrintWords Go.Proofs.YtaopmkcghancmaaDoorW.PrintLast Go.Proofs.YtaopmkcghancmaaDoorW.PrintMore
attribute [local go_sem] max2_int min2_int max_two min_two max_three min_three max_four min_four
set_option linter.unusedVariables false
set_option linter.unusedSimpArgs false
theorem natural_num_trim.mono_l:∀ k,(∀ y0,LeO (natural_num_trim.l0 k y0) (natural_num_trim.l0 (k + 1) y0))
 | 0=>fun _ r h=>by simp [natural_num_trim.l0] at h
 | k + 1=>by
  have ih0:=natural_num_trim.mono_l k
  ·intro y0
   unfold natural_num_trim.l0
   repeat' first
   | (with_reducible exact ih0 _)
   | (with_reducible exact LeO.refl _)
   | (with_reducible exact LeO.none _)
   | (with_reducible refine LeO.ite ?_ ?_)
   | (with_reducible refine LeO.bind ?_ (fun _=>?_))
   | exact ih0 _
   | exact LeO.none _
   | refine LeO.ite ?_ ?_
   | refine LeO.bind ?_ (fun _=>?_)
theorem natural_num_trim.mono:∀ a0 k,LeO (natural_num_trim.f k a0) (natural_num_trim.f (k + 1) a0):=by
 intro a0 k
 have ih0:=natural_num_trim.mono_l k
 unfold natural_num_trim.f
 repeat' first
   | (with_reducible exact ih0 _)
   | (with_reducible exact LeO.refl _)
   | (with_reducible exact LeO.none _)
   | (with_reducible refine LeO.ite ?_ ?_)
   | (with_reducible refine LeO.bind ?_ (fun _=>?_))
   | exact ih0 _
   | exact LeO.none _
   | refine LeO.ite ?_ ?_
   | refine LeO.bind ?_ (fun _=>?_)
end Go.Proofs.YtaopmkcghancmaaDoor.Pt
set_option linter.unusedVariables false
set_option linter.unusedSimpArgs false
namespace Go.Proofs.YtaopmkcghancmaaDoor.NatTh
open Go.Lib
theorem pad_length (k w:Nat):(pad k w).length = k:=by
 induction k generalizing w with
 | zero=>rfl
 | succ k ih=>rw [pad,List.length_append,ih];rfl
end Go.Proofs.YtaopmkcghancmaaDoor.NatTh
namespace Go.Proofs.YtaopmkcghancmaaDoor.Pr
open Go.RowKit Go.Proofs.YtaopmkcghancmaaDoorW.PrintWords Go.Proofs.YtaopmkcghancmaaDoorW.PrintLast Go.Proofs.YtaopmkcghancmaaDoorW.PrintMore
attribute [local go_sem] max2_int min2_int max_two min_two max_three min_three max_four min_four
set_option linter.unusedVariables false
set_option linter.unusedSimpArgs false
def garboardref01_Valid.l0:Nat→ByteArray→Int→Option (Bool)
 | 0,_,_=>none
 | k + 1,x0,x3=>if x3 < (x0.size:Int) then (if 0≤x3 then (if (bt x0 x3) < 48 then (some false) else (if (bt x0 x3) > 57 then (some false) else (garboardref01_Valid.l0 k x0 (wrap64 (x3 + 1))))) else (none)) else (if (x0.size:Int) = 1 then (some true) else (if (x0.size:Int) > 1 then (if 0 < (x0.size:Int) then (some ((bt x0 0) != 48)) else (none)) else (some false)))
def garboardref01_Valid.f (k:Nat) (a0:ByteArray):Option (Bool):=garboardref01_Valid.l0 k a0 0
set_option maxHeartbeats 8000000 in
set_option maxRecDepth 100000 in
theorem garboardref01_Valid.calls (k:Nat) (a0:ByteArray) (r:Bool) (w:World) (h:garboardref01_Valid.f k a0 = some r) :
  Calls Tryd.prog 16 #[.string a0] w fun e w'=>e = .returned (.bool r)∧Drawn0 w w':=by
 have H:(garboardref01_Valid.l0 k a0 0) = some r:=h
 clear h
 have H':=Aside0.mk H
 clear H
 go_enter Tryd.func16,Tryd.ntmps16
 go_wp2
 go_loopg [3] k (fun kq v3 w'=>∃ (x3_1:Int),v3 = .int .i64 x3_1∧Aside0 (garboardref01_Valid.l0 kq a0 x3_1 = some r)∧Aside0 (kq≤k)∧Drawn0 w w')
 case atStart=>exact ⟨(0),(by first|rfl|(simp;done)|(simp [*];done)),H',⟨Nat.le_refl _⟩,by repeat (first|exact Drawn0.refl _|apply Drawn0.step)⟩
 case round =>
  clear H'
  try clear c1
  obtain ⟨x3_1,rfl,HA,HK1,⟨m1,rfl⟩⟩:=hrel
  cases gk with
  | zero=>exact absurd HA.out (by simp [garboardref01_Valid.l0])
  | succ k1 =>
   have H:=HA.out
   clear HA
   simp only [garboardref01_Valid.l0] at H
   by_cases c2:x3_1 < (a0.size:Int)
   ·rw [if_pos c2] at H
    have c2b0:decide (x3_1 < (a0.size:Int)) = true:=decide_eq_true c2
    clear c2
    by_cases c3:0≤x3_1
    ·rw [if_pos c3] at H
     have c3b0:decide (0≤x3_1) = true:=decide_eq_true c3
     clear c3
     by_cases c5:(bt a0 x3_1) < 48
     ·rw [if_pos c5] at H
      have c5b0:decide ((bt a0 x3_1) < 48) = true:=decide_eq_true c5
      clear c5
      obtain rfl:=Option.some.inj H
      have p4:0≤(x3_1:Int):=of_decide_eq_true (by first|(with_reducible assumption)|assumption)
      have q4:x3_1 < (a0.size:Int):=of_decide_eq_true (by first|(with_reducible assumption)|assumption)
      have hx4:=bt_at a0 x3_1
      replace p4:=eq_true p4
      replace q4:=eq_true q4
      go_wp2
      go_ret
      exact ⟨by first|rfl|(simp;done)|(simp [*];done),by repeat (first|exact Drawn0.refl _|apply Drawn0.step)⟩
     ·rw [if_neg c5] at H
      have c5b0:decide ((bt a0 x3_1) < 48) = false:=decide_eq_false c5
      clear c5
      by_cases c7:(bt a0 x3_1) > 57
      ·rw [if_pos c7] at H
       have c7b0:decide (57 < (bt a0 x3_1)) = true:=decide_eq_true c7
       clear c7
       obtain rfl:=Option.some.inj H
       have p4:0≤(x3_1:Int):=of_decide_eq_true (by first|(with_reducible assumption)|assumption)
       have q4:x3_1 < (a0.size:Int):=of_decide_eq_true (by first|(with_reducible assumption)|assumption)
       have hx4:=bt_at a0 x3_1
       replace p4:=eq_true p4
       replace q4:=eq_true q4
       have p6:0≤(x3_1:Int):=of_decide_eq_true (by first|(with_reducible assumption)|assumption)
       have q6:x3_1 < (a0.size:Int):=of_decide_eq_true (by first|(with_reducible assumption)|assumption)
       have hx6:=bt_at a0 x3_1
       replace p6:=eq_true p6
       replace q6:=eq_true q6
       go_wp2
       go_ret
       exact ⟨by first|rfl|(simp;done)|(simp [*];done),by repeat (first|exact Drawn0.refl _|apply Drawn0.step)⟩
      ·rw [if_neg c7] at H
       have c7b0:decide (57 < (bt a0 x3_1)) = false:=decide_eq_false c7
       clear c7
       have H':=Aside0.mk H
       clear H
       have p4:0≤(x3_1:Int):=of_decide_eq_true (by first|(with_reducible assumption)|assumption)
       have q4:x3_1 < (a0.size:Int):=of_decide_eq_true (by first|(with_reducible assumption)|assumption)
       have hx4:=bt_at a0 x3_1
       replace p4:=eq_true p4
       replace q4:=eq_true q4
       have p6:0≤(x3_1:Int):=of_decide_eq_true (by first|(with_reducible assumption)|assumption)
       have q6:x3_1 < (a0.size:Int):=of_decide_eq_true (by first|(with_reducible assumption)|assumption)
       have hx6:=bt_at a0 x3_1
       replace p6:=eq_true p6
       replace q6:=eq_true q6
       go_wp2
       go_roundg k1
       case measure=>have:=HK1.out;omega
       case rel=>exact ⟨(wrap64 (x3_1 + 1)),(by first|rfl|(simp;done)|(simp [*];done)),H',⟨by have:=HK1.out;omega⟩,by repeat (first|exact Drawn0.refl _|apply Drawn0.step)⟩
    ·rw [if_neg c3] at H
     exact absurd H (by simp)
   ·rw [if_neg c2] at H
    have c2b0:decide (x3_1 < (a0.size:Int)) = false:=decide_eq_false c2
    clear c2
    by_cases c8:(a0.size:Int) = 1
    ·rw [if_pos c8] at H
     have c8b0:((a0.size:Int) == 1) = true:=beq_iff_eq.mpr c8
     have c8b1:((a0.size:Int) != 1) = false:=bne_eq_false_iff_eq.mpr c8
     clear c8
     obtain rfl:=Option.some.inj H
     go_wp2
     go_ret
     exact ⟨by first|rfl|(simp;done)|(simp [*];done),by repeat (first|exact Drawn0.refl _|apply Drawn0.step)⟩
    ·rw [if_neg c8] at H
     have c8b0:((a0.size:Int) == 1) = false:=beq_eq_false_iff_ne.mpr c8
     have c8b1:((a0.size:Int) != 1) = true:=bne_iff_ne.mpr c8
     by_cases c9:(a0.size:Int) > 1
     ·rw [if_pos c9] at H
      have c9b0:decide (1 < (a0.size:Int)) = true:=decide_eq_true c9
      have c9b1:decide (1 < a0.size) = true:=decide_eq_true (by omega)
      clear c9
      by_cases c10:0 < (a0.size:Int)
      ·rw [if_pos c10] at H
       have c10b0:decide (0 < (a0.size:Int)) = true:=decide_eq_true c10
       have c10b1:decide (0 < a0.size) = true:=decide_eq_true (by omega)
       clear c10
       obtain rfl:=Option.some.inj H
       have p11:0≤(0:Int):=(by omega)
       have q11:0 < a0.size:=(by have:(0:Int) < (a0.size:Int):=of_decide_eq_true (by first|(with_reducible assumption)|assumption);omega)
       have hx11:∀ h:0 < a0.size,((a0[0]'h).toNat:Int) = bt a0 0:=bt_at a0 0
       clear p11
       have qi11:(0 < (a0.size:Int)) = True:=eq_true (of_decide_eq_true (by first|(with_reducible assumption)|assumption))
       replace q11:=eq_true q11
       go_wp2
       go_ret
       exact ⟨by first|rfl|(simp;done)|(simp [*];done),by repeat (first|exact Drawn0.refl _|apply Drawn0.step)⟩
      ·rw [if_neg c10] at H
       exact absurd H (by simp)
     ·rw [if_neg c9] at H
      have c9b0:decide (1 < (a0.size:Int)) = false:=decide_eq_false c9
      have c9b1:decide (1 < a0.size) = false:=decide_eq_false (by omega)
      clear c9
      obtain rfl:=Option.some.inj H
      go_wp2
      go_ret
      exact ⟨by first|rfl|(simp;done)|(simp [*];done),by repeat (first|exact Drawn0.refl _|apply Drawn0.step)⟩
end Go.Proofs.YtaopmkcghancmaaDoor.Pr
namespace Go.Proofs.YtaopmkcghancmaaDoor.Pr
open Go.RowKit Go.Proofs.YtaopmkcghancmaaDoorW.PrintWords Go.Proofs.YtaopmkcghancmaaDoorW.PrintLast Go.Proofs.YtaopmkcghancmaaDoorW.PrintMore
attribute [local go_sem] max2_int min2_int max_two min_two max_three min_three max_four min_four
set_option linter.unusedVariables false
set_option linter.unusedSimpArgs false
mutual
def garboardref01_From.l0:Nat→ByteArray→List Int→Int→Option (List Int)
 | 0,_,_,_=>none
 | k + 1,x0,x3,x4=>if x4 > 0 then (garboardref01_From.l1 k x0 x3 x4 0 (mx 0 (wrap64 (x4 - 9)))) else ((garboardref01_trim.f k x3).bind fun t289=>(some t289))
def garboardref01_From.l1:Nat→ByteArray→List Int→Int→Int→Int→Option (List Int)
 | 0,_,_,_,_,_=>none
 | k + 1,x0,x3,x4,x5,x6=>if x6 < x4 then (if 0≤x6 then (if x6 < (x0.size:Int) then (garboardref01_From.l1 k x0 x3 x4 ((((10 * x5) % 4294967296) + (((bt x0 x6) - 48) % 256)) % 4294967296) (wrap64 (x6 + 1))) else (none)) else (none)) else (if x3.length < 35184372088832 then (garboardref01_From.l0 k x0 (x3 ++ [x5]) (wrap64 (x4 - 9))) else (none))
end
def garboardref01_From.f (k:Nat) (a0:ByteArray):Option (List Int):=garboardref01_From.l0 k a0 ([]:List Int) (a0.size:Int)
set_option maxHeartbeats 8000000 in
set_option maxRecDepth 100000 in
theorem garboardref01_From.calls (k:Nat) (a0:ByteArray) (r:List Int) (w:World) (h:garboardref01_From.f k a0 = some r) :
  Calls Tryd.prog 54 #[.string a0] w fun e w'=>∃ v0_:Value,e = .returned (v0_)∧Kd.V (Kd.int .u32) 64 w' w.heap.size (fun k_=>(w.heap.size≤k_)) v0_ r∧Below w.heap.size w w':=by
 have HB:=Aside0.mk (Below.refl w.heap.size w)
 have H:(garboardref01_From.l0 k a0 ([]:List Int) (a0.size:Int)) = some r:=h
 clear h
 have H':=Aside0.mk H
 clear H
 go_enter Tryd.func54,Tryd.ntmps54
 go_wp2
 go_loopg [3,4] k (fun kq v3 v4 w'=>∃ (x3_1:List Int) (x4_1:Int),v4 = .int .i64 x4_1∧Aside0 (garboardref01_From.l0 kq a0 x3_1 x4_1 = some r)∧Aside0 (kq≤k)∧Aside0 (Kd.R (Kd.int .u32) 64 w' w.heap.size (fun k_=>(w.heap.size≤k_)) v3 x3_1)∧Aside0 (Below w.heap.size w w'))
 case atStart=>exact ⟨(([]:List Int)),((a0.size:Int)),(by first|rfl|(simp;done)|(simp [*];done)),H',⟨Nat.le_refl _⟩,⟨by first|exact Kd.R_nil _ _ _ _ _|exact Kd.N_nil _ _ _ _ _|exact Kd.V_nil _ _ _ _ _|exact Kd.Q_nil _ _ _ _ _|exact Kd.S_nil _ _ _ _ _⟩,⟨by repeat (first|(with_reducible first|exact HB.out|apply below_alloc|apply pw_below_drewN|apply below_drew1)|exact HB.out)⟩⟩
 case round =>
  clear H'
  obtain ⟨x3_1,x4_1,rfl,HA,HK1,HO_3,HB⟩:=hrel
  cases gk with
  | zero=>exact absurd HA.out (by simp [garboardref01_From.l0])
  | succ k1 =>
   have H:=HA.out
   clear HA
   simp only [garboardref01_From.l0] at H
   by_cases c2:x4_1 > 0
   ·rw [if_pos c2] at H
    have c2b0:decide (0 < x4_1) = true:=decide_eq_true c2
    clear c2
    obtain ⟨ji3,hji3⟩:∃ j_:Int,(mx 0 (wrap64 (x4_1 - 9))) = j_:=⟨_,rfl⟩
    replace H:(garboardref01_From.l1 k1 a0 x3_1 x4_1 0 ji3) = some r:=by first|(rw [hji3] at H;exact H)|(simp only [hji3] at H ⊢;exact H)
    have hji3_:(if 0 < (wrap64 (x4_1 - 9)) then (wrap64 (x4_1 - 9)) else 0) = ji3:=hji3
    have H':=Aside0.mk H
    clear H
    go_wp2
    go_loopg [5,6] k1 (fun kq v5 v6 w'=>∃ (x5_2:Int) (x6_2:Int),v5 = .int .u32 x5_2∧v6 = .int .i64 x6_2∧Aside0 (garboardref01_From.l1 kq a0 x3_1 x4_1 x5_2 x6_2 = some r)∧Aside0 (kq≤k1)∧Aside0 (Kd.R (Kd.int .u32) 64 w' w.heap.size (fun k_=>(w.heap.size≤k_)) u3 x3_1)∧Aside0 (Below w.heap.size w w'))
    case atStart=>exact ⟨(0),(ji3),(by first|rfl|(simp;done)|(simp [*];done)),(by first|rfl|(simp;done)|(simp only [← hji3]<;>(first|rfl|simp))|(simp [*];done)),H',⟨Nat.le_refl _⟩,⟨by (with_reducible repeat (first|apply Kd.R_alloc|apply Kd.R_drewN|apply Kd.R_drew));exact HO_3.out⟩,⟨by repeat (first|(with_reducible first|exact HB.out|apply below_alloc|apply pw_below_drewN|apply below_drew1)|exact HB.out)⟩⟩
    case round =>
     clear H'
     try clear c2
     try clear c2b0
     try clear p2
     obtain ⟨x5_2,x6_2,rfl,rfl,HA,HK2,HO_3,HB⟩:=hrel
     cases gk with
     | zero=>exact absurd HA.out (by simp [garboardref01_From.l1])
     | succ k2 =>
      have H:=HA.out
      clear HA
      simp only [garboardref01_From.l1] at H
      by_cases c4:x6_2 < x4_1
      ·rw [if_pos c4] at H
       have c4b0:decide (x6_2 < x4_1) = true:=decide_eq_true c4
       clear c4
       by_cases c5:0≤x6_2
       ·rw [if_pos c5] at H
        have c5b0:decide (0≤x6_2) = true:=decide_eq_true c5
        clear c5
        by_cases c6:x6_2 < (a0.size:Int)
        ·rw [if_pos c6] at H
         have c6b0:decide (x6_2 < (a0.size:Int)) = true:=decide_eq_true c6
         clear c6
         have H':=Aside0.mk H
         clear H
         have p7:0≤(x6_2:Int):=of_decide_eq_true (by first|(with_reducible assumption)|assumption)
         have q7:x6_2 < (a0.size:Int):=of_decide_eq_true (by first|(with_reducible assumption)|assumption)
         have hx7:=bt_at a0 x6_2
         replace p7:=eq_true p7
         replace q7:=eq_true q7
         go_wp2
         go_roundg k2
         case measure=>have:=HK1.out;have:=HK2.out;omega
         case rel=>exact ⟨((((10 * x5_2) % 4294967296) + (((bt a0 x6_2) - 48) % 256)) % 4294967296),(wrap64 (x6_2 + 1)),(by first|rfl|(simp;done)|(simp [*];done)),(by first|rfl|(simp;done)|(simp [*];done)),H',⟨by have:=HK1.out;have:=HK2.out;omega⟩,⟨by (with_reducible repeat (first|apply Kd.R_alloc|apply Kd.R_drewN|apply Kd.R_drew));exact HO_3.out⟩,⟨by repeat (first|(with_reducible first|exact HB.out|apply below_alloc|apply pw_below_drewN|apply below_drew1)|exact HB.out)⟩⟩
        ·rw [if_neg c6] at H
         exact absurd H (by simp)
       ·rw [if_neg c5] at H
        exact absurd H (by simp)
      ·rw [if_neg c4] at H
       have c4b0:decide (x6_2 < x4_1) = false:=decide_eq_false c4
       clear c4
       by_cases c8:x3_1.length < 35184372088832
       ·rw [if_pos c8] at H
        have LMc8:=Aside0.mk c8
        clear c8
        obtain ⟨y292,hy292⟩:∃ y_:List Int,y_ = (x3_1 ++ [x5_2]):=⟨_,rfl⟩
        replace H:(garboardref01_From.l0 k2 a0 y292 (wrap64 (x4_1 - 9))) = some r:=by first|(rw [hy292];with_reducible exact H)|(have H2_:=(Option.bind_some _ _).symm.trans H;rw [hy292];with_reducible exact H2_)|(have H2_:=(Option.bind_some _ _).symm.trans H;with_reducible exact H2_)|with_reducible exact H|(rw [hy292];exact H)|exact H
        have Ny292:=Aside0.mk hy292
        clear hy292
        have H':=Aside0.mk H
        clear H
        go_wp2_with (first|((with_reducible refine gate_builtin (b:=.append) (xs:=#[.tmp 29,.tmp 31]) rfl ?_);at_builtin;refine Kd.R_append (Kd.int .u32) (w0:=w) w.heap.size rfl (.tmp 29) (.tmp 31) 45 64 (.int .u32 0) 4 rfl Tryd.underlying45 info64 rfl (by decide) (by omega) u3 x3_1 x5_2 [.int .u32 x5_2] (fun k_=>(w.heap.size≤k_)) (fun _=>False) rfl rfl ?aP (fun _ hk=>hk.elim) ?aF ?aO ?aB ?aS ?aL ?_;(case aP=>exact rfl);(case aB=>exact (by repeat (first|(with_reducible first|exact HB.out|apply below_alloc|apply pw_below_drewN|apply below_drew1)|exact HB.out)));(case aF=>exact (fun k_ hk=>(Nat.le_trans (below_size (by repeat (first|(with_reducible first|exact HB.out|apply below_alloc|apply pw_below_drewN|apply below_drew1)|exact HB.out))) hk)));(case aO=>exact (by (with_reducible repeat (first|apply Kd.R_alloc|apply Kd.R_drewN|apply Kd.R_drew));exact HO_3.out));(case aS=>exact (below_size (by repeat (first|(with_reducible first|exact HB.out|apply below_alloc|apply pw_below_drewN|apply below_drew1)|exact HB.out))));(case aL=>have:=LMc8.out;omega);intro v293 w9 ho hb hg hat;rw [← Ny292.out] at ho;have n0_:=Aside0.mk (hb);have n1_:=Aside0.mk (ho);clear HB;clear HO_3;have HB:=n0_;have HO294:=n1_;clear n0_ n1_;clear ho hb hg hat))
        go_roundg k2
        case measure=>have:=HK1.out;have:=HK2.out;omega
        case rel=>exact ⟨(y292),(wrap64 (x4_1 - 9)),(by first|rfl|(simp;done)|(simp [*];done)),H',⟨by have:=HK1.out;have:=HK2.out;omega⟩,⟨by (with_reducible repeat (first|apply Kd.R_alloc|apply Kd.R_drewN|apply Kd.R_drew));exact HO294.out⟩,⟨by repeat (first|(with_reducible first|exact HB.out|apply below_alloc|apply pw_below_drewN|apply below_drew1)|exact HB.out)⟩⟩
       ·rw [if_neg c8] at H
        exact absurd H (by simp)
   ·rw [if_neg c2] at H
    have c2b0:decide (0 < x4_1) = false:=decide_eq_false c2
    clear c2
    replace H:=Option.bind_eq_some_iff.mp H
    obtain ⟨t289,A100,H⟩:=H
    replace H:(some t289) = some r:=H
    have A10:=Aside0.mk A100
    clear A100
    obtain rfl:=Option.some.inj H
    obtain ⟨Ao11,co11,eo11⟩:=Kd.R_slice HO_3.out
    subst eo11
    go_wp2_with (first|((with_reducible refine gate_callee (f:=59) rfl ?_);refine goesL_ (some 34) rfl rfl Tryd.func59 (by kernel_rfl) rfl #[.slice Ao11 x3_1.length co11] rfl (by (try simp only [List.map_toArray,List.map_cons,List.map_nil]);first|done|rfl|(simp only [List.length_drop,List.length_take];rfl)) ?_;(with_reducible refine (garboardref01_trim.calls k1 (fun k_=>some k_ = (.slice Ao11 x3_1.length co11:Value).ownBlock) _ _ x3_1 t289 _ ?side1 A10.out).mono ?_);(case side1=>exact Kd.R_V (Kd.R_tight rfl (HO_3.out)));rintro e w12 ⟨v290,rfl,ho0,hb⟩;refine ⟨_,rfl,?_⟩;have n0_:=Aside0.mk (Kd.R_below (by (with_reducible repeat (first|apply Kd.R_alloc|apply Kd.R_drewN|apply Kd.R_drew));exact HO_3.out) hb);have n1_:=Aside0.mk (Kd.V_lower (Kd.V_mono (ok':=fun k_=>(w.heap.size≤k_)) ho0 (fun k_ hk_=>Or.elim hk_ (fun hs_=>((HO_3.out).1 k_ hs_.symm)) (fun hn_=>(Nat.le_trans (below_size (by repeat (first|(with_reducible first|exact HB.out|apply below_alloc|apply pw_below_drewN|apply below_drew1)|exact HB.out))) hn_)))) (below_size (by repeat (first|(with_reducible first|exact HB.out|apply below_alloc|apply pw_below_drewN|apply below_drew1)|exact HB.out))));have n2_:=Aside0.mk (below_step (by repeat (first|(with_reducible first|exact HB.out|apply below_alloc|apply pw_below_drewN|apply below_drew1)|exact HB.out)) hb);clear HO_3;clear HB;have HO_3:=n0_;have HO291:=n1_;have HB:=n2_;clear n0_ n1_ n2_;(try clear hb);(try clear hb2);(try clear hk);(try clear hi);(try clear ho0)))
    go_ret
    exact ⟨_,by first|rfl|(simp [errW_none,errW_some]<;>rfl)|(simp [*,errW_none,errW_some]<;>rfl),by (with_reducible repeat (first|apply Kd.V_alloc|apply Kd.V_drewN|apply Kd.V_drew));exact HO291.out,by repeat (first|(with_reducible first|exact HB.out|apply below_alloc|apply pw_below_drewN|apply below_drew1)|exact HB.out)⟩
end Go.Proofs.YtaopmkcghancmaaDoor.Pr
set_option linter.unusedVariables false
set_option linter.unusedSimpArgs false
namespace Go.Proofs.YtaopmkcghancmaaDoor.Pr
open Go.RowKit Go.Proofs.YtaopmkcghancmaaDoorW.PrintWords Go.Proofs.YtaopmkcghancmaaDoorW.PrintLast Go.Proofs.YtaopmkcghancmaaDoorW.PrintMore Go.Proofs.YtaopmkcghancmaaDoor.NatTh
theorem rvalid_loop (s:ByteArray) (hs:s.size < 1152921504606846976):∀ (m n:Nat),n + m = s.size→∀ k,garboardref01_Valid.l0 (k + 1 + m) s n = some (((bs s).drop n).all dgB && (!(bs s).isEmpty && (decide ((bs s).length≤1) || (bs s).head? != some 48))):=by
 have hl:=bs_length s
 intro m
 induction m with
 | zero =>
  intro n hn k
  show garboardref01_Valid.l0 (k + 1) s n = _
  unfold garboardref01_Valid.l0
  rw [if_neg (by omega),List.drop_of_length_le (by rw [bs_length];omega)]
  by_cases h1:(s.size:Int) = 1
  ·rw [if_pos h1,decide_eq_true (by omega)]
   have e1:(bs s).isEmpty = false:=by
    rw [List.isEmpty_eq_false_iff,← List.length_pos_iff]
    omega
   rw [e1]
   rfl
  ·rw [if_neg h1]
   by_cases h2:(s.size:Int) > 1
   ·have e1:(bs s).isEmpty = false:=by
     rw [List.isEmpty_eq_false_iff,← List.length_pos_iff]
     omega
    rw [if_pos h2,if_pos (by omega),show (0:Int) = ((0:Nat):Int) from rfl,bt_get s 0 (by omega),e1,decide_eq_false (by omega)]
    have e2:(bs s).head? = some ((bs s).getD 0 0):=by
     rw [List.head?_eq_getElem?,List.getD_eq_getElem?_getD,List.getElem?_eq_getElem (by omega)]
     rfl
    rw [e2]
    by_cases h3:(bs s).getD 0 0 = 48
    ·rw [h3]
     rfl
    ·rw [show ((((bs s).getD 0 0).toNat:Int) != 48) = true by
      rw [bne_iff_ne]
      intro h4
      exact h3 (UInt8.toNat.inj (by have:(48:UInt8).toNat = 48:=rfl;omega))]
     rw [show (some ((bs s).getD 0 0) != some 48) = true by rw [bne_iff_ne];intro h4;exact h3 (Option.some.inj h4)]
     rfl
   ·have e1:bs s = []:=List.eq_nil_of_length_eq_zero (by omega)
    rw [if_neg h2,e1]
    rfl
 | succ m ih =>
  intro n hn k
  have h1:=ih (n + 1) (by omega) k
  rw [all_drop _ n (by rw [bs_length];omega)]
  rw [show k + 1 + (m + 1) = k + 1 + m + 1 by omega]
  unfold garboardref01_Valid.l0
  rw [if_pos (by omega),if_pos (by omega),bt_get s n (by omega),wi1 n (by omega),h1]
  have e3:dgB ((bs s).getD n 0) = (decide (48≤((bs s).getD n 0).toNat) && decide (((bs s).getD n 0).toNat≤57)):=rfl
  rw [e3]
  by_cases h2:(((bs s).getD n 0).toNat:Int) < 48
  ·rw [if_pos h2,decide_eq_false (p:=48≤((bs s).getD n 0).toNat) (by omega)]
   rfl
  ·rw [if_neg h2,decide_eq_true (p:=48≤((bs s).getD n 0).toNat) (by omega)]
   by_cases h3:(((bs s).getD n 0).toNat:Int) > 57
   ·rw [if_pos h3,decide_eq_false (p:=((bs s).getD n 0).toNat≤57) (by omega)]
    rfl
   ·rw [if_neg h3,decide_eq_true (p:=((bs s).getD n 0).toNat≤57) (by omega)]
    rfl
theorem rValid_ev (s:ByteArray) (hs:s.size < 1152921504606846976):Ev (fun k=>garboardref01_Valid.f k s) (nv s):=by
 refine ⟨s.size + 1,fun k hk=>?_⟩
 obtain ⟨k,rfl⟩:∃ j,k = j + 1 + s.size:=⟨k - 1 - s.size,by omega⟩
 simp only [garboardref01_Valid.f,nv]
 rw [show (0:Int) = ((0:Nat):Int) from rfl,rvalid_loop s hs s.size 0 (by omega) k,List.drop_zero,Bool.and_assoc]
end Go.Proofs.YtaopmkcghancmaaDoor.Pr
set_option linter.unusedVariables false
set_option linter.unusedSimpArgs false
namespace Go.Proofs.YtaopmkcghancmaaDoor.Pr
open Go.RowKit Go.Proofs.YtaopmkcghancmaaDoorW.PrintWords Go.Proofs.YtaopmkcghancmaaDoorW.PrintLast Go.Proofs.YtaopmkcghancmaaDoorW.PrintMore Go.Proofs.YtaopmkcghancmaaDoor.NatTh
theorem take_drop_snoc (l:List UInt8) (a i:Nat) (ha:a≤i) (hi:i < l.length):(l.take (i + 1)).drop a = (l.take i).drop a ++ [l.getD i 0]:=by
 rw [List.take_succ_eq_append_getElem hi,List.drop_append_of_le_length (by rw [List.length_take];omega),List.getD_eq_getElem?_getD,List.getElem?_eq_getElem hi]
 rfl
theorem from_inner (s:ByteArray) (hd:∀ c ∈ bs s,isDig c) (e a:Nat) (out:List Int) (he:e≤s.size) (hs:s.size < 1152921504606846976) (hae:e≤a + 9) (hae2:a≤e):∀ (m i:Nat),i + m = e→a≤i→∀ k,garboardref01_From.l1 (k + m) s out e (pv (((bs s).take i).drop a):Int) i = garboardref01_From.l1 k s out e (pv (((bs s).take e).drop a):Int) e:=by
 intro m
 induction m with
 | zero =>
  intro i hi hai k
  obtain rfl:i = e:=by omega
  rfl
 | succ m ih =>
  intro i hi hai k
  have hl:=bs_length s
  have h1:=ih (i + 1) (by omega) (by omega) k
  have hlt:=pv_lt (((bs s).take i).drop a) (fun c hc=>hd c (List.mem_of_mem_take (List.mem_of_mem_drop hc)))
  have hp8:10 ^ (((bs s).take i).drop a).length≤10 ^ 8:=Nat.pow_le_pow_right (by omega) (by rw [List.length_drop,List.length_take];omega)
  have hc:=hd ((bs s).getD i 0) (by
   rw [List.getD_eq_getElem?_getD,List.getElem?_eq_getElem (by omega)]
   exact List.getElem_mem _)
  unfold isDig at hc
  rw [← h1,take_drop_snoc _ _ _ hai (by omega),pv_snoc]
  generalize pv (((bs s).take i).drop a) = p at hlt ⊢
  rw [show k + (m + 1) = k + m + 1 by omega]
  conv=>lhs;unfold garboardref01_From.l1
  rw [if_pos (by omega),if_pos (by omega),if_pos (by omega),bt_get s i (by omega),wi1 i (by omega)]
  rw [Int.emod_eq_of_lt (a:=10 * (p:Int)) (by omega) (by omega),Int.emod_eq_of_lt (b:=256) (by omega) (by omega),Int.emod_eq_of_lt (b:=4294967296) (by omega) (by omega)]
  congr 1
  omega
theorem from_end (s:ByteArray) (out:List Int) (e:Int) (he:e≤0) (k:Nat):garboardref01_From.l0 (k + 1) s out e = (garboardref01_trim.f k out).bind fun t=>some t:=by
 unfold garboardref01_From.l0
 rw [if_neg (by omega)]
theorem from_loop (s:ByteArray) (hd:∀ c ∈ bs s,isDig c) (hs:s.size < 1099511627776) (n:Nat):∀ (e:Nat),e = n→e≤s.size→∀ (out:List Int),out.length + e < 35184372088832 →
  ∃ c,∀ k,garboardref01_From.l0 (k + c) s out e = (garboardref01_trim.f k (out ++ words ((bs s).take e))).bind fun t=>some t:=by
 induction n using Nat.strongRecOn with
 | ind n ih =>
  intro e he hes out ho
  have hl:=bs_length s
  by_cases h0:e = 0
  ·subst h0
   refine ⟨1,fun k=>?_⟩
   rw [List.take_zero,words_nil,List.append_nil]
   exact from_end s out 0 (by omega) k
  ·have hte:((bs s).take e).length = e:=by rw [List.length_take];omega
   have hne:(bs s).take e≠[]:=by
    intro hh
    rw [hh] at hte
    simp at hte
    omega
   have hw:words ((bs s).take e) = (pv (((bs s).take e).drop (e - 9)):Int) :: words ((bs s).take (e - 9)):=by
    rw [words,dif_neg hne,hte,List.take_take,Nat.min_eq_left (by omega)]
   have hat:mx 0 (wrap64 ((e:Int) - 9)) = ((e - 9:Nat):Int):=by
    rw [w64 (by omega) (by omega)]
    unfold mx
    split<;>omega
   have hin:=fun k=>from_inner s hd e (e - 9) out hes (by omega) (by omega) (by omega) (e - (e - 9)) (e - 9) (by omega) (by omega) k
   have hz:((bs s).take (e - 9)).drop (e - 9) = []:=by rw [List.drop_of_length_le (by rw [List.length_take];omega)]
   rw [hz] at hin
   have hout:out.length < 35184372088832:=by omega
   obtain ⟨c,hc⟩:∃ c,∀ k,garboardref01_From.l0 (k + c) s (out ++ [(pv (((bs s).take e).drop (e - 9)):Int)]) (wrap64 ((e:Int) - 9)) = (garboardref01_trim.f k (out ++ words ((bs s).take e))).bind fun t=>some t:=by
    rw [w64 (by omega) (by omega),hw]
    by_cases h9:e≤9
    ·refine ⟨1,fun k=>?_⟩
     rw [show e - 9 = 0 by omega,List.take_zero,words_nil]
     exact from_end s _ _ (by omega) k
    ·obtain ⟨c,hc⟩:=ih (e - 9) (by omega) (e - 9) rfl (by omega) (out ++ [(pv (((bs s).take e).drop (e - 9)):Int)]) (by rw [List.length_append];simp;omega)
     refine ⟨c,fun k=>?_⟩
     have h2:=hc k
     rw [List.append_assoc,List.singleton_append] at h2
     rw [show (e:Int) - 9 = ((e - 9:Nat):Int) by omega]
     exact h2
   refine ⟨c + 1 + (e - (e - 9)) + 1,fun k=>?_⟩
   rw [← hc k]
   have h3:=hin (k + c + 1)
   rw [show k + (c + 1 + (e - (e - 9)) + 1) = k + c + 1 + (e - (e - 9)) + 1 by omega]
   conv=>lhs;unfold garboardref01_From.l0
   rw [if_pos (by omega),hat]
   refine Eq.trans h3 ?_
   conv=>lhs;unfold garboardref01_From.l1
   rw [if_neg (by omega),if_pos hout]
theorem From_ev (s:ByteArray) (hs:s.size < 1099511627776) (h:nv s = true):Ev (fun k=>garboardref01_From.f k s) (numOf (nat s)):=by
 have hn:=(nv_iff s).1 h
 have hl:=bs_length s
 have hw:=words_len _ (bs s) rfl
 have h1:=words_spec _ (bs s) rfl hn.1
 obtain ⟨c,hc⟩:=from_loop s hn.1 hs s.size s.size rfl (Nat.le_refl _) [] (by simp;omega)
 rw [List.take_of_length_le (by omega),List.nil_append] at hc
 have ht:=rtrim_ev (l:=words (bs s)) (by omega)
 rw [trim_numOf (n:=nat s) h1.1 h1.2] at ht
 obtain ⟨K,hK⟩:=ht
 refine ⟨K + c,fun k hk=>?_⟩
 obtain ⟨j,rfl⟩:∃ j,k = j + c:=⟨k - c,by omega⟩
 have h2:=hK j (by omega)
 dsimp only at h2
 simp only [garboardref01_From.f]
 rw [hc j,h2]
 rfl
end Go.Proofs.YtaopmkcghancmaaDoor.Pr
namespace Go.Proofs.YtaopmkcghancmaaDoor.Pr
open Go.RowKit Go.Proofs.YtaopmkcghancmaaDoorW.PrintWords Go.Proofs.YtaopmkcghancmaaDoorW.PrintLast Go.Proofs.YtaopmkcghancmaaDoorW.PrintMore
attribute [local go_sem] max2_int min2_int max_two min_two max_three min_three max_four min_four
set_option linter.unusedVariables false
set_option linter.unusedSimpArgs false
mutual
def garboardref01_To.l0:Nat→List Int→List Int→Int→Option (ByteArray)
 | 0,_,_,_=>none
 | k + 1,x0,x3,x4=>if x4 < (x0.length:Int) then (if 0≤x4 then (garboardref01_To.l1 k x0 x3 x4 (rd x0 x4) 0) else (none)) else (garboardref01_To.l2 k x3 0 (wrap64 ((x3.length:Int) - 1)))
def garboardref01_To.l1:Nat→List Int→List Int→Int→Int→Int→Option (ByteArray)
 | 0,_,_,_,_,_=>none
 | k + 1,x0,x3,x4,x5,x6=>if x6 < 9 then (if (wrap64 (x4 + 1)) < (x0.length:Int) then (if x3.length < 140737488355328 then (garboardref01_To.l1 k x0 (x3 ++ [((48 + (Int.tmod x5 10)) % 4294967296) % 256]) x4 ((Int.tdiv x5 10) % 4294967296) (wrap64 (x6 + 1))) else (none)) else (if x5 > 0 then (if x3.length < 140737488355328 then (garboardref01_To.l1 k x0 (x3 ++ [((48 + (Int.tmod x5 10)) % 4294967296) % 256]) x4 ((Int.tdiv x5 10) % 4294967296) (wrap64 (x6 + 1))) else (none)) else (garboardref01_To.l0 k x0 x3 (wrap64 (x4 + 1))))) else (garboardref01_To.l0 k x0 x3 (wrap64 (x4 + 1)))
def garboardref01_To.l2:Nat→List Int→Int→Int→Option (ByteArray)
 | 0,_,_,_=>none
 | k + 1,x3,x7,x8=>if x7 < x8 then (if 0≤x8 then (if x8 < (x3.length:Int) then (if 0≤x7 then (if x7 < (x3.length:Int) then (garboardref01_To.l2 k ((x3.set (x7:Int).toNat (rd x3 x8)).set (x8:Int).toNat (rd x3 x7)) (wrap64 (x7 + 1)) (wrap64 (x8 - 1))) else (none)) else (none)) else (none)) else (none)) else (some (strOfNums x3))
end
def garboardref01_To.f (k:Nat) (l0:List Int):Option (ByteArray):=if (l0.length:Int) = 0 then (some (⟨#[48]⟩:ByteArray)) else (garboardref01_To.l0 k l0 ([]:List Int) 0)
def garboardref01_To.T16:Bool × List (List Nat × List Nat):=(true,[([],[]),([],[]),([],[]),([],[]),([],[]),([],[]),([4,5],[4,5]),([6],[6]),([],[]),([],[]),([8,9],[8,9]),([10],[10]),([0,1,0,1,4,5,6,7,11],[0,1]),([12,7,0,1,4,5,6,7,11],[7,12]),([2,3,0,1,2,3,4,5,6,7,8,9,10,11,12,13],[2,3]),([14,11,13,0,1,2,3,4,5,6,7,8,9,10,11,12,13],[11,14])])
def garboardref01_To.B16:List Nat:=[0,0,0,0,0,0,48,112,0,0,768,1792,4083,8179,16383,32767]
theorem garboardref01_To.tab16:rtab .any (opsOf Tryd.f39 16) = garboardref01_To.T16:=by kernel_rfl
theorem garboardref01_To.bits16:waitsOk garboardref01_To.T16.2 garboardref01_To.B16 = true:=by kernel_rfl
set_option maxHeartbeats 8000000 in
set_option maxRecDepth 100000 in
theorem garboardref01_To.calls (k:Nat) (A0:Option Addr) (c0:Nat) (l0:List Int) (r:ByteArray) (w:World) (hr0:Kd.C (Kd.int .u32) w A0 l0.length l0) (hc0:l0.length≤c0) (h:garboardref01_To.f k l0 = some r) :
  Calls Tryd.prog 39 #[.slice A0 l0.length c0] w fun e w'=>e = .returned (.string r)∧Below w.heap.size w w':=by
 have HR0:=Aside0.mk hr0
 have HC0:=Aside0.mk hc0
 clear hr0 hc0
 have HB:=Aside0.mk (Below.refl w.heap.size w)
 have H:(if (l0.length:Int) = 0 then (some (⟨#[48]⟩:ByteArray)) else (garboardref01_To.l0 k l0 ([]:List Int) 0)) = some r:=h
 clear h
 by_cases c2:(l0.length:Int) = 0
 ·rw [if_pos c2] at H
  have c2b0:((l0.length:Int) == 0) = true:=beq_iff_eq.mpr c2
  have c2b1:((l0.length:Int) != 0) = false:=bne_eq_false_iff_eq.mpr c2
  clear c2
  obtain rfl:=Option.some.inj H
  go_enter Tryd.func39,Tryd.ntmps39
  go_wp2
  go_ret
  exact ⟨by first|rfl|(simp [errW_none,errW_some]<;>rfl)|(simp [*,errW_none,errW_some]<;>rfl),by repeat (first|(with_reducible first|exact HB.out|apply below_alloc|apply pw_below_drewN|apply below_drew1)|exact HB.out)⟩
 ·rw [if_neg c2] at H
  have c2b0:((l0.length:Int) == 0) = false:=beq_eq_false_iff_ne.mpr c2
  have c2b1:((l0.length:Int) != 0) = true:=bne_iff_ne.mpr c2
  have c2b2:¬ (l0 = []):=fun h_=>c2 (by rw [h_];rfl)
  have H':=Aside0.mk H
  clear H
  go_enter Tryd.func39,Tryd.ntmps39
  go_wp2
  go_loopg [3,4] k (fun kq v3 v4 w'=>∃ (x3_1:List Int) (x4_1:Int),v4 = .int .i64 x4_1∧Aside0 (garboardref01_To.l0 kq l0 x3_1 x4_1 = some r)∧Aside0 (kq≤k)∧Aside0 (Kd.R (Kd.int .u8) 5 w' w.heap.size (fun _=>True) v3 x3_1)∧Aside0 (Below w.heap.size w w'))
  case atStart=>exact ⟨(([]:List Int)),(0),(by first|rfl|(simp;done)|(simp [*];done)),H',⟨Nat.le_refl _⟩,⟨by first|exact Kd.R_nil _ _ _ _ _|exact Kd.N_nil _ _ _ _ _|exact Kd.V_nil _ _ _ _ _|exact Kd.Q_nil _ _ _ _ _|exact Kd.S_nil _ _ _ _ _⟩,⟨by repeat (first|(with_reducible first|exact HB.out|apply below_alloc|apply pw_below_drewN|apply below_drew1)|exact HB.out)⟩⟩
  case round =>
   clear H'
   try clear c2
   try clear c2b0
   try clear c2b1
   try clear c2b2
   try clear p2
   obtain ⟨x3_1,x4_1,rfl,HA,HK1,HO_3,HB⟩:=hrel
   cases gk with
   | zero=>exact absurd HA.out (by simp [garboardref01_To.l0])
   | succ k1 =>
    have H:=HA.out
    clear HA
    simp only [garboardref01_To.l0] at H
    by_cases c3:x4_1 < (l0.length:Int)
    ·rw [if_pos c3] at H
     have c3b0:decide (x4_1 < (l0.length:Int)) = true:=decide_eq_true c3
     clear c3
     by_cases c4:0≤x4_1
     ·rw [if_pos c4] at H
      have c4b0:decide (0≤x4_1) = true:=decide_eq_true c4
      clear c4
      have H':=Aside0.mk H
      clear H
      have p327:0≤(x4_1:Int):=of_decide_eq_true (by first|(with_reducible assumption)|assumption)
      have q327:x4_1 < (l0.length:Int):=of_decide_eq_true (by first|(with_reducible assumption)|assumption)
      obtain ⟨ad327,e327,hx327_0⟩:=Kd.at_int HR0.out x4_1 p327 q327
      cases e327
      replace hx327_0:=(HB.out.cell (World.block_lt_of_cell? w _ hx327_0)).trans hx327_0
      replace p327:=eq_true p327
      replace q327:=eq_true q327
      go_wp2
      go_loopg [3,5,6] k1 (fun kq v3 v5 v6 w'=>∃ (x3_2:List Int) (x5_2:Int) (x6_2:Int),v5 = .int .u32 x5_2∧v6 = .int .i64 x6_2∧Aside0 (garboardref01_To.l1 kq l0 x3_2 x4_1 x5_2 x6_2 = some r)∧Aside0 (kq≤k1)∧Aside0 (Kd.R (Kd.int .u8) 5 w' w.heap.size (fun _=>True) v3 x3_2)∧Aside0 (Below w.heap.size w w'))
      case atStart=>exact ⟨(x3_1),(rd l0 x4_1),(0),(by first|rfl|(simp;done)|(simp [*];done)),(by first|rfl|(simp;done)|(simp [*];done)),H',⟨Nat.le_refl _⟩,⟨by (with_reducible repeat (first|apply Kd.R_alloc|apply Kd.R_drewN|apply Kd.R_drew));exact HO_3.out⟩,⟨by repeat (first|(with_reducible first|exact HB.out|apply below_alloc|apply pw_below_drewN|apply below_drew1)|exact HB.out)⟩⟩
      case round =>
       clear H'
       try clear c2
       try clear c2b0
       try clear c2b1
       try clear c2b2
       try clear p2
       try clear c3
       try clear c3b0
       try clear p3
       try clear q3
       try clear hx3
       try clear c4
       try clear c4b0
       try clear hx327_0
       try clear p2
       try clear p327
       try clear q327
       obtain ⟨x3_2,x5_2,x6_2,rfl,rfl,HA,HK2,HO_3,HB⟩:=hrel
       cases gk with
       | zero=>exact absurd HA.out (by simp [garboardref01_To.l1])
       | succ k2 =>
        have H:=HA.out
        clear HA
        simp only [garboardref01_To.l1] at H
        by_cases c5:x6_2 < 9
        ·rw [if_pos c5] at H
         have c5b0:decide (x6_2 < 9) = true:=decide_eq_true c5
         clear c5
         by_cases c6:(wrap64 (x4_1 + 1)) < (l0.length:Int)
         ·rw [if_pos c6] at H
          have c6b0:decide ((wrap64 (x4_1 + 1)) < (l0.length:Int)) = true:=decide_eq_true c6
          clear c6
          by_cases c7:x3_2.length < 140737488355328
          ·rw [if_pos c7] at H
           have LMc7:=Aside0.mk c7
           clear c7
           obtain ⟨y328,hy328⟩:∃ y_:List Int,y_ = (x3_2 ++ [((48 + (Int.tmod x5_2 10)) % 4294967296) % 256]):=⟨_,rfl⟩
           replace H:(garboardref01_To.l1 k2 l0 y328 x4_1 ((Int.tdiv x5_2 10) % 4294967296) (wrap64 (x6_2 + 1))) = some r:=by first|(rw [hy328];with_reducible exact H)|(have H2_:=(Option.bind_some _ _).symm.trans H;rw [hy328];with_reducible exact H2_)|(have H2_:=(Option.bind_some _ _).symm.trans H;with_reducible exact H2_)|with_reducible exact H|(rw [hy328];exact H)|exact H
           have Ny328:=(Aside0.mk (hy328.trans (by rw [Int.emod_emod_of_dvd _ (by decide:(256:Int) ∣ 4294967296)])):Aside0 (y328 = x3_2 ++ [(48 + Int.tmod x5_2 10) % 256]))
           clear hy328
           have H':=Aside0.mk H
           clear H
           go_wp2_with (first|((with_reducible refine gate_builtin (b:=.append) (xs:=#[.tmp 37,.tmp 42]) rfl ?_);(try (refine gate_guard (by rfl) ?_;dsimp only));at_builtin;refine Kd.R_append (Kd.int .u8) (w0:=w) w.heap.size rfl (.tmp 37) (.tmp 42) 69 5 (.int .u8 0) 1 rfl Tryd.underlying69 info5 rfl (by decide) (by omega) u3 x3_2 ((48 + Int.tmod x5_2 10) % 256) [.int .u8 ((48 + Int.tmod x5_2 10) % 256)] (fun _=>True) (fun _=>False) rfl rfl ?aP (fun _ hk=>hk.elim) ?aF ?aO ?aB ?aS ?aL ?_;(case aP=>exact rfl);(case aB=>exact (by repeat (first|(with_reducible first|exact HB.out|apply below_alloc|apply pw_below_drewN|apply below_drew1)|exact HB.out)));(case aF=>exact (fun _ _=>trivial));(case aO=>exact (by (with_reducible repeat (first|apply Kd.R_alloc|apply Kd.R_drewN|apply Kd.R_drew));exact HO_3.out));(case aS=>exact (below_size (by repeat (first|(with_reducible first|exact HB.out|apply below_alloc|apply pw_below_drewN|apply below_drew1)|exact HB.out))));(case aL=>have:=LMc7.out;omega);intro v329 w8 ho hb hg hat;rw [← Ny328.out] at ho;have n0_:=Aside0.mk (hb);have n1_:=Aside0.mk (ho);clear HB;clear HO_3;have HB:=n0_;have HO330:=n1_;clear n0_ n1_;clear ho hb hg hat))
           go_roundg k2
           case measure=>have:=HK1.out;have:=HK2.out;omega
           case rel=>exact ⟨(y328),((Int.tdiv x5_2 10) % 4294967296),(wrap64 (x6_2 + 1)),(by first|rfl|(simp;done)|(simp [*];done)),(by first|rfl|(simp;done)|(simp [*];done)),H',⟨by have:=HK1.out;have:=HK2.out;omega⟩,⟨by (with_reducible repeat (first|apply Kd.R_alloc|apply Kd.R_drewN|apply Kd.R_drew));exact HO330.out⟩,⟨by repeat (first|(with_reducible first|exact HB.out|apply below_alloc|apply pw_below_drewN|apply below_drew1)|exact HB.out)⟩⟩
          ·rw [if_neg c7] at H
           exact absurd H (by simp)
         ·rw [if_neg c6] at H
          have c6b0:decide ((wrap64 (x4_1 + 1)) < (l0.length:Int)) = false:=decide_eq_false c6
          clear c6
          by_cases c9:x5_2 > 0
          ·rw [if_pos c9] at H
           have c9b0:decide (0 < x5_2) = true:=decide_eq_true c9
           clear c9
           by_cases c10:x3_2.length < 140737488355328
           ·rw [if_pos c10] at H
            have LMc10:=Aside0.mk c10
            clear c10
            obtain ⟨y331,hy331⟩:∃ y_:List Int,y_ = (x3_2 ++ [((48 + (Int.tmod x5_2 10)) % 4294967296) % 256]):=⟨_,rfl⟩
            replace H:(garboardref01_To.l1 k2 l0 y331 x4_1 ((Int.tdiv x5_2 10) % 4294967296) (wrap64 (x6_2 + 1))) = some r:=by first|(rw [hy331];with_reducible exact H)|(have H2_:=(Option.bind_some _ _).symm.trans H;rw [hy331];with_reducible exact H2_)|(have H2_:=(Option.bind_some _ _).symm.trans H;with_reducible exact H2_)|with_reducible exact H|(rw [hy331];exact H)|exact H
            have Ny331:=(Aside0.mk (hy331.trans (by rw [Int.emod_emod_of_dvd _ (by decide:(256:Int) ∣ 4294967296)])):Aside0 (y331 = x3_2 ++ [(48 + Int.tmod x5_2 10) % 256]))
            clear hy331
            have H':=Aside0.mk H
            clear H
            go_wp2_with (first|((with_reducible refine gate_builtin (b:=.append) (xs:=#[.tmp 37,.tmp 42]) rfl ?_);(try (refine gate_guard (by rfl) ?_;dsimp only));at_builtin;refine Kd.R_append (Kd.int .u8) (w0:=w) w.heap.size rfl (.tmp 37) (.tmp 42) 69 5 (.int .u8 0) 1 rfl Tryd.underlying69 info5 rfl (by decide) (by omega) u3 x3_2 ((48 + Int.tmod x5_2 10) % 256) [.int .u8 ((48 + Int.tmod x5_2 10) % 256)] (fun _=>True) (fun _=>False) rfl rfl ?aP (fun _ hk=>hk.elim) ?aF ?aO ?aB ?aS ?aL ?_;(case aP=>exact rfl);(case aB=>exact (by repeat (first|(with_reducible first|exact HB.out|apply below_alloc|apply pw_below_drewN|apply below_drew1)|exact HB.out)));(case aF=>exact (fun _ _=>trivial));(case aO=>exact (by (with_reducible repeat (first|apply Kd.R_alloc|apply Kd.R_drewN|apply Kd.R_drew));exact HO_3.out));(case aS=>exact (below_size (by repeat (first|(with_reducible first|exact HB.out|apply below_alloc|apply pw_below_drewN|apply below_drew1)|exact HB.out))));(case aL=>have:=LMc10.out;omega);intro v332 w11 ho hb hg hat;rw [← Ny331.out] at ho;have n0_:=Aside0.mk (hb);have n1_:=Aside0.mk (ho);clear HB;clear HO_3;have HB:=n0_;have HO333:=n1_;clear n0_ n1_;clear ho hb hg hat))
            go_roundg k2
            case measure=>have:=HK1.out;have:=HK2.out;omega
            case rel=>exact ⟨(y331),((Int.tdiv x5_2 10) % 4294967296),(wrap64 (x6_2 + 1)),(by first|rfl|(simp;done)|(simp [*];done)),(by first|rfl|(simp;done)|(simp [*];done)),H',⟨by have:=HK1.out;have:=HK2.out;omega⟩,⟨by (with_reducible repeat (first|apply Kd.R_alloc|apply Kd.R_drewN|apply Kd.R_drew));exact HO333.out⟩,⟨by repeat (first|(with_reducible first|exact HB.out|apply below_alloc|apply pw_below_drewN|apply below_drew1)|exact HB.out)⟩⟩
           ·rw [if_neg c10] at H
            exact absurd H (by simp)
          ·rw [if_neg c9] at H
           have c9b0:decide (0 < x5_2) = false:=decide_eq_false c9
           clear c9
           have H':=Aside0.mk H
           clear H
           go_wp2
           go_roundg k2
           case measure=>have:=HK1.out;have:=HK2.out;omega
           case rel=>exact ⟨(x3_2),(wrap64 (x4_1 + 1)),(by first|rfl|(simp;done)|(simp [*];done)),H',⟨by have:=HK1.out;have:=HK2.out;omega⟩,⟨by (with_reducible repeat (first|apply Kd.R_alloc|apply Kd.R_drewN|apply Kd.R_drew));exact HO_3.out⟩,⟨by repeat (first|(with_reducible first|exact HB.out|apply below_alloc|apply pw_below_drewN|apply below_drew1)|exact HB.out)⟩⟩
        ·rw [if_neg c5] at H
         have c5b0:decide (x6_2 < 9) = false:=decide_eq_false c5
         clear c5
         have H':=Aside0.mk H
         clear H
         go_wp2
         go_roundg k2
         case measure=>have:=HK1.out;have:=HK2.out;omega
         case rel=>exact ⟨(x3_2),(wrap64 (x4_1 + 1)),(by first|rfl|(simp;done)|(simp [*];done)),H',⟨by have:=HK1.out;have:=HK2.out;omega⟩,⟨by (with_reducible repeat (first|apply Kd.R_alloc|apply Kd.R_drewN|apply Kd.R_drew));exact HO_3.out⟩,⟨by repeat (first|(with_reducible first|exact HB.out|apply below_alloc|apply pw_below_drewN|apply below_drew1)|exact HB.out)⟩⟩
     ·rw [if_neg c4] at H
      exact absurd H (by simp)
    ·rw [if_neg c3] at H
     have c3b0:decide (x4_1 < (l0.length:Int)) = false:=decide_eq_false c3
     clear c3
     have H':=Aside0.mk H
     clear H
     obtain ⟨Ao12,co12,eo12⟩:=Kd.R_slice HO_3.out
     subst eo12
     go_wp2
     go_loopg [7,8] k1 (fun kq v7 v8 w'=>∃ (x3_2:List Int) (x7_2:Int) (x8_2:Int),v7 = .int .i64 x7_2∧v8 = .int .i64 x8_2∧Aside0 (garboardref01_To.l2 kq x3_2 x7_2 x8_2 = some r)∧Aside0 (kq≤k1)∧Aside0 (Kd.R (Kd.int .u8) 5 w' w.heap.size (fun _=>True) (.slice Ao12 x3_1.length co12) x3_2)∧Aside0 (Below w.heap.size w w'))
     case atStart=>exact ⟨(x3_1),(0),(wrap64 ((x3_1.length:Int) - 1)),(by first|rfl|(simp;done)|(simp [*];done)),(by first|rfl|(simp;done)|(simp [*];done)),H',⟨Nat.le_refl _⟩,⟨by (with_reducible repeat (first|apply Kd.R_alloc|apply Kd.R_drewN|apply Kd.R_drew));exact HO_3.out⟩,⟨by repeat (first|(with_reducible first|exact HB.out|apply below_alloc|apply pw_below_drewN|apply below_drew1)|exact HB.out)⟩⟩
     case round =>
      clear H'
      try clear c1
      try clear c2
      try clear c2b0
      try clear c2b1
      try clear c2b2
      try clear p2
      try clear c3
      try clear c3b0
      try clear p3
      try clear q3
      try clear hx3
      try clear c4
      try clear c4b0
      try clear c5
      try clear c5b0
      try clear c6
      try clear c6b0
      try clear p6
      try clear c7
      try clear c9
      try clear c9b0
      try clear c10
      try clear hx327_0
      try clear p2
      try clear p3
      try clear p327
      try clear q3
      try clear q327
      obtain ⟨x3_2,x7_2,x8_2,rfl,rfl,HA,HK2,HO_3,HB⟩:=hrel
      have hl3_2:=(Kd.R_reads' HO_3.out).1
      rw [hl3_2] at HO_3
      (try simp only [hl3_2])
      cases gk with
      | zero=>exact absurd HA.out (by simp [garboardref01_To.l2])
      | succ k2 =>
       have H:=HA.out
       clear HA
       simp only [garboardref01_To.l2] at H
       by_cases c13:x7_2 < x8_2
       ·rw [if_pos c13] at H
        have c13b0:decide (x7_2 < x8_2) = true:=decide_eq_true c13
        clear c13
        by_cases c14:0≤x8_2
        ·rw [if_pos c14] at H
         have c14b0:decide (0≤x8_2) = true:=decide_eq_true c14
         clear c14
         by_cases c15:x8_2 < (x3_2.length:Int)
         ·rw [if_pos c15] at H
          have c15b0:decide (x8_2 < (x3_2.length:Int)) = true:=decide_eq_true c15
          clear c15
          by_cases c16:0≤x7_2
          ·rw [if_pos c16] at H
           have c16b0:decide (0≤x7_2) = true:=decide_eq_true c16
           clear c16
           by_cases c17:x7_2 < (x3_2.length:Int)
           ·rw [if_pos c17] at H
            have c17b0:decide (x7_2 < (x3_2.length:Int)) = true:=decide_eq_true c17
            clear c17
            obtain ⟨y336,hy336⟩:∃ y_:List Int,y_ = (x3_2.set (x7_2:Int).toNat (rd x3_2 x8_2)):=⟨_,rfl⟩
            replace H:(garboardref01_To.l2 k2 (y336.set (x8_2:Int).toNat (rd x3_2 x7_2)) (wrap64 (x7_2 + 1)) (wrap64 (x8_2 - 1))) = some r:=by first|(rw [hy336];with_reducible exact H)|(have H2_:=(Option.bind_some _ _).symm.trans H;rw [hy336];with_reducible exact H2_)|(have H2_:=(Option.bind_some _ _).symm.trans H;with_reducible exact H2_)|with_reducible exact H|(rw [hy336];exact H)|exact H
            have Ny336:=Aside0.mk hy336
            clear hy336
            obtain ⟨y337,hy337⟩:∃ y_:List Int,y_ = (y336.set (x8_2:Int).toNat (rd x3_2 x7_2)):=⟨_,rfl⟩
            replace H:(garboardref01_To.l2 k2 y337 (wrap64 (x7_2 + 1)) (wrap64 (x8_2 - 1))) = some r:=by first|(rw [hy337];with_reducible exact H)|(have H2_:=(Option.bind_some _ _).symm.trans H;rw [hy337];with_reducible exact H2_)|(have H2_:=(Option.bind_some _ _).symm.trans H;with_reducible exact H2_)|with_reducible exact H|(rw [hy337];exact H)|exact H
            have Ny337:=Aside0.mk hy337
            clear hy337
            have H':=Aside0.mk H
            clear H
            try go_wp2
            have n0_:=Aside0.mk (Kd.R_drew HO_3.out)
            have n1_:=Aside0.mk (below_drew1 HB.out)
            clear HO_3
            clear HB
            have HO_3:=n0_
            have HB:=n1_
            clear n0_ n1_
            have p334:0≤(x8_2:Int):=of_decide_eq_true (by first|(with_reducible assumption)|assumption)
            have q334:x8_2 < (x3_2.length:Int):=of_decide_eq_true (by first|(with_reducible assumption)|assumption)
            obtain ⟨ad334,e334,hx334_0⟩:=Kd.at_int (Kd.R_reads' HO_3.out).2.2 x8_2 p334 q334
            cases e334
            replace p334:=eq_true p334
            replace q334:=eq_true q334
            have p335:0≤(x7_2:Int):=of_decide_eq_true (by first|(with_reducible assumption)|assumption)
            have q335:x7_2 < (x3_2.length:Int):=of_decide_eq_true (by first|(with_reducible assumption)|assumption)
            obtain ⟨ad335,e335,hx335_0⟩:=Kd.at_int (Kd.R_reads' HO_3.out).2.2 x7_2 p335 q335
            obtain rfl:ad334 = ad335:=(by injection e335)
            replace p335:=eq_true p335
            replace q335:=eq_true q335
            have p18:0≤(x7_2:Int):=of_decide_eq_true (by first|(with_reducible assumption)|assumption)
            have q18:(x7_2:Int) < ((x3_2.length:Int):Int):=of_decide_eq_true (by first|(with_reducible assumption)|assumption)
            obtain ⟨go18,co18,eo18,gb18,gl18,cl18,HG18⟩:=Kd.R_form HO_3.out (by omega)
            (first|cases eo18|(injection eo18 with ea_ en_ ec_;(first|subst ea_|(injection ea_ with ea_;subst ea_));subst ec_;clear en_))
            have GB18:=Aside0.mk gb18
            have GG18:=Aside0.mk HG18
            clear gb18 gl18 HG18
            (first|simp only [add_plain] at hx334_0|skip)
            (first|simp only [add_plain] at hx335_0|skip)
            obtain ⟨hx18_0,hf18_0⟩:=Kd.R_celln 0 HO_3.out (x7_2:Int) p18 q18
            replace p18:=eq_true p18
            replace q18:=eq_true q18
            have HP21:=Kd.R_putn HO_3.out (x7_2:Int) (rd x3_2 x8_2)
            rw [← Ny336.out] at HP21
            have HQ21:=Aside0.mk HP21
            clear HP21
            have p19:0≤(x8_2:Int):=of_decide_eq_true (by first|(with_reducible assumption)|assumption)
            have q19:(x8_2:Int) < ((x3_2.length:Int):Int):=of_decide_eq_true (by first|(with_reducible assumption)|assumption)
            obtain ⟨hx19_0,hf19_0⟩:=Kd.R_celln 0 HQ21.out (x8_2:Int) p19 q19
            replace p19:=eq_true p19
            replace q19:=eq_true q19
            have HP22:=Kd.R_putn HQ21.out (x8_2:Int) (rd x3_2 x7_2)
            rw [← Ny337.out] at HP22
            have HQ22:=Aside0.mk HP22
            clear HP22
            refine start_ (n:=16) (S:=fun w'=>w'.cell? ⟨go18,(x8_2).toNat,none⟩ = some (.int .u8 (rd x3_2 x8_2))∧w'.cell? ⟨go18,(x7_2).toNat,none⟩ = some (.int .u8 (rd x3_2 x7_2))) (ds:=[13,15]) #[false,false,false,false,false,false,false,false,false,false,false,false,false,false,false,false] (by kernel_rfl) rfl rfl ⟨hx334_0,hx335_0⟩ (fun hHeld=>?_);refine with_tabW garboardref01_To.tab16 garboardref01_To.bits16 (fun HT_ HW_=>?_)
            generalize wr.drew = w20 at HO_3 HB GG18 HQ21 HQ22 hf18_0 hf19_0 hx18_0 hx19_0 hx334_0 hx335_0 hHeld ⊢
            refine pure_ (i:=0) (N:=some 56) (v:=?_) (a':=?_) #[true,false,false,false,false,false,false,false,false,false,false,false,false,false,false,false] rfl rfl (any_of HT_.out (by kernel_rfl)) (fun _ _ _ h=>h) (Or.inl ⟨by rfl,?_⟩) ?_ ?_
            rotate_left
            ·intro w'
             go_simp
             with_reducible rfl
            rotate_left
            ·simp only [Act.put,List.setIfInBounds_toArray,List.set_cons_zero,List.set_cons_succ,i64_w,i32_w]
             rfl
            refine pure_ (i:=1) (N:=some 57) (v:=?_) (a':=?_) #[true,true,false,false,false,false,false,false,false,false,false,false,false,false,false,false] rfl rfl (any_of HT_.out (by kernel_rfl)) (fun _ _ _ h=>h) (Or.inl ⟨by rfl,?_⟩) ?_ ?_
            rotate_left
            ·intro w'
             go_simp
             with_reducible rfl
            rotate_left
            ·simp only [Act.put,List.setIfInBounds_toArray,List.set_cons_zero,List.set_cons_succ,i64_w,i32_w]
             rfl
            refine pure_ (i:=2) (N:=some 58) (v:=?_) (a':=?_) #[true,true,true,false,false,false,false,false,false,false,false,false,false,false,false,false] rfl rfl (any_of HT_.out (by kernel_rfl)) (fun _ _ _ h=>h) (Or.inl ⟨by rfl,?_⟩) ?_ ?_
            rotate_left
            ·intro w'
             go_simp
             with_reducible rfl
            rotate_left
            ·simp only [Act.put,List.setIfInBounds_toArray,List.set_cons_zero,List.set_cons_succ,i64_w,i32_w]
             rfl
            refine pure_ (i:=3) (N:=some 59) (v:=?_) (a':=?_) #[true,true,true,true,false,false,false,false,false,false,false,false,false,false,false,false] rfl rfl (any_of HT_.out (by kernel_rfl)) (fun _ _ _ h=>h) (Or.inl ⟨by rfl,?_⟩) ?_ ?_
            rotate_left
            ·intro w'
             go_simp
             with_reducible rfl
            rotate_left
            ·simp only [Act.put,List.setIfInBounds_toArray,List.set_cons_zero,List.set_cons_succ,i64_w,i32_w]
             rfl
            refine pure_ (i:=4) (N:=some 60) (v:=?_) (a':=?_) #[true,true,true,true,true,false,false,false,false,false,false,false,false,false,false,false] rfl rfl (any_of HT_.out (by kernel_rfl)) (fun _ _ _ h=>h) (Or.inl ⟨by rfl,?_⟩) ?_ ?_
            rotate_left
            ·intro w'
             go_simp
             with_reducible rfl
            rotate_left
            ·simp only [Act.put,List.setIfInBounds_toArray,List.set_cons_zero,List.set_cons_succ,i64_w,i32_w]
             rfl
            refine pure_ (i:=5) (N:=some 61) (v:=?_) (a':=?_) #[true,true,true,true,true,true,false,false,false,false,false,false,false,false,false,false] rfl rfl (any_of HT_.out (by kernel_rfl)) (fun _ _ _ h=>h) (Or.inl ⟨by rfl,?_⟩) ?_ ?_
            rotate_left
            ·intro w'
             go_simp
             with_reducible rfl
            rotate_left
            ·simp only [Act.put,List.setIfInBounds_toArray,List.set_cons_zero,List.set_cons_succ,i64_w,i32_w]
             rfl
            refine pure_ (i:=6) (N:=some 62) (v:=?_) (a':=?_) #[true,true,true,true,true,true,true,false,false,false,false,false,false,false,false,false] rfl rfl (any_of HT_.out (by kernel_rfl)) (fun _ _ _ h=>h) (Or.inl ⟨by rfl,?_⟩) ?_ ?_
            rotate_left
            ·intro w'
             go_simp
             with_reducible rfl
            rotate_left
            ·simp only [Act.put,List.setIfInBounds_toArray,List.set_cons_zero,List.set_cons_succ,i64_w,i32_w]
             rfl
            refine pure_ (i:=8) (N:=some 64) (v:=?_) (a':=?_) #[true,true,true,true,true,true,true,false,true,false,false,false,false,false,false,false] rfl rfl (any_of HT_.out (by kernel_rfl)) (fun _ _ _ h=>h) (Or.inl ⟨by rfl,?_⟩) ?_ ?_
            rotate_left
            ·intro w'
             go_simp
             with_reducible rfl
            rotate_left
            ·simp only [Act.put,List.setIfInBounds_toArray,List.set_cons_zero,List.set_cons_succ,i64_w,i32_w]
             rfl
            refine pure_ (i:=9) (N:=some 65) (v:=?_) (a':=?_) #[true,true,true,true,true,true,true,false,true,true,false,false,false,false,false,false] rfl rfl (any_of HT_.out (by kernel_rfl)) (fun _ _ _ h=>h) (Or.inl ⟨by rfl,?_⟩) ?_ ?_
            rotate_left
            ·intro w'
             go_simp
             with_reducible rfl
            rotate_left
            ·simp only [Act.put,List.setIfInBounds_toArray,List.set_cons_zero,List.set_cons_succ,i64_w,i32_w]
             rfl
            refine pure_ (i:=10) (N:=some 66) (v:=?_) (a':=?_) #[true,true,true,true,true,true,true,false,true,true,true,false,false,false,false,false] rfl rfl (any_of HT_.out (by kernel_rfl)) (fun _ _ _ h=>h) (Or.inl ⟨by rfl,?_⟩) ?_ ?_
            rotate_left
            ·intro w'
             go_simp
             with_reducible rfl
            rotate_left
            ·simp only [Act.put,List.setIfInBounds_toArray,List.set_cons_zero,List.set_cons_succ,i64_w,i32_w]
             rfl
            refine take_ (i:=7) (N:=some 63) (v:=?_) (a':=?_) #[true,true,true,true,true,true,true,true,true,true,true,false,false,false,false,false] rfl rfl (take_ofW HT_.out HW_.out (by kernel_rfl)) (fun _ _ _ h=>h) (Or.inl ⟨by rfl,?_⟩) hHeld ?_ ?_
            rotate_left
            ·rintro w' ⟨s0,s1⟩
             go_simp
             with_reducible rfl
            rotate_left
            ·simp only [Act.put,List.setIfInBounds_toArray,List.set_cons_zero,List.set_cons_succ,i64_w,i32_w]
             rfl
            refine take_ (i:=11) (N:=some 67) (v:=?_) (a':=?_) #[true,true,true,true,true,true,true,true,true,true,true,true,false,false,false,false] rfl rfl (take_ofW HT_.out HW_.out (by kernel_rfl)) (fun _ _ _ h=>h) (Or.inl ⟨by rfl,?_⟩) hHeld ?_ ?_
            rotate_left
            ·rintro w' ⟨s0,s1⟩
             go_simp
             with_reducible rfl
            rotate_left
            ·simp only [Act.put,List.setIfInBounds_toArray,List.set_cons_zero,List.set_cons_succ,i64_w,i32_w]
             rfl
            refine pure_ (i:=12) (N:=some 68) (v:=?_) (a':=?_) #[true,true,true,true,true,true,true,true,true,true,true,true,true,false,false,false] rfl rfl (any_of HT_.out (by kernel_rfl)) (fun _ _ _ h=>h) (Or.inl ⟨by rfl,?_⟩) ?_ ?_
            rotate_left
            ·intro w'
             go_simp
             with_reducible rfl
            rotate_left
            ·simp only [Act.put,List.setIfInBounds_toArray,List.set_cons_zero,List.set_cons_succ,i64_w,i32_w]
             rfl
            refine last_ (i:=13) (N:=none) #[true,true,true,true,true,true,true,true,true,true,true,true,true,true,false,false] rfl rfl (one_of HT_.out (by kernel_rfl)) (by decide) (fun K hK=>?_)
            refine skip_ (w1:=?_) (by rfl) rfl ?_ ?_
            rotate_left
            ·go_simp
             rfl
            refine hK.out _ _ ?_
            clear hK K
            refine pure_ (i:=14) (N:=some 69) (v:=?_) (a':=?_) #[true,true,true,true,true,true,true,true,true,true,true,true,true,true,true,false] rfl rfl (any_of HT_.out (by kernel_rfl)) (fun _ _ _ h=>h) (Or.inl ⟨by rfl,?_⟩) ?_ ?_
            rotate_left
            ·intro w'
             go_simp
             with_reducible rfl
            rotate_left
            ·simp only [Act.put,List.setIfInBounds_toArray,List.set_cons_zero,List.set_cons_succ,i64_w,i32_w]
             rfl
            refine last_ (i:=15) (N:=none) #[true,true,true,true,true,true,true,true,true,true,true,true,true,true,true,true] rfl rfl (one_of HT_.out (by kernel_rfl)) (by decide) (fun K hK=>?_)
            refine skip_ (w1:=?_) (by rfl) rfl ?_ ?_
            rotate_left
            ·go_simp
             rfl
            refine hK.out _ _ ?_
            clear hK K
            refine done_ (done_of HT_.out (by kernel_rfl)) ?_
            try go_wp2
            (try simp only [← hl3_2])
            go_roundg k2
            case measure=>have:=HK1.out;have:=HK2.out;omega
            case rel=>exact ⟨(y337),(wrap64 (x7_2 + 1)),(wrap64 (x8_2 - 1)),(by first|rfl|(simp;done)|(simp [*];done)),(by first|rfl|(simp;done)|(simp [*];done)),H',⟨by have:=HK1.out;have:=HK2.out;omega⟩,⟨by (try simp only [hl3_2]);(with_reducible repeat (first|apply Kd.R_alloc|apply Kd.R_drewN|apply Kd.R_drew));exact HQ22.out⟩,⟨by repeat (first|(with_reducible first|exact HB.out|apply below_alloc|apply pw_below_drewN|apply below_drew1|refine below_set ?_ GB18.out|refine below_set ?_ GB18.out)|exact HB.out)⟩⟩
           ·rw [if_neg c17] at H
            exact absurd H (by simp)
          ·rw [if_neg c16] at H
           exact absurd H (by simp)
         ·rw [if_neg c15] at H
          exact absurd H (by simp)
        ·rw [if_neg c14] at H
         exact absurd H (by simp)
       ·rw [if_neg c13] at H
        have c13b0:decide (x7_2 < x8_2) = false:=decide_eq_false c13
        clear c13
        obtain rfl:=Option.some.inj H
        have hcv23:=own_string (P:=Tryd.prog) Tryd.underlying69 Tryd.underlying5 Tryd.underlying9 (Kd.own_of_R HO_3.out)
        go_wp2
        go_ret
        exact ⟨by first|rfl|(simp [errW_none,errW_some]<;>rfl)|(simp [*,errW_none,errW_some]<;>rfl),by repeat (first|(with_reducible first|exact HB.out|apply below_alloc|apply pw_below_drewN|apply below_drew1)|exact HB.out)⟩
end Go.Proofs.YtaopmkcghancmaaDoor.Pr
set_option linter.unusedVariables false
set_option linter.unusedSimpArgs false
namespace Go.Proofs.YtaopmkcghancmaaDoor.Pr
open Go.RowKit Go.Lib Go.Proofs.YtaopmkcghancmaaDoorW.PrintWords Go.Proofs.YtaopmkcghancmaaDoorW.PrintLast Go.Proofs.YtaopmkcghancmaaDoorW.PrintMore Go.Proofs.YtaopmkcghancmaaDoor.NatTh
def revD (l:List UInt8):List Int:=l.reverse.map fun c=>(c.toNat:Int)
theorem revD_snoc (l:List UInt8) (c:UInt8):revD (l ++ [c]) = (c.toNat:Int) :: revD l:=by simp [revD]
theorem revD_app (a b:List UInt8):revD (a ++ b) = revD b ++ revD a:=by simp [revD]
theorem revD_len (l:List UInt8):(revD l).length = l.length:=by simp [revD]
theorem dg_int (w:Nat):((48 + Int.tmod (w:Int) 10) % 4294967296) % 256 = ((NatTh.dg (w % 10)).toNat:Int):=by
 rw [dg_toNat _ (Nat.mod_lt _ (by omega)),Int.tmod_eq_emod_of_nonneg (by omega)]
 omega
theorem dv_int (w:Nat) (h:w < 4294967296):(Int.tdiv (w:Int) 10) % 4294967296 = ((w / 10:Nat):Int):=by
 rw [Int.tdiv_eq_ediv_of_nonneg (by omega)]
 omega
theorem to_pad (x:List Int) (i:Nat) (hi:i + 1 < x.length) (hx:x.length < 1099511627776):∀ (m w:Nat),m≤9→w < 4294967296→∀ (out:List Int),out.length + m < 140737488355328→∀ k,
  garboardref01_To.l1 (k + 1 + m) x out i w ((9 - m:Nat):Int) = garboardref01_To.l0 k x (out ++ revD (pad m w)) ((i + 1:Nat):Int):=by
 intro m
 induction m with
 | zero =>
  intro w _ _ out _ k
  show garboardref01_To.l1 (k + 1) x out i w 9 = _
  unfold garboardref01_To.l1
  rw [if_neg (by omega),wi1 i (by omega)]
  simp [pad,revD]
 | succ m ih =>
  intro w hm hw out ho k
  have hi1:=ih (w / 10) (by omega) (by omega) (out ++ [((NatTh.dg (w % 10)).toNat:Int)]) (by rw [List.length_append];simp;omega) k
  rw [List.append_assoc] at hi1
  rw [pad,revD_snoc,show k + 1 + (m + 1) = k + 1 + m + 1 by omega]
  rw [List.singleton_append] at hi1
  rw [← hi1]
  conv=>lhs;unfold garboardref01_To.l1
  rw [if_pos (by omega),wi1 i (by omega),if_pos (by omega),if_pos (by omega),dg_int,dv_int w hw,wi1 (9 - (m + 1)) (by omega),show 9 - (m + 1) + 1 = 9 - m by omega]
def dz (w:Nat):List UInt8:=if w = 0 then [] else decDigits w
theorem dz_step (w:Nat) (h:0 < w):dz w = dz (w / 10) ++ [NatTh.dg (w % 10)]:=by
 unfold dz
 rw [if_neg (by omega)]
 by_cases h1:w < 10
 ·rw [if_pos (by omega),dec_small w h1,Nat.mod_eq_of_lt h1]
  rfl
 ·rw [if_neg (by omega),dec_big w h1]
theorem to_last (x:List Int) (i:Nat) (hi:i + 1 = x.length) (hx:x.length < 1099511627776):∀ (m w:Nat),m≤9→w < 10 ^ m→∀ (out:List Int),out.length + m < 140737488355328→∃ c,∀ k,
  garboardref01_To.l1 (k + c) x out i w ((9 - m:Nat):Int) = garboardref01_To.l0 k x (out ++ revD (dz w)) ((i + 1:Nat):Int):=by
 intro m
 induction m with
 | zero =>
  intro w _ hw out _
  obtain rfl:w = 0:=by simpa using hw
  refine ⟨1,fun k=>?_⟩
  show garboardref01_To.l1 (k + 1) x out i 0 9 = _
  unfold garboardref01_To.l1
  rw [if_neg (by omega),wi1 i (by omega)]
  simp [dz,revD]
 | succ m ih =>
  intro w hm hw out ho
  by_cases h0:w = 0
  ·subst h0
   refine ⟨1,fun k=>?_⟩
   unfold garboardref01_To.l1
   rw [if_pos (by omega),wi1 i (by omega),if_neg (by omega),if_neg (by omega)]
   simp [dz,revD]
  ·have hw9:w < 10 ^ 9:=Nat.lt_of_lt_of_le hw (Nat.pow_le_pow_right (by omega) hm)
   obtain ⟨c,hc⟩:=ih (w / 10) (by omega) (by rw [Nat.pow_succ] at hw;omega) (out ++ [((NatTh.dg (w % 10)).toNat:Int)]) (by rw [List.length_append];simp;omega)
   refine ⟨c + 1,fun k=>?_⟩
   have h1:=hc k
   rw [List.append_assoc,List.singleton_append] at h1
   rw [dz_step w (by omega),revD_snoc,← h1,← Nat.add_assoc]
   conv=>lhs;unfold garboardref01_To.l1
   rw [if_pos (by omega),wi1 i (by omega),if_neg (by omega),if_pos (by omega),if_pos (by omega),dg_int,dv_int w (by omega),wi1 (9 - (m + 1)) (by omega),show 9 - (m + 1) + 1 = 9 - m by omega]
theorem to_words (x:List Int) (hw:Num x) (hx:x.length < 1099511627776):∀ (m i:Nat),i + m = x.length→0 < m→∀ (out:List Int),out.length + 9 * m < 140737488355328→∃ c,∀ k,
  garboardref01_To.l0 (k + c) x out i = garboardref01_To.l2 k (out ++ revD (txt (x.drop i))) 0 (wrap64 (((out ++ revD (txt (x.drop i))).length:Int) - 1)):=by
 intro m
 induction m with
 | zero=>intro i _ h;omega
 | succ m ih =>
  intro i hi _ out ho
  have hil:i < x.length:=by omega
  have hxi:=hw.1.get i hil
  rw [BB] at hxi
  obtain ⟨w,hwe⟩:∃ w:Nat,x[i] = (w:Int):=⟨x[i].toNat,by omega⟩
  rw [hwe] at hxi
  have hrd:rd x (i:Int) = (w:Int):=by
   rw [rd_eq,List.getD_eq_getElem?_getD,List.getElem?_eq_getElem hil,← hwe]
   rfl
  have hdrop:x.drop i = (w:Int) :: x.drop (i + 1):=by rw [List.drop_eq_getElem_cons hil,hwe]
  have open_:∀ k,garboardref01_To.l0 (k + 1) x out i = garboardref01_To.l1 k x out i w 0:=by
   intro k
   conv=>lhs;unfold garboardref01_To.l0
   rw [if_pos (by omega),if_pos (by omega),hrd]
  by_cases hm:m = 0
  ·subst hm
   have hnil:x.drop (i + 1) = []:=List.drop_of_length_le (by omega)
   have hw0:w≠0:=by
    intro h0
    have:=hw.2 x[i] (by
     rw [List.getLast?_eq_getElem?,show x.length - 1 = i by omega,List.getElem?_eq_getElem hil])
    rw [hwe,h0] at this
    exact this rfl
   obtain ⟨c,hc⟩:=to_last x i (by omega) hx 9 w (by omega) (by omega) out (by omega)
   refine ⟨1 + c + 1,fun k=>?_⟩
   have h1:=hc (k + 1)
   have hdz:dz w = txt (x.drop i):=by
    rw [hdrop,hnil,txt,Int.toNat_natCast]
    unfold dz
    rw [if_neg hw0]
   rw [hdz] at h1
   rw [show k + (1 + c + 1) = k + 1 + c + 1 by omega,open_]
   refine h1.trans ?_
   conv=>lhs;unfold garboardref01_To.l0
   rw [if_neg (by omega)]
  ·obtain ⟨y,l,hy⟩:∃ y l,x.drop (i + 1) = y :: l:=List.exists_cons_of_ne_nil (by
    intro e
    have:=congrArg List.length e
    rw [List.length_drop] at this
    simp at this
    omega)
   obtain ⟨c,hc⟩:=ih (i + 1) (by omega) (by omega) (out ++ revD (pad 9 w)) (by rw [List.length_append,revD_len,pad_length];omega)
   refine ⟨c + 10 + 1,fun k=>?_⟩
   have h1:=hc k
   have h2:=to_pad x i (by omega) hx 9 w (by omega) (by omega) out (by omega) (k + c)
   have ht:txt (x.drop i) = txt (x.drop (i + 1)) ++ pad 9 w:=by rw [hdrop,hy,txt,Int.toNat_natCast]
   rw [List.append_assoc,← revD_app,← ht] at h1
   rw [show k + (c + 10 + 1) = k + c + 1 + 9 + 1 by omega,open_]
   exact h2.trans h1
theorem getD_set (l:List Int) (n i:Nat) (v:Int) (h:n < l.length):(l.set n v).getD i 0 = if i = n then v else l.getD i 0:=by
 rw [List.getD_eq_getElem?_getD,List.getElem?_set]
 by_cases e:n = i
 ·subst e
  rw [if_pos rfl,if_pos h,if_pos rfl]
  rfl
 ·rw [if_neg e,if_neg (fun h=>e h.symm),List.getD_eq_getElem?_getD]
theorem turn_loop (L:List Int) (hL:L.length < 1152921504606846976):∀ (m t:Nat) (x:List Int),L.length≤2 * t + m→x.length = L.length→2 * t≤L.length→(∀ i,i < L.length→x.getD i 0 = if i < t ∨ L.length - 1 - t < i then L.getD (L.length - 1 - i) 0 else L.getD i 0) →
  ∀ k,garboardref01_To.l2 (k + 1 + m) x t ((L.length:Int) - 1 - t) = some (strOfNums L.reverse):=by
 intro m
 have fin:∀ (t:Nat) (x:List Int),x.length = L.length→2 * t≤L.length→(∀ i,i < L.length→x.getD i 0 = if i < t ∨ L.length - 1 - t < i then L.getD (L.length - 1 - i) 0 else L.getD i 0)→¬ ((t:Int) < (L.length:Int) - 1 - t)→x = L.reverse:=by
  intro t x hxl ht hx hlt
  apply List.ext_getElem
  ·rw [List.length_reverse,hxl]
  ·intro i h1 h2
   have h3:=hx i (by omega)
   rw [List.getD_eq_getElem?_getD,List.getElem?_eq_getElem h1,List.getD_eq_getElem?_getD,List.getElem?_eq_getElem (show L.length - 1 - i < L.length by omega),List.getD_eq_getElem?_getD,List.getElem?_eq_getElem (show i < L.length by omega)] at h3
   simp only [Option.getD_some] at h3
   rw [List.getElem_reverse,h3]
   split
   ·rfl
   ·rename_i hc
    congr 1
    omega
 induction m with
 | zero =>
  intro t x hm hxl ht hx k
  show garboardref01_To.l2 (k + 1) x t _ = _
  unfold garboardref01_To.l2
  rw [if_neg (by omega),fin t x hxl ht hx (by omega)]
 | succ m ih =>
  intro t x hm hxl ht hx k
  rw [show k + 1 + (m + 1) = k + 1 + m + 1 by omega]
  by_cases hlt:(t:Int) < (L.length:Int) - 1 - t
  ·obtain ⟨b,hb⟩:∃ b:Nat,(L.length:Int) - 1 - t = b:=⟨L.length - 1 - t,by omega⟩
   have hbt:b = L.length - 1 - t:=by omega
   have h1:=ih (t + 1) ((x.set t (x.getD b 0)).set b (x.getD t 0)) (by omega) (by rw [List.length_set,List.length_set,hxl]) (by omega) (fun i hi=>by
    rw [getD_set _ _ _ _ (by rw [List.length_set];omega),getD_set _ _ _ _ (by omega)]
    by_cases e1:i = b
    ·rw [if_pos e1,hx t (by omega),if_neg (by omega),if_pos (by omega),e1]
     congr 1
     omega
    ·rw [if_neg e1]
     by_cases e2:i = t
     ·rw [if_pos e2,hx b (by omega),if_neg (by omega),if_pos (by omega),e2]
      congr 1
     ·rw [if_neg e2,hx i hi]
      by_cases e3:i < t ∨ L.length - 1 - t < i
      ·rw [if_pos e3,if_pos (by omega)]
      ·rw [if_neg e3,if_neg (by omega)]) k
   rw [show (L.length:Int) - 1 - ((t + 1:Nat):Int) = (b:Int) - 1 by omega] at h1
   unfold garboardref01_To.l2
   rw [hb,if_pos (by omega),if_pos (by omega),if_pos (by omega),if_pos (by omega),if_pos (by omega),Int.toNat_natCast,Int.toNat_natCast,rd_eq,rd_eq,wi1 t (by omega),w64 (x:=(b:Int) - 1) (by omega) (by omega)]
   exact h1
  ·unfold garboardref01_To.l2
   rw [if_neg hlt,fin t x hxl ht hx hlt]
theorem strOf_rev (l:List UInt8):strOfNums (revD l).reverse = ⟨l.toArray⟩:=by
 unfold strOfNums revD
 rw [← List.map_reverse,List.reverse_reverse,List.map_map]
 congr 2
 conv=>rhs;rw [← List.map_id l]
 apply List.map_congr_left
 intro c _
 simp
theorem txt_len (n:Nat):∀ l:List Int,l.length = n→(∀ x ∈ l,0≤x∧x < 1000000000)→(txt l).length≤9 * l.length:=by
 induction n with
 | zero =>
  intro l hl _
  have:l = []:=List.eq_nil_of_length_eq_zero hl
  subst this
  simp [txt]
 | succ n ih =>
  intro l hl hz
  match l,hl with
  | [w],_ =>
   have hw:=hz w (by simp)
   rw [txt]
   have:=dec_len w.toNat (by omega)
   simpa using this
  | w :: y :: l,hl =>
   have h1:=ih (y :: l) (by simpa using hl) (fun x hx=>hz x (by simp at hx ⊢;exact .inr hx))
   rw [txt,List.length_append,pad_length]
   simp only [List.length_cons] at h1 ⊢
   omega
theorem To_ev (n:Nat) (h:(numOf n).length < 1099511627776):Ev (fun k=>garboardref01_To.f k (numOf n)) (num n):=by
 by_cases h0:n = 0
 ·subst h0
  refine ⟨0,fun k _=>?_⟩
  simp only [garboardref01_To.f]
  rw [numOf_zero,if_pos (by simp)]
  unfold num
  rw [dec_small 0 (by omega)]
  rfl
 ·have hpos:=len_pos (show 0 < n by omega)
  obtain ⟨c,hc⟩:=to_words (numOf n) (num_numOf n) h (numOf n).length 0 (by omega) hpos [] (by simp;omega)
  rw [List.drop_zero,txt_numOf n (by omega),List.nil_append] at hc
  have hL:(revD (decDigits n)).length = (decDigits n).length:=revD_len _
  have hz:∀ x ∈ numOf n,0≤x∧x < 1000000000:=fun x hx=>by have:=(num_numOf n).1 x hx;rw [BB] at this;exact this
  have htl:=txt_len _ (numOf n) rfl hz
  rw [txt_numOf n (by omega)] at htl
  have hdp:0 < (decDigits n).length:=List.length_pos_iff.2 (dec_ne n)
  have ht:=turn_loop (revD (decDigits n)) (by omega) (revD (decDigits n)).length 0 (revD (decDigits n)) (by omega) rfl (by omega) (fun i hi=>by rw [if_neg (by omega)])
  refine ⟨1 + (revD (decDigits n)).length + c,fun k hk=>?_⟩
  obtain ⟨j,rfl⟩:∃ j,k = j + 1 + (revD (decDigits n)).length + c:=⟨k - 1 - (revD (decDigits n)).length - c,by omega⟩
  simp only [garboardref01_To.f]
  rw [if_neg (by omega)]
  refine (hc _).trans ?_
  rw [w64 (by omega) (by omega)]
  have h2:=ht j
  rw [strOf_rev,show (((revD (decDigits n)).length:Int) - 1 - ((0:Nat):Int)) = ((revD (decDigits n)).length:Int) - 1 by omega] at h2
  exact h2
end Go.Proofs.YtaopmkcghancmaaDoor.Pr
namespace Go.Proofs.YtaopmkcghancmaaDoor.Pr
open Go.RowKit Go.Proofs.YtaopmkcghancmaaDoorW.PrintWords Go.Proofs.YtaopmkcghancmaaDoorW.PrintLast Go.Proofs.YtaopmkcghancmaaDoorW.PrintMore
attribute [local go_sem] max2_int min2_int max_two min_two max_three min_three max_four min_four
set_option linter.unusedVariables false
set_option linter.unusedSimpArgs false
def garboardref01_both.j0:Nat→ByteArray→ByteArray→Bool→Option (List Int × List Int × Int)
 | 0,_,_,_=>none
 | k + 1,x0,x1,x14=>if x14 = true then (some (([]:List Int),([]:List Int),1)) else ((garboardref01_From.f k x0).bind fun t297=>((garboardref01_From.f k x1).bind fun t300=>(some (t297,t300,0))))
def garboardref01_both.f (k:Nat) (a0:ByteArray) (a1:ByteArray):Option (List Int × List Int × Int):=(garboardref01_Valid.f k a0).bind fun t295=>(if t295 = true then ((garboardref01_Valid.f k a1).bind fun t296=>(garboardref01_both.j0 k a0 a1 (!t296))) else (garboardref01_both.j0 k a0 a1 true))
set_option maxHeartbeats 8000000 in
set_option maxRecDepth 100000 in
theorem garboardref01_both.calls (k:Nat) (a0:ByteArray) (a1:ByteArray) (r1:List Int) (r2:List Int) (r3:Int) (w:World) (h:garboardref01_both.f k a0 a1 = some (r1,r2,r3)) :
  Calls Tryd.prog 35 #[.string a0,.string a1] w fun e w'=>∃ v0_ v1_:Value,e = .returned (.tuple #[v0_,v1_,.int .i64 r3])∧Kd.V (Kd.int .u32) 64 w' w.heap.size (fun k_=>(w.heap.size≤k_)) v0_ r1∧Kd.V (Kd.int .u32) 64 w' w.heap.size (fun k_=>(w.heap.size≤k_)) v1_ r2∧Below w.heap.size w w':=by
 have HB:=Aside0.mk (Below.refl w.heap.size w)
 have H:((garboardref01_Valid.f k a0).bind fun t295=>(if t295 = true then ((garboardref01_Valid.f k a1).bind fun t296=>(garboardref01_both.j0 k a0 a1 (!t296))) else (garboardref01_both.j0 k a0 a1 true))) = some (r1,r2,r3):=h
 clear h
 have HC3:=Aside0.mk H
 clear H
 go_enter Tryd.func35,Tryd.ntmps35
 go_upto_region 1 with (fail)
 go_cut [14] (fun v14 wc=>∃ (kq:Nat) (x14_2:Bool),v14 = .bool x14_2∧Aside0 (garboardref01_both.j0 kq a0 a1 x14_2 = some (r1,r2,r3))∧Aside0 (kq≤k)∧Aside0 (Below w.heap.size w wc))
 case first =>
  have H:=HC3.out
  clear HC3
  replace H:=Option.bind_eq_some_iff.mp H
  obtain ⟨t295,A40,H⟩:=H
  replace H:(if t295 = true then ((garboardref01_Valid.f k a1).bind fun t296=>(garboardref01_both.j0 k a0 a1 (!t296))) else (garboardref01_both.j0 k a0 a1 true)) = some (r1,r2,r3):=H
  have A4:=Aside0.mk A40
  clear A40
  by_cases c5:t295 = true
  ·subst c5
   have H1:((garboardref01_Valid.f k a1).bind fun t296=>(garboardref01_both.j0 k a0 a1 (!t296))) = some (r1,r2,r3):=by rw [if_pos rfl] at H;exact H
   clear H
   have H:=H1
   clear H1
   replace H:=Option.bind_eq_some_iff.mp H
   obtain ⟨t296,A60,H⟩:=H
   replace H:(garboardref01_both.j0 k a0 a1 (!t296)) = some (r1,r2,r3):=H
   have A6:=Aside0.mk A60
   clear A60
   have H':=Aside0.mk H
   clear H
   go_wp2_with (first|((with_reducible refine gate_callee (f:=16) rfl ?_);refine goesL_ (some 8) rfl rfl Tryd.func16 (by kernel_rfl) rfl #[.string a0] rfl (by (try simp only [List.map_toArray,List.map_cons,List.map_nil]);first|done|rfl|(simp only [List.length_drop,List.length_take];rfl)) ?_;(with_reducible refine (garboardref01_Valid.calls k a0 true _ A4.out).mono ?_);rintro e w' ⟨rfl,⟨nd,rfl⟩⟩;refine ⟨_,rfl,?_⟩)|(go_at_call 16;(with_reducible refine (garboardref01_Valid.calls k a1 t296 _ A6.out).mono ?_);rintro e w' ⟨rfl,⟨nd,rfl⟩⟩))
   go_meet
   case rel=>exact ⟨_,(!t296),(by first|rfl|(simp;done)|(simp [*];done)),H',⟨by first|omega|exact Nat.le_refl _⟩,⟨by repeat (first|(with_reducible first|exact HB.out|apply below_alloc|apply pw_below_drewN|apply below_drew1)|exact HB.out)⟩⟩
  ·replace c5:=Bool.eq_false_iff.mpr c5
   subst c5
   have H1:(garboardref01_both.j0 k a0 a1 true) = some (r1,r2,r3):=by rw [if_neg (show ¬ (false = true) by decide)] at H;exact H
   clear H
   have H:=H1
   clear H1
   have H':=Aside0.mk H
   clear H
   go_wp2_with (first|((with_reducible refine gate_callee (f:=16) rfl ?_);refine goesL_ (some 8) rfl rfl Tryd.func16 (by kernel_rfl) rfl #[.string a0] rfl (by (try simp only [List.map_toArray,List.map_cons,List.map_nil]);first|done|rfl|(simp only [List.length_drop,List.length_take];rfl)) ?_;(with_reducible refine (garboardref01_Valid.calls k a0 false _ A4.out).mono ?_);rintro e w' ⟨rfl,⟨nd,rfl⟩⟩;refine ⟨_,rfl,?_⟩))
   go_meet
   case rel=>exact ⟨_,(true),(by first|rfl|(simp;done)|(simp [*];done)),H',⟨by first|omega|exact Nat.le_refl _⟩,⟨by repeat (first|(with_reducible first|exact HB.out|apply below_alloc|apply pw_below_drewN|apply below_drew1)|exact HB.out)⟩⟩
 case rest =>
  clear HC3
  try clear c1
  try clear p2
  try clear c3
  try clear c5
  obtain ⟨kq,x14_2,rfl,HA,HJ2,HB⟩:=hcut
  cases kq with
  | zero=>exact absurd HA.out (by simp [garboardref01_both.j0])
  | succ kj2 =>
   have H:=HA.out
   clear HA
   simp only [garboardref01_both.j0] at H
   by_cases c7:x14_2 = true
   ·subst c7
    have H1:(some (([]:List Int),([]:List Int),1)) = some (r1,r2,r3):=by rw [if_pos rfl] at H;exact H
    clear H
    have H:=H1
    clear H1
    simp only [Option.some.injEq,Prod.mk.injEq] at H
    obtain ⟨rfl,rfl,rfl⟩:=H
    go_wp2
    go_ret3
    exact ⟨_,_,by first|rfl|(simp [errW_none,errW_some]<;>rfl)|(simp [*,errW_none,errW_some]<;>rfl),Kd.R_V (base:=w.heap.size) (by first|exact Kd.R_nil _ _ _ _ _|exact Kd.N_nil _ _ _ _ _|exact Kd.V_nil _ _ _ _ _|exact Kd.Q_nil _ _ _ _ _|exact Kd.S_nil _ _ _ _ _),Kd.R_V (base:=w.heap.size) (by first|exact Kd.R_nil _ _ _ _ _|exact Kd.N_nil _ _ _ _ _|exact Kd.V_nil _ _ _ _ _|exact Kd.Q_nil _ _ _ _ _|exact Kd.S_nil _ _ _ _ _),by repeat (first|(with_reducible first|exact HB.out|apply below_alloc|apply pw_below_drewN|apply below_drew1)|exact HB.out)⟩
   ·replace c7:=Bool.eq_false_iff.mpr c7
    subst c7
    have H1:((garboardref01_From.f kj2 a0).bind fun t297=>((garboardref01_From.f kj2 a1).bind fun t300=>(some (t297,t300,0)))) = some (r1,r2,r3):=by rw [if_neg (show ¬ (false = true) by decide)] at H;exact H
    clear H
    have H:=H1
    clear H1
    replace H:=Option.bind_eq_some_iff.mp H
    obtain ⟨t297,A80,H⟩:=H
    replace H:((garboardref01_From.f kj2 a1).bind fun t300=>(some (t297,t300,0))) = some (r1,r2,r3):=H
    have A8:=Aside0.mk A80
    clear A80
    replace H:=Option.bind_eq_some_iff.mp H
    obtain ⟨t300,A90,H⟩:=H
    replace H:(some (t297,t300,0)) = some (r1,r2,r3):=H
    have A9:=Aside0.mk A90
    clear A90
    simp only [Option.some.injEq,Prod.mk.injEq] at H
    obtain ⟨rfl,rfl,rfl⟩:=H
    go_wp2_with (first|((with_reducible refine gate_callee (f:=54) rfl ?_);refine goesL_ (some 16) rfl rfl Tryd.func54 (by kernel_rfl) rfl #[.string a0] rfl (by (try simp only [List.map_toArray,List.map_cons,List.map_nil]);first|done|rfl|(simp only [List.length_drop,List.length_take];rfl)) ?_;(with_reducible refine (garboardref01_From.calls kj2 a0 t297 _ A8.out).mono ?_);rintro e w10 ⟨v298,rfl,ho0,hb⟩;refine ⟨_,rfl,?_⟩;have n0_:=Aside0.mk (Kd.V_lower (Kd.V_mono (ok':=fun k_=>(w.heap.size≤k_)) ho0 (fun k_ hk_=>(Nat.le_trans (below_size (by repeat (first|(with_reducible first|exact HB.out|apply below_alloc|apply pw_below_drewN|apply below_drew1)|exact HB.out))) hk_))) (below_size (by repeat (first|(with_reducible first|exact HB.out|apply below_alloc|apply pw_below_drewN|apply below_drew1)|exact HB.out))));have n1_:=Aside0.mk (below_step (by repeat (first|(with_reducible first|exact HB.out|apply below_alloc|apply pw_below_drewN|apply below_drew1)|exact HB.out)) hb);clear HB;have HO299:=n0_;have HB:=n1_;clear n0_ n1_;(try clear hb);(try clear hb2);(try clear hk);(try clear hi);(try clear ho0))|((with_reducible refine gate_callee (f:=54) rfl ?_);refine goesL_ (some 18) rfl rfl Tryd.func54 (by kernel_rfl) rfl #[.string a1] rfl (by (try simp only [List.map_toArray,List.map_cons,List.map_nil]);first|done|rfl|(simp only [List.length_drop,List.length_take];rfl)) ?_;(with_reducible refine (garboardref01_From.calls kj2 a1 t300 _ A9.out).mono ?_);rintro e w11 ⟨v301,rfl,ho0,hb⟩;refine ⟨_,rfl,?_⟩;have n0_:=Aside0.mk (Kd.V_below (by (with_reducible repeat (first|apply Kd.V_alloc|apply Kd.V_drewN|apply Kd.V_drew));exact HO299.out) hb);have n1_:=Aside0.mk (Kd.V_lower (Kd.V_mono (ok':=fun k_=>(w.heap.size≤k_)) ho0 (fun k_ hk_=>(Nat.le_trans (below_size (by repeat (first|(with_reducible first|exact HB.out|apply below_alloc|apply pw_below_drewN|apply below_drew1)|exact HB.out))) hk_))) (below_size (by repeat (first|(with_reducible first|exact HB.out|apply below_alloc|apply pw_below_drewN|apply below_drew1)|exact HB.out))));have n2_:=Aside0.mk (below_step (by repeat (first|(with_reducible first|exact HB.out|apply below_alloc|apply pw_below_drewN|apply below_drew1)|exact HB.out)) hb);clear HO299;clear HB;have HO299:=n0_;have HO302:=n1_;have HB:=n2_;clear n0_ n1_ n2_;(try clear hb);(try clear hb2);(try clear hk);(try clear hi);(try clear ho0)))
    go_ret3
    exact ⟨_,_,by first|rfl|(simp [errW_none,errW_some]<;>rfl)|(simp [*,errW_none,errW_some]<;>rfl),by (with_reducible repeat (first|apply Kd.V_alloc|apply Kd.V_drewN|apply Kd.V_drew));exact HO299.out,by (with_reducible repeat (first|apply Kd.V_alloc|apply Kd.V_drewN|apply Kd.V_drew));exact HO302.out,by repeat (first|(with_reducible first|exact HB.out|apply below_alloc|apply pw_below_drewN|apply below_drew1)|exact HB.out)⟩
end Go.Proofs.YtaopmkcghancmaaDoor.Pr
set_option linter.unusedVariables false
set_option linter.unusedSimpArgs false
namespace Go.Proofs.YtaopmkcghancmaaDoor.Pr
open Go.RowKit Go.Proofs.YtaopmkcghancmaaDoorW.PrintWords Go.Proofs.YtaopmkcghancmaaDoorW.PrintLast Go.Proofs.YtaopmkcghancmaaDoorW.PrintMore Go.Proofs.YtaopmkcghancmaaDoor.NatTh
theorem rboth_ev (a b:ByteArray) (ha:Sh a) (hb:Sh b):Ev (fun k=>garboardref01_both.f k a b) (bothV a b):=by
 unfold Sh at ha hb
 have va:=rValid_ev a (by omega)
 have vb:=rValid_ev b (by omega)
 unfold bothV
 cases hna:nv a with
 | false =>
  rw [hna] at va
  rw [Bool.false_and,if_neg (by simp)]
  refine Ev.congr (f:=fun k=>(garboardref01_Valid.f k a).bind fun t=>(if t = true then ((garboardref01_Valid.f k b).bind fun t142=>(garboardref01_both.j0 k a b (!t142))) else (garboardref01_both.j0 k a b true))) (fun k=>rfl) (Ev.bind va ?_)
  refine Ev.congr (f:=fun k=>garboardref01_both.j0 k a b true) (fun k=>if_neg (by simp)) ?_
  refine Ev.step (f:=fun k=>some ([],[],1)) (fun k=>?_) (Ev.now _)
  rw [garboardref01_both.j0,if_pos (by rfl)]
 | true =>
  rw [hna] at va
  rw [Bool.true_and]
  refine Ev.congr (f:=fun k=>(garboardref01_Valid.f k a).bind fun t=>(if t = true then ((garboardref01_Valid.f k b).bind fun t142=>(garboardref01_both.j0 k a b (!t142))) else (garboardref01_both.j0 k a b true))) (fun k=>rfl) (Ev.bind va ?_)
  refine Ev.congr (f:=fun k=>((garboardref01_Valid.f k b).bind fun t142=>(garboardref01_both.j0 k a b (!t142)))) (fun k=>if_pos rfl) (Ev.bind vb ?_)
  cases hnb:nv b with
  | false =>
   rw [if_neg (by simp)]
   refine Ev.step (f:=fun k=>some ([],[],1)) (fun k=>?_) (Ev.now _)
   rw [garboardref01_both.j0,if_pos (by rfl)]
  | true =>
   rw [if_pos rfl]
   refine Ev.step (f:=fun k=>((garboardref01_From.f k a).bind fun t297=>((garboardref01_From.f k b).bind fun t300=>(some (t297,t300,0))))) (fun k=>?_) ?_
   ·rw [garboardref01_both.j0,if_neg (by simp)]
   ·exact Ev.bind (From_ev a (by omega) hna) (Ev.bind (From_ev b (by omega) hnb) (Ev.now _))
end Go.Proofs.YtaopmkcghancmaaDoor.Pr
namespace Go.Proofs.YtaopmkcghancmaaDoor.Pr
open Go.RowKit Go.Proofs.YtaopmkcghancmaaDoorW.PrintWords Go.Proofs.YtaopmkcghancmaaDoorW.PrintLast Go.Proofs.YtaopmkcghancmaaDoorW.PrintMore
attribute [local go_sem] max2_int min2_int max_two min_two max_three min_three max_four min_four
set_option linter.unusedVariables false
set_option linter.unusedSimpArgs false
mutual
def garboardref01_reduce.l0:Nat→List Int→List Int→Int→Int→Int→Int→Int→Int→Option (Int × List Int)
 | 0,_,_,_,_,_,_,_,_=>none
 | k + 1,x0,x1,x2,x3,x9,x10,x11,x12=>if x12 < x9 then (if 0≤x12 then (if x12 < (x1.length:Int) then (if 0≤(wrap64 (x2 + x12)) then (if (wrap64 (x2 + x12)) < (x0.length:Int) then (if (wrap64 ((wrap64 ((wrap64 (rd x0 (wrap64 (x2 + x12)))) - (wrap64 (Int.tmod (IntKind.u64.wrap ((IntKind.u64.wrap (x3 * (IntKind.u64.wrap (rd x1 x12)))) + x11)) 1000000000)))) - x10)) < 0 then (garboardref01_reduce.l0 k (x0.set ((wrap64 (x2 + x12)):Int).toNat ((wrap64 ((wrap64 ((wrap64 ((wrap64 (rd x0 (wrap64 (x2 + x12)))) - (wrap64 (Int.tmod (IntKind.u64.wrap ((IntKind.u64.wrap (x3 * (IntKind.u64.wrap (rd x1 x12)))) + x11)) 1000000000)))) - x10)) + 1000000000)) % 4294967296)) x1 x2 x3 x9 1 (IntKind.u64.wrap (Int.tdiv (IntKind.u64.wrap ((IntKind.u64.wrap (x3 * (IntKind.u64.wrap (rd x1 x12)))) + x11)) 1000000000)) (wrap64 (x12 + 1))) else (garboardref01_reduce.l0 k (x0.set ((wrap64 (x2 + x12)):Int).toNat ((wrap64 ((wrap64 ((wrap64 (rd x0 (wrap64 (x2 + x12)))) - (wrap64 (Int.tmod (IntKind.u64.wrap ((IntKind.u64.wrap (x3 * (IntKind.u64.wrap (rd x1 x12)))) + x11)) 1000000000)))) - x10)) % 4294967296)) x1 x2 x3 x9 0 (IntKind.u64.wrap (Int.tdiv (IntKind.u64.wrap ((IntKind.u64.wrap (x3 * (IntKind.u64.wrap (rd x1 x12)))) + x11)) 1000000000)) (wrap64 (x12 + 1)))) else (none)) else (none)) else (none)) else (none)) else (if 0≤(wrap64 (x2 + x9)) then (if (wrap64 (x2 + x9)) < (x0.length:Int) then (if (wrap64 ((wrap64 ((wrap64 (rd x0 (wrap64 (x2 + x9)))) - (wrap64 (x11)))) - x10)) ≥ 0 then (some ((x3) % 4294967296,(x0.set ((wrap64 (x2 + x9)):Int).toNat ((wrap64 ((wrap64 ((wrap64 (rd x0 (wrap64 (x2 + x9)))) - (wrap64 (x11)))) - x10)) % 4294967296)))) else (garboardref01_reduce.l1 k (x0.set ((wrap64 (x2 + x9)):Int).toNat ((wrap64 ((wrap64 ((wrap64 ((wrap64 (rd x0 (wrap64 (x2 + x9)))) - (wrap64 (x11)))) - x10)) + 1000000000)) % 4294967296)) x1 x2 x3 x9 0 0)) else (none)) else (none))
def garboardref01_reduce.l1:Nat→List Int→List Int→Int→Int→Int→Int→Int→Option (Int × List Int)
 | 0,_,_,_,_,_,_,_=>none
 | k + 1,x0,x1,x2,x3,x9,x16,x17=>if x17 < x9 then (if 0≤(wrap64 (x2 + x17)) then (if (wrap64 (x2 + x17)) < (x0.length:Int) then (if 0≤x17 then (if x17 < (x1.length:Int) then (garboardref01_reduce.l1 k (x0.set ((wrap64 (x2 + x17)):Int).toNat ((((((rd x0 (wrap64 (x2 + x17))) + (rd x1 x17)) % 4294967296) + x16) % 4294967296) % 1000000000)) x1 x2 x3 x9 ((((((rd x0 (wrap64 (x2 + x17))) + (rd x1 x17)) % 4294967296) + x16) % 4294967296) / 1000000000) (wrap64 (x17 + 1))) else (none)) else (none)) else (none)) else (none)) else (if 0≤(wrap64 (x2 + x9)) then (if (wrap64 (x2 + x9)) < (x0.length:Int) then (some ((IntKind.u64.wrap (x3 - 1)) % 4294967296,(x0.set ((wrap64 (x2 + x9)):Int).toNat ((((rd x0 (wrap64 (x2 + x9))) + x16) % 4294967296) % 1000000000)))) else (none)) else (none))
end
def garboardref01_reduce.f (k:Nat) (l0:List Int) (l1:List Int) (a2:Int) (a3:Int):Option (Int × List Int):=garboardref01_reduce.l0 k l0 l1 a2 a3 (l1.length:Int) 0 0 0
set_option maxHeartbeats 8000000 in
set_option maxRecDepth 100000 in
theorem garboardref01_reduce.calls (k:Nat) (P0_:Nat→Prop) (u9000_:Value) (l0:List Int) (A1:Option Addr) (c1:Nat) (l1:List Int) (a2:Int) (a3:Int) (r1:Int) (r2:List Int) (w0 w:World) (hB:Below w0.heap.size w0 w) (ho0:Kd.R (Kd.int .u32) 64 w w0.heap.size P0_ u9000_ l0) (hr1:∀ W_,Kept w W_ (fun k_=>P0_ k_)→Kd.C (Kd.int .u32) W_ A1 l1.length l1) (hc1:l1.length≤c1) (h:garboardref01_reduce.f k l0 l1 a2 a3 = some (r1,r2)) :
  Calls Tryd.prog 69 #[u9000_,.slice A1 l1.length c1,.int .i64 a2,.int .u64 a3] w fun e w'=>e = .returned (.int .u32 r1)∧Kd.R (Kd.int .u32) 64 w' w0.heap.size (fun k_=>(P0_ k_ ∨ w.heap.size≤k_)) u9000_ r2∧Below w0.heap.size w0 w'∧Kept w w' (fun k_=>P0_ k_):=by
 have HO0:=Aside0.mk (show Kd.R (Kd.int .u32) 64 w w0.heap.size (fun k_=>(P0_ k_ ∨ w.heap.size≤k_)) u9000_ l0 from Kd.R_mono ho0 (fun k_ hk=>(.inl hk)))
 have HR1:=Aside0.mk hr1
 have HC1:=Aside0.mk hc1
 clear hr1 hc1
 have HK:=Aside0.mk (Kept.refl w (fun k_=>P0_ k_))
 have HW0:=Aside0.mk hB.size
 have HB:=Aside0.mk hB
 clear hB
 have H:(garboardref01_reduce.l0 k l0 l1 a2 a3 (l1.length:Int) 0 0 0) = some (r1,r2):=h
 clear h
 have H':=Aside0.mk H
 clear H
 go_enter Tryd.func69,Tryd.ntmps69
 go_wp2
 repeat (go_quiet (fail);try go_wp2)
 go_loopg [10,11,12] k (fun kq v10 v11 v12 w'=>∃ (x0_1:List Int) (x10_1:Int) (x11_1:Int) (x12_1:Int),v10 = .int .i64 x10_1∧v11 = .int .u64 x11_1∧v12 = .int .i64 x12_1∧Aside0 (garboardref01_reduce.l0 kq x0_1 l1 a2 a3 (l1.length:Int) x10_1 x11_1 x12_1 = some (r1,r2))∧Aside0 (kq≤k)∧Aside0 (Kd.R (Kd.int .u32) 64 w' w0.heap.size (fun k_=>(P0_ k_ ∨ w.heap.size≤k_)) u9000_ x0_1)∧Aside0 (Kept w w' (fun k_=>P0_ k_))∧Aside0 (Below w0.heap.size w0 w'))
 case atStart=>exact ⟨(l0),(0),(0),(0),(by first|rfl|(simp;done)|(simp [*];done)),(by first|rfl|(simp;done)|(simp [*];done)),(by first|rfl|(simp;done)|(simp [*];done)),H',⟨Nat.le_refl _⟩,⟨by (with_reducible repeat (first|apply Kd.R_alloc|apply Kd.R_drewN|apply Kd.R_drew));exact HO0.out⟩,⟨by repeat (first|(with_reducible first|exact HK.out|apply Kept.alloc|apply Kept.drewN|apply Kept.drew)|exact HK.out)⟩,⟨by repeat (first|(with_reducible first|exact HB.out|apply below_alloc|apply pw_below_drewN|apply below_drew1)|exact HB.out)⟩⟩
 case round =>
  clear H'
  try clear c1
  try clear p2
  obtain ⟨x0_1,x10_1,x11_1,x12_1,rfl,rfl,rfl,HA,HK1,HO_0,HK,HB⟩:=hrel
  cases gk with
  | zero=>exact absurd HA.out (by simp [garboardref01_reduce.l0])
  | succ k1 =>
   have H:=HA.out
   clear HA
   simp only [garboardref01_reduce.l0] at H
   by_cases c5:x12_1 < (l1.length:Int)
   ·rw [if_pos c5] at H
    have c5b0:decide (x12_1 < (l1.length:Int)) = true:=decide_eq_true c5
    clear c5
    by_cases c6:0≤x12_1
    ·rw [if_pos c6] at H
     have c6b0:decide (0≤x12_1) = true:=decide_eq_true c6
     clear c6
     by_cases c7:x12_1 < (l1.length:Int)
     ·rw [if_pos c7] at H
      have c7b0:decide (x12_1 < (l1.length:Int)) = true:=decide_eq_true c7
      clear c7
      obtain ⟨ji8,hji8⟩:∃ j_:Int,(wrap64 (a2 + x12_1)) = j_:=⟨_,rfl⟩
      replace H:(if 0≤(ji8) then (if (ji8) < (x0_1.length:Int) then (if (wrap64 ((wrap64 ((wrap64 (rd x0_1 (ji8))) - (wrap64 (Int.tmod (IntKind.u64.wrap ((IntKind.u64.wrap (a3 * (IntKind.u64.wrap (rd l1 x12_1)))) + x11_1)) 1000000000)))) - x10_1)) < 0 then (garboardref01_reduce.l0 k1 (x0_1.set ((ji8):Int).toNat ((wrap64 ((wrap64 ((wrap64 ((wrap64 (rd x0_1 (ji8))) - (wrap64 (Int.tmod (IntKind.u64.wrap ((IntKind.u64.wrap (a3 * (IntKind.u64.wrap (rd l1 x12_1)))) + x11_1)) 1000000000)))) - x10_1)) + 1000000000)) % 4294967296)) l1 a2 a3 (l1.length:Int) 1 (IntKind.u64.wrap (Int.tdiv (IntKind.u64.wrap ((IntKind.u64.wrap (a3 * (IntKind.u64.wrap (rd l1 x12_1)))) + x11_1)) 1000000000)) (wrap64 (x12_1 + 1))) else (garboardref01_reduce.l0 k1 (x0_1.set ((ji8):Int).toNat ((wrap64 ((wrap64 ((wrap64 (rd x0_1 (ji8))) - (wrap64 (Int.tmod (IntKind.u64.wrap ((IntKind.u64.wrap (a3 * (IntKind.u64.wrap (rd l1 x12_1)))) + x11_1)) 1000000000)))) - x10_1)) % 4294967296)) l1 a2 a3 (l1.length:Int) 0 (IntKind.u64.wrap (Int.tdiv (IntKind.u64.wrap ((IntKind.u64.wrap (a3 * (IntKind.u64.wrap (rd l1 x12_1)))) + x11_1)) 1000000000)) (wrap64 (x12_1 + 1)))) else (none)) else (none)) = some (r1,r2):=by first|(rw [hji8] at H;exact H)|(simp only [hji8] at H ⊢;exact H)
      have hji8w:(IntKind.i64.wrap (a2 + x12_1)) = ji8:=(i64_w _).trans hji8
      by_cases c9:0≤(ji8)
      ·rw [if_pos c9] at H
       have c9b0:decide (0≤(ji8)) = true:=decide_eq_true c9
       clear c9
       by_cases c10:(ji8) < (x0_1.length:Int)
       ·rw [if_pos c10] at H
        have c10b0:decide ((ji8) < (x0_1.length:Int)) = true:=decide_eq_true c10
        clear c10
        by_cases c11:(wrap64 ((wrap64 ((wrap64 (rd x0_1 (ji8))) - (wrap64 (Int.tmod (IntKind.u64.wrap ((IntKind.u64.wrap (a3 * (IntKind.u64.wrap (rd l1 x12_1)))) + x11_1)) 1000000000)))) - x10_1)) < 0
        ·rw [if_pos c11] at H
         have c11b0:decide ((wrap64 ((wrap64 ((wrap64 (rd x0_1 (ji8))) - (wrap64 (Int.tmod (IntKind.u64.wrap ((IntKind.u64.wrap (a3 * (IntKind.u64.wrap (rd l1 x12_1)))) + x11_1)) 1000000000)))) - x10_1)) < 0) = true:=decide_eq_true c11
         clear c11
         obtain ⟨y452,hy452⟩:∃ y_:List Int,y_ = (x0_1.set ((ji8):Int).toNat ((wrap64 ((wrap64 ((wrap64 ((wrap64 (rd x0_1 (ji8))) - (wrap64 (Int.tmod (IntKind.u64.wrap ((IntKind.u64.wrap (a3 * (IntKind.u64.wrap (rd l1 x12_1)))) + x11_1)) 1000000000)))) - x10_1)) + 1000000000)) % 4294967296)):=⟨_,rfl⟩
         replace H:(garboardref01_reduce.l0 k1 y452 l1 a2 a3 (l1.length:Int) 1 (IntKind.u64.wrap (Int.tdiv (IntKind.u64.wrap ((IntKind.u64.wrap (a3 * (IntKind.u64.wrap (rd l1 x12_1)))) + x11_1)) 1000000000)) (wrap64 (x12_1 + 1))) = some (r1,r2):=by first|(rw [hy452];with_reducible exact H)|(have H2_:=(Option.bind_some _ _).symm.trans H;rw [hy452];with_reducible exact H2_)|(have H2_:=(Option.bind_some _ _).symm.trans H;with_reducible exact H2_)|with_reducible exact H|(rw [hy452];exact H)|exact H
         have Ny452:=Aside0.mk hy452
         clear hy452
         have H':=Aside0.mk H
         clear H
         have p450:0≤(x12_1:Int):=of_decide_eq_true (by first|(with_reducible assumption)|assumption)
         have q450:x12_1 < (l1.length:Int):=of_decide_eq_true (by first|(with_reducible assumption)|assumption)
         obtain ⟨ad450,e450,hx450_0⟩:=Kd.at_int (Kd.C_kept_now HR1.out HK.out) x12_1 p450 q450
         cases e450
         replace p450:=eq_true p450
         replace q450:=eq_true q450
         obtain ⟨Ao13,co13,eo13⟩:=Kd.R_slice HO_0.out
         subst eo13
         have p451:0≤((ji8):Int):=of_decide_eq_true (by first|(with_reducible assumption)|assumption)
         have q451:(ji8) < (x0_1.length:Int):=of_decide_eq_true (by first|(with_reducible assumption)|assumption)
         obtain ⟨ad451,e451,hx451_0⟩:=Kd.at_int (Kd.R_reads' HO_0.out).2.2 (ji8) p451 q451
         cases e451
         replace p451:=eq_true p451
         replace q451:=eq_true q451
         have p12:0≤((ji8):Int):=of_decide_eq_true (by first|(with_reducible assumption)|assumption)
         have q12:((ji8):Int) < ((x0_1.length:Int):Int):=of_decide_eq_true (by first|(with_reducible assumption)|assumption)
         obtain ⟨go12,co12,eo12,gb12,gl12,cl12,HG12⟩:=Kd.R_form HO_0.out (by omega)
         (first|cases eo12|(injection eo12 with ea_ en_ ec_;(first|subst ea_|(injection ea_ with ea_;subst ea_));subst ec_;clear en_))
         have GB12:=Aside0.mk gb12
         have GG12:=Aside0.mk HG12
         clear gb12 gl12 HG12
         have HMgo12:=Aside0.mk (show (P0_ go12 ∨ w.heap.size≤go12) from (HO_0.out.1 _ rfl))
         (first|simp only [add_plain] at hx451_0|skip)
         obtain ⟨hx12_0,hf12_0⟩:=Kd.R_celln 0 HO_0.out ((ji8):Int) p12 q12
         replace p12:=eq_true p12
         replace q12:=eq_true q12
         have HP14:=Kd.R_putg HO_0.out ((ji8):Int) ((wrap64 ((wrap64 ((wrap64 ((wrap64 (rd x0_1 (ji8))) - (wrap64 (Int.tmod (IntKind.u64.wrap ((IntKind.u64.wrap (a3 * (IntKind.u64.wrap (rd l1 x12_1)))) + x11_1)) 1000000000)))) - x10_1)) + 1000000000)) % 4294967296)
         go_wp2_with (first|((with_reducible refine gate_store (t:=64) (p:=60) rfl ?_);(try (rw [drewN_self wr];generalize hq_:World.drewN wr _ = wr;have n0_:=Aside0.mk (Kd.R_at hq_ HO_0.out);have n1_:=Aside0.mk (kept_at hq_ HK.out);have n2_:=Aside0.mk (below_at hq_ HB.out);clear hq_ HO_0 HK HB;have HO_0:=n0_;have HK:=n1_;have HB:=n2_;clear n0_ n1_ n2_;(try (have HP14:=Kd.R_putg HO_0.out ((ji8):Int) ((wrap64 ((wrap64 ((wrap64 ((wrap64 (rd x0_1 (ji8))) - (wrap64 (Int.tmod (IntKind.u64.wrap ((IntKind.u64.wrap (a3 * (IntKind.u64.wrap (rd l1 x12_1)))) + x11_1)) 1000000000)))) - x10_1)) + 1000000000)) % 4294967296)))));refine store_event (t:=64) (p:=60) (v:=?vo_w15) (w1:=(wr.setCell ⟨go12,((ji8):Int).toNat,none⟩ (.int .u32 ((wrap64 ((wrap64 ((wrap64 ((wrap64 (rd x0_1 (ji8))) - (wrap64 (Int.tmod (IntKind.u64.wrap ((IntKind.u64.wrap (a3 * (IntKind.u64.wrap (rd l1 x12_1)))) + x11_1)) 1000000000)))) - x10_1)) + 1000000000)) % 4294967296)))) ?hg ?ho ?hn ?hr ?_;(case ho=>rfl);(case hg=>rfl);(case hn=>rfl);(case hr=>first|(go_simp;done)|(go_simp;rfl));intro w15 hw;have hg:wr.grownBy w15 (some go12):=(by rw [hw];exact HP14.2);have hp_:Kd.R (Kd.int .u32) 64 w15 w0.heap.size (fun k_=>(P0_ k_ ∨ w.heap.size≤k_)) (.slice (some ⟨go12,0,none⟩) x0_1.length co13) y452:=(by rw [hw,Ny452.out];exact HP14.1);clear HP14;have n0_:=Aside0.mk (hp_);have n1_:=Aside0.mk ((by rw [hw];exact below_set (HB.out) GB12.out:Below w0.heap.size w0 w15));have n2_:=Aside0.mk (Kept.of_grown (S:=(fun k_=>P0_ k_)) hg (by repeat (first|(with_reducible first|exact HK.out|apply Kept.alloc|apply Kept.drewN|apply Kept.drew)|exact HK.out)) (fun k_ e_=>(HO_0.out.1 k_ e_)));clear HO_0;clear HB;clear HK;have HO_0:=n0_;have HB:=n1_;have HK:=n2_;clear n0_ n1_ n2_;clear hg hw hp_))
         repeat (go_quiet (first|((with_reducible refine gate_store (t:=64) (p:=60) rfl ?_);(try (rw [drewN_self wr];generalize hq_:World.drewN wr _ = wr;have n0_:=Aside0.mk (Kd.R_at hq_ HO_0.out);have n1_:=Aside0.mk (kept_at hq_ HK.out);have n2_:=Aside0.mk (below_at hq_ HB.out);clear hq_ HO_0 HK HB;have HO_0:=n0_;have HK:=n1_;have HB:=n2_;clear n0_ n1_ n2_;(try (have HP14:=Kd.R_putg HO_0.out ((ji8):Int) ((wrap64 ((wrap64 ((wrap64 ((wrap64 (rd x0_1 (ji8))) - (wrap64 (Int.tmod (IntKind.u64.wrap ((IntKind.u64.wrap (a3 * (IntKind.u64.wrap (rd l1 x12_1)))) + x11_1)) 1000000000)))) - x10_1)) + 1000000000)) % 4294967296)))));refine store_event (t:=64) (p:=60) (v:=?vo_w15) (w1:=(wr.setCell ⟨go12,((ji8):Int).toNat,none⟩ (.int .u32 ((wrap64 ((wrap64 ((wrap64 ((wrap64 (rd x0_1 (ji8))) - (wrap64 (Int.tmod (IntKind.u64.wrap ((IntKind.u64.wrap (a3 * (IntKind.u64.wrap (rd l1 x12_1)))) + x11_1)) 1000000000)))) - x10_1)) + 1000000000)) % 4294967296)))) ?hg ?ho ?hn ?hr ?_;(case ho=>rfl);(case hg=>rfl);(case hn=>rfl);(case hr=>first|(go_simp;done)|(go_simp;rfl));intro w15 hw;have hg:wr.grownBy w15 (some go12):=(by rw [hw];exact HP14.2);have hp_:Kd.R (Kd.int .u32) 64 w15 w0.heap.size (fun k_=>(P0_ k_ ∨ w.heap.size≤k_)) (.slice (some ⟨go12,0,none⟩) x0_1.length co13) y452:=(by rw [hw,Ny452.out];exact HP14.1);clear HP14;have n0_:=Aside0.mk (hp_);have n1_:=Aside0.mk ((by rw [hw];exact below_set (HB.out) GB12.out:Below w0.heap.size w0 w15));have n2_:=Aside0.mk (Kept.of_grown (S:=(fun k_=>P0_ k_)) hg (by repeat (first|(with_reducible first|exact HK.out|apply Kept.alloc|apply Kept.drewN|apply Kept.drew)|exact HK.out)) (fun k_ e_=>(HO_0.out.1 k_ e_)));clear HO_0;clear HB;clear HK;have HO_0:=n0_;have HB:=n1_;have HK:=n2_;clear n0_ n1_ n2_;clear hg hw hp_));try go_wp2_with (first|((with_reducible refine gate_store (t:=64) (p:=60) rfl ?_);(try (rw [drewN_self wr];generalize hq_:World.drewN wr _ = wr;have n0_:=Aside0.mk (Kd.R_at hq_ HO_0.out);have n1_:=Aside0.mk (kept_at hq_ HK.out);have n2_:=Aside0.mk (below_at hq_ HB.out);clear hq_ HO_0 HK HB;have HO_0:=n0_;have HK:=n1_;have HB:=n2_;clear n0_ n1_ n2_;(try (have HP14:=Kd.R_putg HO_0.out ((ji8):Int) ((wrap64 ((wrap64 ((wrap64 ((wrap64 (rd x0_1 (ji8))) - (wrap64 (Int.tmod (IntKind.u64.wrap ((IntKind.u64.wrap (a3 * (IntKind.u64.wrap (rd l1 x12_1)))) + x11_1)) 1000000000)))) - x10_1)) + 1000000000)) % 4294967296)))));refine store_event (t:=64) (p:=60) (v:=?vo_w15) (w1:=(wr.setCell ⟨go12,((ji8):Int).toNat,none⟩ (.int .u32 ((wrap64 ((wrap64 ((wrap64 ((wrap64 (rd x0_1 (ji8))) - (wrap64 (Int.tmod (IntKind.u64.wrap ((IntKind.u64.wrap (a3 * (IntKind.u64.wrap (rd l1 x12_1)))) + x11_1)) 1000000000)))) - x10_1)) + 1000000000)) % 4294967296)))) ?hg ?ho ?hn ?hr ?_;(case ho=>rfl);(case hg=>rfl);(case hn=>rfl);(case hr=>first|(go_simp;done)|(go_simp;rfl));intro w15 hw;have hg:wr.grownBy w15 (some go12):=(by rw [hw];exact HP14.2);have hp_:Kd.R (Kd.int .u32) 64 w15 w0.heap.size (fun k_=>(P0_ k_ ∨ w.heap.size≤k_)) (.slice (some ⟨go12,0,none⟩) x0_1.length co13) y452:=(by rw [hw,Ny452.out];exact HP14.1);clear HP14;have n0_:=Aside0.mk (hp_);have n1_:=Aside0.mk ((by rw [hw];exact below_set (HB.out) GB12.out:Below w0.heap.size w0 w15));have n2_:=Aside0.mk (Kept.of_grown (S:=(fun k_=>P0_ k_)) hg (by repeat (first|(with_reducible first|exact HK.out|apply Kept.alloc|apply Kept.drewN|apply Kept.drew)|exact HK.out)) (fun k_ e_=>(HO_0.out.1 k_ e_)));clear HO_0;clear HB;clear HK;have HO_0:=n0_;have HB:=n1_;have HK:=n2_;clear n0_ n1_ n2_;clear hg hw hp_)))
         go_roundg k1
         case measure=>have:=HK1.out;omega
         case rel=>exact ⟨(y452),(1),(IntKind.u64.wrap (Int.tdiv (IntKind.u64.wrap ((IntKind.u64.wrap (a3 * (IntKind.u64.wrap (rd l1 x12_1)))) + x11_1)) 1000000000)),(wrap64 (x12_1 + 1)),(by first|rfl|(simp;done)|(simp [*];done)),(by first|rfl|(simp;done)|(simp [*];done)),(by first|rfl|(simp;done)|(simp [*];done)),H',⟨by have:=HK1.out;omega⟩,⟨by (with_reducible repeat (first|apply Kd.R_alloc|apply Kd.R_drewN|apply Kd.R_drew));first|exact HO_0.out|(rw [Ny452.out];exact (Kd.R_putg (by first|exact Kd.R_drewN HO_0.out _|(apply Kd.R_drewN;exact HO_0.out)) ((ji8):Int) ((wrap64 ((wrap64 ((wrap64 ((wrap64 (rd x0_1 (ji8))) - (wrap64 (Int.tmod (IntKind.u64.wrap ((IntKind.u64.wrap (a3 * (IntKind.u64.wrap (rd l1 x12_1)))) + x11_1)) 1000000000)))) - x10_1)) + 1000000000)) % 4294967296)).1)|(rw [Ny452.out];exact (Kd.R_putg HO_0.out ((ji8):Int) ((wrap64 ((wrap64 ((wrap64 ((wrap64 (rd x0_1 (ji8))) - (wrap64 (Int.tmod (IntKind.u64.wrap ((IntKind.u64.wrap (a3 * (IntKind.u64.wrap (rd l1 x12_1)))) + x11_1)) 1000000000)))) - x10_1)) + 1000000000)) % 4294967296)).1)⟩,⟨by repeat (first|(with_reducible first|exact HK.out|apply Kept.alloc|apply Kept.drewN|apply Kept.drew)|exact HK.out)⟩,⟨by first|(exact below_set (by repeat (first|(with_reducible first|exact HB.out|apply below_alloc|apply pw_below_drewN|apply below_drew1)|exact HB.out)) GB12.out)|(repeat (first|(with_reducible first|exact HB.out|apply below_alloc|apply pw_below_drewN|apply below_drew1)|exact HB.out))⟩⟩
        ·rw [if_neg c11] at H
         have c11b0:decide ((wrap64 ((wrap64 ((wrap64 (rd x0_1 (ji8))) - (wrap64 (Int.tmod (IntKind.u64.wrap ((IntKind.u64.wrap (a3 * (IntKind.u64.wrap (rd l1 x12_1)))) + x11_1)) 1000000000)))) - x10_1)) < 0) = false:=decide_eq_false c11
         clear c11
         obtain ⟨y453,hy453⟩:∃ y_:List Int,y_ = (x0_1.set ((ji8):Int).toNat ((wrap64 ((wrap64 ((wrap64 (rd x0_1 (ji8))) - (wrap64 (Int.tmod (IntKind.u64.wrap ((IntKind.u64.wrap (a3 * (IntKind.u64.wrap (rd l1 x12_1)))) + x11_1)) 1000000000)))) - x10_1)) % 4294967296)):=⟨_,rfl⟩
         replace H:(garboardref01_reduce.l0 k1 y453 l1 a2 a3 (l1.length:Int) 0 (IntKind.u64.wrap (Int.tdiv (IntKind.u64.wrap ((IntKind.u64.wrap (a3 * (IntKind.u64.wrap (rd l1 x12_1)))) + x11_1)) 1000000000)) (wrap64 (x12_1 + 1))) = some (r1,r2):=by first|(rw [hy453];with_reducible exact H)|(have H2_:=(Option.bind_some _ _).symm.trans H;rw [hy453];with_reducible exact H2_)|(have H2_:=(Option.bind_some _ _).symm.trans H;with_reducible exact H2_)|with_reducible exact H|(rw [hy453];exact H)|exact H
         have Ny453:=Aside0.mk hy453
         clear hy453
         have H':=Aside0.mk H
         clear H
         have p450:0≤(x12_1:Int):=of_decide_eq_true (by first|(with_reducible assumption)|assumption)
         have q450:x12_1 < (l1.length:Int):=of_decide_eq_true (by first|(with_reducible assumption)|assumption)
         obtain ⟨ad450,e450,hx450_0⟩:=Kd.at_int (Kd.C_kept_now HR1.out HK.out) x12_1 p450 q450
         cases e450
         replace p450:=eq_true p450
         replace q450:=eq_true q450
         obtain ⟨Ao17,co17,eo17⟩:=Kd.R_slice HO_0.out
         subst eo17
         have p451:0≤((ji8):Int):=of_decide_eq_true (by first|(with_reducible assumption)|assumption)
         have q451:(ji8) < (x0_1.length:Int):=of_decide_eq_true (by first|(with_reducible assumption)|assumption)
         obtain ⟨ad451,e451,hx451_0⟩:=Kd.at_int (Kd.R_reads' HO_0.out).2.2 (ji8) p451 q451
         cases e451
         replace p451:=eq_true p451
         replace q451:=eq_true q451
         have p16:0≤((ji8):Int):=of_decide_eq_true (by first|(with_reducible assumption)|assumption)
         have q16:((ji8):Int) < ((x0_1.length:Int):Int):=of_decide_eq_true (by first|(with_reducible assumption)|assumption)
         obtain ⟨go16,co16,eo16,gb16,gl16,cl16,HG16⟩:=Kd.R_form HO_0.out (by omega)
         (first|cases eo16|(injection eo16 with ea_ en_ ec_;(first|subst ea_|(injection ea_ with ea_;subst ea_));subst ec_;clear en_))
         have GB16:=Aside0.mk gb16
         have GG16:=Aside0.mk HG16
         clear gb16 gl16 HG16
         have HMgo16:=Aside0.mk (show (P0_ go16 ∨ w.heap.size≤go16) from (HO_0.out.1 _ rfl))
         (first|simp only [add_plain] at hx451_0|skip)
         obtain ⟨hx16_0,hf16_0⟩:=Kd.R_celln 0 HO_0.out ((ji8):Int) p16 q16
         replace p16:=eq_true p16
         replace q16:=eq_true q16
         have HP18:=Kd.R_putg HO_0.out ((ji8):Int) ((wrap64 ((wrap64 ((wrap64 (rd x0_1 (ji8))) - (wrap64 (Int.tmod (IntKind.u64.wrap ((IntKind.u64.wrap (a3 * (IntKind.u64.wrap (rd l1 x12_1)))) + x11_1)) 1000000000)))) - x10_1)) % 4294967296)
         go_wp2_with (first|((with_reducible refine gate_store (t:=64) (p:=60) rfl ?_);(try (rw [drewN_self wr];generalize hq_:World.drewN wr _ = wr;have n0_:=Aside0.mk (Kd.R_at hq_ HO_0.out);have n1_:=Aside0.mk (kept_at hq_ HK.out);have n2_:=Aside0.mk (below_at hq_ HB.out);clear hq_ HO_0 HK HB;have HO_0:=n0_;have HK:=n1_;have HB:=n2_;clear n0_ n1_ n2_;(try (have HP18:=Kd.R_putg HO_0.out ((ji8):Int) ((wrap64 ((wrap64 ((wrap64 (rd x0_1 (ji8))) - (wrap64 (Int.tmod (IntKind.u64.wrap ((IntKind.u64.wrap (a3 * (IntKind.u64.wrap (rd l1 x12_1)))) + x11_1)) 1000000000)))) - x10_1)) % 4294967296)))));refine store_event (t:=64) (p:=60) (v:=?vo_w19) (w1:=(wr.setCell ⟨go16,((ji8):Int).toNat,none⟩ (.int .u32 ((wrap64 ((wrap64 ((wrap64 (rd x0_1 (ji8))) - (wrap64 (Int.tmod (IntKind.u64.wrap ((IntKind.u64.wrap (a3 * (IntKind.u64.wrap (rd l1 x12_1)))) + x11_1)) 1000000000)))) - x10_1)) % 4294967296)))) ?hg ?ho ?hn ?hr ?_;(case ho=>rfl);(case hg=>rfl);(case hn=>rfl);(case hr=>first|(go_simp;done)|(go_simp;rfl));intro w19 hw;have hg:wr.grownBy w19 (some go16):=(by rw [hw];exact HP18.2);have hp_:Kd.R (Kd.int .u32) 64 w19 w0.heap.size (fun k_=>(P0_ k_ ∨ w.heap.size≤k_)) (.slice (some ⟨go16,0,none⟩) x0_1.length co17) y453:=(by rw [hw,Ny453.out];exact HP18.1);clear HP18;have n0_:=Aside0.mk (hp_);have n1_:=Aside0.mk ((by rw [hw];exact below_set (HB.out) GB16.out:Below w0.heap.size w0 w19));have n2_:=Aside0.mk (Kept.of_grown (S:=(fun k_=>P0_ k_)) hg (by repeat (first|(with_reducible first|exact HK.out|apply Kept.alloc|apply Kept.drewN|apply Kept.drew)|exact HK.out)) (fun k_ e_=>(HO_0.out.1 k_ e_)));clear HO_0;clear HB;clear HK;have HO_0:=n0_;have HB:=n1_;have HK:=n2_;clear n0_ n1_ n2_;clear hg hw hp_))
         repeat (go_quiet (first|((with_reducible refine gate_store (t:=64) (p:=60) rfl ?_);(try (rw [drewN_self wr];generalize hq_:World.drewN wr _ = wr;have n0_:=Aside0.mk (Kd.R_at hq_ HO_0.out);have n1_:=Aside0.mk (kept_at hq_ HK.out);have n2_:=Aside0.mk (below_at hq_ HB.out);clear hq_ HO_0 HK HB;have HO_0:=n0_;have HK:=n1_;have HB:=n2_;clear n0_ n1_ n2_;(try (have HP18:=Kd.R_putg HO_0.out ((ji8):Int) ((wrap64 ((wrap64 ((wrap64 (rd x0_1 (ji8))) - (wrap64 (Int.tmod (IntKind.u64.wrap ((IntKind.u64.wrap (a3 * (IntKind.u64.wrap (rd l1 x12_1)))) + x11_1)) 1000000000)))) - x10_1)) % 4294967296)))));refine store_event (t:=64) (p:=60) (v:=?vo_w19) (w1:=(wr.setCell ⟨go16,((ji8):Int).toNat,none⟩ (.int .u32 ((wrap64 ((wrap64 ((wrap64 (rd x0_1 (ji8))) - (wrap64 (Int.tmod (IntKind.u64.wrap ((IntKind.u64.wrap (a3 * (IntKind.u64.wrap (rd l1 x12_1)))) + x11_1)) 1000000000)))) - x10_1)) % 4294967296)))) ?hg ?ho ?hn ?hr ?_;(case ho=>rfl);(case hg=>rfl);(case hn=>rfl);(case hr=>first|(go_simp;done)|(go_simp;rfl));intro w19 hw;have hg:wr.grownBy w19 (some go16):=(by rw [hw];exact HP18.2);have hp_:Kd.R (Kd.int .u32) 64 w19 w0.heap.size (fun k_=>(P0_ k_ ∨ w.heap.size≤k_)) (.slice (some ⟨go16,0,none⟩) x0_1.length co17) y453:=(by rw [hw,Ny453.out];exact HP18.1);clear HP18;have n0_:=Aside0.mk (hp_);have n1_:=Aside0.mk ((by rw [hw];exact below_set (HB.out) GB16.out:Below w0.heap.size w0 w19));have n2_:=Aside0.mk (Kept.of_grown (S:=(fun k_=>P0_ k_)) hg (by repeat (first|(with_reducible first|exact HK.out|apply Kept.alloc|apply Kept.drewN|apply Kept.drew)|exact HK.out)) (fun k_ e_=>(HO_0.out.1 k_ e_)));clear HO_0;clear HB;clear HK;have HO_0:=n0_;have HB:=n1_;have HK:=n2_;clear n0_ n1_ n2_;clear hg hw hp_));try go_wp2_with (first|((with_reducible refine gate_store (t:=64) (p:=60) rfl ?_);(try (rw [drewN_self wr];generalize hq_:World.drewN wr _ = wr;have n0_:=Aside0.mk (Kd.R_at hq_ HO_0.out);have n1_:=Aside0.mk (kept_at hq_ HK.out);have n2_:=Aside0.mk (below_at hq_ HB.out);clear hq_ HO_0 HK HB;have HO_0:=n0_;have HK:=n1_;have HB:=n2_;clear n0_ n1_ n2_;(try (have HP18:=Kd.R_putg HO_0.out ((ji8):Int) ((wrap64 ((wrap64 ((wrap64 (rd x0_1 (ji8))) - (wrap64 (Int.tmod (IntKind.u64.wrap ((IntKind.u64.wrap (a3 * (IntKind.u64.wrap (rd l1 x12_1)))) + x11_1)) 1000000000)))) - x10_1)) % 4294967296)))));refine store_event (t:=64) (p:=60) (v:=?vo_w19) (w1:=(wr.setCell ⟨go16,((ji8):Int).toNat,none⟩ (.int .u32 ((wrap64 ((wrap64 ((wrap64 (rd x0_1 (ji8))) - (wrap64 (Int.tmod (IntKind.u64.wrap ((IntKind.u64.wrap (a3 * (IntKind.u64.wrap (rd l1 x12_1)))) + x11_1)) 1000000000)))) - x10_1)) % 4294967296)))) ?hg ?ho ?hn ?hr ?_;(case ho=>rfl);(case hg=>rfl);(case hn=>rfl);(case hr=>first|(go_simp;done)|(go_simp;rfl));intro w19 hw;have hg:wr.grownBy w19 (some go16):=(by rw [hw];exact HP18.2);have hp_:Kd.R (Kd.int .u32) 64 w19 w0.heap.size (fun k_=>(P0_ k_ ∨ w.heap.size≤k_)) (.slice (some ⟨go16,0,none⟩) x0_1.length co17) y453:=(by rw [hw,Ny453.out];exact HP18.1);clear HP18;have n0_:=Aside0.mk (hp_);have n1_:=Aside0.mk ((by rw [hw];exact below_set (HB.out) GB16.out:Below w0.heap.size w0 w19));have n2_:=Aside0.mk (Kept.of_grown (S:=(fun k_=>P0_ k_)) hg (by repeat (first|(with_reducible first|exact HK.out|apply Kept.alloc|apply Kept.drewN|apply Kept.drew)|exact HK.out)) (fun k_ e_=>(HO_0.out.1 k_ e_)));clear HO_0;clear HB;clear HK;have HO_0:=n0_;have HB:=n1_;have HK:=n2_;clear n0_ n1_ n2_;clear hg hw hp_)))
         go_roundg k1
         case measure=>have:=HK1.out;omega
         case rel=>exact ⟨(y453),(0),(IntKind.u64.wrap (Int.tdiv (IntKind.u64.wrap ((IntKind.u64.wrap (a3 * (IntKind.u64.wrap (rd l1 x12_1)))) + x11_1)) 1000000000)),(wrap64 (x12_1 + 1)),(by first|rfl|(simp;done)|(simp [*];done)),(by first|rfl|(simp;done)|(simp [*];done)),(by first|rfl|(simp;done)|(simp [*];done)),H',⟨by have:=HK1.out;omega⟩,⟨by (with_reducible repeat (first|apply Kd.R_alloc|apply Kd.R_drewN|apply Kd.R_drew));first|exact HO_0.out|(rw [Ny453.out];exact (Kd.R_putg (by first|exact Kd.R_drewN HO_0.out _|(apply Kd.R_drewN;exact HO_0.out)) ((ji8):Int) ((wrap64 ((wrap64 ((wrap64 (rd x0_1 (ji8))) - (wrap64 (Int.tmod (IntKind.u64.wrap ((IntKind.u64.wrap (a3 * (IntKind.u64.wrap (rd l1 x12_1)))) + x11_1)) 1000000000)))) - x10_1)) % 4294967296)).1)|(rw [Ny453.out];exact (Kd.R_putg HO_0.out ((ji8):Int) ((wrap64 ((wrap64 ((wrap64 (rd x0_1 (ji8))) - (wrap64 (Int.tmod (IntKind.u64.wrap ((IntKind.u64.wrap (a3 * (IntKind.u64.wrap (rd l1 x12_1)))) + x11_1)) 1000000000)))) - x10_1)) % 4294967296)).1)⟩,⟨by repeat (first|(with_reducible first|exact HK.out|apply Kept.alloc|apply Kept.drewN|apply Kept.drew)|exact HK.out)⟩,⟨by first|(exact below_set (by repeat (first|(with_reducible first|exact HB.out|apply below_alloc|apply pw_below_drewN|apply below_drew1)|exact HB.out)) GB16.out)|(repeat (first|(with_reducible first|exact HB.out|apply below_alloc|apply pw_below_drewN|apply below_drew1)|exact HB.out))⟩⟩
       ·rw [if_neg c10] at H
        exact absurd H (by simp)
      ·rw [if_neg c9] at H
       exact absurd H (by simp)
     ·rw [if_neg c7] at H
      exact absurd H (by simp)
    ·rw [if_neg c6] at H
     exact absurd H (by simp)
   ·rw [if_neg c5] at H
    have c5b0:decide (x12_1 < (l1.length:Int)) = false:=decide_eq_false c5
    clear c5
    obtain ⟨ji20,hji20⟩:∃ j_:Int,(wrap64 (a2 + (l1.length:Int))) = j_:=⟨_,rfl⟩
    replace H:(if 0≤(ji20) then (if (ji20) < (x0_1.length:Int) then (if (wrap64 ((wrap64 ((wrap64 (rd x0_1 (ji20))) - (wrap64 (x11_1)))) - x10_1)) ≥ 0 then (some ((a3) % 4294967296,(x0_1.set ((ji20):Int).toNat ((wrap64 ((wrap64 ((wrap64 (rd x0_1 (ji20))) - (wrap64 (x11_1)))) - x10_1)) % 4294967296)))) else (garboardref01_reduce.l1 k1 (x0_1.set ((ji20):Int).toNat ((wrap64 ((wrap64 ((wrap64 ((wrap64 (rd x0_1 (ji20))) - (wrap64 (x11_1)))) - x10_1)) + 1000000000)) % 4294967296)) l1 a2 a3 (l1.length:Int) 0 0)) else (none)) else (none)) = some (r1,r2):=by first|(rw [hji20] at H;exact H)|(simp only [hji20] at H ⊢;exact H)
    have hji20w:(IntKind.i64.wrap (a2 + (l1.length:Int))) = ji20:=(i64_w _).trans hji20
    by_cases c21:0≤(ji20)
    ·rw [if_pos c21] at H
     have c21b0:decide (0≤(ji20)) = true:=decide_eq_true c21
     clear c21
     by_cases c22:(ji20) < (x0_1.length:Int)
     ·rw [if_pos c22] at H
      have c22b0:decide ((ji20) < (x0_1.length:Int)) = true:=decide_eq_true c22
      clear c22
      by_cases c23:(wrap64 ((wrap64 ((wrap64 (rd x0_1 (ji20))) - (wrap64 (x11_1)))) - x10_1)) ≥ 0
      ·rw [if_pos c23] at H
       have c23b0:decide (0≤(wrap64 ((wrap64 ((wrap64 (rd x0_1 (ji20))) - (wrap64 (x11_1)))) - x10_1))) = true:=decide_eq_true c23
       clear c23
       obtain ⟨y455,hy455⟩:∃ y_:List Int,y_ = (x0_1.set ((ji20):Int).toNat ((wrap64 ((wrap64 ((wrap64 (rd x0_1 (ji20))) - (wrap64 (x11_1)))) - x10_1)) % 4294967296)):=⟨_,rfl⟩
       replace H:(some ((a3) % 4294967296,y455)) = some (r1,r2):=by first|(rw [hy455];with_reducible exact H)|(have H2_:=(Option.bind_some _ _).symm.trans H;rw [hy455];with_reducible exact H2_)|(have H2_:=(Option.bind_some _ _).symm.trans H;with_reducible exact H2_)|with_reducible exact H|(rw [hy455];exact H)|exact H
       have Ny455:=Aside0.mk hy455
       clear hy455
       simp only [Option.some.injEq,Prod.mk.injEq] at H
       obtain ⟨rfl,rfl⟩:=H
       obtain ⟨Ao25,co25,eo25⟩:=Kd.R_slice HO_0.out
       subst eo25
       have p454:0≤((ji20):Int):=of_decide_eq_true (by first|(with_reducible assumption)|assumption)
       have q454:(ji20) < (x0_1.length:Int):=of_decide_eq_true (by first|(with_reducible assumption)|assumption)
       obtain ⟨ad454,e454,hx454_0⟩:=Kd.at_int (Kd.R_reads' HO_0.out).2.2 (ji20) p454 q454
       cases e454
       replace p454:=eq_true p454
       replace q454:=eq_true q454
       have p24:0≤((ji20):Int):=of_decide_eq_true (by first|(with_reducible assumption)|assumption)
       have q24:((ji20):Int) < ((x0_1.length:Int):Int):=of_decide_eq_true (by first|(with_reducible assumption)|assumption)
       obtain ⟨go24,co24,eo24,gb24,gl24,cl24,HG24⟩:=Kd.R_form HO_0.out (by omega)
       (first|cases eo24|(injection eo24 with ea_ en_ ec_;(first|subst ea_|(injection ea_ with ea_;subst ea_));subst ec_;clear en_))
       have GB24:=Aside0.mk gb24
       have GG24:=Aside0.mk HG24
       clear gb24 gl24 HG24
       have HMgo24:=Aside0.mk (show (P0_ go24 ∨ w.heap.size≤go24) from (HO_0.out.1 _ rfl))
       (first|simp only [add_plain] at hx454_0|skip)
       obtain ⟨hx24_0,hf24_0⟩:=Kd.R_celln 0 HO_0.out ((ji20):Int) p24 q24
       replace p24:=eq_true p24
       replace q24:=eq_true q24
       have HP26:=Kd.R_putg HO_0.out ((ji20):Int) ((wrap64 ((wrap64 ((wrap64 (rd x0_1 (ji20))) - (wrap64 (x11_1)))) - x10_1)) % 4294967296)
       go_wp2_with (first|((with_reducible refine gate_store (t:=64) (p:=81) rfl ?_);(try (rw [drewN_self wr];generalize hq_:World.drewN wr _ = wr;have n0_:=Aside0.mk (Kd.R_at hq_ HO_0.out);have n1_:=Aside0.mk (kept_at hq_ HK.out);have n2_:=Aside0.mk (below_at hq_ HB.out);clear hq_ HO_0 HK HB;have HO_0:=n0_;have HK:=n1_;have HB:=n2_;clear n0_ n1_ n2_;(try (have HP26:=Kd.R_putg HO_0.out ((ji20):Int) ((wrap64 ((wrap64 ((wrap64 (rd x0_1 (ji20))) - (wrap64 (x11_1)))) - x10_1)) % 4294967296)))));refine store_event (t:=64) (p:=81) (v:=?vo_w27) (w1:=(wr.setCell ⟨go24,((ji20):Int).toNat,none⟩ (.int .u32 ((wrap64 ((wrap64 ((wrap64 (rd x0_1 (ji20))) - (wrap64 (x11_1)))) - x10_1)) % 4294967296)))) ?hg ?ho ?hn ?hr ?_;(case ho=>rfl);(case hg=>rfl);(case hn=>rfl);(case hr=>first|(go_simp;done)|(go_simp;rfl));intro w27 hw;have hg:wr.grownBy w27 (some go24):=(by rw [hw];exact HP26.2);have hp_:Kd.R (Kd.int .u32) 64 w27 w0.heap.size (fun k_=>(P0_ k_ ∨ w.heap.size≤k_)) (.slice (some ⟨go24,0,none⟩) x0_1.length co25) y455:=(by rw [hw,Ny455.out];exact HP26.1);clear HP26;have n0_:=Aside0.mk (hp_);have n1_:=Aside0.mk ((by rw [hw];exact below_set (HB.out) GB24.out:Below w0.heap.size w0 w27));have n2_:=Aside0.mk (Kept.of_grown (S:=(fun k_=>P0_ k_)) hg (by repeat (first|(with_reducible first|exact HK.out|apply Kept.alloc|apply Kept.drewN|apply Kept.drew)|exact HK.out)) (fun k_ e_=>(HO_0.out.1 k_ e_)));clear HO_0;clear HB;clear HK;have HO_0:=n0_;have HB:=n1_;have HK:=n2_;clear n0_ n1_ n2_;clear hg hw hp_))
       repeat (go_quiet (first|((with_reducible refine gate_store (t:=64) (p:=81) rfl ?_);(try (rw [drewN_self wr];generalize hq_:World.drewN wr _ = wr;have n0_:=Aside0.mk (Kd.R_at hq_ HO_0.out);have n1_:=Aside0.mk (kept_at hq_ HK.out);have n2_:=Aside0.mk (below_at hq_ HB.out);clear hq_ HO_0 HK HB;have HO_0:=n0_;have HK:=n1_;have HB:=n2_;clear n0_ n1_ n2_;(try (have HP26:=Kd.R_putg HO_0.out ((ji20):Int) ((wrap64 ((wrap64 ((wrap64 (rd x0_1 (ji20))) - (wrap64 (x11_1)))) - x10_1)) % 4294967296)))));refine store_event (t:=64) (p:=81) (v:=?vo_w27) (w1:=(wr.setCell ⟨go24,((ji20):Int).toNat,none⟩ (.int .u32 ((wrap64 ((wrap64 ((wrap64 (rd x0_1 (ji20))) - (wrap64 (x11_1)))) - x10_1)) % 4294967296)))) ?hg ?ho ?hn ?hr ?_;(case ho=>rfl);(case hg=>rfl);(case hn=>rfl);(case hr=>first|(go_simp;done)|(go_simp;rfl));intro w27 hw;have hg:wr.grownBy w27 (some go24):=(by rw [hw];exact HP26.2);have hp_:Kd.R (Kd.int .u32) 64 w27 w0.heap.size (fun k_=>(P0_ k_ ∨ w.heap.size≤k_)) (.slice (some ⟨go24,0,none⟩) x0_1.length co25) y455:=(by rw [hw,Ny455.out];exact HP26.1);clear HP26;have n0_:=Aside0.mk (hp_);have n1_:=Aside0.mk ((by rw [hw];exact below_set (HB.out) GB24.out:Below w0.heap.size w0 w27));have n2_:=Aside0.mk (Kept.of_grown (S:=(fun k_=>P0_ k_)) hg (by repeat (first|(with_reducible first|exact HK.out|apply Kept.alloc|apply Kept.drewN|apply Kept.drew)|exact HK.out)) (fun k_ e_=>(HO_0.out.1 k_ e_)));clear HO_0;clear HB;clear HK;have HO_0:=n0_;have HB:=n1_;have HK:=n2_;clear n0_ n1_ n2_;clear hg hw hp_));try go_wp2_with (first|((with_reducible refine gate_store (t:=64) (p:=81) rfl ?_);(try (rw [drewN_self wr];generalize hq_:World.drewN wr _ = wr;have n0_:=Aside0.mk (Kd.R_at hq_ HO_0.out);have n1_:=Aside0.mk (kept_at hq_ HK.out);have n2_:=Aside0.mk (below_at hq_ HB.out);clear hq_ HO_0 HK HB;have HO_0:=n0_;have HK:=n1_;have HB:=n2_;clear n0_ n1_ n2_;(try (have HP26:=Kd.R_putg HO_0.out ((ji20):Int) ((wrap64 ((wrap64 ((wrap64 (rd x0_1 (ji20))) - (wrap64 (x11_1)))) - x10_1)) % 4294967296)))));refine store_event (t:=64) (p:=81) (v:=?vo_w27) (w1:=(wr.setCell ⟨go24,((ji20):Int).toNat,none⟩ (.int .u32 ((wrap64 ((wrap64 ((wrap64 (rd x0_1 (ji20))) - (wrap64 (x11_1)))) - x10_1)) % 4294967296)))) ?hg ?ho ?hn ?hr ?_;(case ho=>rfl);(case hg=>rfl);(case hn=>rfl);(case hr=>first|(go_simp;done)|(go_simp;rfl));intro w27 hw;have hg:wr.grownBy w27 (some go24):=(by rw [hw];exact HP26.2);have hp_:Kd.R (Kd.int .u32) 64 w27 w0.heap.size (fun k_=>(P0_ k_ ∨ w.heap.size≤k_)) (.slice (some ⟨go24,0,none⟩) x0_1.length co25) y455:=(by rw [hw,Ny455.out];exact HP26.1);clear HP26;have n0_:=Aside0.mk (hp_);have n1_:=Aside0.mk ((by rw [hw];exact below_set (HB.out) GB24.out:Below w0.heap.size w0 w27));have n2_:=Aside0.mk (Kept.of_grown (S:=(fun k_=>P0_ k_)) hg (by repeat (first|(with_reducible first|exact HK.out|apply Kept.alloc|apply Kept.drewN|apply Kept.drew)|exact HK.out)) (fun k_ e_=>(HO_0.out.1 k_ e_)));clear HO_0;clear HB;clear HK;have HO_0:=n0_;have HB:=n1_;have HK:=n2_;clear n0_ n1_ n2_;clear hg hw hp_)))
       go_ret
       exact ⟨by first|rfl|(simp [errW_none,errW_some]<;>rfl)|(simp only [← hji20];first|rfl|(simp [errW_none,errW_some]<;>rfl))|(simp [*,errW_none,errW_some]<;>rfl),by (with_reducible repeat (first|apply Kd.R_alloc|apply Kd.R_drewN|apply Kd.R_drew));exact HO_0.out,by repeat (first|(with_reducible first|exact HB.out|apply below_alloc|apply pw_below_drewN|apply below_drew1)|exact HB.out),by repeat (first|(with_reducible first|exact HK.out|apply Kept.alloc|apply Kept.drewN|apply Kept.drew)|exact HK.out)⟩
      ·rw [if_neg c23] at H
       have c23b0:decide (0≤(wrap64 ((wrap64 ((wrap64 (rd x0_1 (ji20))) - (wrap64 (x11_1)))) - x10_1))) = false:=decide_eq_false c23
       clear c23
       obtain ⟨y456,hy456⟩:∃ y_:List Int,y_ = (x0_1.set ((ji20):Int).toNat ((wrap64 ((wrap64 ((wrap64 ((wrap64 (rd x0_1 (ji20))) - (wrap64 (x11_1)))) - x10_1)) + 1000000000)) % 4294967296)):=⟨_,rfl⟩
       replace H:(garboardref01_reduce.l1 k1 y456 l1 a2 a3 (l1.length:Int) 0 0) = some (r1,r2):=by first|(rw [hy456];with_reducible exact H)|(have H2_:=(Option.bind_some _ _).symm.trans H;rw [hy456];with_reducible exact H2_)|(have H2_:=(Option.bind_some _ _).symm.trans H;with_reducible exact H2_)|with_reducible exact H|(rw [hy456];exact H)|exact H
       have Ny456:=Aside0.mk hy456
       clear hy456
       have H':=Aside0.mk H
       clear H
       obtain ⟨Ao29,co29,eo29⟩:=Kd.R_slice HO_0.out
       subst eo29
       have p454:0≤((ji20):Int):=of_decide_eq_true (by first|(with_reducible assumption)|assumption)
       have q454:(ji20) < (x0_1.length:Int):=of_decide_eq_true (by first|(with_reducible assumption)|assumption)
       obtain ⟨ad454,e454,hx454_0⟩:=Kd.at_int (Kd.R_reads' HO_0.out).2.2 (ji20) p454 q454
       cases e454
       replace p454:=eq_true p454
       replace q454:=eq_true q454
       have p28:0≤((ji20):Int):=of_decide_eq_true (by first|(with_reducible assumption)|assumption)
       have q28:((ji20):Int) < ((x0_1.length:Int):Int):=of_decide_eq_true (by first|(with_reducible assumption)|assumption)
       obtain ⟨go28,co28,eo28,gb28,gl28,cl28,HG28⟩:=Kd.R_form HO_0.out (by omega)
       (first|cases eo28|(injection eo28 with ea_ en_ ec_;(first|subst ea_|(injection ea_ with ea_;subst ea_));subst ec_;clear en_))
       have GB28:=Aside0.mk gb28
       have GG28:=Aside0.mk HG28
       clear gb28 gl28 HG28
       have HMgo28:=Aside0.mk (show (P0_ go28 ∨ w.heap.size≤go28) from (HO_0.out.1 _ rfl))
       (first|simp only [add_plain] at hx454_0|skip)
       obtain ⟨hx28_0,hf28_0⟩:=Kd.R_celln 0 HO_0.out ((ji20):Int) p28 q28
       replace p28:=eq_true p28
       replace q28:=eq_true q28
       have HP30:=Kd.R_putg HO_0.out ((ji20):Int) ((wrap64 ((wrap64 ((wrap64 ((wrap64 (rd x0_1 (ji20))) - (wrap64 (x11_1)))) - x10_1)) + 1000000000)) % 4294967296)
       go_wp2_with (first|((with_reducible refine gate_store (t:=64) (p:=91) rfl ?_);(try (rw [drewN_self wr];generalize hq_:World.drewN wr _ = wr;have n0_:=Aside0.mk (Kd.R_at hq_ HO_0.out);have n1_:=Aside0.mk (kept_at hq_ HK.out);have n2_:=Aside0.mk (below_at hq_ HB.out);clear hq_ HO_0 HK HB;have HO_0:=n0_;have HK:=n1_;have HB:=n2_;clear n0_ n1_ n2_;(try (have HP30:=Kd.R_putg HO_0.out ((ji20):Int) ((wrap64 ((wrap64 ((wrap64 ((wrap64 (rd x0_1 (ji20))) - (wrap64 (x11_1)))) - x10_1)) + 1000000000)) % 4294967296)))));refine store_event (t:=64) (p:=91) (v:=?vo_w31) (w1:=(wr.setCell ⟨go28,((ji20):Int).toNat,none⟩ (.int .u32 ((wrap64 ((wrap64 ((wrap64 ((wrap64 (rd x0_1 (ji20))) - (wrap64 (x11_1)))) - x10_1)) + 1000000000)) % 4294967296)))) ?hg ?ho ?hn ?hr ?_;(case ho=>rfl);(case hg=>rfl);(case hn=>rfl);(case hr=>first|(go_simp;done)|(go_simp;rfl));intro w31 hw;have hg:wr.grownBy w31 (some go28):=(by rw [hw];exact HP30.2);have hp_:Kd.R (Kd.int .u32) 64 w31 w0.heap.size (fun k_=>(P0_ k_ ∨ w.heap.size≤k_)) (.slice (some ⟨go28,0,none⟩) x0_1.length co29) y456:=(by rw [hw,Ny456.out];exact HP30.1);clear HP30;have n0_:=Aside0.mk (hp_);have n1_:=Aside0.mk ((by rw [hw];exact below_set (HB.out) GB28.out:Below w0.heap.size w0 w31));have n2_:=Aside0.mk (Kept.of_grown (S:=(fun k_=>P0_ k_)) hg (by repeat (first|(with_reducible first|exact HK.out|apply Kept.alloc|apply Kept.drewN|apply Kept.drew)|exact HK.out)) (fun k_ e_=>(HO_0.out.1 k_ e_)));clear HO_0;clear HB;clear HK;have HO_0:=n0_;have HB:=n1_;have HK:=n2_;clear n0_ n1_ n2_;clear hg hw hp_))
       repeat (go_quiet (first|((with_reducible refine gate_store (t:=64) (p:=91) rfl ?_);(try (rw [drewN_self wr];generalize hq_:World.drewN wr _ = wr;have n0_:=Aside0.mk (Kd.R_at hq_ HO_0.out);have n1_:=Aside0.mk (kept_at hq_ HK.out);have n2_:=Aside0.mk (below_at hq_ HB.out);clear hq_ HO_0 HK HB;have HO_0:=n0_;have HK:=n1_;have HB:=n2_;clear n0_ n1_ n2_;(try (have HP30:=Kd.R_putg HO_0.out ((ji20):Int) ((wrap64 ((wrap64 ((wrap64 ((wrap64 (rd x0_1 (ji20))) - (wrap64 (x11_1)))) - x10_1)) + 1000000000)) % 4294967296)))));refine store_event (t:=64) (p:=91) (v:=?vo_w31) (w1:=(wr.setCell ⟨go28,((ji20):Int).toNat,none⟩ (.int .u32 ((wrap64 ((wrap64 ((wrap64 ((wrap64 (rd x0_1 (ji20))) - (wrap64 (x11_1)))) - x10_1)) + 1000000000)) % 4294967296)))) ?hg ?ho ?hn ?hr ?_;(case ho=>rfl);(case hg=>rfl);(case hn=>rfl);(case hr=>first|(go_simp;done)|(go_simp;rfl));intro w31 hw;have hg:wr.grownBy w31 (some go28):=(by rw [hw];exact HP30.2);have hp_:Kd.R (Kd.int .u32) 64 w31 w0.heap.size (fun k_=>(P0_ k_ ∨ w.heap.size≤k_)) (.slice (some ⟨go28,0,none⟩) x0_1.length co29) y456:=(by rw [hw,Ny456.out];exact HP30.1);clear HP30;have n0_:=Aside0.mk (hp_);have n1_:=Aside0.mk ((by rw [hw];exact below_set (HB.out) GB28.out:Below w0.heap.size w0 w31));have n2_:=Aside0.mk (Kept.of_grown (S:=(fun k_=>P0_ k_)) hg (by repeat (first|(with_reducible first|exact HK.out|apply Kept.alloc|apply Kept.drewN|apply Kept.drew)|exact HK.out)) (fun k_ e_=>(HO_0.out.1 k_ e_)));clear HO_0;clear HB;clear HK;have HO_0:=n0_;have HB:=n1_;have HK:=n2_;clear n0_ n1_ n2_;clear hg hw hp_));try go_wp2_with (first|((with_reducible refine gate_store (t:=64) (p:=91) rfl ?_);(try (rw [drewN_self wr];generalize hq_:World.drewN wr _ = wr;have n0_:=Aside0.mk (Kd.R_at hq_ HO_0.out);have n1_:=Aside0.mk (kept_at hq_ HK.out);have n2_:=Aside0.mk (below_at hq_ HB.out);clear hq_ HO_0 HK HB;have HO_0:=n0_;have HK:=n1_;have HB:=n2_;clear n0_ n1_ n2_;(try (have HP30:=Kd.R_putg HO_0.out ((ji20):Int) ((wrap64 ((wrap64 ((wrap64 ((wrap64 (rd x0_1 (ji20))) - (wrap64 (x11_1)))) - x10_1)) + 1000000000)) % 4294967296)))));refine store_event (t:=64) (p:=91) (v:=?vo_w31) (w1:=(wr.setCell ⟨go28,((ji20):Int).toNat,none⟩ (.int .u32 ((wrap64 ((wrap64 ((wrap64 ((wrap64 (rd x0_1 (ji20))) - (wrap64 (x11_1)))) - x10_1)) + 1000000000)) % 4294967296)))) ?hg ?ho ?hn ?hr ?_;(case ho=>rfl);(case hg=>rfl);(case hn=>rfl);(case hr=>first|(go_simp;done)|(go_simp;rfl));intro w31 hw;have hg:wr.grownBy w31 (some go28):=(by rw [hw];exact HP30.2);have hp_:Kd.R (Kd.int .u32) 64 w31 w0.heap.size (fun k_=>(P0_ k_ ∨ w.heap.size≤k_)) (.slice (some ⟨go28,0,none⟩) x0_1.length co29) y456:=(by rw [hw,Ny456.out];exact HP30.1);clear HP30;have n0_:=Aside0.mk (hp_);have n1_:=Aside0.mk ((by rw [hw];exact below_set (HB.out) GB28.out:Below w0.heap.size w0 w31));have n2_:=Aside0.mk (Kept.of_grown (S:=(fun k_=>P0_ k_)) hg (by repeat (first|(with_reducible first|exact HK.out|apply Kept.alloc|apply Kept.drewN|apply Kept.drew)|exact HK.out)) (fun k_ e_=>(HO_0.out.1 k_ e_)));clear HO_0;clear HB;clear HK;have HO_0:=n0_;have HB:=n1_;have HK:=n2_;clear n0_ n1_ n2_;clear hg hw hp_)))
       go_loopg [16,17] k1 (fun kq v16 v17 w'=>∃ (x0_2:List Int) (x16_2:Int) (x17_2:Int),v16 = .int .u32 x16_2∧v17 = .int .i64 x17_2∧Aside0 (garboardref01_reduce.l1 kq x0_2 l1 a2 a3 (l1.length:Int) x16_2 x17_2 = some (r1,r2))∧Aside0 (kq≤k1)∧Aside0 (Kd.R (Kd.int .u32) 64 w' w0.heap.size (fun k_=>(P0_ k_ ∨ w.heap.size≤k_)) (.slice (some ⟨go28,0,none⟩) x0_1.length co29) x0_2)∧Aside0 (Kept w w' (fun k_=>P0_ k_))∧Aside0 (Below w0.heap.size w0 w'))
       case atStart=>exact ⟨(y456),(0),(0),(by first|rfl|(simp;done)|(simp [*];done)),(by first|rfl|(simp;done)|(simp [*];done)),H',⟨Nat.le_refl _⟩,⟨by (with_reducible repeat (first|apply Kd.R_alloc|apply Kd.R_drewN|apply Kd.R_drew));exact HO_0.out⟩,⟨by repeat (first|(with_reducible first|exact HK.out|apply Kept.alloc|apply Kept.drewN|apply Kept.drew)|exact HK.out)⟩,⟨by repeat (first|(with_reducible first|exact HB.out|apply below_alloc|apply pw_below_drewN|apply below_drew1)|exact HB.out)⟩⟩
       case round =>
        clear H'
        try clear c1
        try clear p1
        try clear q1
        try clear hx1
        try clear c2
        try clear p2
        try clear q2
        try clear hx2
        try clear p4
        try clear q4
        try clear hx4
        try clear c5
        try clear c5b0
        try clear c6
        try clear c6b0
        try clear p6
        try clear c7
        try clear c7b0
        try clear c9
        try clear c9b0
        try clear c10
        try clear c10b0
        try clear c11
        try clear c11b0
        try clear p12
        try clear q12
        try clear hx12
        try clear hf12
        try clear p16
        try clear q16
        try clear hx16
        try clear hf16
        try clear c21
        try clear c21b0
        try clear c22
        try clear c22b0
        try clear c23
        try clear c23b0
        try clear p24
        try clear q24
        try clear hx24
        try clear hf24
        try clear p28
        try clear q28
        try clear hx28
        try clear hf28
        try clear hx12_0
        try clear hx16_0
        try clear hx24_0
        try clear hx28_0
        try clear hx450_0
        try clear hx451_0
        try clear hx454_0
        try clear p12
        try clear p16
        try clear p2
        try clear p24
        try clear p28
        try clear p450
        try clear p451
        try clear p454
        try clear q12
        try clear q16
        try clear q24
        try clear q28
        try clear q450
        try clear q451
        try clear q454
        obtain ⟨x0_2,x16_2,x17_2,rfl,rfl,HA,HK2,HO_0,HK,HB⟩:=hrel
        have hl0_2:=(Kd.R_reads' HO_0.out).1
        rw [hl0_2] at HO_0
        (try simp only [hl0_2])
        cases gk with
        | zero=>exact absurd HA.out (by simp [garboardref01_reduce.l1])
        | succ k2 =>
         have H:=HA.out
         clear HA
         simp only [garboardref01_reduce.l1] at H
         by_cases c32:x17_2 < (l1.length:Int)
         ·rw [if_pos c32] at H
          have c32b0:decide (x17_2 < (l1.length:Int)) = true:=decide_eq_true c32
          clear c32
          obtain ⟨ji33,hji33⟩:∃ j_:Int,(wrap64 (a2 + x17_2)) = j_:=⟨_,rfl⟩
          replace H:(if 0≤(ji33) then (if (ji33) < (x0_2.length:Int) then (if 0≤x17_2 then (if x17_2 < (l1.length:Int) then (garboardref01_reduce.l1 k2 (x0_2.set ((ji33):Int).toNat ((((((rd x0_2 (ji33)) + (rd l1 x17_2)) % 4294967296) + x16_2) % 4294967296) % 1000000000)) l1 a2 a3 (l1.length:Int) ((((((rd x0_2 (ji33)) + (rd l1 x17_2)) % 4294967296) + x16_2) % 4294967296) / 1000000000) (wrap64 (x17_2 + 1))) else (none)) else (none)) else (none)) else (none)) = some (r1,r2):=by first|(rw [hji33] at H;exact H)|(simp only [hji33] at H ⊢;exact H)
          have hji33w:(IntKind.i64.wrap (a2 + x17_2)) = ji33:=(i64_w _).trans hji33
          by_cases c34:0≤(ji33)
          ·rw [if_pos c34] at H
           have c34b0:decide (0≤(ji33)) = true:=decide_eq_true c34
           clear c34
           by_cases c35:(ji33) < (x0_2.length:Int)
           ·rw [if_pos c35] at H
            have c35b0:decide ((ji33) < (x0_2.length:Int)) = true:=decide_eq_true c35
            clear c35
            by_cases c36:0≤x17_2
            ·rw [if_pos c36] at H
             have c36b0:decide (0≤x17_2) = true:=decide_eq_true c36
             clear c36
             by_cases c37:x17_2 < (l1.length:Int)
             ·rw [if_pos c37] at H
              have c37b0:decide (x17_2 < (l1.length:Int)) = true:=decide_eq_true c37
              clear c37
              obtain ⟨y459,hy459⟩:∃ y_:List Int,y_ = (x0_2.set ((ji33):Int).toNat ((((((rd x0_2 (ji33)) + (rd l1 x17_2)) % 4294967296) + x16_2) % 4294967296) % 1000000000)):=⟨_,rfl⟩
              replace H:(garboardref01_reduce.l1 k2 y459 l1 a2 a3 (l1.length:Int) ((((((rd x0_2 (ji33)) + (rd l1 x17_2)) % 4294967296) + x16_2) % 4294967296) / 1000000000) (wrap64 (x17_2 + 1))) = some (r1,r2):=by first|(rw [hy459];with_reducible exact H)|(have H2_:=(Option.bind_some _ _).symm.trans H;rw [hy459];with_reducible exact H2_)|(have H2_:=(Option.bind_some _ _).symm.trans H;with_reducible exact H2_)|with_reducible exact H|(rw [hy459];exact H)|exact H
              have Ny459:=(Aside0.mk (hy459.trans (by rw [Int.emod_add_emod])):Aside0 (y459 = x0_2.set (ji33:Int).toNat ((rd x0_2 ji33 + rd l1 x17_2 + x16_2) % 4294967296 % 1000000000)))
              clear hy459
              have H':=Aside0.mk H
              clear H
              have p457:0≤((ji33):Int):=of_decide_eq_true (by first|(with_reducible assumption)|assumption)
              have q457:(ji33) < (x0_2.length:Int):=of_decide_eq_true (by first|(with_reducible assumption)|assumption)
              obtain ⟨ad457,e457,hx457_0⟩:=Kd.at_int (Kd.R_reads' HO_0.out).2.2 (ji33) p457 q457
              obtain rfl:(⟨go28,0,none⟩:Addr) = ad457:=(by injection e457)
              (first|simp only [add_plain] at hx457_0|simp only [add_at] at hx457_0|simp only [Addr.add,Nat.zero_add] at hx457_0|skip)
              replace p457:=eq_true p457
              replace q457:=eq_true q457
              have p458:0≤(x17_2:Int):=of_decide_eq_true (by first|(with_reducible assumption)|assumption)
              have q458:x17_2 < (l1.length:Int):=of_decide_eq_true (by first|(with_reducible assumption)|assumption)
              obtain ⟨ad458,e458,hx458_0⟩:=Kd.at_int (Kd.C_kept_now HR1.out HK.out) x17_2 p458 q458
              cases e458
              replace p458:=eq_true p458
              replace q458:=eq_true q458
              have p38:0≤((ji33):Int):=of_decide_eq_true (by first|(with_reducible assumption)|assumption)
              have q38:((ji33):Int) < ((x0_2.length:Int):Int):=of_decide_eq_true (by first|(with_reducible assumption)|assumption)
              obtain ⟨hx38_0,hf38_0⟩:=Kd.R_celln 0 HO_0.out ((ji33):Int) p38 q38
              replace p38:=eq_true p38
              replace q38:=eq_true q38
              have HP39:=Kd.R_putg HO_0.out ((ji33):Int) ((rd x0_2 ji33 + rd l1 x17_2 + x16_2) % 4294967296 % 1000000000)
              go_wp2_with (first|((with_reducible refine gate_store (t:=64) (p:=116) rfl ?_);(try (rw [drewN_self wr];generalize hq_:World.drewN wr _ = wr;have n0_:=Aside0.mk (Kd.R_at hq_ HO_0.out);have n1_:=Aside0.mk (kept_at hq_ HK.out);have n2_:=Aside0.mk (below_at hq_ HB.out);clear hq_ HO_0 HK HB;have HO_0:=n0_;have HK:=n1_;have HB:=n2_;clear n0_ n1_ n2_;(try (have HP39:=Kd.R_putg HO_0.out ((ji33):Int) ((rd x0_2 ji33 + rd l1 x17_2 + x16_2) % 4294967296 % 1000000000)))));refine store_event (t:=64) (p:=116) (v:=?vo_w40) (w1:=(wr.setCell ⟨go28,((ji33):Int).toNat,none⟩ (.int .u32 ((rd x0_2 ji33 + rd l1 x17_2 + x16_2) % 4294967296 % 1000000000)))) ?hg ?ho ?hn ?hr ?_;(case ho=>rfl);(case hg=>rfl);(case hn=>rfl);(case hr=>first|(go_simp;done)|(go_simp;rfl));intro w40 hw;have hg:wr.grownBy w40 (some go28):=(by rw [hw];exact HP39.2);have hp_:Kd.R (Kd.int .u32) 64 w40 w0.heap.size (fun k_=>(P0_ k_ ∨ w.heap.size≤k_)) (.slice (some ⟨go28,0,none⟩) x0_2.length co29) y459:=(by rw [hw,Ny459.out];exact HP39.1);clear HP39;have n0_:=Aside0.mk (hp_);have n1_:=Aside0.mk ((by rw [hw];exact below_set (HB.out) GB28.out:Below w0.heap.size w0 w40));have n2_:=Aside0.mk (Kept.of_grown (S:=(fun k_=>P0_ k_)) hg (by repeat (first|(with_reducible first|exact HK.out|apply Kept.alloc|apply Kept.drewN|apply Kept.drew)|exact HK.out)) (fun k_ e_=>(HO_0.out.1 k_ e_)));clear HO_0;clear HB;clear HK;have HO_0:=n0_;have HB:=n1_;have HK:=n2_;clear n0_ n1_ n2_;clear hg hw hp_))
              repeat (go_quiet (first|((with_reducible refine gate_store (t:=64) (p:=116) rfl ?_);(try (rw [drewN_self wr];generalize hq_:World.drewN wr _ = wr;have n0_:=Aside0.mk (Kd.R_at hq_ HO_0.out);have n1_:=Aside0.mk (kept_at hq_ HK.out);have n2_:=Aside0.mk (below_at hq_ HB.out);clear hq_ HO_0 HK HB;have HO_0:=n0_;have HK:=n1_;have HB:=n2_;clear n0_ n1_ n2_;(try (have HP39:=Kd.R_putg HO_0.out ((ji33):Int) ((rd x0_2 ji33 + rd l1 x17_2 + x16_2) % 4294967296 % 1000000000)))));refine store_event (t:=64) (p:=116) (v:=?vo_w40) (w1:=(wr.setCell ⟨go28,((ji33):Int).toNat,none⟩ (.int .u32 ((rd x0_2 ji33 + rd l1 x17_2 + x16_2) % 4294967296 % 1000000000)))) ?hg ?ho ?hn ?hr ?_;(case ho=>rfl);(case hg=>rfl);(case hn=>rfl);(case hr=>first|(go_simp;done)|(go_simp;rfl));intro w40 hw;have hg:wr.grownBy w40 (some go28):=(by rw [hw];exact HP39.2);have hp_:Kd.R (Kd.int .u32) 64 w40 w0.heap.size (fun k_=>(P0_ k_ ∨ w.heap.size≤k_)) (.slice (some ⟨go28,0,none⟩) x0_2.length co29) y459:=(by rw [hw,Ny459.out];exact HP39.1);clear HP39;have n0_:=Aside0.mk (hp_);have n1_:=Aside0.mk ((by rw [hw];exact below_set (HB.out) GB28.out:Below w0.heap.size w0 w40));have n2_:=Aside0.mk (Kept.of_grown (S:=(fun k_=>P0_ k_)) hg (by repeat (first|(with_reducible first|exact HK.out|apply Kept.alloc|apply Kept.drewN|apply Kept.drew)|exact HK.out)) (fun k_ e_=>(HO_0.out.1 k_ e_)));clear HO_0;clear HB;clear HK;have HO_0:=n0_;have HB:=n1_;have HK:=n2_;clear n0_ n1_ n2_;clear hg hw hp_));try go_wp2_with (first|((with_reducible refine gate_store (t:=64) (p:=116) rfl ?_);(try (rw [drewN_self wr];generalize hq_:World.drewN wr _ = wr;have n0_:=Aside0.mk (Kd.R_at hq_ HO_0.out);have n1_:=Aside0.mk (kept_at hq_ HK.out);have n2_:=Aside0.mk (below_at hq_ HB.out);clear hq_ HO_0 HK HB;have HO_0:=n0_;have HK:=n1_;have HB:=n2_;clear n0_ n1_ n2_;(try (have HP39:=Kd.R_putg HO_0.out ((ji33):Int) ((rd x0_2 ji33 + rd l1 x17_2 + x16_2) % 4294967296 % 1000000000)))));refine store_event (t:=64) (p:=116) (v:=?vo_w40) (w1:=(wr.setCell ⟨go28,((ji33):Int).toNat,none⟩ (.int .u32 ((rd x0_2 ji33 + rd l1 x17_2 + x16_2) % 4294967296 % 1000000000)))) ?hg ?ho ?hn ?hr ?_;(case ho=>rfl);(case hg=>rfl);(case hn=>rfl);(case hr=>first|(go_simp;done)|(go_simp;rfl));intro w40 hw;have hg:wr.grownBy w40 (some go28):=(by rw [hw];exact HP39.2);have hp_:Kd.R (Kd.int .u32) 64 w40 w0.heap.size (fun k_=>(P0_ k_ ∨ w.heap.size≤k_)) (.slice (some ⟨go28,0,none⟩) x0_2.length co29) y459:=(by rw [hw,Ny459.out];exact HP39.1);clear HP39;have n0_:=Aside0.mk (hp_);have n1_:=Aside0.mk ((by rw [hw];exact below_set (HB.out) GB28.out:Below w0.heap.size w0 w40));have n2_:=Aside0.mk (Kept.of_grown (S:=(fun k_=>P0_ k_)) hg (by repeat (first|(with_reducible first|exact HK.out|apply Kept.alloc|apply Kept.drewN|apply Kept.drew)|exact HK.out)) (fun k_ e_=>(HO_0.out.1 k_ e_)));clear HO_0;clear HB;clear HK;have HO_0:=n0_;have HB:=n1_;have HK:=n2_;clear n0_ n1_ n2_;clear hg hw hp_)))
              (try simp only [← hl0_2])
              go_roundg k2
              case measure=>have:=HK1.out;have:=HK2.out;omega
              case rel=>exact ⟨(y459),((((((rd x0_2 (ji33)) + (rd l1 x17_2)) % 4294967296) + x16_2) % 4294967296) / 1000000000),(wrap64 (x17_2 + 1)),(by first|rfl|(simp;done)|(simp only [← hji33]<;>(first|rfl|simp))|(simp [*];done)),(by first|rfl|(simp;done)|(simp [*];done)),H',⟨by have:=HK1.out;have:=HK2.out;omega⟩,⟨by (try simp only [hl0_2]);(with_reducible repeat (first|apply Kd.R_alloc|apply Kd.R_drewN|apply Kd.R_drew));first|exact HO_0.out|(rw [Ny459.out];exact (Kd.R_putg (by first|exact Kd.R_drewN HO_0.out _|(apply Kd.R_drewN;exact HO_0.out)) ((ji33):Int) ((rd x0_2 ji33 + rd l1 x17_2 + x16_2) % 4294967296 % 1000000000)).1)|(rw [Ny459.out];exact (Kd.R_putg HO_0.out ((ji33):Int) ((rd x0_2 ji33 + rd l1 x17_2 + x16_2) % 4294967296 % 1000000000)).1)⟩,⟨by first|(refine Kept.of_grown (S:=(fun k_=>P0_ k_)) (row:=some go28) (Kd.R_putg (Kd.R_drewN HO_0.out _) ((ji33):Int) ((rd x0_2 ji33 + rd l1 x17_2 + x16_2) % 4294967296 % 1000000000)).2 (by repeat (first|(with_reducible first|exact HK.out|apply Kept.alloc|apply Kept.drewN|apply Kept.drew)|exact HK.out)) (fun k_ e_=>HO_0.out.1 k_ e_))|(repeat (first|(with_reducible first|exact HK.out|apply Kept.alloc|apply Kept.drewN|apply Kept.drew)|exact HK.out))⟩,⟨by first|(exact below_set (by repeat (first|(with_reducible first|exact HB.out|apply below_alloc|apply pw_below_drewN|apply below_drew1)|exact HB.out)) GB28.out)|(repeat (first|(with_reducible first|exact HB.out|apply below_alloc|apply pw_below_drewN|apply below_drew1)|exact HB.out))⟩⟩
             ·rw [if_neg c37] at H
              exact absurd H (by simp)
            ·rw [if_neg c36] at H
             exact absurd H (by simp)
           ·rw [if_neg c35] at H
            exact absurd H (by simp)
          ·rw [if_neg c34] at H
           exact absurd H (by simp)
         ·rw [if_neg c32] at H
          have c32b0:decide (x17_2 < (l1.length:Int)) = false:=decide_eq_false c32
          clear c32
          replace H:(if 0≤(ji20) then (if (ji20) < (x0_2.length:Int) then (some ((IntKind.u64.wrap (a3 - 1)) % 4294967296,(x0_2.set ((ji20):Int).toNat ((((rd x0_2 (ji20)) + x16_2) % 4294967296) % 1000000000)))) else (none)) else (none)) = some (r1,r2):=by first|(rw [hji20] at H;exact H)|(simp only [hji20] at H ⊢;exact H)
          by_cases c42:0≤(ji20)
          ·rw [if_pos c42] at H
           have c42b0:decide (0≤(ji20)) = true:=decide_eq_true c42
           clear c42
           by_cases c43:(ji20) < (x0_2.length:Int)
           ·rw [if_pos c43] at H
            have c43b0:decide ((ji20) < (x0_2.length:Int)) = true:=decide_eq_true c43
            clear c43
            obtain ⟨y461,hy461⟩:∃ y_:List Int,y_ = (x0_2.set ((ji20):Int).toNat ((((rd x0_2 (ji20)) + x16_2) % 4294967296) % 1000000000)):=⟨_,rfl⟩
            replace H:(some ((IntKind.u64.wrap (a3 - 1)) % 4294967296,y461)) = some (r1,r2):=by first|(rw [hy461];with_reducible exact H)|(have H2_:=(Option.bind_some _ _).symm.trans H;rw [hy461];with_reducible exact H2_)|(have H2_:=(Option.bind_some _ _).symm.trans H;with_reducible exact H2_)|with_reducible exact H|(rw [hy461];exact H)|exact H
            have Ny461:=Aside0.mk hy461
            clear hy461
            simp only [Option.some.injEq,Prod.mk.injEq] at H
            obtain ⟨rfl,rfl⟩:=H
            have p460:0≤((ji20):Int):=of_decide_eq_true (by first|(with_reducible assumption)|assumption)
            have q460:(ji20) < (x0_2.length:Int):=of_decide_eq_true (by first|(with_reducible assumption)|assumption)
            obtain ⟨ad460,e460,hx460_0⟩:=Kd.at_int (Kd.R_reads' HO_0.out).2.2 (ji20) p460 q460
            obtain rfl:(⟨go28,0,none⟩:Addr) = ad460:=(by injection e460)
            (first|simp only [add_plain] at hx460_0|simp only [add_at] at hx460_0|simp only [Addr.add,Nat.zero_add] at hx460_0|skip)
            replace p460:=eq_true p460
            replace q460:=eq_true q460
            have p44:0≤((ji20):Int):=of_decide_eq_true (by first|(with_reducible assumption)|assumption)
            have q44:((ji20):Int) < ((x0_2.length:Int):Int):=of_decide_eq_true (by first|(with_reducible assumption)|assumption)
            obtain ⟨hx44_0,hf44_0⟩:=Kd.R_celln 0 HO_0.out ((ji20):Int) p44 q44
            replace p44:=eq_true p44
            replace q44:=eq_true q44
            have HP45:=Kd.R_putg HO_0.out ((ji20):Int) ((((rd x0_2 (ji20)) + x16_2) % 4294967296) % 1000000000)
            go_wp2_with (first|((with_reducible refine gate_store (t:=64) (p:=132) rfl ?_);(try (rw [drewN_self wr];generalize hq_:World.drewN wr _ = wr;have n0_:=Aside0.mk (Kd.R_at hq_ HO_0.out);have n1_:=Aside0.mk (kept_at hq_ HK.out);have n2_:=Aside0.mk (below_at hq_ HB.out);clear hq_ HO_0 HK HB;have HO_0:=n0_;have HK:=n1_;have HB:=n2_;clear n0_ n1_ n2_;(try (have HP45:=Kd.R_putg HO_0.out ((ji20):Int) ((((rd x0_2 (ji20)) + x16_2) % 4294967296) % 1000000000)))));refine store_event (t:=64) (p:=132) (v:=?vo_w46) (w1:=(wr.setCell ⟨go28,((ji20):Int).toNat,none⟩ (.int .u32 ((((rd x0_2 (ji20)) + x16_2) % 4294967296) % 1000000000)))) ?hg ?ho ?hn ?hr ?_;(case ho=>rfl);(case hg=>rfl);(case hn=>rfl);(case hr=>first|(go_simp;done)|(go_simp;rfl));intro w46 hw;have hg:wr.grownBy w46 (some go28):=(by rw [hw];exact HP45.2);have hp_:Kd.R (Kd.int .u32) 64 w46 w0.heap.size (fun k_=>(P0_ k_ ∨ w.heap.size≤k_)) (.slice (some ⟨go28,0,none⟩) x0_2.length co29) y461:=(by rw [hw,Ny461.out];exact HP45.1);clear HP45;have n0_:=Aside0.mk (hp_);have n1_:=Aside0.mk ((by rw [hw];exact below_set (HB.out) GB28.out:Below w0.heap.size w0 w46));have n2_:=Aside0.mk (Kept.of_grown (S:=(fun k_=>P0_ k_)) hg (by repeat (first|(with_reducible first|exact HK.out|apply Kept.alloc|apply Kept.drewN|apply Kept.drew)|exact HK.out)) (fun k_ e_=>(HO_0.out.1 k_ e_)));clear HO_0;clear HB;clear HK;have HO_0:=n0_;have HB:=n1_;have HK:=n2_;clear n0_ n1_ n2_;clear hg hw hp_))
            repeat (go_quiet (first|((with_reducible refine gate_store (t:=64) (p:=132) rfl ?_);(try (rw [drewN_self wr];generalize hq_:World.drewN wr _ = wr;have n0_:=Aside0.mk (Kd.R_at hq_ HO_0.out);have n1_:=Aside0.mk (kept_at hq_ HK.out);have n2_:=Aside0.mk (below_at hq_ HB.out);clear hq_ HO_0 HK HB;have HO_0:=n0_;have HK:=n1_;have HB:=n2_;clear n0_ n1_ n2_;(try (have HP45:=Kd.R_putg HO_0.out ((ji20):Int) ((((rd x0_2 (ji20)) + x16_2) % 4294967296) % 1000000000)))));refine store_event (t:=64) (p:=132) (v:=?vo_w46) (w1:=(wr.setCell ⟨go28,((ji20):Int).toNat,none⟩ (.int .u32 ((((rd x0_2 (ji20)) + x16_2) % 4294967296) % 1000000000)))) ?hg ?ho ?hn ?hr ?_;(case ho=>rfl);(case hg=>rfl);(case hn=>rfl);(case hr=>first|(go_simp;done)|(go_simp;rfl));intro w46 hw;have hg:wr.grownBy w46 (some go28):=(by rw [hw];exact HP45.2);have hp_:Kd.R (Kd.int .u32) 64 w46 w0.heap.size (fun k_=>(P0_ k_ ∨ w.heap.size≤k_)) (.slice (some ⟨go28,0,none⟩) x0_2.length co29) y461:=(by rw [hw,Ny461.out];exact HP45.1);clear HP45;have n0_:=Aside0.mk (hp_);have n1_:=Aside0.mk ((by rw [hw];exact below_set (HB.out) GB28.out:Below w0.heap.size w0 w46));have n2_:=Aside0.mk (Kept.of_grown (S:=(fun k_=>P0_ k_)) hg (by repeat (first|(with_reducible first|exact HK.out|apply Kept.alloc|apply Kept.drewN|apply Kept.drew)|exact HK.out)) (fun k_ e_=>(HO_0.out.1 k_ e_)));clear HO_0;clear HB;clear HK;have HO_0:=n0_;have HB:=n1_;have HK:=n2_;clear n0_ n1_ n2_;clear hg hw hp_));try go_wp2_with (first|((with_reducible refine gate_store (t:=64) (p:=132) rfl ?_);(try (rw [drewN_self wr];generalize hq_:World.drewN wr _ = wr;have n0_:=Aside0.mk (Kd.R_at hq_ HO_0.out);have n1_:=Aside0.mk (kept_at hq_ HK.out);have n2_:=Aside0.mk (below_at hq_ HB.out);clear hq_ HO_0 HK HB;have HO_0:=n0_;have HK:=n1_;have HB:=n2_;clear n0_ n1_ n2_;(try (have HP45:=Kd.R_putg HO_0.out ((ji20):Int) ((((rd x0_2 (ji20)) + x16_2) % 4294967296) % 1000000000)))));refine store_event (t:=64) (p:=132) (v:=?vo_w46) (w1:=(wr.setCell ⟨go28,((ji20):Int).toNat,none⟩ (.int .u32 ((((rd x0_2 (ji20)) + x16_2) % 4294967296) % 1000000000)))) ?hg ?ho ?hn ?hr ?_;(case ho=>rfl);(case hg=>rfl);(case hn=>rfl);(case hr=>first|(go_simp;done)|(go_simp;rfl));intro w46 hw;have hg:wr.grownBy w46 (some go28):=(by rw [hw];exact HP45.2);have hp_:Kd.R (Kd.int .u32) 64 w46 w0.heap.size (fun k_=>(P0_ k_ ∨ w.heap.size≤k_)) (.slice (some ⟨go28,0,none⟩) x0_2.length co29) y461:=(by rw [hw,Ny461.out];exact HP45.1);clear HP45;have n0_:=Aside0.mk (hp_);have n1_:=Aside0.mk ((by rw [hw];exact below_set (HB.out) GB28.out:Below w0.heap.size w0 w46));have n2_:=Aside0.mk (Kept.of_grown (S:=(fun k_=>P0_ k_)) hg (by repeat (first|(with_reducible first|exact HK.out|apply Kept.alloc|apply Kept.drewN|apply Kept.drew)|exact HK.out)) (fun k_ e_=>(HO_0.out.1 k_ e_)));clear HO_0;clear HB;clear HK;have HO_0:=n0_;have HB:=n1_;have HK:=n2_;clear n0_ n1_ n2_;clear hg hw hp_)))
            go_ret
            exact ⟨by first|rfl|(simp [errW_none,errW_some]<;>rfl)|(simp only [← hji20];first|rfl|(simp [errW_none,errW_some]<;>rfl))|(simp [*,errW_none,errW_some]<;>rfl),(by first|exact (by (with_reducible repeat (first|apply Kd.R_alloc|apply Kd.R_drewN|apply Kd.R_drew));exact HO_0.out)|(simp only [hl0_2];exact (by (with_reducible repeat (first|apply Kd.R_alloc|apply Kd.R_drewN|apply Kd.R_drew));exact HO_0.out))),by repeat (first|(with_reducible first|exact HB.out|apply below_alloc|apply pw_below_drewN|apply below_drew1)|exact HB.out),by repeat (first|(with_reducible first|exact HK.out|apply Kept.alloc|apply Kept.drewN|apply Kept.drew)|exact HK.out)⟩
           ·rw [if_neg c43] at H
            exact absurd H (by simp)
          ·rw [if_neg c42] at H
           exact absurd H (by simp)
     ·rw [if_neg c22] at H
      exact absurd H (by simp)
    ·rw [if_neg c21] at H
     exact absurd H (by simp)
end Go.Proofs.YtaopmkcghancmaaDoor.Pr
namespace Go.Proofs.YtaopmkcghancmaaDoor.Pr
set_option linter.unusedVariables false
set_option linter.unusedSimpArgs false
open Go.RowKit Go.Proofs.YtaopmkcghancmaaDoor.NatTh Go.Proofs.YtaopmkcghancmaaDoorW.PrintWords Go.Proofs.YtaopmkcghancmaaDoorW.PrintLast Go.Proofs.YtaopmkcghancmaaDoorW.PrintMore
theorem rd_nat (l:List Int) (n:Nat):rd l (n:Int) = l.getD n 0:=rd_eq l n
structure RN (g x c y b p c' d0 e:Int):Prop where
 wx:IntKind.u64.wrap x = x
 wgx:IntKind.u64.wrap (g * x) = g * x
 hp:g * x + c = p
 wp:IntKind.u64.wrap p = p
 rp:Int.tmod p 1000000000 = d0
 wd0:wrap64 d0 = d0
 qp:Int.tdiv p 1000000000 = c'
 wc:IntKind.u64.wrap c' = c'
 wy:wrap64 y = y
 wd:wrap64 (y - d0) = y - d0
 he:y - d0 - b = e
 we:wrap64 e = e
 wB:wrap64 (e + 1000000000) = e + 1000000000
theorem rn {g x c y b:Int} (hg:0≤g) (hg2:g≤1000000000) (hx:0≤x) (hx2:x < 1000000000) (hc:0≤c) (hc2:c≤1000000000) (hy:0≤y) (hy2:y < 1000000000) (hb:b = 0 ∨ b = 1):∃ p c' d0 e,RN g x c y b p c' d0 e∧SN g x c y b p c' d0 e:=by
 have h1:=Int.mul_nonneg hg hx
 have h2:g * x≤1000000000 * 999999999:=Int.mul_le_mul hg2 (by omega) hx (by decide)
 obtain ⟨p,c',d0,e,N⟩:=sn g x c y b hg hg2 hx hx2 hc hc2 hy hy2 hb
 refine ⟨p,c',d0,e,⟨u64w hx (by omega),u64w h1 (by omega),N.hp,u64w (by have:=N.hp;omega) (by have:=N.hp;omega),N.rp,?_,N.qp,u64w N.c0 (by have:=N.c1;omega),N.wy,N.wd,N.he,N.we,N.wB⟩,N⟩
 have:=N.rp'
 exact w64 (by omega) (by omega)
theorem run_set {u' u'':List Int} {n:Nat} {x T C:Int} (hn:n < u'.length) (hw:Wd u') (h:Run (u'.set n x) u'' n T C):Run u' (u''.set n (u'.getD n 0)) n T C:=by
 have hl:=h.len
 rw [List.length_set] at hl
 refine ⟨h.wd.set n (hw.getD n),by rw [List.length_set,hl],?_,?_⟩
 ·have h3:=h.rest
  rw [drop_set_self _ _ _ hn] at h3
  have h4:u''.drop (n + 1) = u'.drop (n + 1):=by
   have:=congrArg (List.drop 1) h3
   rw [List.drop_drop,List.drop_succ_cons,List.drop_zero] at this
   exact this
  rw [drop_set_self _ _ _ (by omega),h4,List.drop_eq_getElem_cons hn]
  congr 1
  rw [List.getD_eq_getElem?_getD,List.getElem?_eq_getElem hn]
  rfl
 ·have h4:=h.eq
  rw [List.take_set_of_le (by omega)] at h4
  rw [List.take_set_of_le (by omega)]
  exact h4
set_option maxHeartbeats 1000000 in
theorem red_sub (u v:List Int) (j:Nat) (g:Int) (hv:Wd v) (hj:j + v.length < u.length) (hs:u.length < 1099511627776) (hg:0≤g) (hg2:g≤1000000000):∀ (m i:Nat),i + m = v.length→∀ (u':List Int) (c b:Int),SubI u v u' j i g c b →
  ∃ (u2:List Int) (c2 b2:Int),SubI u v u2 j v.length g c2 b2∧∀ k,garboardref01_reduce.l0 (k + m) u' v (j:Int) g (v.length:Int) b c (i:Int) = garboardref01_reduce.l0 k u2 v (j:Int) g (v.length:Int) b2 c2 (v.length:Int):=by
 intro m
 induction m with
 | zero =>
  intro i hi u' c b h
  have:i = v.length:=by omega
  subst this
  exact ⟨u',c,b,h,fun k=>by rw [Nat.add_zero]⟩
 | succ m ih =>
  intro i hi u' c b h
  have hlen:=h.run.len
  obtain ⟨n,hn⟩:∃ n:Nat,n = j + i:=⟨_,rfl⟩
  obtain ⟨x,hx⟩:∃ x,v.getD i 0 = x:=⟨_,rfl⟩
  obtain ⟨y,hy⟩:∃ y,u'.getD n 0 = y:=⟨_,rfl⟩
  have hvx:=hv.getD i
  have huy:=h.run.wd.getD n
  rw [hx,BB] at hvx
  rw [hy,BB] at huy
  obtain ⟨p,c',d0,e,N,S⟩:=rn hg hg2 hvx.1 hvx.2 h.c0 h.c1 huy.1 huy.2 h.bb
  have hidx:Aside0 (wrap64 ((j:Int) + (i:Int)) = (n:Int)):=⟨w64n (by omega) (by omega)⟩
  have hnx:Aside0 (wrap64 ((i:Int) + 1) = ((i + 1:Nat):Int)):=⟨w64n (by omega) (by omega)⟩
  have hst:∀ d b',((e < 0→d = e + 1000000000∧b' = 1)∧(0≤e→d = e∧b' = 0))→SubI u v (u'.set n d) j (i + 1) g c' b':=by
   intro d b' hd
   rw [hn]
   exact h.step (by omega) hv (by rw [hx,← hn,hy];exact S) d b' hd
  have e0:=S.e0
  have e1:=S.e1
  have g1:(i:Int) < (v.length:Int):=by omega
  have g2:(0:Int)≤(i:Int):=by omega
  have g3:(0:Int)≤(n:Int):=by omega
  have g4:(n:Int) < (u'.length:Int):=by omega
  by_cases he:e < 0
  ·have hm1:(e + 1000000000) % 4294967296 = e + 1000000000:=Int.emod_eq_of_lt (by omega) (by omega)
   obtain ⟨u2,c2,b2,hI,hk⟩:=ih (i + 1) (by omega) _ _ _ (hst (e + 1000000000) 1 ⟨fun _=>⟨rfl,rfl⟩,fun h=>absurd he (Int.not_lt.2 h)⟩)
   refine ⟨u2,c2,b2,hI,fun k=>?_⟩
   refine Eq.trans ?_ (hk k)
   rw [show k + (m + 1) = (k + m) + 1 from rfl]
   conv=>lhs;unfold garboardref01_reduce.l0
   rw [if_pos g1,if_pos g2,if_pos g1,hidx.out,if_pos g3,if_pos g4,rd_nat,rd_nat,hx,hy,N.wx,N.wgx,N.hp,N.wp,N.rp,N.wd0,N.wy,N.wd,N.he,N.we,if_pos he,N.wB,N.qp,N.wc,hnx.out,Int.toNat_natCast,hm1]
  ·have hm2:e % 4294967296 = e:=Int.emod_eq_of_lt (by omega) (by omega)
   obtain ⟨u2,c2,b2,hI,hk⟩:=ih (i + 1) (by omega) _ _ _ (hst e 0 ⟨fun h=>absurd h he,fun _=>⟨rfl,rfl⟩⟩)
   refine ⟨u2,c2,b2,hI,fun k=>?_⟩
   refine Eq.trans ?_ (hk k)
   rw [show k + (m + 1) = (k + m) + 1 from rfl]
   conv=>lhs;unfold garboardref01_reduce.l0
   rw [if_pos g1,if_pos g2,if_pos g1,hidx.out,if_pos g3,if_pos g4,rd_nat,rd_nat,hx,hy,N.wx,N.wgx,N.hp,N.wp,N.rp,N.wd0,N.wy,N.wd,N.he,N.we,if_neg he,N.qp,N.wc,hnx.out,Int.toNat_natCast,hm2]
set_option maxHeartbeats 1000000 in
theorem red_add (u v:List Int) (j:Nat) (g:Int) (hv:Wd v) (hj:j + v.length < u.length) (hs:u.length < 1099511627776):∀ (m i:Nat),i + m = v.length→∀ (u':List Int) (up:Int),AddI u v u' j i up →
  ∃ (u2:List Int) (up2:Int),AddI u v u2 j v.length up2∧∀ k,garboardref01_reduce.l1 (k + m) u' v (j:Int) g (v.length:Int) up (i:Int) = garboardref01_reduce.l1 k u2 v (j:Int) g (v.length:Int) up2 (v.length:Int):=by
 intro m
 induction m with
 | zero =>
  intro i hi u' up h
  have:i = v.length:=by omega
  subst this
  exact ⟨u',up,h,fun k=>by rw [Nat.add_zero]⟩
 | succ m ih =>
  intro i hi u' up h
  have hlen:=h.run.len
  obtain ⟨n,hn⟩:∃ n:Nat,n = j + i:=⟨_,rfl⟩
  obtain ⟨x,hx⟩:∃ x,v.getD i 0 = x:=⟨_,rfl⟩
  obtain ⟨y,hy⟩:∃ y,u'.getD n 0 = y:=⟨_,rfl⟩
  have hvx:=hv.getD i
  have huy:=h.run.wd.getD n
  rw [hx,BB] at hvx
  rw [hy,BB] at huy
  have hc0:=h.c0
  have hc1:=h.c1
  obtain ⟨s,up',d,N⟩:=an up y x hc0 hc1 huy.1 huy.2 hvx.1 hvx.2
  have hidx:Aside0 (wrap64 ((j:Int) + (i:Int)) = (n:Int)):=⟨w64n (by omega) (by omega)⟩
  have hnx:Aside0 (wrap64 ((i:Int) + 1) = ((i + 1:Nat):Int)):=⟨w64n (by omega) (by omega)⟩
  have hst:AddI u v (u'.set n d) j (i + 1) up':=by
   rw [hn]
   exact h.step (s:=s) (by omega) (by rw [hx,← hn,hy];exact N)
  obtain ⟨u2,up2,hI,hk⟩:=ih (i + 1) (by omega) _ _ hst
  refine ⟨u2,up2,hI,fun k=>?_⟩
  have hs1:(y + x) % 4294967296 = y + x:=Int.emod_eq_of_lt (by omega) (by omega)
  have hs2:(y + x + up) % 4294967296 = s:=by
   rw [Int.emod_eq_of_lt (by omega) (by omega),← N.hs]
   omega
  have g1:(i:Int) < (v.length:Int):=by omega
  have g2:(0:Int)≤(i:Int):=by omega
  have g3:(0:Int)≤(n:Int):=by omega
  have g4:(n:Int) < (u'.length:Int):=by omega
  refine Eq.trans ?_ (hk k)
  rw [show k + (m + 1) = (k + m) + 1 from rfl]
  conv=>lhs;unfold garboardref01_reduce.l1
  rw [if_pos g1,hidx.out,if_pos g3,if_pos g4,if_pos g2,if_pos g1,rd_nat,rd_nat,hx,hy,hs1,hs2,N.qs',N.rs',hnx.out,Int.toNat_natCast]
set_option maxHeartbeats 1000000 in
theorem reduce_ev {U0:Int} {lu:Nat} {u v q:List Int} {j:Nat} (h:OutI U0 lu u v q (j + 1)) {g:Int} (hg:g = qw u v j ∨ g = qw u v j + 1) :
  ∃ (x:Int) (u4:List Int),(∃ k,garboardref01_reduce.f k u v (j:Int) g = some (x,u4))∧u4.length = u.length∧0≤x∧x < 1000000000∧OutI U0 lu u4 v (q.set j x) j:=by
 have hv:=h.wv
 have hj:=h.hj
 have hs:=h.hsm
 have hg0:=h.g0 hg
 have hg1:=h.g1 hg
 obtain ⟨u2,c2,b2,hI,hk⟩:=red_sub u v j g hv hj hs hg0 hg1 v.length 0 (by omega) u 0 0 (SubI.start h.wu j g)
 obtain ⟨n,y,t0,t,k1',hn,k2,k3,hl,hy,k4,k5,k6,k7,k8,hcase⟩:=last_of h hg hI
 have k1:=Aside0.mk k1'
 clear k1'
 have hwc:wrap64 c2 = c2:=w64 (by have:=hI.c0;omega) (by have:=hI.c1;omega)
 have hf:∀ k,garboardref01_reduce.f (k + v.length) u v (j:Int) g = garboardref01_reduce.l0 k u2 v (j:Int) g (v.length:Int) b2 c2 (v.length:Int):=fun k=>hk k
 have g0:¬ (v.length:Int) < (v.length:Int):=Int.lt_irrefl _
 have g3:(0:Int)≤(n:Int):=Int.natCast_nonneg _
 have g4:(n:Int) < (u2.length:Int):=by omega
 rcases hcase with ⟨ht,he,hO,hg2,hg3⟩|⟨ht,he,hg2,hg3,hadd⟩
 ·refine ⟨g,u2.set n 0,⟨1 + v.length,?_⟩,by rw [List.length_set,hl],hg2,hg3,hO⟩
  rw [hf]
  conv=>lhs;unfold garboardref01_reduce.l0
  rw [if_neg g0,k1.out,if_pos g3,if_pos g4,rd_nat,hy,k4,hwc,k5,k6,k7,k8,ht,if_pos (by decide),Int.toNat_natCast,u32m hg2 hg3]
  rfl
 ·have hz:Wd (u2.set n 999999999):=hI.run.wd.set n ⟨by decide,by decide⟩
  obtain ⟨u3,up,hA,hk3⟩:=red_add (u2.set n 999999999) v j g hv (by rw [List.length_set,hl];exact hj) (by rw [List.length_set,hl];exact hs) v.length 0 (by omega) (u2.set n 999999999) 0 (AddI.start hz j)
  have hR:=hA.run
  rw [← hn] at hR
  have hR2:=run_set k3 hI.run.wd hR
  have hA2:AddI u2 v (u3.set n (u2.getD n 0)) j v.length up:=⟨by rw [← hn];exact hR2,hA.c0,hA.c1⟩
  obtain ⟨hup,hl3,hO⟩:=hadd _ _ hA2
  rw [List.length_set] at hl3
  rw [List.set_set] at hO
  have hget:u3.getD n 0 = 999999999:=by
   have:=hR.get
   rw [this,List.getD_eq_getElem?_getD,List.getElem?_set_self k3]
   rfl
  refine ⟨g - 1,u3.set n 0,⟨(1 + v.length) + 1 + v.length,?_⟩,by rw [List.length_set,hl3],hg2,hg3,hO⟩
  have g5:(n:Int) < (u3.length:Int):=by omega
  rw [hf]
  conv=>lhs;unfold garboardref01_reduce.l0
  rw [if_neg g0,k1.out,if_pos g3,if_pos g4,rd_nat,hy,k4,hwc,k5,k6,k7,k8,ht,if_neg (by decide),Int.toNat_natCast,show wrap64 (-1 + 1000000000) % 4294967296 = 999999999 by rw [w64 (by decide) (by decide)];decide]
  refine (hk3 1).trans ?_
  conv=>lhs;unfold garboardref01_reduce.l1
  rw [if_neg g0,k1.out,if_pos g3,if_pos g5,rd_nat,hget,hup,Int.toNat_natCast,u64w' hg2 hg3,u32m hg2 hg3]
  rfl
end Go.Proofs.YtaopmkcghancmaaDoor.Pr
namespace Go.Proofs.YtaopmkcghancmaaDoor.Pr
noncomputable def rblk (n:Nat):Code:=(Tryd.f47.body.bind (findBlock n)).getD .skip
noncomputable def rblkIn (n:Nat):Code :=
 match rblk n with
 | .block _ c=>c
 | c=>c
end Go.Proofs.YtaopmkcghancmaaDoor.Pr
namespace Go.Proofs.YtaopmkcghancmaaDoor.Pr
set_option linter.unusedVariables false
set_option linter.unusedSimpArgs false
open Go.RowKit Go.Proofs.YtaopmkcghancmaaDoor.NatTh Go.Proofs.YtaopmkcghancmaaDoorW.PrintWords Go.Proofs.YtaopmkcghancmaaDoorW.PrintLast Go.Proofs.YtaopmkcghancmaaDoorW.PrintMore
set_option maxRecDepth 1000000 in
set_option maxHeartbeats 4000000 in
theorem rguess_loop (K:Act→World→Prop) (Q0:Exit→Act→World→Prop) (w:World) (gu cu gv cv j:Nat) (u v:List Int) (g0 r0:Int) (u0 u1 u2 u3 u4 u5 u6 u7 u9 u12 u14 u17 u18 u19 u20 u21 u22 u23 u24 u25 u26 u27 u28 u29 u30 u31 u32 u33 u34 u35 u36 u37 u38 u39 u40 u41 u42 u43 u44 u45 u46 u47 u48 u49 u50 u51 u52 u53 u54 u55 u56 u57 u58 u59 u60 u61 u62 u63 u64 u65 u66 u67 u68 u69 u70 u71 u72 u73 u74 u75 u76 u77 u78 u79 u80 u81 u82 u83 u84 u85 u86 u87 u88 u89 u90 u91 u92 u93 u94 u95 u96 u97 u98 u99 u100 u101 u102 u103 u104 u105 u106 u107 u108 u109 u110 u111 u112 u113 u114 u115 u116 u117 u118 u119 u120 u121 u122 u123 u124 u125 u126 u127 u128 u129 u130 u131 u132 u133 u134 u135 u136 u137 u138 u139 u140 u141 u142 u143 u144 u145 u146 u147 u148 u149 u150 u151 u152 u153 u154 u155 u156 u157 u158 u159 u160 u161 u162 u163 u164 u165 u166 u167 u168 u169 u170 u171 u172 u173 u174 u175:Value)
  (hP:NatTh.Place u v j) (hs:u.length < 1099511627776) (hG:Guess u v j g0 r0)
  (hcu:∀ i,i < u.length→w.cell? ⟨gu,i,none⟩ = some (.int .u32 (u.getD i 0))) (hcv:∀ i,i < v.length→w.cell? ⟨gv,i,none⟩ = some (.int .u32 (v.getD i 0)))
  (hK:∀ (m:Nat) (g:Int) (y16 y116 y117 y118 y119 y120 y121 y122 y123 y124 y125 y126 y127 y128 y129 y130 y131 y132 y133 y134 y135 y136 y137 y138 y139 y140 y141 y142 y143 y144 y145 y146 y147 y148 y149 y150 y151 y152 y153:Value),g = qw u v j ∨ g = qw u v j + 1→K ⟨#[u0,u1,u2,u3,u4,u5,u6,u7,.int .i64 v.length,u9,.slice (some ⟨gv,0,none⟩) v.length cv,.slice (some ⟨gu,0,none⟩) u.length cu,u12,.int .i64 j,u14,.int .u64 g,y16,u17,u18,u19,u20,u21,u22,u23,u24,u25,u26,u27,u28,u29,u30,u31,u32,u33,u34,u35,u36,u37,u38,u39,u40,u41,u42,u43,u44,u45,u46,u47,u48,u49,u50,u51,u52,u53,u54,u55,u56,u57,u58,u59,u60,u61,u62,u63,u64,u65,u66,u67,u68,u69,u70,u71,u72,u73,u74,u75,u76,u77,u78,u79,u80,u81,u82,u83,u84,u85,u86,u87,u88,u89,u90,u91,u92,u93,u94,u95,u96,u97,u98,u99,u100,u101,u102,u103,u104,u105,u106,u107,u108,u109,u110,u111,u112,u113,u114,u115,y116,y117,y118,y119,y120,y121,y122,y123,y124,y125,y126,y127,y128,y129,y130,y131,y132,y133,y134,y135,y136,y137,y138,y139,y140,y141,y142,y143,y144,y145,y146,y147,y148,y149,y150,y151,y152,y153,u154,u155,u156,u157,u158,u159,u160,u161,u162,u163,u164,u165,u166,u167,u168,u169,u170,u171,u172,u173,u174,u175],[]⟩ (w.drewN m)) :
  Code.wp Tryd.prog (rblkIn 2) (Exit.inBlock 2 (Exit.then K Q0)) ⟨#[u0,u1,u2,u3,u4,u5,u6,u7,.int .i64 v.length,u9,.slice (some ⟨gv,0,none⟩) v.length cv,.slice (some ⟨gu,0,none⟩) u.length cu,u12,.int .i64 j,u14,.int .u64 g0,.int .u64 r0,u17,u18,u19,u20,u21,u22,u23,u24,u25,u26,u27,u28,u29,u30,u31,u32,u33,u34,u35,u36,u37,u38,u39,u40,u41,u42,u43,u44,u45,u46,u47,u48,u49,u50,u51,u52,u53,u54,u55,u56,u57,u58,u59,u60,u61,u62,u63,u64,u65,u66,u67,u68,u69,u70,u71,u72,u73,u74,u75,u76,u77,u78,u79,u80,u81,u82,u83,u84,u85,u86,u87,u88,u89,u90,u91,u92,u93,u94,u95,u96,u97,u98,u99,u100,u101,u102,u103,u104,u105,u106,u107,u108,u109,u110,u111,u112,u113,u114,u115,u116,u117,u118,u119,u120,u121,u122,u123,u124,u125,u126,u127,u128,u129,u130,u131,u132,u133,u134,u135,u136,u137,u138,u139,u140,u141,u142,u143,u144,u145,u146,u147,u148,u149,u150,u151,u152,u153,u154,u155,u156,u157,u158,u159,u160,u161,u162,u163,u164,u165,u166,u167,u168,u169,u170,u171,u172,u173,u174,u175],[]⟩ w:=by
 conv=>arg 2;whnf
 have HCU:=Aside0.mk hcu
 have HCV:=Aside0.mk hcv
 have HKK:=Aside0.mk hK
 clear hcu hcv hK
 go_wp2
 go_loopw [15,16] (fun a b wr=>∃ g r:Int,a = .int .u64 g∧b = .int .u64 r∧Aside0 (Guess u v j g r)∧∃ m:Nat,wr = w.drewN m) (fun a _ _=>(intOf a).toNat)
 case atStart=>exact ⟨g0,r0,rfl,rfl,⟨hG⟩,0,(World.drewN_zero _).symm⟩
 case round =>
  obtain ⟨g,r,rfl,rfl,HG,m,rfl⟩:=hrel
  obtain ⟨a1,a2,b0,b2,x1,x2,y2,N⟩:=gn u v j hP hs
  have c1:w.cell? ⟨gv,a1,none⟩ = some (.int .u32 x1):=by rw [← N.x1e];exact HCV.out a1 N.l1
  have c2:w.cell? ⟨gv,a2,none⟩ = some (.int .u32 x2):=by rw [← N.x2e];exact HCV.out a2 N.l2
  have c3:w.cell? ⟨gu,b2,none⟩ = some (.int .u32 y2):=by rw [← N.y2e];exact HCU.out b2 N.l3
  have i1:=N.i1
  have i2:=N.i2
  have i3:=N.i3
  have i4:=N.i4
  have q1:IntKind.i64.wrap ((v.length:Int) - 1) = (a1:Int):=(i64_w _).trans N.i1
  have q2:IntKind.i64.wrap ((v.length:Int) - 2) = (a2:Int):=(i64_w _).trans N.i2
  have q3:IntKind.i64.wrap ((j:Int) + (v.length:Int)) = (b0:Int):=(i64_w _).trans N.i3
  have q4:IntKind.i64.wrap ((b0:Int) - 2) = (b2:Int):=(i64_w _).trans N.i4
  have l1:=N.l1
  have l2:=N.l2
  have l3:=N.l3
  have s1:=N.wx1
  have s2:=N.wx2
  have s3:=N.wy2
  have HS5:Aside0 (r < B→IntKind.u64.wrap (r + x1) = r + x1):=⟨fun h2=>guess_rest HG.out.r0 h2 N.x10 N.x11⟩
  have hcont:∀ (hc:B≤g ∨ r * B + y2 < g * x2),Guess u v j (g - 1) (r + x1)∧1≤g:=by
   intro hc
   have h:=HG.out.step hP
   rw [← N.e1,← N.e2,← N.e3,N.x1e,N.x2e,N.y2e] at h
   exact h hc
  have hdone:∀ (g' r':Int),Guess u v j g' r'→(B≤r' ∨ (g' < B∧g' * x2≤r' * B + y2))→g' = qw u v j ∨ g' = qw u v j + 1:=by
   intro g' r' hG' hc
   have h:=hG'.done hP
   rw [← N.e2,← N.e3,N.x2e,N.y2e] at h
   exact h hc
  have HC:=Aside0.mk hcont
  have HD:=Aside0.mk hdone
  have HX20:=Aside0.mk N.x20
  have HX21:=Aside0.mk N.x21
  have HY20:=Aside0.mk N.y20
  have HY21:=Aside0.mk N.y21
  clear hcont hdone N
  have s6:IntKind.u64.wrap (g * x2) = g * x2:=guess_mul HG.out.g0 HG.out.hi HX20.out HX21.out
  by_cases hR:r < 1000000000
  ·have hd0:decide (r < 1000000000) = true:=decide_eq_true hR
   have hR':r < B:=hR
   have s5:=HS5.out hR'
   have s7:IntKind.u64.wrap (r * 1000000000) = r * 1000000000:=guess_rb HG.out.r0 hR'
   have s8:IntKind.u64.wrap (r * 1000000000 + y2) = r * 1000000000 + y2:=guess_rby HG.out.r0 hR' HY20.out HY21.out
   clear hR hR'
   by_cases hB:1000000000≤g
   ·have hd:decide (1000000000≤g) = true:=decide_eq_true hB
    have s4:IntKind.u64.wrap (g - 1) = g - 1:=guess_dec HG.out (Int.le_trans (by decide) hB)
    have hst:=HC.out (.inl hB)
    have HST:=Aside0.mk hst
    clear hst
    go_wp2
    go_quiet (fail)
    go_wp2
    go_roundw
    case rel=>exact ⟨g - 1,r + x1,rfl,rfl,⟨HST.out.1⟩,_,rfl⟩
    case measure=>exact guess_meas HST.out.2
   ·have hd:decide (1000000000≤g) = false:=decide_eq_false hB
    by_cases hX:r * 1000000000 + y2 < g * x2
    ·have hd3:decide (r * 1000000000 + y2 < g * x2) = true:=decide_eq_true hX
     have hst:=HC.out (.inr hX)
     have HST:=Aside0.mk hst
     clear hst
     have s4:IntKind.u64.wrap (g - 1) = g - 1:=guess_dec HG.out HST.out.2
     go_wp2
     go_quiet (fail)
     go_wp2
     go_roundw
     case rel=>exact ⟨g - 1,r + x1,rfl,rfl,⟨HST.out.1⟩,_,rfl⟩
     case measure=>exact guess_meas HST.out.2
    ·have hd3:decide (r * 1000000000 + y2 < g * x2) = false:=decide_eq_false hX
     have hfin:=HD.out _ _ HG.out (.inr ⟨Int.not_le.1 hB,Int.not_lt.1 hX⟩)
     have HFIN:=Aside0.mk hfin
     clear hfin
     go_wp2
     go_quiet (fail)
     go_wp2
     rw [World.drewN_drewN]
     exact HKK.out _ _ _ _ _ _ _ _ _ _ _ _ _ _ _ _ _ _ _ _ _ _ _ _ _ _ _ _ _ _ _ _ _ _ _ _ _ _ _ _ _ HFIN.out
  ·have hd0:decide (r < 1000000000) = false:=decide_eq_false hR
   have hfin:=HD.out _ _ HG.out (.inl (Int.not_lt.1 hR))
   have HFIN:=Aside0.mk hfin
   clear hfin
   go_wp2
   go_quiet (fail)
   go_wp2
   rw [World.drewN_drewN]
   exact HKK.out _ _ _ _ _ _ _ _ _ _ _ _ _ _ _ _ _ _ _ _ _ _ _ _ _ _ _ _ _ _ _ _ _ _ _ _ _ _ _ _ _ HFIN.out
end Go.Proofs.YtaopmkcghancmaaDoor.Pr
namespace Go.Proofs.YtaopmkcghancmaaDoor.Pr
set_option linter.unusedVariables false
set_option linter.unusedSimpArgs false
open Go.RowKit Go.Proofs.YtaopmkcghancmaaDoor.NatTh Go.Proofs.YtaopmkcghancmaaDoorW.PrintWords Go.Proofs.YtaopmkcghancmaaDoorW.PrintLast Go.Proofs.YtaopmkcghancmaaDoorW.PrintMore
theorem Rw.kept {W W':World} {base g g' c:Nat} {l:List Int} (h:Rw W base g c l) (hne:g≠g') (hk:Kept W W' (fun k=>k = g')):Rw W' base g c l :=
 Kd.R_step h (fun k hk1 hlt=>hk.2 k hlt (fun e=>hne (hk1.symm.trans e)))
theorem Rw.reads {W:World} {base g c:Nat} {l:List Int} (h:Rw W base g c l):l.length≤c∧Kd.C (Kd.int .u32) W (some ⟨g,0,none⟩) l.length l:=(Kd.R_reads' h).2
theorem DW.red {ws w W W':World} {gu cu gv cv gq cq lu:Nat} {u u' v q:List Int} (hws:Below ws.heap.size ws w) (h:DW ws.heap.size w W gu cu gv cv gq cq u v q)
  (hr:Kd.R (Kd.int .u32) 64 W' ws.heap.size (fun k=>k = gu ∨ W.heap.size≤k) (.slice (some ⟨gu,0,none⟩) lu cu) u') (hl:u'.length = lu) (hB:Below ws.heap.size ws W') (hk:Kept W W' (fun k=>k = gu)):DW ws.heap.size w W' gu cu gv cv gq cq u' v q:=by
 subst hl
 refine ⟨Rw.of hr,h.rv.kept h.uv.symm hk,h.rq.kept h.uq.symm hk,h.uv,h.uq,h.vq,⟨hB.os.trans hws.os.symm,hB.tape.trans hws.tape.symm,hB.output.trans hws.output.symm,Nat.le_trans h.below.size hk.1,fun k hlt=>?_⟩,fun k h1 h2 h3=>?_⟩
 ·exact (hB.block k hlt).trans (hws.block k hlt).symm
 ·exact (hk.2 k (Nat.lt_of_lt_of_le h3 h.below.size) h1).trans (h.rest k h1 h2 h3)
end Go.Proofs.YtaopmkcghancmaaDoor.Pr
namespace Go.Proofs.YtaopmkcghancmaaDoor.Pr
set_option linter.unusedVariables false
set_option linter.unusedSimpArgs false
open Go.RowKit Go.Proofs.YtaopmkcghancmaaDoor.NatTh Go.Proofs.YtaopmkcghancmaaDoorW.PrintWords Go.Proofs.YtaopmkcghancmaaDoorW.PrintLast Go.Proofs.YtaopmkcghancmaaDoorW.PrintMore
set_option maxRecDepth 1000000 in
set_option maxHeartbeats 4000000 in
theorem router_loop (K:Act→World→Prop) (Q0:Exit→Act→World→Prop) (ws w0 w:World) (gu cu gv cv gq cq lu lq:Nat) (u v q:List Int) (U0 z:Int) (u0 u1 u2 u3 u4 u5 u6 u7 u9 u14 u15 u16 u17 u18 u19 u20 u21 u22 u23 u24 u25 u26 u27 u28 u29 u30 u31 u32 u33 u34 u35 u36 u37 u38 u39 u40 u41 u42 u43 u44 u45 u46 u47 u48 u49 u50 u51 u52 u53 u54 u55 u56 u57 u58 u59 u60 u61 u62 u63 u64 u65 u66 u67 u68 u69 u70 u71 u72 u73 u74 u75 u76 u77 u78 u79 u80 u81 u82 u83 u84 u85 u86 u87 u88 u89 u90 u91 u92 u93 u94 u95 u96 u97 u98 u99 u100 u101 u102 u103 u104 u105 u106 u107 u108 u109 u110 u111 u112 u113 u114 u115 u116 u117 u118 u119 u120 u121 u122 u123 u124 u125 u126 u127 u128 u129 u130 u131 u132 u133 u134 u135 u136 u137 u138 u139 u140 u141 u142 u143 u144 u145 u146 u147 u148 u149 u150 u151 u152 u153 u154 u155 u156 u157 u158 u159 u160 u161 u162 u163 u164 u165 u166 u167 u168 u169 u170 u171 u172 u173 u174 u175:Value)
  (hz:z = (q.length:Int) - 1) (hlq:q.length = lq) (hO:OutI U0 lu u v q q.length) (hws:Below ws.heap.size ws w0) (hD:DW ws.heap.size w0 w gu cu gv cv gq cq u v q)
  (hK:∀ (W:World) (u' q':List Int) (y13 y14 y15 y16 y79 y80 y81 y82 y83 y84 y85 y86 y87 y88 y89 y90 y91 y92 y93 y94 y95 y96 y97 y98 y99 y100 y101 y102 y103 y104 y105 y106 y107 y108 y109 y110 y111 y112 y113 y114 y115 y116 y117 y118 y119 y120 y121 y122 y123 y124 y125 y126 y127 y128 y129 y130 y131 y132 y133 y134 y135 y136 y137 y138 y139 y140 y141 y142 y143 y144 y145 y146 y147 y148 y149 y150 y151 y152 y153 y154 y155 y156 y157 y158 y159 y160 y161:Value),DW ws.heap.size w0 W gu cu gv cv gq cq u' v q'→OutI U0 lu u' v q' 0→q'.length = lq→K ⟨#[u0,u1,u2,u3,u4,u5,u6,u7,.int .i64 v.length,u9,.slice (some ⟨gv,0,none⟩) v.length cv,.slice (some ⟨gu,0,none⟩) lu cu,.slice (some ⟨gq,0,none⟩) lq cq,y13,y14,y15,y16,u17,u18,u19,u20,u21,u22,u23,u24,u25,u26,u27,u28,u29,u30,u31,u32,u33,u34,u35,u36,u37,u38,u39,u40,u41,u42,u43,u44,u45,u46,u47,u48,u49,u50,u51,u52,u53,u54,u55,u56,u57,u58,u59,u60,u61,u62,u63,u64,u65,u66,u67,u68,u69,u70,u71,u72,u73,u74,u75,u76,u77,u78,y79,y80,y81,y82,y83,y84,y85,y86,y87,y88,y89,y90,y91,y92,y93,y94,y95,y96,y97,y98,y99,y100,y101,y102,y103,y104,y105,y106,y107,y108,y109,y110,y111,y112,y113,y114,y115,y116,y117,y118,y119,y120,y121,y122,y123,y124,y125,y126,y127,y128,y129,y130,y131,y132,y133,y134,y135,y136,y137,y138,y139,y140,y141,y142,y143,y144,y145,y146,y147,y148,y149,y150,y151,y152,y153,y154,y155,y156,y157,y158,y159,y160,y161,u162,u163,u164,u165,u166,u167,u168,u169,u170,u171,u172,u173,u174,u175],[]⟩ W) :
  Code.wp Tryd.prog (rblkIn 0) (Exit.inBlock 0 (Exit.then K Q0)) ⟨#[u0,u1,u2,u3,u4,u5,u6,u7,.int .i64 v.length,u9,.slice (some ⟨gv,0,none⟩) v.length cv,.slice (some ⟨gu,0,none⟩) lu cu,.slice (some ⟨gq,0,none⟩) lq cq,.int .i64 z,u14,u15,u16,u17,u18,u19,u20,u21,u22,u23,u24,u25,u26,u27,u28,u29,u30,u31,u32,u33,u34,u35,u36,u37,u38,u39,u40,u41,u42,u43,u44,u45,u46,u47,u48,u49,u50,u51,u52,u53,u54,u55,u56,u57,u58,u59,u60,u61,u62,u63,u64,u65,u66,u67,u68,u69,u70,u71,u72,u73,u74,u75,u76,u77,u78,u79,u80,u81,u82,u83,u84,u85,u86,u87,u88,u89,u90,u91,u92,u93,u94,u95,u96,u97,u98,u99,u100,u101,u102,u103,u104,u105,u106,u107,u108,u109,u110,u111,u112,u113,u114,u115,u116,u117,u118,u119,u120,u121,u122,u123,u124,u125,u126,u127,u128,u129,u130,u131,u132,u133,u134,u135,u136,u137,u138,u139,u140,u141,u142,u143,u144,u145,u146,u147,u148,u149,u150,u151,u152,u153,u154,u155,u156,u157,u158,u159,u160,u161,u162,u163,u164,u165,u166,u167,u168,u169,u170,u171,u172,u173,u174,u175],[]⟩ w:=by
 conv=>arg 2;whnf
 have HKK:=Aside0.mk hK
 have HD:=Aside0.mk hD
 have HO:=Aside0.mk hO
 have HZ:=Aside0.mk hz
 have HQ:=Aside0.mk hlq
 have HWS:=Aside0.mk hws
 clear hK hD hO hz hlq hws
 go_wp2
 go_loopw [13] (fun a15 wr=>∃ (n:Nat) (u' q':List Int) (z:Int),a15 = .int .i64 z∧Aside0 (q'.length = lq)∧Aside0 (z = (n:Int) - 1)∧Aside0 (OutI U0 lu u' v q' n)∧Aside0 (DW ws.heap.size w0 wr gu cu gv cv gq cq u' v q')) (fun a _=>(intOf a + 1).toNat)
 case atStart=>exact ⟨q.length,u,q,z,rfl,HQ,HZ,HO,HD⟩
 case round =>
  clear HD HO HZ HQ
  obtain ⟨n,u1,q1,z,rfl,HQ,HZ,HO,HD⟩:=hrel
  rcases n with _|j
  ·have hz1:z = -1:=by rw [HZ.out];rfl
   subst hz1
   go_wp2
   exact HKK.out _ u1 q1 _ _ _ _ _ _ _ _ _ _ _ _ _ _ _ _ _ _ _ _ _ _ _ _ _ _ _ _ _ _ _ _ _ _ _ _ _ _ _ _ _ _ _ _ _ _ _ _ _ _ _ _ _ _ _ _ _ _ _ _ _ _ _ _ _ _ _ _ _ _ _ _ _ _ _ _ _ _ _ _ _ _ _ _ _ _ _ HD.out HO.out HQ.out
  ·have hz1:z = (j:Int):=by rw [HZ.out];omega
   subst hz1
   obtain rfl:u1.length = lu:=HO.out.llu
   have hjq:j < lq:=by rw [← HQ.out];exact HO.out.hjq
   obtain ⟨b0,b1,a1,y1,y0,x1,p,s,g,r,N⟩:=tn u1 v j HO.out.place HO.out.hsm
   have cy1:wr.cell? ⟨gu,b0,none⟩ = some (.int .u32 y1):=by rw [← N.y1e];exact (HD.out.ru.cell b0 N.l1).1
   have cy0:wr.cell? ⟨gu,b1,none⟩ = some (.int .u32 y0):=by rw [← N.y0e];exact (HD.out.ru.cell b1 N.l2).1
   have cx1:wr.cell? ⟨gv,a1,none⟩ = some (.int .u32 x1):=by rw [← N.x1e];exact (HD.out.rv.cell a1 N.l3).1
   have i1:=N.i1
   have i2:=N.i2
   have i3:=N.i3
   have j1:IntKind.i64.wrap ((j:Int) + (v.length:Int)) = (b0:Int):=(i64_w _).trans N.i1
   have j2:IntKind.i64.wrap ((b0:Int) - 1) = (b1:Int):=(i64_w _).trans N.i2
   have j3:IntKind.i64.wrap ((v.length:Int) - 1) = (a1:Int):=(i64_w _).trans N.i3
   have l1:=N.l1
   have l2:=N.l2
   have l3:=N.l3
   have s1:=N.wy1
   have s2:=N.wy0
   have s3:=N.wx1
   have s4:=N.hp
   have s5:=N.wp
   have s6:=N.hs
   have s7:=N.ws
   have s8:=N.xn
   have s9:=N.qg
   have t1:=N.rg
   have t2:=N.qg'
   have t3:=N.rg'
   have t4:=N.wg
   have t5:=N.wr
   have HN:=Aside0.mk N
   clear N
   go_wp2
   go_quiet (fail)
   go_wp2
   go_quiet (fail)
   go_wp2
   refine rguess_loop _ _ _ _ _ _ _ j u1 v g r _ _ _ _ _ _ _ _ _ _ _ _ _ _ _ _ _ _ _ _ _ _ _ _ _ _ _ _ _ _ _ _ _ _ _ _ _ _ _ _ _ _ _ _ _ _ _ _ _ _ _ _ _ _ _ _ _ _ _ _ _ _ _ _ _ _ _ _ _ _ _ _ _ _ _ _ _ _ _ _ _ _ _ _ _ _ _ _ _ _ _ _ _ _ _ _ _ _ _ _ _ _ _ _ _ _ _ _ _ _ _ _ _ _ _ _ _ _ _ _ _ _ _ _ _ _ _ _ _ _ _ _ _ _ _ _ _ _ _ _ _ _ _ _ _ _ _ _ _ _ _ _ _ _ _ _ _ _ _ _ _ _ _ _ _ _ _ _ _ _ HO.out.place HO.out.hsm HN.out.G (fun i hi=>by first|exact (HD.out.ru.cell i hi).1|exact ((HD.out.drewN _).ru.cell i hi).1) (fun i hi=>by first|exact (HD.out.rv.cell i hi).1|exact ((HD.out.drewN _).rv.cell i hi).1) ?_
   intro m1 g2 a16 a116 a117 a118 a119 a120 a121 a122 a123 a124 a125 a126 a127 a128 a129 a130 a131 a132 a133 a134 a135 a136 a137 a138 a139 a140 a141 a142 a143 a144 a145 a146 a147 a148 a149 a150 a151 a152 a153 hg
   obtain ⟨x,u4,⟨kr,hrd⟩,hl4,hx0,hx1,hO4⟩:=reduce_ev HO.out hg
   have HRD:=Aside0.mk hrd
   have HL4:=Aside0.mk hl4
   have HO4:=Aside0.mk hO4
   clear hg hrd hl4 hO4 i1 i2 i3 j1 j2 j3 l1 l2 l3 s1 s2 s3 s4 s5 s6 s7 s8 s9 t1 t2 t3 t4 t5 cy1 cy0 cx1 HN
   have ez:wrap64 ((j:Int) - 1) = (j:Int) - 1:=out_dec HO.out
   go_wp2_with (first|((with_reducible refine gate_callee (f:=69) rfl ?_);refine goesL_ (some 160) rfl rfl Tryd.func69 (by kernel_rfl) rfl #[.slice (some ⟨gu,0,none⟩) u1.length cu,.slice (some ⟨gv,0,none⟩) v.length cv,.int .i64 j,.int .u64 g2] rfl (by (try simp only [List.map_toArray,List.map_cons,List.map_nil]);first|done|rfl|(simp only [List.length_drop,List.length_take];rfl)|(simp [*];done)) ?_;(with_reducible refine (garboardref01_reduce.calls kr (fun k_=>k_ = gu) _ u1 _ _ v (j:Int) g2 x u4 ws _ ?side1 ?side2 ?side3 ?side4 HRD.out).mono ?_);(case side1=>exact HWS.out.trans (HD.out.drewN _).below);(case side2=>exact (HD.out.drewN _).ru);(case side3=>exact (fun W_ hk_=>(((HD.out.drewN _).rv.kept HD.out.uv.symm hk_).reads).2));(case side4=>exact HD.out.rv.reads.1);rintro e w2 ⟨rfl,ho0,hb,hkk⟩;refine ⟨_,rfl,?_⟩;have HD2:=Aside0.mk (DW.red HWS.out (HD.out.drewN _) ho0 HL4.out hb hkk);clear ho0 hb hkk;have fq:w2.frozen? ⟨gq,j,none⟩ = false:=(HD2.out.rq.cell j HO.out.hjq).2;have cq':w2.cell? ⟨gq,j,none⟩ = some (.int .u32 (q1.getD j 0)):=(HD2.out.rq.cell j HO.out.hjq).1))
   go_roundw
   case rel=>exact ⟨j,u4,q1.set j x,(j:Int) - 1,(by first|rfl|exact congrArg _ ez),⟨List.length_set.trans HQ.out⟩,⟨rfl⟩,HO4,⟨HD2.out.setQ j x⟩⟩
   case measure=>first|exact out_meas rfl|(rw [ez];exact out_meas rfl)
end Go.Proofs.YtaopmkcghancmaaDoor.Pr
set_option linter.unusedVariables false
set_option linter.unusedSimpArgs false
namespace Go.Proofs.YtaopmkcghancmaaDoor.Pr
open Go.RowKit Go.Proofs.YtaopmkcghancmaaDoorW.PrintWords Go.Proofs.YtaopmkcghancmaaDoorW.PrintLast Go.Proofs.YtaopmkcghancmaaDoorW.PrintMore
attribute [local go_sem] max2_int min2_int max_two min_two max_three min_three max_four min_four
theorem R_take2 {e:Nat} {w:World} {base:Nat} {ok:Nat→Prop} {a:Addr} {n c m:Nat} {xs:List Int} (h:Kd.R (Kd.int .u32) e w base ok (.slice (some a) n c) xs) (hm:m≤xs.length):Kd.R (Kd.int .u32) e w base ok (.slice (some a) m c) (xs.take m):=by
 obtain ⟨h0,inner,⟨hl,ho⟩,hr⟩:=h
 rcases ho with ⟨h1,_⟩|⟨g,cap,cur,h1,hg,hh,hn,hc,hs,ht⟩
 ·cases h1
 ·injection h1 with ha hn' hc'
  subst hc'
  cases ha
  have hml:(xs.take m).length = m:=by rw [List.length_take];omega
  have hms:m * (Kd.int .u32).sz≤xs.length * (Kd.int .u32).sz:=Nat.mul_le_mul_right _ hm
  refine ⟨h0,inner.take (m * (Kd.int .u32).sz),⟨by rw [hml,List.length_take];omega,.inr ⟨g,c,cur,by rw [hml],hg,hh,by omega,hc,hs,?_⟩⟩,?_⟩
  ·rw [hml,← ht,List.take_take,Nat.min_eq_left hms]
  ·refine ⟨by rw [List.length_take,hml];have:=hr.1;omega,fun j p hj=>?_⟩
   have hjm:j < m:=by
    have:=(List.getElem?_eq_some_iff.1 hj).1
    omega
   rw [List.getElem?_take_of_lt hjm] at hj
   have h2:=hr.2 j p hj
   have h3:j * (Kd.int .u32).sz + (Kd.int .u32).sz≤m * (Kd.int .u32).sz:=by
    rw [← Nat.succ_mul]
    exact Nat.mul_le_mul_right _ hjm
   rw [List.drop_take,List.take_take,Nat.min_eq_left (by omega)]
   exact h2
set_option maxHeartbeats 8000000 in
set_option maxRecDepth 100000 in
theorem rtrim_own (k:Nat) (base:Nat) (ok:Nat→Prop) (A0:Option Addr) (c0:Nat) (l0:List Int) (r:List Int) (w:World) (hs0:Kd.R (Kd.int .u32) 64 w base ok (.slice A0 l0.length c0) l0) (h:garboardref01_trim.f k l0 = some r) :
  Calls Tryd.prog 59 #[.slice A0 l0.length c0] w fun e w'=>∃ v0_:Value,e = .returned (v0_)∧Kd.R (Kd.int .u32) 64 w' base ok v0_ r∧Below w.heap.size w w':=by
 have HO0:=Aside0.mk hs0
 have HB:=Aside0.mk (Below.refl w.heap.size w)
 have H:(garboardref01_trim.l0 k l0) = some r:=h
 clear h
 have H':=Aside0.mk H
 clear H
 go_enter Tryd.func59,Tryd.ntmps59
 go_wp2
 go_loopg [0] k (fun kq v0 w'=>∃ (x0_1:List Int),Aside0 (garboardref01_trim.l0 kq x0_1 = some r)∧Aside0 (kq≤k)∧Aside0 (Kd.R (Kd.int .u32) 64 w' base ok v0 x0_1)∧Aside0 (Below w.heap.size w w'))
 case atStart=>exact ⟨(l0),H',⟨Nat.le_refl _⟩,⟨by (with_reducible repeat (first|apply Kd.R_alloc|apply Kd.R_drewN|apply Kd.R_drew));exact HO0.out⟩,⟨by repeat (first|(with_reducible first|exact HB.out|apply below_alloc|apply pw_below_drewN|apply below_drew1)|exact HB.out)⟩⟩
 case round =>
  clear H'
  obtain ⟨x0_1,HA,HK1,HO_0,HB⟩:=hrel
  cases gk with
  | zero=>exact absurd HA.out (by simp [garboardref01_trim.l0])
  | succ k1 =>
   have H:=HA.out
   clear HA
   simp only [garboardref01_trim.l0] at H
   by_cases c2:(x0_1.length:Int) > 0
   ·rw [if_pos c2] at H
    have c2b0:decide (0 < (x0_1.length:Int)) = true:=decide_eq_true c2
    have c2b1:decide (0 < x0_1.length) = true:=decide_eq_true (by omega)
    clear c2
    obtain ⟨ji3,hji3⟩:∃ j_:Int,(wrap64 ((x0_1.length:Int) - 1)) = j_:=⟨_,rfl⟩
    replace H:(if 0≤(ji3) then (if (ji3) < (x0_1.length:Int) then (if (rd x0_1 (ji3)) = 0 then (if (ji3)≤(x0_1.length:Int) then (garboardref01_trim.l0 k1 (x0_1.take ((ji3):Int).toNat)) else (none)) else (some x0_1)) else (none)) else (none)) = some r:=by first|(rw [hji3] at H;exact H)|(simp only [hji3] at H ⊢;exact H)
    have hji3w:(IntKind.i64.wrap ((x0_1.length:Int) - 1)) = ji3:=(i64_w _).trans hji3
    by_cases c4:0≤(ji3)
    ·rw [if_pos c4] at H
     have c4b0:decide (0≤(ji3)) = true:=decide_eq_true c4
     clear c4
     by_cases c5:(ji3) < (x0_1.length:Int)
     ·rw [if_pos c5] at H
      have c5b0:decide ((ji3) < (x0_1.length:Int)) = true:=decide_eq_true c5
      clear c5
      by_cases c6:(rd x0_1 (ji3)) = 0
      ·rw [if_pos c6] at H
       have c6b0:((rd x0_1 (ji3)) == 0) = true:=beq_iff_eq.mpr c6
       have c6b1:((rd x0_1 (ji3)) != 0) = false:=bne_eq_false_iff_eq.mpr c6
       clear c6
       have c7b0:=eq_true (of_decide_eq_true (by first|(with_reducible assumption)|assumption):0≤(ji3))
       by_cases c8:(ji3)≤(x0_1.length:Int)
       ·rw [if_pos c8] at H
        have c8b0:=eq_true c8
        have c8b1:decide ((ji3)≤(x0_1.length:Int)) = true:=decide_eq_true c8
        clear c8
        obtain ⟨y102,hy102⟩:∃ y_:List Int,y_ = (x0_1.take ((ji3):Int).toNat):=⟨_,rfl⟩
        replace H:(garboardref01_trim.l0 k1 y102) = some r:=by first|(rw [hy102];with_reducible exact H)|(have H2_:=(Option.bind_some _ _).symm.trans H;rw [hy102];with_reducible exact H2_)|(have H2_:=(Option.bind_some _ _).symm.trans H;with_reducible exact H2_)|with_reducible exact H|(rw [hy102];exact H)|exact H
        have Ny102:=Aside0.mk hy102
        clear hy102
        have H':=Aside0.mk H
        clear H
        obtain ⟨Ao9,co9,eo9⟩:=Kd.R_slice HO_0.out
        subst eo9
        have p101:0≤((ji3):Int):=of_decide_eq_true (by first|(with_reducible assumption)|assumption)
        have q101:(ji3) < (x0_1.length:Int):=of_decide_eq_true (by first|(with_reducible assumption)|assumption)
        obtain ⟨ad101,e101,hx101_0⟩:=Kd.at_int (Kd.V_reads' (Kd.R_V (base':=base) HO_0.out)).2.2 (ji3) p101 q101
        cases e101
        replace p101:=eq_true p101
        replace q101:=eq_true q101
        have q10:((ji3):Int)≤((x0_1.length:Int):Int):=of_decide_eq_true (by first|(with_reducible assumption)|assumption)
        obtain ⟨i010,hi010,_,hsz10,_⟩:=info_parts info64
        have hroom10:x0_1.length≤co9:=(Kd.V_reads' (Kd.R_V (base':=base) HO_0.out)).2.1
        have hcut10:=cut_to (P:=Tryd.prog) 45 64 .i64 Tryd.underlying45 hi010 (some ad101) x0_1.length co9 (ji3) (of_decide_eq_true (by first|(with_reducible assumption)|assumption)) q10 hroom10
        have hr10:=R_take2 (m:=((ji3):Int).toNat) HO_0.out (by omega)
        have hy10:y102.length = ((ji3):Int).toNat:=(by rw [Ny102.out,List.length_take];omega)
        rw [← hy10] at hcut10
        have HO106:=Aside0.mk (show Kd.R (Kd.int .u32) 64 _ base ok (.slice (some ad101) y102.length co9) y102 from by rw [Ny102.out] at hy10 ⊢;rw [hy10];exact hr10)
        have HC106:=Aside0.mk (show y102.length≤co9 from by omega)
        clear hr10 hroom10 hi010 hsz10
        have KY10:=Aside0.mk hy10
        clear hy10
        replace q10:=eq_true q10
        go_wp2
        go_roundg k1
        case measure=>have:=HK1.out;omega
        case rel=>exact ⟨(y102),H',⟨by have:=HK1.out;omega⟩,⟨by (with_reducible repeat (first|apply Kd.R_alloc|apply Kd.R_drewN|apply Kd.R_drew));exact HO106.out⟩,⟨by repeat (first|(with_reducible first|exact HB.out|apply below_alloc|apply pw_below_drewN|apply below_drew1)|exact HB.out)⟩⟩
       ·rw [if_neg c8] at H
        exact absurd H (by simp)
      ·rw [if_neg c6] at H
       have c6b0:((rd x0_1 (ji3)) == 0) = false:=beq_eq_false_iff_ne.mpr c6
       have c6b1:((rd x0_1 (ji3)) != 0) = true:=bne_iff_ne.mpr c6
       obtain rfl:=Option.some.inj H
       obtain ⟨Ao11,co11,eo11⟩:=Kd.R_slice HO_0.out
       subst eo11
       have p101:0≤((ji3):Int):=of_decide_eq_true (by first|(with_reducible assumption)|assumption)
       have q101:(ji3) < (x0_1.length:Int):=of_decide_eq_true (by first|(with_reducible assumption)|assumption)
       obtain ⟨ad101,e101,hx101_0⟩:=Kd.at_int (Kd.V_reads' (Kd.R_V (base':=base) HO_0.out)).2.2 (ji3) p101 q101
       cases e101
       replace p101:=eq_true p101
       replace q101:=eq_true q101
       go_wp2
       go_ret
       exact ⟨_,by first|rfl|(simp [errW_none,errW_some]<;>rfl)|(simp only [← hji3];first|rfl|(simp [errW_none,errW_some]<;>rfl))|(simp [*,errW_none,errW_some]<;>rfl),by (with_reducible repeat (first|apply Kd.R_alloc|apply Kd.R_drewN|apply Kd.R_drew));exact HO_0.out,by repeat (first|(with_reducible first|exact HB.out|apply below_alloc|apply pw_below_drewN|apply below_drew1)|exact HB.out)⟩
     ·rw [if_neg c5] at H
      exact absurd H (by simp)
    ·rw [if_neg c4] at H
     exact absurd H (by simp)
   ·rw [if_neg c2] at H
    have c2b0:decide (0 < (x0_1.length:Int)) = false:=decide_eq_false c2
    have c2b1:decide (0 < x0_1.length) = false:=decide_eq_false (by omega)
    clear c2
    obtain rfl:=Option.some.inj H
    obtain ⟨Ao12,co12,eo12⟩:=Kd.R_slice HO_0.out
    subst eo12
    go_wp2
    go_ret
    exact ⟨_,by first|rfl|(simp [errW_none,errW_some]<;>rfl)|(simp [*,errW_none,errW_some]<;>rfl),by (with_reducible repeat (first|apply Kd.R_alloc|apply Kd.R_drewN|apply Kd.R_drew));exact HO_0.out,by repeat (first|(with_reducible first|exact HB.out|apply below_alloc|apply pw_below_drewN|apply below_drew1)|exact HB.out)⟩
end Go.Proofs.YtaopmkcghancmaaDoor.Pr
namespace Go.Proofs.YtaopmkcghancmaaDoor.Pr
open Go.RowKit Go.Proofs.YtaopmkcghancmaaDoorW.PrintWords Go.Proofs.YtaopmkcghancmaaDoorW.PrintLast Go.Proofs.YtaopmkcghancmaaDoorW.PrintMore
attribute [local go_sem] max2_int min2_int max_two min_two max_three min_three max_four min_four
set_option linter.unusedVariables false
set_option linter.unusedSimpArgs false
set_option maxHeartbeats 8000000 in
set_option maxRecDepth 100000 in
theorem Times_own (k:Nat) (A0:Option Addr) (c0:Nat) (l0:List Int) (A1:Option Addr) (c1:Nat) (l1:List Int) (r:List Int) (w:World) (hr0:Kd.C (Kd.int .u32) w A0 l0.length l0) (hc0:l0.length≤c0) (hr1:Kd.C (Kd.int .u32) w A1 l1.length l1) (hc1:l1.length≤c1) (h:garboardref01_Times.f k l0 l1 = some r) :
  Calls Tryd.prog 44 #[.slice A0 l0.length c0,.slice A1 l1.length c1] w fun e w'=>∃ v0_:Value,e = .returned (v0_)∧Kd.R (Kd.int .u32) 64 w' w.heap.size (fun k_=>(w.heap.size≤k_)) v0_ r∧Below w.heap.size w w':=by
 have HR0:=Aside0.mk hr0
 have HC0:=Aside0.mk hc0
 clear hr0 hc0
 have HR1:=Aside0.mk hr1
 have HC1:=Aside0.mk hc1
 clear hr1 hc1
 have HB:=Aside0.mk (Below.refl w.heap.size w)
 have H:(if (l0.length:Int) = 0 then (garboardref01_Times.j0 k l0 l1 true) else (garboardref01_Times.j0 k l0 l1 ((l1.length:Int) == 0))) = some r:=h
 clear h
 have HC3:=Aside0.mk H
 clear H
 go_enter Tryd.func44,Tryd.ntmps44
 go_upto_region 1 with (fail)
 repeat (go_quiet (fail);go_upto_region 1 with (fail))
 go_cut [17] (fun v17 wc=>∃ (kq:Nat) (x17_2:Bool),v17 = .bool x17_2∧Aside0 (garboardref01_Times.j0 kq l0 l1 x17_2 = some r)∧Aside0 (kq≤k)∧Aside0 (Below w.heap.size w wc))
 case first =>
  have H:=HC3.out
  clear HC3
  by_cases c4:(l0.length:Int) = 0
  ·rw [if_pos c4] at H
   have c4b0:((l0.length:Int) == 0) = true:=beq_iff_eq.mpr c4
   have c4b1:((l0.length:Int) != 0) = false:=bne_eq_false_iff_eq.mpr c4
   clear c4
   (first|rw [c4b0]|(simp only [i64_w,i32_w];rw [c4b0])|skip)
   have H':=Aside0.mk H
   clear H
   go_wp2
   repeat (go_quiet (fail);try go_wp2)
   go_meet
   case rel=>exact ⟨_,(true),(by first|rfl|(simp;done)|(simp [*];done)),H',⟨by first|omega|exact Nat.le_refl _⟩,⟨by repeat (first|(with_reducible first|exact HB.out|apply below_alloc|apply pw_below_drewN|apply below_drew1)|exact HB.out)⟩⟩
  ·rw [if_neg c4] at H
   have c4b0:((l0.length:Int) == 0) = false:=beq_eq_false_iff_ne.mpr c4
   have c4b1:((l0.length:Int) != 0) = true:=bne_iff_ne.mpr c4
   have c4b2:¬ (l0 = []):=fun h_=>c4 (by rw [h_];rfl)
   (first|rw [c4b0]|(simp only [i64_w,i32_w];rw [c4b0])|skip)
   have H':=Aside0.mk H
   clear H
   go_wp2
   repeat (go_quiet (fail);try go_wp2)
   go_meet
   case rel=>exact ⟨_,(((l1.length:Int) == 0)),(by first|rfl|(simp;done)|(simp [*];done)),H',⟨by first|omega|exact Nat.le_refl _⟩,⟨by repeat (first|(with_reducible first|exact HB.out|apply below_alloc|apply pw_below_drewN|apply below_drew1)|exact HB.out)⟩⟩
 case rest =>
  clear HC3
  try clear c1
  try clear p2
  try clear c4
  try clear c4b0
  try clear c4b1
  try clear c4b2
  obtain ⟨kq,x17_2,rfl,HA,HJ2,HB⟩:=hcut
  cases kq with
  | zero=>exact absurd HA.out (by simp [garboardref01_Times.j0])
  | succ kj2 =>
   have H:=HA.out
   clear HA
   simp only [garboardref01_Times.j0] at H
   by_cases c5:x17_2 = true
   ·subst c5
    have H1:(some ([]:List Int)) = some r:=by rw [if_pos rfl] at H;exact H
    clear H
    have H:=H1
    clear H1
    obtain rfl:=Option.some.inj H
    go_wp2
    repeat (go_quiet (fail);try go_wp2)
    go_ret
    exact ⟨_,by first|rfl|(simp [errW_none,errW_some]<;>rfl)|(simp [*,errW_none,errW_some]<;>rfl),(by first|exact Kd.R_nil _ _ _ _ _|exact Kd.N_nil _ _ _ _ _|exact Kd.V_nil _ _ _ _ _|exact Kd.Q_nil _ _ _ _ _|exact Kd.S_nil _ _ _ _ _),by repeat (first|(with_reducible first|exact HB.out|apply below_alloc|apply pw_below_drewN|apply below_drew1)|exact HB.out)⟩
   ·replace c5:=Bool.eq_false_iff.mpr c5
    subst c5
    have H1:(if 0≤(wrap64 ((l0.length:Int) + (l1.length:Int))) then (if (wrap64 ((l0.length:Int) + (l1.length:Int)):Int).toNat≤70368744177664 then (garboardref01_Times.l0 kj2 l0 l1 (List.replicate (wrap64 ((l0.length:Int) + (l1.length:Int)):Int).toNat 0) 0) else (none)) else (none)) = some r:=by rw [if_neg (show ¬ (false = true) by decide)] at H;exact H
    clear H
    have H:=H1
    clear H1
    obtain ⟨ji6,hji6⟩:∃ j_:Int,(wrap64 ((l0.length:Int) + (l1.length:Int))) = j_:=⟨_,rfl⟩
    replace H:(if 0≤(ji6) then (if (ji6:Int).toNat≤70368744177664 then (garboardref01_Times.l0 kj2 l0 l1 (List.replicate (ji6:Int).toNat 0) 0) else (none)) else (none)) = some r:=by first|(rw [hji6] at H;exact H)|(simp only [hji6] at H ⊢;exact H)
    have hji6w:(IntKind.i64.wrap ((l0.length:Int) + (l1.length:Int))) = ji6:=(i64_w _).trans hji6
    by_cases c7:0≤(ji6)
    ·rw [if_pos c7] at H
     have c7b0:=eq_true c7
     have c7b1:decide (0≤(ji6)) = true:=decide_eq_true c7
     clear c7
     by_cases c8:(ji6:Int).toNat≤70368744177664
     ·rw [if_pos c8] at H
      have c8b0:=eq_true c8
      have c8b1:decide ((ji6:Int).toNat≤70368744177664) = true:=decide_eq_true c8
      clear c8
      obtain ⟨y396,hy396⟩:∃ y_:List Int,y_ = (List.replicate (ji6:Int).toNat 0):=⟨_,rfl⟩
      replace H:(garboardref01_Times.l0 kj2 l0 l1 y396 0) = some r:=by first|(rw [hy396];with_reducible exact H)|(have H2_:=(Option.bind_some _ _).symm.trans H;rw [hy396];with_reducible exact H2_)|(have H2_:=(Option.bind_some _ _).symm.trans H;with_reducible exact H2_)|with_reducible exact H|(rw [hy396];exact H)|exact H
      have Ny396:=Aside0.mk hy396
      clear hy396
      have H':=Aside0.mk H
      clear H
      go_wp2_with (first|((with_reducible refine gate_dst (N:=23) rfl ?_);(try (refine gate_guard (by rfl) ?_;dsimp only));refine Kd.R_make (Kd.int .u32) _ 64 rfl (N:=23) rfl 45 _ _ rfl ji6 rfl rfl Tryd.underlying45 (.int .u32 0) 4 info64 rfl (by decide) (by omega) 0 (ok:=fun _=>True) (okp:=fun _=>True) rfl (fun _ hk=>hk) trivial (of_decide_eq_true (by first|(with_reducible assumption)|assumption)) (Nat.le_trans (Nat.mul_le_mul_right _ (of_decide_eq_true (by first|(with_reducible assumption)|assumption):ji6.toNat≤70368744177664)) (by omega)) (Below.refl _ _) (Nat.le_refl _) ?_;intro v397 w9 ho10 hb hg_ hnew_;clear hg_ hnew_;(first|rw [← Ny396.out] at ho10|(simp only [Int.reduceToNat] at ho10;rw [← Ny396.out] at ho10));have n0_:=Aside0.mk (Kd.R_lower (Kd.R_newM (M:=fun k_=>(w.heap.size≤k_)) ho10 (below_size (by repeat (first|(with_reducible first|exact HB.out|apply below_alloc|apply pw_below_drewN|apply below_drew1)|exact HB.out))) (fun k_ h_=>h_)) (below_size (by repeat (first|(with_reducible first|exact HB.out|apply below_alloc|apply pw_below_drewN|apply below_drew1)|exact HB.out))));have n1_:=Aside0.mk (below_step (by repeat (first|(with_reducible first|exact HB.out|apply below_alloc|apply pw_below_drewN|apply below_drew1)|exact HB.out)) hb);clear HB;have HO398:=n0_;have HB:=n1_;clear n0_ n1_;clear hb ho10))
      repeat (go_quiet (first|((with_reducible refine gate_dst (N:=23) rfl ?_);(try (refine gate_guard (by rfl) ?_;dsimp only));refine Kd.R_make (Kd.int .u32) _ 64 rfl (N:=23) rfl 45 _ _ rfl ji6 rfl rfl Tryd.underlying45 (.int .u32 0) 4 info64 rfl (by decide) (by omega) 0 (ok:=fun _=>True) (okp:=fun _=>True) rfl (fun _ hk=>hk) trivial (of_decide_eq_true (by first|(with_reducible assumption)|assumption)) (Nat.le_trans (Nat.mul_le_mul_right _ (of_decide_eq_true (by first|(with_reducible assumption)|assumption):ji6.toNat≤70368744177664)) (by omega)) (Below.refl _ _) (Nat.le_refl _) ?_;intro v397 w9 ho10 hb hg_ hnew_;clear hg_ hnew_;(first|rw [← Ny396.out] at ho10|(simp only [Int.reduceToNat] at ho10;rw [← Ny396.out] at ho10));have n0_:=Aside0.mk (Kd.R_lower (Kd.R_newM (M:=fun k_=>(w.heap.size≤k_)) ho10 (below_size (by repeat (first|(with_reducible first|exact HB.out|apply below_alloc|apply pw_below_drewN|apply below_drew1)|exact HB.out))) (fun k_ h_=>h_)) (below_size (by repeat (first|(with_reducible first|exact HB.out|apply below_alloc|apply pw_below_drewN|apply below_drew1)|exact HB.out))));have n1_:=Aside0.mk (below_step (by repeat (first|(with_reducible first|exact HB.out|apply below_alloc|apply pw_below_drewN|apply below_drew1)|exact HB.out)) hb);clear HB;have HO398:=n0_;have HB:=n1_;clear n0_ n1_;clear hb ho10));try go_wp2_with (first|((with_reducible refine gate_dst (N:=23) rfl ?_);(try (refine gate_guard (by rfl) ?_;dsimp only));refine Kd.R_make (Kd.int .u32) _ 64 rfl (N:=23) rfl 45 _ _ rfl ji6 rfl rfl Tryd.underlying45 (.int .u32 0) 4 info64 rfl (by decide) (by omega) 0 (ok:=fun _=>True) (okp:=fun _=>True) rfl (fun _ hk=>hk) trivial (of_decide_eq_true (by first|(with_reducible assumption)|assumption)) (Nat.le_trans (Nat.mul_le_mul_right _ (of_decide_eq_true (by first|(with_reducible assumption)|assumption):ji6.toNat≤70368744177664)) (by omega)) (Below.refl _ _) (Nat.le_refl _) ?_;intro v397 w9 ho10 hb hg_ hnew_;clear hg_ hnew_;(first|rw [← Ny396.out] at ho10|(simp only [Int.reduceToNat] at ho10;rw [← Ny396.out] at ho10));have n0_:=Aside0.mk (Kd.R_lower (Kd.R_newM (M:=fun k_=>(w.heap.size≤k_)) ho10 (below_size (by repeat (first|(with_reducible first|exact HB.out|apply below_alloc|apply pw_below_drewN|apply below_drew1)|exact HB.out))) (fun k_ h_=>h_)) (below_size (by repeat (first|(with_reducible first|exact HB.out|apply below_alloc|apply pw_below_drewN|apply below_drew1)|exact HB.out))));have n1_:=Aside0.mk (below_step (by repeat (first|(with_reducible first|exact HB.out|apply below_alloc|apply pw_below_drewN|apply below_drew1)|exact HB.out)) hb);clear HB;have HO398:=n0_;have HB:=n1_;clear n0_ n1_;clear hb ho10)))
      go_loopg [6] kj2 (fun kq v6 w'=>∃ (x5_2:List Int) (x6_2:Int),v6 = .int .i64 x6_2∧Aside0 (garboardref01_Times.l0 kq l0 l1 x5_2 x6_2 = some r)∧Aside0 (kq≤kj2)∧Aside0 (Kd.R (Kd.int .u32) 64 w' w.heap.size (fun k_=>(w.heap.size≤k_)) v397 x5_2)∧Aside0 (Below w.heap.size w w'))
      case atStart=>exact ⟨(y396),(0),(by first|rfl|(simp;done)|(simp [*];done)),H',⟨Nat.le_refl _⟩,⟨by (with_reducible repeat (first|apply Kd.R_alloc|apply Kd.R_drewN|apply Kd.R_drew));exact Kd.R_mono HO398.out (fun _ hk=>hk.1)⟩,⟨by repeat (first|(with_reducible first|exact HB.out|apply below_alloc|apply pw_below_drewN|apply below_drew1)|exact HB.out)⟩⟩
      case round =>
       clear H'
       try clear c1
       try clear p2
       try clear c4
       try clear c4b0
       try clear c4b1
       try clear c4b2
       try clear c5
       try clear p6
       try clear c7
       try clear c7b0
       try clear c7b1
       try clear c8
       try clear c8b0
       try clear c8b1
       try clear p2
       obtain ⟨x5_2,x6_2,rfl,HA,HK2,HO_5,HB⟩:=hrel
       cases gk with
       | zero=>exact absurd HA.out (by simp [garboardref01_Times.l0])
       | succ k2 =>
        have H:=HA.out
        clear HA
        simp only [garboardref01_Times.l0] at H
        by_cases c11:x6_2 < (l0.length:Int)
        ·rw [if_pos c11] at H
         have c11b0:decide (x6_2 < (l0.length:Int)) = true:=decide_eq_true c11
         clear c11
         have H':=Aside0.mk H
         clear H
         go_wp2
         repeat (go_quiet (fail);try go_wp2)
         go_loopg [7,8] k2 (fun kq v7 v8 w'=>∃ (x5_3:List Int) (x7_3:Int) (x8_3:Int),v7 = .int .u64 x7_3∧v8 = .int .i64 x8_3∧Aside0 (garboardref01_Times.l1 kq l0 l1 x5_3 x6_2 x7_3 x8_3 = some r)∧Aside0 (kq≤k2)∧Aside0 (Kd.R (Kd.int .u32) 64 w' w.heap.size (fun k_=>(w.heap.size≤k_)) v397 x5_3)∧Aside0 (Below w.heap.size w w'))
         case atStart=>exact ⟨(x5_2),(0),(0),(by first|rfl|(simp;done)|(simp [*];done)),(by first|rfl|(simp;done)|(simp [*];done)),H',⟨Nat.le_refl _⟩,⟨by (with_reducible repeat (first|apply Kd.R_alloc|apply Kd.R_drewN|apply Kd.R_drew));exact HO_5.out⟩,⟨by repeat (first|(with_reducible first|exact HB.out|apply below_alloc|apply pw_below_drewN|apply below_drew1)|exact HB.out)⟩⟩
         case round =>
          clear H'
          try clear c1
          try clear p2
          try clear c4
          try clear c4b0
          try clear c4b1
          try clear c4b2
          try clear c5
          try clear p6
          try clear c7
          try clear c7b0
          try clear c7b1
          try clear c8
          try clear c8b0
          try clear c8b1
          try clear c11
          try clear c11b0
          try clear p2
          try clear p6
          obtain ⟨x5_3,x7_3,x8_3,rfl,rfl,HA,HK3,HO_5,HB⟩:=hrel
          cases gk with
          | zero=>exact absurd HA.out (by simp [garboardref01_Times.l1])
          | succ k3 =>
           have H:=HA.out
           clear HA
           simp only [garboardref01_Times.l1] at H
           by_cases c12:x8_3 < (l1.length:Int)
           ·rw [if_pos c12] at H
            have c12b0:decide (x8_3 < (l1.length:Int)) = true:=decide_eq_true c12
            clear c12
            obtain ⟨ji13,hji13⟩:∃ j_:Int,(wrap64 (x6_2 + x8_3)) = j_:=⟨_,rfl⟩
            replace H:(if 0≤(ji13) then (if (ji13) < (x5_3.length:Int) then (if 0≤x6_2 then (if x6_2 < (l0.length:Int) then (if 0≤x8_3 then (garboardref01_Times.l1 k3 l0 l1 (x5_3.set ((ji13):Int).toNat ((Int.tmod (IntKind.u64.wrap ((IntKind.u64.wrap ((IntKind.u64.wrap (rd x5_3 (ji13))) + (IntKind.u64.wrap ((IntKind.u64.wrap (rd l0 x6_2)) * (IntKind.u64.wrap (rd l1 x8_3)))))) + x7_3)) 1000000000) % 4294967296)) x6_2 (IntKind.u64.wrap (Int.tdiv (IntKind.u64.wrap ((IntKind.u64.wrap ((IntKind.u64.wrap (rd x5_3 (ji13))) + (IntKind.u64.wrap ((IntKind.u64.wrap (rd l0 x6_2)) * (IntKind.u64.wrap (rd l1 x8_3)))))) + x7_3)) 1000000000)) (wrap64 (x8_3 + 1))) else (none)) else (none)) else (none)) else (none)) else (none)) = some r:=by first|(rw [hji13] at H;exact H)|(simp only [hji13] at H ⊢;exact H)
            have hji13w:(IntKind.i64.wrap (x6_2 + x8_3)) = ji13:=(i64_w _).trans hji13
            by_cases c14:0≤(ji13)
            ·rw [if_pos c14] at H
             have c14b0:decide (0≤(ji13)) = true:=decide_eq_true c14
             clear c14
             by_cases c15:(ji13) < (x5_3.length:Int)
             ·rw [if_pos c15] at H
              have c15b0:decide ((ji13) < (x5_3.length:Int)) = true:=decide_eq_true c15
              clear c15
              by_cases c16:0≤x6_2
              ·rw [if_pos c16] at H
               have c16b0:decide (0≤x6_2) = true:=decide_eq_true c16
               clear c16
               by_cases c17:x6_2 < (l0.length:Int)
               ·rw [if_pos c17] at H
                have c17b0:decide (x6_2 < (l0.length:Int)) = true:=decide_eq_true c17
                clear c17
                by_cases c18:0≤x8_3
                ·rw [if_pos c18] at H
                 have c18b0:decide (0≤x8_3) = true:=decide_eq_true c18
                 clear c18
                 obtain ⟨y405,hy405⟩:∃ y_:List Int,y_ = (x5_3.set ((ji13):Int).toNat ((Int.tmod (IntKind.u64.wrap ((IntKind.u64.wrap ((IntKind.u64.wrap (rd x5_3 (ji13))) + (IntKind.u64.wrap ((IntKind.u64.wrap (rd l0 x6_2)) * (IntKind.u64.wrap (rd l1 x8_3)))))) + x7_3)) 1000000000) % 4294967296)):=⟨_,rfl⟩
                 replace H:(garboardref01_Times.l1 k3 l0 l1 y405 x6_2 (IntKind.u64.wrap (Int.tdiv (IntKind.u64.wrap ((IntKind.u64.wrap ((IntKind.u64.wrap (rd x5_3 (ji13))) + (IntKind.u64.wrap ((IntKind.u64.wrap (rd l0 x6_2)) * (IntKind.u64.wrap (rd l1 x8_3)))))) + x7_3)) 1000000000)) (wrap64 (x8_3 + 1))) = some r:=by first|(rw [hy405];with_reducible exact H)|(have H2_:=(Option.bind_some _ _).symm.trans H;rw [hy405];with_reducible exact H2_)|(have H2_:=(Option.bind_some _ _).symm.trans H;with_reducible exact H2_)|with_reducible exact H|(rw [hy405];exact H)|exact H
                 have Ny405:=Aside0.mk hy405
                 clear hy405
                 have H':=Aside0.mk H
                 clear H
                 obtain ⟨Ao20,co20,eo20⟩:=Kd.R_slice HO_5.out
                 subst eo20
                 have p402:0≤((ji13):Int):=of_decide_eq_true (by first|(with_reducible assumption)|assumption)
                 have q402:(ji13) < (x5_3.length:Int):=of_decide_eq_true (by first|(with_reducible assumption)|assumption)
                 obtain ⟨ad402,e402,hx402_0⟩:=Kd.at_int (Kd.R_reads' HO_5.out).2.2 (ji13) p402 q402
                 cases e402
                 replace p402:=eq_true p402
                 replace q402:=eq_true q402
                 have p403:0≤(x6_2:Int):=of_decide_eq_true (by first|(with_reducible assumption)|assumption)
                 have q403:x6_2 < (l0.length:Int):=of_decide_eq_true (by first|(with_reducible assumption)|assumption)
                 obtain ⟨ad403,e403,hx403_0⟩:=Kd.at_int HR0.out x6_2 p403 q403
                 cases e403
                 replace hx403_0:=(HB.out.cell (World.block_lt_of_cell? w _ hx403_0)).trans hx403_0
                 replace p403:=eq_true p403
                 replace q403:=eq_true q403
                 have p404:0≤(x8_3:Int):=of_decide_eq_true (by first|(with_reducible assumption)|assumption)
                 have q404:x8_3 < (l1.length:Int):=of_decide_eq_true (by first|(with_reducible assumption)|assumption)
                 obtain ⟨ad404,e404,hx404_0⟩:=Kd.at_int HR1.out x8_3 p404 q404
                 cases e404
                 replace hx404_0:=(HB.out.cell (World.block_lt_of_cell? w _ hx404_0)).trans hx404_0
                 replace p404:=eq_true p404
                 replace q404:=eq_true q404
                 have p19:0≤((ji13):Int):=of_decide_eq_true (by first|(with_reducible assumption)|assumption)
                 have q19:((ji13):Int) < ((x5_3.length:Int):Int):=of_decide_eq_true (by first|(with_reducible assumption)|assumption)
                 obtain ⟨go19,co19,eo19,gb19,gl19,cl19,HG19⟩:=Kd.R_form HO_5.out (by omega)
                 (first|cases eo19|(injection eo19 with ea_ en_ ec_;(first|subst ea_|(injection ea_ with ea_;subst ea_));subst ec_;clear en_))
                 have GB19:=Aside0.mk gb19
                 have GG19:=Aside0.mk HG19
                 clear gb19 gl19 HG19
                 (first|simp only [add_plain] at hx402_0|skip)
                 obtain ⟨hx19_0,hf19_0⟩:=Kd.R_celln 0 HO_5.out ((ji13):Int) p19 q19
                 replace p19:=eq_true p19
                 replace q19:=eq_true q19
                 have HP21:=Kd.R_putg HO_5.out ((ji13):Int) ((Int.tmod (IntKind.u64.wrap ((IntKind.u64.wrap ((IntKind.u64.wrap (rd x5_3 (ji13))) + (IntKind.u64.wrap ((IntKind.u64.wrap (rd l0 x6_2)) * (IntKind.u64.wrap (rd l1 x8_3)))))) + x7_3)) 1000000000) % 4294967296)
                 go_wp2_with (first|((with_reducible refine gate_store (t:=64) (p:=64) rfl ?_);(try (rw [drewN_self wr];generalize hq_:World.drewN wr _ = wr;have n0_:=Aside0.mk (Kd.R_at hq_ HO_5.out);have n1_:=Aside0.mk (below_at hq_ HB.out);clear hq_ HO_5 HB;have HO_5:=n0_;have HB:=n1_;clear n0_ n1_;(try (have HP21:=Kd.R_putg HO_5.out ((ji13):Int) ((Int.tmod (IntKind.u64.wrap ((IntKind.u64.wrap ((IntKind.u64.wrap (rd x5_3 (ji13))) + (IntKind.u64.wrap ((IntKind.u64.wrap (rd l0 x6_2)) * (IntKind.u64.wrap (rd l1 x8_3)))))) + x7_3)) 1000000000) % 4294967296)))));refine store_event (t:=64) (p:=64) (v:=?vo_w22) (w1:=(wr.setCell ⟨go19,((ji13):Int).toNat,none⟩ (.int .u32 ((Int.tmod (IntKind.u64.wrap ((IntKind.u64.wrap ((IntKind.u64.wrap (rd x5_3 (ji13))) + (IntKind.u64.wrap ((IntKind.u64.wrap (rd l0 x6_2)) * (IntKind.u64.wrap (rd l1 x8_3)))))) + x7_3)) 1000000000) % 4294967296)))) ?hg ?ho ?hn ?hr ?_;(case ho=>rfl);(case hg=>rfl);(case hn=>rfl);(case hr=>first|(go_simp;done)|(go_simp;rfl));intro w22 hw;have hg:wr.grownBy w22 (some go19):=(by rw [hw];exact HP21.2);have hp_:Kd.R (Kd.int .u32) 64 w22 w.heap.size (fun k_=>(w.heap.size≤k_)) (.slice (some ⟨go19,0,none⟩) x5_3.length co20) y405:=(by rw [hw,Ny405.out];exact HP21.1);clear HP21;have n0_:=Aside0.mk (hp_);have n1_:=Aside0.mk ((by rw [hw];exact below_set (HB.out) GB19.out:Below w.heap.size w w22));clear HO_5;clear HB;have HO_5:=n0_;have HB:=n1_;clear n0_ n1_;clear hg hw hp_))
                 repeat (go_quiet (first|((with_reducible refine gate_store (t:=64) (p:=64) rfl ?_);(try (rw [drewN_self wr];generalize hq_:World.drewN wr _ = wr;have n0_:=Aside0.mk (Kd.R_at hq_ HO_5.out);have n1_:=Aside0.mk (below_at hq_ HB.out);clear hq_ HO_5 HB;have HO_5:=n0_;have HB:=n1_;clear n0_ n1_;(try (have HP21:=Kd.R_putg HO_5.out ((ji13):Int) ((Int.tmod (IntKind.u64.wrap ((IntKind.u64.wrap ((IntKind.u64.wrap (rd x5_3 (ji13))) + (IntKind.u64.wrap ((IntKind.u64.wrap (rd l0 x6_2)) * (IntKind.u64.wrap (rd l1 x8_3)))))) + x7_3)) 1000000000) % 4294967296)))));refine store_event (t:=64) (p:=64) (v:=?vo_w22) (w1:=(wr.setCell ⟨go19,((ji13):Int).toNat,none⟩ (.int .u32 ((Int.tmod (IntKind.u64.wrap ((IntKind.u64.wrap ((IntKind.u64.wrap (rd x5_3 (ji13))) + (IntKind.u64.wrap ((IntKind.u64.wrap (rd l0 x6_2)) * (IntKind.u64.wrap (rd l1 x8_3)))))) + x7_3)) 1000000000) % 4294967296)))) ?hg ?ho ?hn ?hr ?_;(case ho=>rfl);(case hg=>rfl);(case hn=>rfl);(case hr=>first|(go_simp;done)|(go_simp;rfl));intro w22 hw;have hg:wr.grownBy w22 (some go19):=(by rw [hw];exact HP21.2);have hp_:Kd.R (Kd.int .u32) 64 w22 w.heap.size (fun k_=>(w.heap.size≤k_)) (.slice (some ⟨go19,0,none⟩) x5_3.length co20) y405:=(by rw [hw,Ny405.out];exact HP21.1);clear HP21;have n0_:=Aside0.mk (hp_);have n1_:=Aside0.mk ((by rw [hw];exact below_set (HB.out) GB19.out:Below w.heap.size w w22));clear HO_5;clear HB;have HO_5:=n0_;have HB:=n1_;clear n0_ n1_;clear hg hw hp_));try go_wp2_with (first|((with_reducible refine gate_store (t:=64) (p:=64) rfl ?_);(try (rw [drewN_self wr];generalize hq_:World.drewN wr _ = wr;have n0_:=Aside0.mk (Kd.R_at hq_ HO_5.out);have n1_:=Aside0.mk (below_at hq_ HB.out);clear hq_ HO_5 HB;have HO_5:=n0_;have HB:=n1_;clear n0_ n1_;(try (have HP21:=Kd.R_putg HO_5.out ((ji13):Int) ((Int.tmod (IntKind.u64.wrap ((IntKind.u64.wrap ((IntKind.u64.wrap (rd x5_3 (ji13))) + (IntKind.u64.wrap ((IntKind.u64.wrap (rd l0 x6_2)) * (IntKind.u64.wrap (rd l1 x8_3)))))) + x7_3)) 1000000000) % 4294967296)))));refine store_event (t:=64) (p:=64) (v:=?vo_w22) (w1:=(wr.setCell ⟨go19,((ji13):Int).toNat,none⟩ (.int .u32 ((Int.tmod (IntKind.u64.wrap ((IntKind.u64.wrap ((IntKind.u64.wrap (rd x5_3 (ji13))) + (IntKind.u64.wrap ((IntKind.u64.wrap (rd l0 x6_2)) * (IntKind.u64.wrap (rd l1 x8_3)))))) + x7_3)) 1000000000) % 4294967296)))) ?hg ?ho ?hn ?hr ?_;(case ho=>rfl);(case hg=>rfl);(case hn=>rfl);(case hr=>first|(go_simp;done)|(go_simp;rfl));intro w22 hw;have hg:wr.grownBy w22 (some go19):=(by rw [hw];exact HP21.2);have hp_:Kd.R (Kd.int .u32) 64 w22 w.heap.size (fun k_=>(w.heap.size≤k_)) (.slice (some ⟨go19,0,none⟩) x5_3.length co20) y405:=(by rw [hw,Ny405.out];exact HP21.1);clear HP21;have n0_:=Aside0.mk (hp_);have n1_:=Aside0.mk ((by rw [hw];exact below_set (HB.out) GB19.out:Below w.heap.size w w22));clear HO_5;clear HB;have HO_5:=n0_;have HB:=n1_;clear n0_ n1_;clear hg hw hp_)))
                 go_roundg k3
                 case measure=>have:=HJ2.out;have:=HK2.out;have:=HK3.out;omega
                 case rel=>exact ⟨(y405),(IntKind.u64.wrap (Int.tdiv (IntKind.u64.wrap ((IntKind.u64.wrap ((IntKind.u64.wrap (rd x5_3 (ji13))) + (IntKind.u64.wrap ((IntKind.u64.wrap (rd l0 x6_2)) * (IntKind.u64.wrap (rd l1 x8_3)))))) + x7_3)) 1000000000)),(wrap64 (x8_3 + 1)),(by first|rfl|(simp;done)|(simp only [← hji13]<;>(first|rfl|simp))|(simp [*];done)),(by first|rfl|(simp;done)|(simp [*];done)),H',⟨by have:=HJ2.out;have:=HK2.out;have:=HK3.out;omega⟩,⟨by (with_reducible repeat (first|apply Kd.R_alloc|apply Kd.R_drewN|apply Kd.R_drew));first|exact HO_5.out|(rw [Ny405.out];exact (Kd.R_putg (by first|exact Kd.R_drewN HO_5.out _|(apply Kd.R_drewN;exact HO_5.out)) ((ji13):Int) ((Int.tmod (IntKind.u64.wrap ((IntKind.u64.wrap ((IntKind.u64.wrap (rd x5_3 (ji13))) + (IntKind.u64.wrap ((IntKind.u64.wrap (rd l0 x6_2)) * (IntKind.u64.wrap (rd l1 x8_3)))))) + x7_3)) 1000000000) % 4294967296)).1)|(rw [Ny405.out];exact (Kd.R_putg HO_5.out ((ji13):Int) ((Int.tmod (IntKind.u64.wrap ((IntKind.u64.wrap ((IntKind.u64.wrap (rd x5_3 (ji13))) + (IntKind.u64.wrap ((IntKind.u64.wrap (rd l0 x6_2)) * (IntKind.u64.wrap (rd l1 x8_3)))))) + x7_3)) 1000000000) % 4294967296)).1)⟩,⟨by first|(exact below_set (by repeat (first|(with_reducible first|exact HB.out|apply below_alloc|apply pw_below_drewN|apply below_drew1)|exact HB.out)) GB19.out)|(repeat (first|(with_reducible first|exact HB.out|apply below_alloc|apply pw_below_drewN|apply below_drew1)|exact HB.out))⟩⟩
                ·rw [if_neg c18] at H
                 exact absurd H (by simp)
               ·rw [if_neg c17] at H
                exact absurd H (by simp)
              ·rw [if_neg c16] at H
               exact absurd H (by simp)
             ·rw [if_neg c15] at H
              exact absurd H (by simp)
            ·rw [if_neg c14] at H
             exact absurd H (by simp)
           ·rw [if_neg c12] at H
            have c12b0:decide (x8_3 < (l1.length:Int)) = false:=decide_eq_false c12
            clear c12
            obtain ⟨ji23,hji23⟩:∃ j_:Int,(wrap64 (x6_2 + (l1.length:Int))) = j_:=⟨_,rfl⟩
            replace H:(if 0≤(ji23) then (if (ji23) < (x5_3.length:Int) then (garboardref01_Times.l0 k3 l0 l1 (x5_3.set ((ji23):Int).toNat ((x7_3) % 4294967296)) (wrap64 (x6_2 + 1))) else (none)) else (none)) = some r:=by first|(rw [hji23] at H;exact H)|(simp only [hji23] at H ⊢;exact H)
            have hji23w:(IntKind.i64.wrap (x6_2 + (l1.length:Int))) = ji23:=(i64_w _).trans hji23
            by_cases c24:0≤(ji23)
            ·rw [if_pos c24] at H
             have c24b0:decide (0≤(ji23)) = true:=decide_eq_true c24
             clear c24
             by_cases c25:(ji23) < (x5_3.length:Int)
             ·rw [if_pos c25] at H
              have c25b0:decide ((ji23) < (x5_3.length:Int)) = true:=decide_eq_true c25
              clear c25
              obtain ⟨y406,hy406⟩:∃ y_:List Int,y_ = (x5_3.set ((ji23):Int).toNat ((x7_3) % 4294967296)):=⟨_,rfl⟩
              replace H:(garboardref01_Times.l0 k3 l0 l1 y406 (wrap64 (x6_2 + 1))) = some r:=by first|(rw [hy406];with_reducible exact H)|(have H2_:=(Option.bind_some _ _).symm.trans H;rw [hy406];with_reducible exact H2_)|(have H2_:=(Option.bind_some _ _).symm.trans H;with_reducible exact H2_)|with_reducible exact H|(rw [hy406];exact H)|exact H
              have Ny406:=Aside0.mk hy406
              clear hy406
              have H':=Aside0.mk H
              clear H
              have p26:0≤((ji23):Int):=of_decide_eq_true (by first|(with_reducible assumption)|assumption)
              have q26:((ji23):Int) < ((x5_3.length:Int):Int):=of_decide_eq_true (by first|(with_reducible assumption)|assumption)
              obtain ⟨go26,co26,eo26,gb26,gl26,cl26,HG26⟩:=Kd.R_form HO_5.out (by omega)
              (first|cases eo26|(injection eo26 with ea_ en_ ec_;(first|subst ea_|(injection ea_ with ea_;subst ea_));subst ec_;clear en_))
              have GB26:=Aside0.mk gb26
              have GG26:=Aside0.mk HG26
              clear gb26 gl26 HG26
              obtain ⟨hx26_0,hf26_0⟩:=Kd.R_celln 0 HO_5.out ((ji23):Int) p26 q26
              replace p26:=eq_true p26
              replace q26:=eq_true q26
              have HP27:=Kd.R_putg HO_5.out ((ji23):Int) ((x7_3) % 4294967296)
              go_wp2_with (first|((with_reducible refine gate_store (t:=64) (p:=74) rfl ?_);(try (rw [drewN_self wr];generalize hq_:World.drewN wr _ = wr;have n0_:=Aside0.mk (Kd.R_at hq_ HO_5.out);have n1_:=Aside0.mk (below_at hq_ HB.out);clear hq_ HO_5 HB;have HO_5:=n0_;have HB:=n1_;clear n0_ n1_;(try (have HP27:=Kd.R_putg HO_5.out ((ji23):Int) ((x7_3) % 4294967296)))));refine store_event (t:=64) (p:=74) (v:=?vo_w28) (w1:=(wr.setCell ⟨go26,((ji23):Int).toNat,none⟩ (.int .u32 ((x7_3) % 4294967296)))) ?hg ?ho ?hn ?hr ?_;(case ho=>rfl);(case hg=>rfl);(case hn=>rfl);(case hr=>first|(go_simp;done)|(go_simp;rfl));intro w28 hw;have hg:wr.grownBy w28 (some go26):=(by rw [hw];exact HP27.2);have hp_:Kd.R (Kd.int .u32) 64 w28 w.heap.size (fun k_=>(w.heap.size≤k_)) (.slice (some ⟨go26,0,none⟩) x5_3.length co26) y406:=(by rw [hw,Ny406.out];exact HP27.1);clear HP27;have n0_:=Aside0.mk (hp_);have n1_:=Aside0.mk ((by rw [hw];exact below_set (HB.out) GB26.out:Below w.heap.size w w28));clear HO_5;clear HB;have HO_5:=n0_;have HB:=n1_;clear n0_ n1_;clear hg hw hp_))
              repeat (go_quiet (first|((with_reducible refine gate_store (t:=64) (p:=74) rfl ?_);(try (rw [drewN_self wr];generalize hq_:World.drewN wr _ = wr;have n0_:=Aside0.mk (Kd.R_at hq_ HO_5.out);have n1_:=Aside0.mk (below_at hq_ HB.out);clear hq_ HO_5 HB;have HO_5:=n0_;have HB:=n1_;clear n0_ n1_;(try (have HP27:=Kd.R_putg HO_5.out ((ji23):Int) ((x7_3) % 4294967296)))));refine store_event (t:=64) (p:=74) (v:=?vo_w28) (w1:=(wr.setCell ⟨go26,((ji23):Int).toNat,none⟩ (.int .u32 ((x7_3) % 4294967296)))) ?hg ?ho ?hn ?hr ?_;(case ho=>rfl);(case hg=>rfl);(case hn=>rfl);(case hr=>first|(go_simp;done)|(go_simp;rfl));intro w28 hw;have hg:wr.grownBy w28 (some go26):=(by rw [hw];exact HP27.2);have hp_:Kd.R (Kd.int .u32) 64 w28 w.heap.size (fun k_=>(w.heap.size≤k_)) (.slice (some ⟨go26,0,none⟩) x5_3.length co26) y406:=(by rw [hw,Ny406.out];exact HP27.1);clear HP27;have n0_:=Aside0.mk (hp_);have n1_:=Aside0.mk ((by rw [hw];exact below_set (HB.out) GB26.out:Below w.heap.size w w28));clear HO_5;clear HB;have HO_5:=n0_;have HB:=n1_;clear n0_ n1_;clear hg hw hp_));try go_wp2_with (first|((with_reducible refine gate_store (t:=64) (p:=74) rfl ?_);(try (rw [drewN_self wr];generalize hq_:World.drewN wr _ = wr;have n0_:=Aside0.mk (Kd.R_at hq_ HO_5.out);have n1_:=Aside0.mk (below_at hq_ HB.out);clear hq_ HO_5 HB;have HO_5:=n0_;have HB:=n1_;clear n0_ n1_;(try (have HP27:=Kd.R_putg HO_5.out ((ji23):Int) ((x7_3) % 4294967296)))));refine store_event (t:=64) (p:=74) (v:=?vo_w28) (w1:=(wr.setCell ⟨go26,((ji23):Int).toNat,none⟩ (.int .u32 ((x7_3) % 4294967296)))) ?hg ?ho ?hn ?hr ?_;(case ho=>rfl);(case hg=>rfl);(case hn=>rfl);(case hr=>first|(go_simp;done)|(go_simp;rfl));intro w28 hw;have hg:wr.grownBy w28 (some go26):=(by rw [hw];exact HP27.2);have hp_:Kd.R (Kd.int .u32) 64 w28 w.heap.size (fun k_=>(w.heap.size≤k_)) (.slice (some ⟨go26,0,none⟩) x5_3.length co26) y406:=(by rw [hw,Ny406.out];exact HP27.1);clear HP27;have n0_:=Aside0.mk (hp_);have n1_:=Aside0.mk ((by rw [hw];exact below_set (HB.out) GB26.out:Below w.heap.size w w28));clear HO_5;clear HB;have HO_5:=n0_;have HB:=n1_;clear n0_ n1_;clear hg hw hp_)))
              go_roundg k3
              case measure=>have:=HJ2.out;have:=HK2.out;have:=HK3.out;omega
              case rel=>exact ⟨(y406),(wrap64 (x6_2 + 1)),(by first|rfl|(simp;done)|(simp [*];done)),H',⟨by have:=HJ2.out;have:=HK2.out;have:=HK3.out;omega⟩,⟨by (with_reducible repeat (first|apply Kd.R_alloc|apply Kd.R_drewN|apply Kd.R_drew));first|exact HO_5.out|(rw [Ny406.out];exact (Kd.R_putg (by first|exact Kd.R_drewN HO_5.out _|(apply Kd.R_drewN;exact HO_5.out)) ((ji23):Int) ((x7_3) % 4294967296)).1)|(rw [Ny406.out];exact (Kd.R_putg HO_5.out ((ji23):Int) ((x7_3) % 4294967296)).1)⟩,⟨by first|(exact below_set (by repeat (first|(with_reducible first|exact HB.out|apply below_alloc|apply pw_below_drewN|apply below_drew1)|exact HB.out)) GB26.out)|(repeat (first|(with_reducible first|exact HB.out|apply below_alloc|apply pw_below_drewN|apply below_drew1)|exact HB.out))⟩⟩
             ·rw [if_neg c25] at H
              exact absurd H (by simp)
            ·rw [if_neg c24] at H
             exact absurd H (by simp)
        ·rw [if_neg c11] at H
         have c11b0:decide (x6_2 < (l0.length:Int)) = false:=decide_eq_false c11
         clear c11
         replace H:=Option.bind_eq_some_iff.mp H
         obtain ⟨t399,A290,H⟩:=H
         replace H:(some t399) = some r:=H
         have A29:=Aside0.mk A290
         clear A290
         obtain rfl:=Option.some.inj H
         obtain ⟨Ao30,co30,eo30⟩:=Kd.R_slice HO_5.out
         subst eo30
         go_wp2_with (first|(go_at_call 59;(refine (rtrim_own k2 w.heap.size (fun k_=>(w.heap.size≤k_)) _ _ x5_2 t399 _ ?side1 A29.out).mono ?_);(case side1=>(with_reducible repeat (first|apply Kd.R_alloc|apply Kd.R_drewN|apply Kd.R_drew));exact HO_5.out);rintro e w31 ⟨v400,rfl,ho0,hb⟩;have n1_:=Aside0.mk ho0;have n2_:=Aside0.mk (below_step (by repeat (first|(with_reducible first|exact HB.out|apply below_alloc|apply pw_below_drewN|apply below_drew1)|exact HB.out)) hb);clear HO_5;clear HB;have HO401:=n1_;have HB:=n2_;clear n1_ n2_;(try clear hb);(try clear hb2);(try clear hk);(try clear hi);(try clear ho0)))
         repeat (go_quiet (first|(go_at_call 59;(refine (rtrim_own k2 w.heap.size (fun k_=>(w.heap.size≤k_)) _ _ x5_2 t399 _ ?side1 A29.out).mono ?_);(case side1=>(with_reducible repeat (first|apply Kd.R_alloc|apply Kd.R_drewN|apply Kd.R_drew));exact HO_5.out);rintro e w31 ⟨v400,rfl,ho0,hb⟩;have n1_:=Aside0.mk ho0;have n2_:=Aside0.mk (below_step (by repeat (first|(with_reducible first|exact HB.out|apply below_alloc|apply pw_below_drewN|apply below_drew1)|exact HB.out)) hb);clear HO_5;clear HB;have HO401:=n1_;have HB:=n2_;clear n1_ n2_;(try clear hb);(try clear hb2);(try clear hk);(try clear hi);(try clear ho0)));try go_wp2_with (first|(go_at_call 59;(refine (rtrim_own k2 w.heap.size (fun k_=>(w.heap.size≤k_)) _ _ x5_2 t399 _ ?side1 A29.out).mono ?_);(case side1=>(with_reducible repeat (first|apply Kd.R_alloc|apply Kd.R_drewN|apply Kd.R_drew));exact HO_5.out);rintro e w31 ⟨v400,rfl,ho0,hb⟩;have n1_:=Aside0.mk ho0;have n2_:=Aside0.mk (below_step (by repeat (first|(with_reducible first|exact HB.out|apply below_alloc|apply pw_below_drewN|apply below_drew1)|exact HB.out)) hb);clear HO_5;clear HB;have HO401:=n1_;have HB:=n2_;clear n1_ n2_;(try clear hb);(try clear hb2);(try clear hk);(try clear hi);(try clear ho0))))
         go_ret
         exact ⟨_,by first|rfl|(simp [errW_none,errW_some]<;>rfl)|(simp only [← hji6];first|rfl|(simp [errW_none,errW_some]<;>rfl))|(simp [*,errW_none,errW_some]<;>rfl),by (with_reducible repeat (first|apply Kd.R_alloc|apply Kd.R_drewN|apply Kd.R_drew));exact HO401.out,by repeat (first|(with_reducible first|exact HB.out|apply below_alloc|apply pw_below_drewN|apply below_drew1)|exact HB.out)⟩
     ·rw [if_neg c8] at H
      exact absurd H (by simp)
    ·rw [if_neg c7] at H
     exact absurd H (by simp)
end Go.Proofs.YtaopmkcghancmaaDoor.Pr
namespace Go.Proofs.YtaopmkcghancmaaDoor.Pr
open Go.RowKit Go.Proofs.YtaopmkcghancmaaDoorW.PrintWords Go.Proofs.YtaopmkcghancmaaDoorW.PrintLast Go.Proofs.YtaopmkcghancmaaDoorW.PrintMore
attribute [local go_sem] max2_int min2_int max_two min_two max_three min_three max_four min_four
set_option linter.unusedVariables false
set_option linter.unusedSimpArgs false
set_option maxHeartbeats 8000000 in
set_option maxRecDepth 100000 in
theorem rsmall_own (k:Nat) (A0:Option Addr) (c0:Nat) (l0:List Int) (a1:Int) (r1:List Int) (r2:Int) (w:World) (hr0:Kd.C (Kd.int .u32) w A0 l0.length l0) (hc0:l0.length≤c0) (h:garboardref01_small.f k l0 a1 = some (r1,r2)) :
  Calls Tryd.prog 67 #[.slice A0 l0.length c0,.int .u32 a1] w fun e w'=>∃ v0_:Value,e = .returned (.tuple #[v0_,.int .u32 r2])∧Kd.R (Kd.int .u32) 64 w' w.heap.size (fun k_=>(w.heap.size≤k_)) v0_ r1∧Below w.heap.size w w':=by
 have HR0:=Aside0.mk hr0
 have HC0:=Aside0.mk hc0
 clear hr0 hc0
 have HB:=Aside0.mk (Below.refl w.heap.size w)
 have H:(if 0≤(l0.length:Int) then (if ((l0.length:Int):Int).toNat≤70368744177664 then (garboardref01_small.l0 k l0 a1 (List.replicate ((l0.length:Int):Int).toNat 0) 0 (wrap64 ((l0.length:Int) - 1))) else (none)) else (none)) = some (r1,r2):=h
 clear h
 by_cases c3:0≤(l0.length:Int)
 ·rw [if_pos c3] at H
  have c3b0:=eq_true c3
  have c3b1:decide (0≤(l0.length:Int)) = true:=decide_eq_true c3
  clear c3
  by_cases c4:((l0.length:Int):Int).toNat≤70368744177664
  ·rw [if_pos c4] at H
   have c4b0:=eq_true c4
   have c4b1:decide (((l0.length:Int):Int).toNat≤70368744177664) = true:=decide_eq_true c4
   clear c4
   obtain ⟨y436,hy436⟩:∃ y_:List Int,y_ = (List.replicate ((l0.length:Int):Int).toNat 0):=⟨_,rfl⟩
   replace H:(garboardref01_small.l0 k l0 a1 y436 0 (wrap64 ((l0.length:Int) - 1))) = some (r1,r2):=by first|(rw [hy436];with_reducible exact H)|(have H2_:=(Option.bind_some _ _).symm.trans H;rw [hy436];with_reducible exact H2_)|(have H2_:=(Option.bind_some _ _).symm.trans H;with_reducible exact H2_)|with_reducible exact H|(rw [hy436];exact H)|exact H
   have Ny436:=Aside0.mk hy436
   clear hy436
   have H':=Aside0.mk H
   clear H
   go_enter Tryd.func67,Tryd.ntmps67
   go_wp2_with (first|((with_reducible refine gate_dst (N:=12) rfl ?_);refine Kd.R_make (Kd.int .u32) _ 64 rfl (N:=12) rfl 45 _ _ rfl (l0.length:Int) rfl rfl Tryd.underlying45 (.int .u32 0) 4 info64 rfl (by decide) (by omega) 0 (ok:=fun _=>True) (okp:=fun _=>True) rfl (fun _ hk=>hk) trivial (of_decide_eq_true (by first|(with_reducible assumption)|assumption)) (Nat.le_trans (Nat.mul_le_mul_right _ (of_decide_eq_true (by first|(with_reducible assumption)|assumption):(l0.length:Int).toNat≤70368744177664)) (by omega)) (Below.refl _ _) (Nat.le_refl _) ?_;intro v437 w5 ho6 hb hg_ hnew_;clear hg_ hnew_;(first|rw [← Ny436.out] at ho6|(simp only [Int.reduceToNat] at ho6;rw [← Ny436.out] at ho6));have n0_:=Aside0.mk (Kd.R_lower (Kd.R_newM (M:=fun k_=>(w.heap.size≤k_)) ho6 (below_size (by repeat (first|(with_reducible first|exact HB.out|apply below_alloc|apply pw_below_drewN|apply below_drew1)|exact HB.out))) (fun k_ h_=>h_)) (below_size (by repeat (first|(with_reducible first|exact HB.out|apply below_alloc|apply pw_below_drewN|apply below_drew1)|exact HB.out))));have n1_:=Aside0.mk (below_step (by repeat (first|(with_reducible first|exact HB.out|apply below_alloc|apply pw_below_drewN|apply below_drew1)|exact HB.out)) hb);clear HB;have HO438:=n0_;have HB:=n1_;clear n0_ n1_;clear hb ho6))
   go_loopg [7,8] k (fun kq v7 v8 w'=>∃ (x6_1:List Int) (x7_1:Int) (x8_1:Int),v7 = .int .u64 x7_1∧v8 = .int .i64 x8_1∧Aside0 (garboardref01_small.l0 kq l0 a1 x6_1 x7_1 x8_1 = some (r1,r2))∧Aside0 (kq≤k)∧Aside0 (Kd.R (Kd.int .u32) 64 w' w.heap.size (fun k_=>(w.heap.size≤k_)) v437 x6_1)∧Aside0 (Below w.heap.size w w'))
   case atStart=>exact ⟨(y436),(0),(wrap64 ((l0.length:Int) - 1)),(by first|rfl|(simp;done)|(simp [*];done)),(by first|rfl|(simp;done)|(simp [*];done)),H',⟨Nat.le_refl _⟩,⟨by (with_reducible repeat (first|apply Kd.R_alloc|apply Kd.R_drewN|apply Kd.R_drew));exact Kd.R_mono HO438.out (fun _ hk=>hk.1)⟩,⟨by repeat (first|(with_reducible first|exact HB.out|apply below_alloc|apply pw_below_drewN|apply below_drew1)|exact HB.out)⟩⟩
   case round =>
    clear H'
    try clear p2
    try clear c3
    try clear c3b0
    try clear c3b1
    try clear c4
    try clear c4b0
    try clear c4b1
    try clear c6
    try clear p6
    obtain ⟨x6_1,x7_1,x8_1,rfl,rfl,HA,HK1,HO_6,HB⟩:=hrel
    cases gk with
    | zero=>exact absurd HA.out (by simp [garboardref01_small.l0])
    | succ k1 =>
     have H:=HA.out
     clear HA
     simp only [garboardref01_small.l0] at H
     by_cases c7:x8_1 ≥ 0
     ·rw [if_pos c7] at H
      have c7b0:decide (0≤x8_1) = true:=decide_eq_true c7
      clear c7
      by_cases c8:0≤x8_1
      ·rw [if_pos c8] at H
       have c8b0:decide (0≤x8_1) = true:=decide_eq_true c8
       clear c8
       by_cases c9:x8_1 < (l0.length:Int)
       ·rw [if_pos c9] at H
        have c9b0:decide (x8_1 < (l0.length:Int)) = true:=decide_eq_true c9
        clear c9
        by_cases c10:(IntKind.u64.wrap (a1)) = 0
        ·rw [if_pos c10] at H
         exact absurd H (by simp)
        ·rw [if_neg c10] at H
         have c10b0:((IntKind.u64.wrap (a1)) == 0) = false:=beq_eq_false_iff_ne.mpr c10
         have c10b1:((IntKind.u64.wrap (a1)) != 0) = true:=bne_iff_ne.mpr c10
         by_cases c11:x8_1 < (x6_1.length:Int)
         ·rw [if_pos c11] at H
          have c11b0:decide (x8_1 < (x6_1.length:Int)) = true:=decide_eq_true c11
          clear c11
          obtain ⟨y440,hy440⟩:∃ y_:List Int,y_ = (x6_1.set (x8_1:Int).toNat ((IntKind.u64.wrap (Int.tdiv (IntKind.u64.wrap ((IntKind.u64.wrap (x7_1 * 1000000000)) + (IntKind.u64.wrap (rd l0 x8_1)))) (IntKind.u64.wrap (a1)))) % 4294967296)):=⟨_,rfl⟩
          replace H:(garboardref01_small.l0 k1 l0 a1 y440 (Int.tmod (IntKind.u64.wrap ((IntKind.u64.wrap (x7_1 * 1000000000)) + (IntKind.u64.wrap (rd l0 x8_1)))) (IntKind.u64.wrap (a1))) (wrap64 (x8_1 - 1))) = some (r1,r2):=by first|(rw [hy440];with_reducible exact H)|(have H2_:=(Option.bind_some _ _).symm.trans H;rw [hy440];with_reducible exact H2_)|(have H2_:=(Option.bind_some _ _).symm.trans H;with_reducible exact H2_)|with_reducible exact H|(rw [hy440];exact H)|exact H
          have Ny440:=Aside0.mk hy440
          clear hy440
          have H':=Aside0.mk H
          clear H
          have p439:0≤(x8_1:Int):=of_decide_eq_true (by first|(with_reducible assumption)|assumption)
          have q439:x8_1 < (l0.length:Int):=of_decide_eq_true (by first|(with_reducible assumption)|assumption)
          obtain ⟨ad439,e439,hx439_0⟩:=Kd.at_int HR0.out x8_1 p439 q439
          cases e439
          replace hx439_0:=(HB.out.cell (World.block_lt_of_cell? w _ hx439_0)).trans hx439_0
          replace p439:=eq_true p439
          replace q439:=eq_true q439
          have p12:0≤(x8_1:Int):=of_decide_eq_true (by first|(with_reducible assumption)|assumption)
          have q12:(x8_1:Int) < ((x6_1.length:Int):Int):=of_decide_eq_true (by first|(with_reducible assumption)|assumption)
          obtain ⟨go12,co12,eo12,gb12,gl12,cl12,HG12⟩:=Kd.R_form HO_6.out (by omega)
          (first|cases eo12|(injection eo12 with ea_ en_ ec_;(first|subst ea_|(injection ea_ with ea_;subst ea_));subst ec_;clear en_))
          have GB12:=Aside0.mk gb12
          have GG12:=Aside0.mk HG12
          clear gb12 gl12 HG12
          obtain ⟨hx12_0,hf12_0⟩:=Kd.R_celln 0 HO_6.out (x8_1:Int) p12 q12
          replace p12:=eq_true p12
          replace q12:=eq_true q12
          have HP13:=Kd.R_putg HO_6.out (x8_1:Int) ((IntKind.u64.wrap (Int.tdiv (IntKind.u64.wrap ((IntKind.u64.wrap (x7_1 * 1000000000)) + (IntKind.u64.wrap (rd l0 x8_1)))) (IntKind.u64.wrap (a1)))) % 4294967296)
          go_wp2_with (first|((with_reducible refine gate_store (t:=64) (p:=35) rfl ?_);refine store_event (t:=64) (p:=35) (v:=?vo_w14) (w1:=(wr.setCell ⟨go12,(x8_1:Int).toNat,none⟩ (.int .u32 ((IntKind.u64.wrap (Int.tdiv (IntKind.u64.wrap ((IntKind.u64.wrap (x7_1 * 1000000000)) + (IntKind.u64.wrap (rd l0 x8_1)))) (IntKind.u64.wrap (a1)))) % 4294967296)))) ?hg ?ho ?hn ?hr ?_;(case ho=>rfl);(case hg=>rfl);(case hn=>rfl);(case hr=>first|(go_simp;done)|(go_simp;rfl));intro w14 hw;have hg:wr.grownBy w14 (some go12):=(by rw [hw];exact HP13.2);have hp_:Kd.R (Kd.int .u32) 64 w14 w.heap.size (fun k_=>(w.heap.size≤k_)) (.slice (some ⟨go12,0,none⟩) x6_1.length co12) y440:=(by rw [hw,Ny440.out];exact HP13.1);clear HP13;have n0_:=Aside0.mk (hp_);have n1_:=Aside0.mk ((by rw [hw];exact below_set (HB.out) GB12.out:Below w.heap.size w w14));clear HO_6;clear HB;have HO_6:=n0_;have HB:=n1_;clear n0_ n1_;clear hg hw hp_))
          go_roundg k1
          case measure=>have:=HK1.out;omega
          case rel=>exact ⟨(y440),(Int.tmod (IntKind.u64.wrap ((IntKind.u64.wrap (x7_1 * 1000000000)) + (IntKind.u64.wrap (rd l0 x8_1)))) (IntKind.u64.wrap (a1))),(wrap64 (x8_1 - 1)),(by first|rfl|(simp;done)|(simp [*];done)),(by first|rfl|(simp;done)|(simp [*];done)),H',⟨by have:=HK1.out;omega⟩,⟨by (with_reducible repeat (first|apply Kd.R_alloc|apply Kd.R_drewN|apply Kd.R_drew));first|exact HO_6.out|(rw [Ny440.out];exact (Kd.R_putg (by first|exact Kd.R_drewN HO_6.out _|(apply Kd.R_drewN;exact HO_6.out)) (x8_1:Int) ((IntKind.u64.wrap (Int.tdiv (IntKind.u64.wrap ((IntKind.u64.wrap (x7_1 * 1000000000)) + (IntKind.u64.wrap (rd l0 x8_1)))) (IntKind.u64.wrap (a1)))) % 4294967296)).1)|(rw [Ny440.out];exact (Kd.R_putg HO_6.out (x8_1:Int) ((IntKind.u64.wrap (Int.tdiv (IntKind.u64.wrap ((IntKind.u64.wrap (x7_1 * 1000000000)) + (IntKind.u64.wrap (rd l0 x8_1)))) (IntKind.u64.wrap (a1)))) % 4294967296)).1)⟩,⟨by first|(exact below_set (by repeat (first|(with_reducible first|exact HB.out|apply below_alloc|apply pw_below_drewN|apply below_drew1)|exact HB.out)) GB12.out)|(repeat (first|(with_reducible first|exact HB.out|apply below_alloc|apply pw_below_drewN|apply below_drew1)|exact HB.out))⟩⟩
         ·rw [if_neg c11] at H
          exact absurd H (by simp)
       ·rw [if_neg c9] at H
        exact absurd H (by simp)
      ·rw [if_neg c8] at H
       exact absurd H (by simp)
     ·rw [if_neg c7] at H
      have c7b0:decide (0≤x8_1) = false:=decide_eq_false c7
      clear c7
      replace H:=Option.bind_eq_some_iff.mp H
      obtain ⟨t441,A150,H⟩:=H
      replace H:(some (t441,(x7_1) % 4294967296)) = some (r1,r2):=H
      have A15:=Aside0.mk A150
      clear A150
      simp only [Option.some.injEq,Prod.mk.injEq] at H
      obtain ⟨rfl,rfl⟩:=H
      obtain ⟨Ao16,co16,eo16⟩:=Kd.R_slice HO_6.out
      subst eo16
      go_wp2_with (first|((with_reducible refine gate_callee (f:=59) rfl ?_);refine goesL_ (some 41) rfl rfl Tryd.func59 (by kernel_rfl) rfl #[.slice Ao16 x6_1.length co16] rfl (by (try simp only [List.map_toArray,List.map_cons,List.map_nil]);first|done|rfl|(simp only [List.length_drop,List.length_take];rfl)) ?_;(refine (rtrim_own k1 w.heap.size (fun k_=>(w.heap.size≤k_)) _ _ x6_1 t441 _ ?side1 A15.out).mono ?_);(case side1=>(with_reducible repeat (first|apply Kd.R_alloc|apply Kd.R_drewN|apply Kd.R_drew));exact HO_6.out);rintro e w17 ⟨v442,rfl,ho0,hb⟩;refine ⟨_,rfl,?_⟩;have n1_:=Aside0.mk ho0;have n2_:=Aside0.mk (below_step (by repeat (first|(with_reducible first|exact HB.out|apply below_alloc|apply pw_below_drewN|apply below_drew1)|exact HB.out)) hb);clear HO_6;clear HB;have HO443:=n1_;have HB:=n2_;clear n1_ n2_;(try clear hb);(try clear hb2);(try clear hk);(try clear hi);(try clear ho0)))
      go_ret2
      exact ⟨_,by first|rfl|(simp [errW_none,errW_some]<;>rfl)|(simp [*,errW_none,errW_some]<;>rfl),by (with_reducible repeat (first|apply Kd.R_alloc|apply Kd.R_drewN|apply Kd.R_drew));exact HO443.out,by repeat (first|(with_reducible first|exact HB.out|apply below_alloc|apply pw_below_drewN|apply below_drew1)|exact HB.out)⟩
  ·rw [if_neg c4] at H
   exact absurd H (by simp)
 ·rw [if_neg c3] at H
  exact absurd H (by simp)
end Go.Proofs.YtaopmkcghancmaaDoor.Pr
namespace Go.Proofs.YtaopmkcghancmaaDoor.Pr
set_option linter.unusedVariables false
set_option linter.unusedSimpArgs false
open Go.RowKit Go.Proofs.YtaopmkcghancmaaDoor.NatTh Go.Proofs.YtaopmkcghancmaaDoorW.PrintWords Go.Proofs.YtaopmkcghancmaaDoorW.PrintLast Go.Proofs.YtaopmkcghancmaaDoorW.PrintMore
structure RBigN (a b:Nat) (l0 l1:List Int) (tp:Int) (n1 f:Nat):Prop where
 n1e:wrap64 ((l1.length:Int) - 1) = (n1:Int)
 n1l:n1 < l1.length
 te:rd l1 (n1:Int) = tp
 wt:wrap64 tp = tp
 wt1:wrap64 (tp + 1) = tp + 1
 tn:tp + 1≠0
 df:Int.tdiv 1000000000 (tp + 1) = (f:Int)
 wf:wrap64 (f:Int) = (f:Int)
 uf:(f:Int) % 4294967296 = (f:Int)
 f0:0 < f
 f1:f≤500000000
 k0:∃ k,garboardref01_Small.f k (f:Int) = some (numOf f)
 k1:∃ k,garboardref01_Times.f k l0 (numOf f) = some (numOf (a * f))
 k2:∃ k,garboardref01_Times.f k l1 (numOf f) = some (numOf (b * f))
 k3:∃ k,garboardref01_trim.f k (numOf (a * f) ++ [0,0]) = some (numOf (a * f))
 lv:(numOf (b * f)).length = l1.length
 l1a:(numOf (a * f)).length≤l0.length + 1
 l2a:l0.length≤(numOf (a * f)).length
 la:l0.length≤549755813888
 le:l1.length≤l0.length
 O:OutI ((a * f:Nat):Int) (l0.length + 1) ((numOf (a * f) ++ [0,0]).take (l0.length + 1)) (numOf (b * f)) (List.replicate (l0.length + 1 - l1.length) 0) (l0.length + 1 - l1.length)
theorem scale_len {b t f:Nat} (hb:0 < b) (ht:(numOf b).getD ((numOf b).length - 1) 0 = (t:Int)) (hf:f = 1000000000 / (t + 1)):((b * f:Nat):Int) < B ^ (numOf b).length:=by
 have h1:=val_split (numOf b) ((numOf b).length - 1) (by omega)
 have hp:=len_pos hb
 have h2:=val_drop_succ (numOf b) ((numOf b).length - 1) (by omega)
 have h3:=val_take_le (num_numOf b).1 ((numOf b).length - 1)
 rw [show (numOf b).length - 1 + 1 = (numOf b).length by omega,List.drop_of_length_le (Nat.le_refl _),ht] at h2
 simp only [val,Int.mul_zero,Int.add_zero] at h2
 rw [h2,val_numOf] at h1
 have h4:(b:Int) < ((t:Int) + 1) * B ^ ((numOf b).length - 1):=by
  rw [Int.add_mul,Int.one_mul,Int.mul_comm (t:Int)]
  omega
 have h5:(t + 1) * f≤1000000000:=by rw [hf];exact Nat.mul_div_le _ _
 have h6:((t:Int) + 1) * (f:Int)≤B:=by
  rw [BB]
  have h:=Int.ofNat_le.2 h5
  rw [Int.natCast_mul,Int.natCast_add] at h
  exact h
 have h9:(f:Int) = 0 ∨ 0 < (f:Int):=by omega
 have hB:=Bpow_pos ((numOf b).length - 1)
 have h8:B ^ (numOf b).length = B * B ^ ((numOf b).length - 1):=by
  rw [← Bpow_succ]
  congr 1
  omega
 rcases h9 with h9|h9
 ·have:f = 0:=by omega
  rw [this,Nat.mul_zero,h8]
  exact Int.mul_pos B_pos hB
 ·have h7:=Int.mul_lt_mul_of_pos_right h4 h9
  have h10:=Int.mul_le_mul_of_nonneg_right h6 (Int.le_of_lt hB)
  rw [h8,Int.natCast_mul]
  refine Int.lt_of_lt_of_le h7 ?_
  rw [Int.mul_assoc,Int.mul_comm (B ^ ((numOf b).length - 1)) (f:Int),← Int.mul_assoc]
  exact h10
theorem val_zeros2 (l:List Int):val (l ++ [0,0]) = val l:=by
 have h:val [(0:Int),0] = 0:=by simp only [val,Int.mul_zero,Int.add_zero]
 rw [val_append,h,Int.mul_zero,Int.add_zero]
theorem rbigN {a b:Nat} (hba:b≤a) (h0:(numOf a).length≤549755813888) (h1:2≤(numOf b).length):∃ tp n1 f,RBigN a b (numOf a) (numOf b) tp n1 f:=by
 have hl1:=len_mono hba
 have hb:0 < b:=by
  by_cases e:b = 0
  ·rw [e,numOf_zero] at h1
   simp at h1
  ·omega
 have ht:=top_pos b hb
 have hw:=(num_numOf b).1.getD ((numOf b).length - 1)
 rw [BB] at hw
 obtain ⟨t,hte⟩:∃ t:Nat,(numOf b).getD ((numOf b).length - 1) 0 = (t:Int):=⟨((numOf b).getD ((numOf b).length - 1) 0).toNat,by omega⟩
 rw [hte] at ht hw
 have hf0:0 < 1000000000 / (t + 1):=Nat.div_pos (by omega) (by omega)
 have hf1:1000000000 / (t + 1)≤500000000:=by
  have:1000000000 / (t + 1)≤1000000000 / 2:=Nat.div_le_div_left (by omega) (by decide)
  omega
 obtain ⟨f,hf⟩:∃ f,f = 1000000000 / (t + 1):=⟨_,rfl⟩
 rw [← hf] at hf0 hf1
 have hlf:=len_one hf0 (by omega)
 have hm1:=len_mul a f
 have hm2:=len_mul b f
 have hg1:a≤a * f:=Nat.le_mul_of_pos_right a hf0
 have hg2:b≤b * f:=Nat.le_mul_of_pos_right b hf0
 have hg3:b * f≤a * f:=Nat.mul_le_mul_right f hba
 have hh1:=len_mono hg1
 have hh2:=len_mono hg2
 have hh3:=len_mono hg3
 have hsc:=len_le (scale_len hb hte hf)
 have hlv:(numOf (b * f)).length = (numOf b).length:=Nat.le_antisymm hsc hh2
 refine ⟨t,(numOf b).length - 1,f,?_⟩
 have htd:Int.tdiv 1000000000 ((t:Int) + 1) = (f:Int):=by
  rw [Int.tdiv_eq_ediv_of_nonneg (by decide),hf,Int.natCast_ediv]
  rfl
 have hz:(0:Int)≤0∧(0:Int) < B:=⟨by decide,B_pos⟩
 have hwu:Wd (numOf (a * f) ++ [0,0]):=(num_numOf _).1.append (Wd.cons hz (Wd.cons hz Wd.nil))
 have hlu:(numOf (a * f) ++ [0,0]).length = (numOf (a * f)).length + 2:=by simp
 have htr:trimL (numOf (a * f) ++ [0,0]) = numOf (a * f):=trim_numOf hwu (by rw [val_zeros2,val_numOf])
 have hval:val ((numOf (a * f) ++ [0,0]).take ((numOf a).length + 1)) = ((a * f:Nat):Int):=by
  have e1:=lt_len (a * f)
  have e2:=Bpow_le (show (numOf (a * f)).length≤(numOf a).length + 1 by omega)
  have:=(val_high hwu ((numOf a).length + 1) (by omega) (by rw [val_zeros2,val_numOf];omega)).2
  rw [← this,val_zeros2,val_numOf]
 refine ⟨w64n (by omega) (by omega),by omega,by rw [rd_eq];exact hte,w64 (by omega) (by omega),w64 (by omega) (by omega),by omega,htd,w64 (by omega) (by omega),Int.emod_eq_of_lt (by omega) (by omega),hf0,hf1,(Small_ev f (by omega)).rounds,(times_ev a f (ok_len h0) (ok_len (by omega))).2.rounds,(times_ev b f (ok_len (by omega)) (ok_len (by omega))).2.rounds,?_,hlv,by omega,hh1,h0,hl1,?_⟩
 ·have:=(rtrim_ev (l:=numOf (a * f) ++ [0,0]) (by omega)).rounds
  rw [htr] at this
  exact this
 ·refine ⟨hwu.take _,(num_numOf _).1,Wd.zeros _,by omega,top_pos _ (by omega),by rw [List.length_take];omega,by rw [List.length_replicate];omega,by rw [List.length_replicate];exact Nat.le_refl _,by omega,?_,?_⟩
  ·rw [hval,List.drop_replicate,Nat.sub_self,List.replicate_zero]
   simp [val]
  ·rw [hval]
   have e1:=lt_len a
   have e2:B ^ ((numOf b).length - 1)≤(b:Int):=by
    have:=(num_numOf b).ge (by rw [ne_eq,numOf_nil];omega)
    rw [val_numOf] at this
    exact this
   have e3:=Int.mul_le_mul_of_nonneg_right e2 (Int.le_of_lt (Bpow_pos ((numOf a).length + 1 - (numOf b).length)))
   rw [← Bpow_add,show (numOf b).length - 1 + ((numOf a).length + 1 - (numOf b).length) = (numOf a).length by omega] at e3
   have e4:(a:Int) < (b:Int) * B ^ ((numOf a).length + 1 - (numOf b).length):=by omega
   have e5:=Int.mul_lt_mul_of_pos_right e4 (show (0:Int) < (f:Int) by omega)
   rw [val_numOf,Int.natCast_mul,Int.natCast_mul,Int.mul_assoc,Int.mul_comm (f:Int),← Int.mul_assoc]
   exact e5
structure REndN (a b f:Nat) (u v q:List Int):Prop where
 k1:∃ k,garboardref01_trim.f k (u.take v.length) = some (numOf (a % b * f))
 k2:∃ k,garboardref01_small.f k (numOf (a % b * f)) (f:Int) = some (numOf (a % b),0)
 k3:∃ k,garboardref01_trim.f k q = some (numOf (a / b))
 le:v.length≤u.length
theorem rendN {a b f lu:Nat} {u q:List Int} (hb:0 < b) (hf0:0 < f) (hf1:f≤500000000) (h0:(numOf a).length≤549755813888) (h1:(numOf b).length≤549755813888) (h:OutI ((a * f:Nat):Int) lu u (numOf (b * f)) q 0):REndN a b f u (numOf (b * f)) q:=by
 have E:=endN hb hf0 hf1 h0 h1 h
 have hsm:=h.small
 have hlu:=h.llu
 have hlq:=h.lq
 have hlf:=len_one hf0 (by omega)
 have hl3:=len_mul b f
 obtain ⟨k1,e1⟩:=E.k1
 obtain ⟨k3,e3⟩:=E.k3
 have t1:trimL (u.take (numOf (b * f)).length) = numOf (a % b * f):=by
  obtain ⟨K,hK⟩:=trim_ev (l:=u.take (numOf (b * f)).length) (by rw [List.length_take];omega)
  have:=hK (max K k1) (Nat.le_max_left _ _)
  have h2:=at_rounds (natural_num_trim.mono _) (Nat.le_max_right K k1) e1
  exact Option.some.inj (this.symm.trans h2)
 have t3:trimL q = numOf (a / b):=by
  obtain ⟨K,hK⟩:=trim_ev (l:=q) (by omega)
  have:=hK (max K k3) (Nat.le_max_left _ _)
  have h2:=at_rounds (natural_num_trim.mono _) (Nat.le_max_right K k3) e3
  exact Option.some.inj (this.symm.trans h2)
 have hm:a % b * f≤b * f:=Nat.mul_le_mul_right f (Nat.le_of_lt (Nat.mod_lt _ hb))
 have hl2:=len_mono hm
 refine ⟨?_,?_,?_,E.le⟩
 ·have:=(rtrim_ev (l:=u.take (numOf (b * f)).length) (by rw [List.length_take];omega)).rounds
  rw [t1] at this
  exact this
 ·have:=(by_ev (a % b * f) f hf0 (by omega) (show Ok (numOf (a % b * f)) by unfold Ok;omega)).2.rounds
  rw [Nat.mul_div_cancel _ hf0,Nat.mul_mod_left] at this
  exact this
 ·have:=(rtrim_ev (l:=q) (by omega)).rounds
  rw [t3] at this
  exact this
end Go.Proofs.YtaopmkcghancmaaDoor.Pr
