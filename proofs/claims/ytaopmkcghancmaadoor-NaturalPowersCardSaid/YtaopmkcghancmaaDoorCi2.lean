/- Part 2 of 3: garboardlaw01.NaturalPowers (power and root: the program's answers and the reference's are the same; at most 120 bytes, powers up to 30 bytes) answers true for every input, and each argument reads behind the call as before. The library's tables are tied to the program's text by the card. -/
import Derived.Laws.StructEq
import Derived.Test.YtaopmkcghancmaaDoorProg
import Derived.Below
import Derived.Deep.Draws
import Derived.Deep.AppendLies
import Derived.Maps.AppendAt
import Derived.OwnWalk
import Derived.Laws.BytesArg
import Derived.Laws.MakeOwn
import Derived.Laws.OwnMore
import Derived.Deep.OwnRows
import Derived.Tactics
import Derived.Lib.ConvBytes
import Derived.Laws.Slices
import Derived.WalkKit
import Derived.KernelRfl
import Derived.RowKit3
import Derived.Deep.LoopGhost
import Derived.Deep.QuietTactic
import Derived.BigQuiet
import Derived.WideLaws
import Derived.Deep.DeepCutAuto
import Derived.Deep.CutBlock
import Derived.Deep.RegionHeld3
import Derived.Laws.Rows
import Derived.Lib.AppendStr
import Derived.ArgAppend
import Derived.Laws.IdiomCopy
import Derived.OrdersHeld
import Derived.Laws.BitsLemmas
import Derived.RowKit
import Derived.Lib.ItoaNum
import Derived.Lib.ParseIntB
import Derived.Shelf.Strings.Builder1
import Derived.Shelf.Strings.Builder2
import Derived.Shelf.Small.Wraps
import Derived.Shelf.Strings.BuilderF
import Derived.Shelf.Strings.BuilderK
import Derived.Shelf.Strings.Builder2Cap
import Derived.Shelf.Strconv.Itoa0
import Derived.Shelf.Strconv.Itoa1
import Derived.Shelf.LaysM
import Derived.Shelf.Strconv.Itoa2
import Derived.Shelf.Strconv.Itoa3
import Derived.Shelf.Strconv.Clone
import Derived.Shelf.Strconv.SyntaxError
import Derived.Shelf.Strconv.Lower
import Derived.Shelf.Strconv.ParseUint10
import Derived.Shelf.Strconv.ParseUint10Empty
import Derived.Shelf.Strconv.RangeError
import Derived.Shelf.Strconv.ParseUintEmpty
import Derived.Shelf.Strconv.ParseUint10b64
import Derived.Shelf.Strconv.ParseUint10b32
import Derived.Shelf.Strconv.ParseUint10b16
import Derived.Shelf.Strconv.ParseUint10b8
import Derived.Ground.MpProg
import Derived.Shelf.Pu.ParseUintPublic10
import Derived.Shelf.Strings.Prefix
import Derived.Shelf.Bits.Mul64
import Derived.Shelf.Strings.Repeat
import Derived.Ground.Names2Prog
import Derived.Shelf.Slices.SearchI
import Derived.Lib.AtoiErrMem
import Derived.RangeFuncFrom
import Derived.RangeFuncBox
import Derived.RangeFuncLeaves
import Derived.RangeFuncCalls
import Derived.RangeFuncBound
import Derived.Shelf.Abstract
import Derived.OwnWalkIn
import Derived.TacticsInMore
import Derived.LoopNIn
import Derived.LoopIn
import Derived.Lib.Hide
import Derived.Lib.FrozenHead
import Derived.Lib.AppendIntMem
import Derived.Lib.Walk
import Derived.Lib.ItoaMem
import Derived.BigCall
import Derived.BigGuard
import Derived.Lib.SmallJoins
import Derived.LaidMore
import Derived.ProofKit
import Derived.Stop.Joined
import Derived.SizedLaws
import Derived.DataShut
import Derived.Test.YtaopmkcghancmaaDoorCi1
namespace Go.Proofs.YtaopmkcghancmaaDoor.Pr
open Go.RowKit Go.Proofs.YtaopmkcghancmaaDoorW.PrintWords Go.Proofs.YtaopmkcghancmaaDoorW.PrintLast Go.Proofs.YtaopmkcghancmaaDoorW.PrintMore
attribute [local go_sem] max2_int min2_int max_two min_two max_three min_three max_four min_four
set_option linter.unusedVariables false
set_option linter.unusedSimpArgs false
theorem info5:(Tryd.prog.info? 5).map (fun i=>(i.zero,i.size,i.bytes)) = some (some (.int .u8 0),1,1):=by kernel_rfl
end Go.Proofs.YtaopmkcghancmaaDoor.Pr
namespace Go.Proofs.YtaopmkcghancmaaDoor.Pr
open Go.RowKit Go.Proofs.YtaopmkcghancmaaDoorW.PrintWords Go.Proofs.YtaopmkcghancmaaDoorW.PrintLast Go.Proofs.YtaopmkcghancmaaDoorW.PrintMore
attribute [local go_sem] max2_int min2_int max_two min_two max_three min_three max_four min_four
set_option linter.unusedVariables false
set_option linter.unusedSimpArgs false
set_option maxHeartbeats 8000000 in
set_option maxRecDepth 100000 in
theorem garboardref01_trim.calls (k:Nat) (P0_:Nat→Prop) (A0:Option Addr) (c0:Nat) (l0:List Int) (r:List Int) (w:World) (hs0:Kd.V (Kd.int .u32) 64 w w.heap.size (fun k_=>P0_ k_) (.slice A0 l0.length c0) l0) (h:garboardref01_trim.f k l0 = some r) :
  Calls Tryd.prog 59 #[.slice A0 l0.length c0] w fun e w'=>∃ v0_:Value,e = .returned (v0_)∧Kd.V (Kd.int .u32) 64 w' w.heap.size (fun k_=>(P0_ k_ ∨ w.heap.size≤k_)) v0_ r∧Below w.heap.size w w':=by
 have HO0:=Aside0.mk (show Kd.V (Kd.int .u32) 64 w w.heap.size (fun k_=>(P0_ k_ ∨ w.heap.size≤k_)) (.slice A0 l0.length c0) l0 from Kd.V_mono hs0 (fun k_ hk=>.inl hk))
 have HB:=Aside0.mk (Below.refl w.heap.size w)
 have H:(garboardref01_trim.l0 k l0) = some r:=h
 clear h
 have H':=Aside0.mk H
 clear H
 go_enter Tryd.func59,Tryd.ntmps59
 go_wp2
 go_loopg [0] k (fun kq v0 w'=>∃ (x0_1:List Int),Aside0 (garboardref01_trim.l0 kq x0_1 = some r)∧Aside0 (kq≤k)∧Aside0 (Kd.V (Kd.int .u32) 64 w' w.heap.size (fun k_=>(P0_ k_ ∨ w.heap.size≤k_)) v0 x0_1)∧Aside0 (Below w.heap.size w w'))
 case atStart=>exact ⟨(l0),H',⟨Nat.le_refl _⟩,⟨by (with_reducible repeat (first|apply Kd.V_alloc|apply Kd.V_drewN|apply Kd.V_drew));exact HO0.out⟩,⟨by repeat (first|(with_reducible first|exact HB.out|apply below_alloc|apply pw_below_drewN|apply below_drew1)|exact HB.out)⟩⟩
 case round =>
  clear H'
  obtain ⟨x0_1,HA,HK1,HO_0,HB⟩:=hrel
  cases gk with
  | zero=>exact absurd HA.out (by simp [garboardref01_trim.l0])
  | succ k1 =>
   have H:=HA.out
   clear HA
   simp only [garboardref01_trim.l0] at H
   by_cases c2:(x0_1.length:Int) > 0
   ·rw [if_pos c2] at H
    have c2b0:decide (0 < (x0_1.length:Int)) = true:=decide_eq_true c2
    have c2b1:decide (0 < x0_1.length) = true:=decide_eq_true (by omega)
    clear c2
    obtain ⟨ji3,hji3⟩:∃ j_:Int,(wrap64 ((x0_1.length:Int) - 1)) = j_:=⟨_,rfl⟩
    replace H:(if 0≤(ji3) then (if (ji3) < (x0_1.length:Int) then (if (rd x0_1 (ji3)) = 0 then (if (ji3)≤(x0_1.length:Int) then (garboardref01_trim.l0 k1 (x0_1.take ((ji3):Int).toNat)) else (none)) else (some x0_1)) else (none)) else (none)) = some r:=by first|(rw [hji3] at H;exact H)|(simp only [hji3] at H ⊢;exact H)
    have hji3w:(IntKind.i64.wrap ((x0_1.length:Int) - 1)) = ji3:=(i64_w _).trans hji3
    by_cases c4:0≤(ji3)
    ·rw [if_pos c4] at H
     have c4b0:decide (0≤(ji3)) = true:=decide_eq_true c4
     clear c4
     by_cases c5:(ji3) < (x0_1.length:Int)
     ·rw [if_pos c5] at H
      have c5b0:decide ((ji3) < (x0_1.length:Int)) = true:=decide_eq_true c5
      clear c5
      by_cases c6:(rd x0_1 (ji3)) = 0
      ·rw [if_pos c6] at H
       have c6b0:((rd x0_1 (ji3)) == 0) = true:=beq_iff_eq.mpr c6
       have c6b1:((rd x0_1 (ji3)) != 0) = false:=bne_eq_false_iff_eq.mpr c6
       clear c6
       have c7b0:=eq_true (of_decide_eq_true (by first|(with_reducible assumption)|assumption):0≤(ji3))
       by_cases c8:(ji3)≤(x0_1.length:Int)
       ·rw [if_pos c8] at H
        have c8b0:=eq_true c8
        have c8b1:decide ((ji3)≤(x0_1.length:Int)) = true:=decide_eq_true c8
        clear c8
        obtain ⟨y284,hy284⟩:∃ y_:List Int,y_ = (x0_1.take ((ji3):Int).toNat):=⟨_,rfl⟩
        replace H:(garboardref01_trim.l0 k1 y284) = some r:=by first|(rw [hy284];with_reducible exact H)|(have H2_:=(Option.bind_some _ _).symm.trans H;rw [hy284];with_reducible exact H2_)|(have H2_:=(Option.bind_some _ _).symm.trans H;with_reducible exact H2_)|with_reducible exact H|(rw [hy284];exact H)|exact H
        have Ny284:=Aside0.mk hy284
        clear hy284
        have H':=Aside0.mk H
        clear H
        obtain ⟨Ao9,co9,eo9⟩:=Kd.V_slice HO_0.out
        subst eo9
        have p283:0≤((ji3):Int):=of_decide_eq_true (by first|(with_reducible assumption)|assumption)
        have q283:(ji3) < (x0_1.length:Int):=of_decide_eq_true (by first|(with_reducible assumption)|assumption)
        obtain ⟨ad283,e283,hx283_0⟩:=Kd.at_int (Kd.V_reads' HO_0.out).2.2 (ji3) p283 q283
        cases e283
        replace p283:=eq_true p283
        replace q283:=eq_true q283
        have q10:((ji3):Int)≤((x0_1.length:Int):Int):=of_decide_eq_true (by first|(with_reducible assumption)|assumption)
        obtain ⟨i010,hi010,_,hsz10,_⟩:=info_parts info64
        have hroom10:x0_1.length≤co9:=(Kd.V_reads' HO_0.out).2.1
        have hC10:Kd.F (Kd.int .u32) _ _ (some ad283) x0_1.length x0_1:=(Kd.V_at (base:=w.heap.size) HO_0.out).2.2
        have hcut10:=cut_to (P:=Tryd.prog) 45 64 .i64 Tryd.underlying45 hi010 (some ad283) x0_1.length co9 (ji3) (of_decide_eq_true (by first|(with_reducible assumption)|assumption)) q10 hroom10
        have hr10:=Kd.F_take (m:=((ji3):Int).toNat) hC10 (by omega)
        have hy10:y284.length = ((ji3):Int).toNat:=(by rw [Ny284.out,List.length_take];omega)
        rw [← Ny284.out] at hr10
        rw [← hy10] at hcut10
        have HO288:=Aside0.mk (show Kd.V (Kd.int .u32) 64 _ w.heap.size _ (.slice (some ad283) y284.length co9) y284 from Kd.V_mk (by omega) hr10)
        have HC288:=Aside0.mk (show y284.length≤co9 from by omega)
        clear hr10 hC10 hroom10 hi010 hsz10
        have KY10:=Aside0.mk hy10
        clear hy10
        replace q10:=eq_true q10
        go_wp2
        go_roundg k1
        case measure=>have:=HK1.out;omega
        case rel=>exact ⟨(y284),H',⟨by have:=HK1.out;omega⟩,⟨by (with_reducible repeat (first|apply Kd.V_alloc|apply Kd.V_drewN|apply Kd.V_drew));exact HO288.out⟩,⟨by repeat (first|(with_reducible first|exact HB.out|apply below_alloc|apply pw_below_drewN|apply below_drew1)|exact HB.out)⟩⟩
       ·rw [if_neg c8] at H
        exact absurd H (by simp)
      ·rw [if_neg c6] at H
       have c6b0:((rd x0_1 (ji3)) == 0) = false:=beq_eq_false_iff_ne.mpr c6
       have c6b1:((rd x0_1 (ji3)) != 0) = true:=bne_iff_ne.mpr c6
       obtain rfl:=Option.some.inj H
       obtain ⟨Ao11,co11,eo11⟩:=Kd.V_slice HO_0.out
       subst eo11
       have p283:0≤((ji3):Int):=of_decide_eq_true (by first|(with_reducible assumption)|assumption)
       have q283:(ji3) < (x0_1.length:Int):=of_decide_eq_true (by first|(with_reducible assumption)|assumption)
       obtain ⟨ad283,e283,hx283_0⟩:=Kd.at_int (Kd.V_reads' HO_0.out).2.2 (ji3) p283 q283
       cases e283
       replace p283:=eq_true p283
       replace q283:=eq_true q283
       go_wp2
       go_ret
       exact ⟨_,by first|rfl|(simp [errW_none,errW_some]<;>rfl)|(simp only [← hji3];first|rfl|(simp [errW_none,errW_some]<;>rfl))|(simp [*,errW_none,errW_some]<;>rfl),by (with_reducible repeat (first|apply Kd.V_alloc|apply Kd.V_drewN|apply Kd.V_drew));exact HO_0.out,by repeat (first|(with_reducible first|exact HB.out|apply below_alloc|apply pw_below_drewN|apply below_drew1)|exact HB.out)⟩
     ·rw [if_neg c5] at H
      exact absurd H (by simp)
    ·rw [if_neg c4] at H
     exact absurd H (by simp)
   ·rw [if_neg c2] at H
    have c2b0:decide (0 < (x0_1.length:Int)) = false:=decide_eq_false c2
    have c2b1:decide (0 < x0_1.length) = false:=decide_eq_false (by omega)
    clear c2
    obtain rfl:=Option.some.inj H
    obtain ⟨Ao12,co12,eo12⟩:=Kd.V_slice HO_0.out
    subst eo12
    go_wp2
    go_ret
    exact ⟨_,by first|rfl|(simp [errW_none,errW_some]<;>rfl)|(simp [*,errW_none,errW_some]<;>rfl),by (with_reducible repeat (first|apply Kd.V_alloc|apply Kd.V_drewN|apply Kd.V_drew));exact HO_0.out,by repeat (first|(with_reducible first|exact HB.out|apply below_alloc|apply pw_below_drewN|apply below_drew1)|exact HB.out)⟩
end Go.Proofs.YtaopmkcghancmaaDoor.Pr
namespace Go.Proofs.YtaopmkcghancmaaDoor.Pr
open Go.RowKit Go.Proofs.YtaopmkcghancmaaDoorW.PrintWords Go.Proofs.YtaopmkcghancmaaDoorW.PrintLast Go.Proofs.YtaopmkcghancmaaDoorW.PrintMore
attribute [local go_sem] max2_int min2_int max_two min_two max_three min_three max_four min_four
set_option linter.unusedVariables false
set_option linter.unusedSimpArgs false
set_option maxHeartbeats 8000000 in
set_option maxRecDepth 100000 in
theorem garboardref01_Cmp.calls (k:Nat) (A0:Option Addr) (c0:Nat) (l0:List Int) (A1:Option Addr) (c1:Nat) (l1:List Int) (r:Int) (w:World) (hr0:Kd.C (Kd.int .u32) w A0 l0.length l0) (hc0:l0.length≤c0) (hr1:Kd.C (Kd.int .u32) w A1 l1.length l1) (hc1:l1.length≤c1) (h:garboardref01_Cmp.f k l0 l1 = some r) :
  Calls Tryd.prog 36 #[.slice A0 l0.length c0,.slice A1 l1.length c1] w fun e w'=>e = .returned (.int .i64 r)∧Drawn0 w w':=by
 have HR0:=Aside0.mk hr0
 have HC0:=Aside0.mk hc0
 clear hr0 hc0
 have HR1:=Aside0.mk hr1
 have HC1:=Aside0.mk hc1
 clear hr1 hc1
 have H:(if (l0.length:Int) = (l1.length:Int) then (garboardref01_Cmp.l0 k l0 l1 (wrap64 ((l0.length:Int) - 1))) else (if (l0.length:Int) < (l1.length:Int) then (some (-1)) else (some 1))) = some r:=h
 clear h
 by_cases c3:(l0.length:Int) = (l1.length:Int)
 ·rw [if_pos c3] at H
  have c3b0:((l0.length:Int) == (l1.length:Int)) = true:=beq_iff_eq.mpr c3
  have c3b1:((l0.length:Int) != (l1.length:Int)) = false:=bne_eq_false_iff_eq.mpr c3
  have c3b2:(l0.length == l1.length) = true:=by first|simpa using c3|(simp at c3 ⊢;omega)
  clear c3
  have H':=Aside0.mk H
  clear H
  go_enter Tryd.func36,Tryd.ntmps36
  go_wp2
  repeat (go_quiet (fail);try go_wp2)
  go_loopg [5] k (fun kq v5 w'=>∃ (x5_1:Int),v5 = .int .i64 x5_1∧Aside0 (garboardref01_Cmp.l0 kq l0 l1 x5_1 = some r)∧Aside0 (kq≤k)∧Drawn0 w w')
  case atStart=>exact ⟨(wrap64 ((l0.length:Int) - 1)),(by first|rfl|(simp;done)|(simp [*];done)),H',⟨Nat.le_refl _⟩,by repeat (first|exact Drawn0.refl _|apply Drawn0.step)⟩
  case round =>
   clear H'
   try clear c1
   try clear p2
   try clear c3
   try clear c3b0
   try clear c3b1
   try clear c3b2
   obtain ⟨x5_1,rfl,HA,HK1,⟨m1,rfl⟩⟩:=hrel
   cases gk with
   | zero=>exact absurd HA.out (by simp [garboardref01_Cmp.l0])
   | succ k1 =>
    have H:=HA.out
    clear HA
    simp only [garboardref01_Cmp.l0] at H
    by_cases c4:x5_1 ≥ 0
    ·rw [if_pos c4] at H
     have c4b0:decide (0≤x5_1) = true:=decide_eq_true c4
     clear c4
     by_cases c5:0≤x5_1
     ·rw [if_pos c5] at H
      have c5b0:decide (0≤x5_1) = true:=decide_eq_true c5
      clear c5
      by_cases c6:x5_1 < (l0.length:Int)
      ·rw [if_pos c6] at H
       have c6b0:decide (x5_1 < (l0.length:Int)) = true:=decide_eq_true c6
       clear c6
       by_cases c7:x5_1 < (l1.length:Int)
       ·rw [if_pos c7] at H
        have c7b0:decide (x5_1 < (l1.length:Int)) = true:=decide_eq_true c7
        clear c7
        by_cases c8:(rd l0 x5_1) < (rd l1 x5_1)
        ·rw [if_pos c8] at H
         have c8b0:decide ((rd l0 x5_1) < (rd l1 x5_1)) = true:=decide_eq_true c8
         clear c8
         obtain rfl:=Option.some.inj H
         have p303:0≤(x5_1:Int):=of_decide_eq_true (by first|(with_reducible assumption)|assumption)
         have q303:x5_1 < (l0.length:Int):=of_decide_eq_true (by first|(with_reducible assumption)|assumption)
         obtain ⟨ad303,e303,hx303_0⟩:=Kd.at_int HR0.out x5_1 p303 q303
         cases e303
         replace p303:=eq_true p303
         replace q303:=eq_true q303
         have p304:0≤(x5_1:Int):=of_decide_eq_true (by first|(with_reducible assumption)|assumption)
         have q304:x5_1 < (l1.length:Int):=of_decide_eq_true (by first|(with_reducible assumption)|assumption)
         obtain ⟨ad304,e304,hx304_0⟩:=Kd.at_int HR1.out x5_1 p304 q304
         cases e304
         replace p304:=eq_true p304
         replace q304:=eq_true q304
         go_wp2
         repeat (go_quiet (fail);try go_wp2)
         go_ret
         exact ⟨by first|rfl|(simp;done)|(simp [*];done),by repeat (first|exact Drawn0.refl _|apply Drawn0.step)⟩
        ·rw [if_neg c8] at H
         have c8b0:decide ((rd l0 x5_1) < (rd l1 x5_1)) = false:=decide_eq_false c8
         clear c8
         by_cases c9:(rd l0 x5_1) > (rd l1 x5_1)
         ·rw [if_pos c9] at H
          have c9b0:decide ((rd l1 x5_1) < (rd l0 x5_1)) = true:=decide_eq_true c9
          clear c9
          obtain rfl:=Option.some.inj H
          have p303:0≤(x5_1:Int):=of_decide_eq_true (by first|(with_reducible assumption)|assumption)
          have q303:x5_1 < (l0.length:Int):=of_decide_eq_true (by first|(with_reducible assumption)|assumption)
          obtain ⟨ad303,e303,hx303_0⟩:=Kd.at_int HR0.out x5_1 p303 q303
          cases e303
          replace p303:=eq_true p303
          replace q303:=eq_true q303
          have p304:0≤(x5_1:Int):=of_decide_eq_true (by first|(with_reducible assumption)|assumption)
          have q304:x5_1 < (l1.length:Int):=of_decide_eq_true (by first|(with_reducible assumption)|assumption)
          obtain ⟨ad304,e304,hx304_0⟩:=Kd.at_int HR1.out x5_1 p304 q304
          cases e304
          replace p304:=eq_true p304
          replace q304:=eq_true q304
          have p305:0≤(x5_1:Int):=of_decide_eq_true (by first|(with_reducible assumption)|assumption)
          have q305:x5_1 < (l0.length:Int):=of_decide_eq_true (by first|(with_reducible assumption)|assumption)
          obtain ⟨ad305,e305,hx305_0⟩:=Kd.at_int HR0.out x5_1 p305 q305
          obtain rfl:ad303 = ad305:=(by injection e305)
          replace p305:=eq_true p305
          replace q305:=eq_true q305
          have p306:0≤(x5_1:Int):=of_decide_eq_true (by first|(with_reducible assumption)|assumption)
          have q306:x5_1 < (l1.length:Int):=of_decide_eq_true (by first|(with_reducible assumption)|assumption)
          obtain ⟨ad306,e306,hx306_0⟩:=Kd.at_int HR1.out x5_1 p306 q306
          obtain rfl:ad304 = ad306:=(by injection e306)
          replace p306:=eq_true p306
          replace q306:=eq_true q306
          go_wp2
          repeat (go_quiet (fail);try go_wp2)
          go_ret
          exact ⟨by first|rfl|(simp;done)|(simp [*];done),by repeat (first|exact Drawn0.refl _|apply Drawn0.step)⟩
         ·rw [if_neg c9] at H
          have c9b0:decide ((rd l1 x5_1) < (rd l0 x5_1)) = false:=decide_eq_false c9
          clear c9
          have H':=Aside0.mk H
          clear H
          have p303:0≤(x5_1:Int):=of_decide_eq_true (by first|(with_reducible assumption)|assumption)
          have q303:x5_1 < (l0.length:Int):=of_decide_eq_true (by first|(with_reducible assumption)|assumption)
          obtain ⟨ad303,e303,hx303_0⟩:=Kd.at_int HR0.out x5_1 p303 q303
          cases e303
          replace p303:=eq_true p303
          replace q303:=eq_true q303
          have p304:0≤(x5_1:Int):=of_decide_eq_true (by first|(with_reducible assumption)|assumption)
          have q304:x5_1 < (l1.length:Int):=of_decide_eq_true (by first|(with_reducible assumption)|assumption)
          obtain ⟨ad304,e304,hx304_0⟩:=Kd.at_int HR1.out x5_1 p304 q304
          cases e304
          replace p304:=eq_true p304
          replace q304:=eq_true q304
          have p305:0≤(x5_1:Int):=of_decide_eq_true (by first|(with_reducible assumption)|assumption)
          have q305:x5_1 < (l0.length:Int):=of_decide_eq_true (by first|(with_reducible assumption)|assumption)
          obtain ⟨ad305,e305,hx305_0⟩:=Kd.at_int HR0.out x5_1 p305 q305
          obtain rfl:ad303 = ad305:=(by injection e305)
          replace p305:=eq_true p305
          replace q305:=eq_true q305
          have p306:0≤(x5_1:Int):=of_decide_eq_true (by first|(with_reducible assumption)|assumption)
          have q306:x5_1 < (l1.length:Int):=of_decide_eq_true (by first|(with_reducible assumption)|assumption)
          obtain ⟨ad306,e306,hx306_0⟩:=Kd.at_int HR1.out x5_1 p306 q306
          obtain rfl:ad304 = ad306:=(by injection e306)
          replace p306:=eq_true p306
          replace q306:=eq_true q306
          go_wp2
          repeat (go_quiet (fail);try go_wp2)
          go_roundg k1
          case measure=>have:=HK1.out;omega
          case rel=>exact ⟨(wrap64 (x5_1 - 1)),(by first|rfl|(simp;done)|(simp [*];done)),H',⟨by have:=HK1.out;omega⟩,by repeat (first|exact Drawn0.refl _|apply Drawn0.step)⟩
       ·rw [if_neg c7] at H
        exact absurd H (by simp)
      ·rw [if_neg c6] at H
       exact absurd H (by simp)
     ·rw [if_neg c5] at H
      exact absurd H (by simp)
    ·rw [if_neg c4] at H
     have c4b0:decide (0≤x5_1) = false:=decide_eq_false c4
     clear c4
     obtain rfl:=Option.some.inj H
     go_wp2
     repeat (go_quiet (fail);try go_wp2)
     go_ret
     exact ⟨by first|rfl|(simp;done)|(simp [*];done),by repeat (first|exact Drawn0.refl _|apply Drawn0.step)⟩
 ·rw [if_neg c3] at H
  have c3b0:((l0.length:Int) == (l1.length:Int)) = false:=beq_eq_false_iff_ne.mpr c3
  have c3b1:((l0.length:Int) != (l1.length:Int)) = true:=bne_iff_ne.mpr c3
  have c3b2:(l0.length == l1.length) = false:=by first|simpa using c3|(simp at c3 ⊢;omega)
  by_cases c10:(l0.length:Int) < (l1.length:Int)
  ·rw [if_pos c10] at H
   have c10b0:decide ((l0.length:Int) < (l1.length:Int)) = true:=decide_eq_true c10
   have c10b1:decide (l0.length < l1.length) = true:=decide_eq_true (Int.ofNat_lt.mp c10)
   clear c10
   obtain rfl:=Option.some.inj H
   go_enter Tryd.func36,Tryd.ntmps36
   go_wp2
   repeat (go_quiet (fail);try go_wp2)
   go_ret
   exact ⟨by first|rfl|(simp;done)|(simp [*];done),by repeat (first|exact Drawn0.refl _|apply Drawn0.step)⟩
  ·rw [if_neg c10] at H
   have c10b0:decide ((l0.length:Int) < (l1.length:Int)) = false:=decide_eq_false c10
   have c10b1:decide (l0.length < l1.length) = false:=decide_eq_false (fun h=>c10 (Int.ofNat_lt.mpr h))
   clear c10
   obtain rfl:=Option.some.inj H
   go_enter Tryd.func36,Tryd.ntmps36
   go_wp2
   repeat (go_quiet (fail);try go_wp2)
   go_ret
   exact ⟨by first|rfl|(simp;done)|(simp [*];done),by repeat (first|exact Drawn0.refl _|apply Drawn0.step)⟩
end Go.Proofs.YtaopmkcghancmaaDoor.Pr
namespace Go.Proofs.YtaopmkcghancmaaDoor.Pr
open Go.RowKit Go.Proofs.YtaopmkcghancmaaDoorW.PrintWords Go.Proofs.YtaopmkcghancmaaDoorW.PrintLast Go.Proofs.YtaopmkcghancmaaDoorW.PrintMore
attribute [local go_sem] max2_int min2_int max_two min_two max_three min_three max_four min_four
set_option linter.unusedVariables false
set_option linter.unusedSimpArgs false
def garboardref01_Small.f (k:Nat) (a0:Int):Option (List Int):=(garboardref01_trim.f k (([Int.tmod a0 1000000000,(Int.tdiv a0 1000000000) % 4294967296]:List Int))).bind fun t447=>(some t447)
set_option maxHeartbeats 8000000 in
set_option maxRecDepth 100000 in
theorem garboardref01_Small.calls (k:Nat) (a0:Int) (r:List Int) (w:World) (h:garboardref01_Small.f k a0 = some r) :
  Calls Tryd.prog 68 #[.int .u32 a0] w fun e w'=>∃ v0_:Value,e = .returned (v0_)∧Kd.V (Kd.int .u32) 64 w' w.heap.size (fun k_=>(w.heap.size≤k_)) v0_ r∧Below w.heap.size w w':=by
 have HB:=Aside0.mk (Below.refl w.heap.size w)
 have H:((garboardref01_trim.f k (([Int.tmod a0 1000000000,(Int.tdiv a0 1000000000) % 4294967296]:List Int))).bind fun t447=>(some t447)) = some r:=h
 clear h
 obtain ⟨y444,hy444⟩:∃ y_:List Int,y_ = (([Int.tmod a0 1000000000,(Int.tdiv a0 1000000000) % 4294967296]:List Int)):=⟨_,rfl⟩
 replace H:((garboardref01_trim.f k y444).bind fun t447=>(some t447)) = some r:=by first|(rw [hy444];with_reducible exact H)|(have H2_:=(Option.bind_some _ _).symm.trans H;rw [hy444];with_reducible exact H2_)|(have H2_:=(Option.bind_some _ _).symm.trans H;with_reducible exact H2_)|with_reducible exact H|(rw [hy444];exact H)|exact H
 have Ny444:=Aside0.mk hy444
 clear hy444
 replace H:=Option.bind_eq_some_iff.mp H
 obtain ⟨t447,A20,H⟩:=H
 replace H:(some t447) = some r:=H
 have A2:=Aside0.mk A20
 clear A20
 obtain rfl:=Option.some.inj H
 go_enter Tryd.func68,Tryd.ntmps68
 go_wp2_with (first|((with_reducible refine gate_dst (N:=7) rfl ?_);refine Kd.R_lit (Kd.int .u32) _ 64 ?hg (N:=7) ?hd (xs:=([Int.tmod a0 1000000000,(Int.tdiv a0 1000000000) % 4294967296]:List Int)) (inner:=[.int .u32 (Int.tmod a0 1000000000),.int .u32 ((Int.tdiv a0 1000000000) % 4294967296)]) (ok:=fun _=>True) (okp:=fun _=>True) ?hr ?hp (fun _ hk=>hk) trivial (Below.refl _ _) (Nat.le_refl _) (by simp) ?_;(case hd=>rfl);(case hg=>rfl);(case hr=>first|(go_simp;done)|(go_simp;rfl));(case hp=>exact (Reps.one (show Kd.M (Kd.int .u32) _ _ _ (Int.tmod a0 1000000000) [.int .u32 (Int.tmod a0 1000000000)] from rfl) (Reps.one (show Kd.M (Kd.int .u32) _ _ _ ((Int.tdiv a0 1000000000) % 4294967296) [.int .u32 ((Int.tdiv a0 1000000000) % 4294967296)] from rfl) (Reps.none _ _))));intro v445 w3 ho4 hb hg_ hnew_;clear hg_ hnew_;(first|rw [← Ny444.out] at ho4|(simp only [Int.reduceToNat] at ho4;rw [← Ny444.out] at ho4));have n0_:=Aside0.mk (Kd.R_lower (Kd.R_newM (M:=fun k_=>(w.heap.size≤k_)) ho4 (below_size (by repeat (first|(with_reducible first|exact HB.out|apply below_alloc|apply pw_below_drewN|apply below_drew1)|exact HB.out))) (fun k_ h_=>h_)) (below_size (by repeat (first|(with_reducible first|exact HB.out|apply below_alloc|apply pw_below_drewN|apply below_drew1)|exact HB.out))));have n1_:=Aside0.mk (below_step (by repeat (first|(with_reducible first|exact HB.out|apply below_alloc|apply pw_below_drewN|apply below_drew1)|exact HB.out)) hb);clear HB;have HO446:=n0_;have HB:=n1_;clear n0_ n1_;clear hb ho4;obtain ⟨Ao5,co5,eo5⟩:=Kd.R_slice HO446.out;subst eo5)|((with_reducible refine gate_callee (f:=59) rfl ?_);refine goesL_ (some 8) rfl rfl Tryd.func59 (by kernel_rfl) rfl #[.slice Ao5 y444.length co5] rfl (by (try simp only [List.map_toArray,List.map_cons,List.map_nil]);first|done|rfl|(simp only [List.length_drop,List.length_take];rfl)) ?_;(with_reducible refine (garboardref01_trim.calls k (fun k_=>some k_ = (.slice Ao5 y444.length co5:Value).ownBlock) _ _ y444 t447 _ ?side1 A2.out).mono ?_);(case side1=>exact Kd.R_V (Kd.R_tight rfl (HO446.out)));rintro e w6 ⟨v448,rfl,ho0,hb⟩;refine ⟨_,rfl,?_⟩;have n0_:=Aside0.mk (Kd.R_below (by (with_reducible repeat (first|apply Kd.R_alloc|apply Kd.R_drewN|apply Kd.R_drew));exact HO446.out) hb);have n1_:=Aside0.mk (Kd.V_lower (Kd.V_mono (ok':=fun k_=>(w.heap.size≤k_)) ho0 (fun k_ hk_=>Or.elim hk_ (fun hs_=>((HO446.out).1 k_ hs_.symm).1) (fun hn_=>(Nat.le_trans (below_size (by repeat (first|(with_reducible first|exact HB.out|apply below_alloc|apply pw_below_drewN|apply below_drew1)|exact HB.out))) hn_)))) (below_size (by repeat (first|(with_reducible first|exact HB.out|apply below_alloc|apply pw_below_drewN|apply below_drew1)|exact HB.out))));have n2_:=Aside0.mk (below_step (by repeat (first|(with_reducible first|exact HB.out|apply below_alloc|apply pw_below_drewN|apply below_drew1)|exact HB.out)) hb);clear HO446;clear HB;have HO446:=n0_;have HO449:=n1_;have HB:=n2_;clear n0_ n1_ n2_;(try clear hb);(try clear hb2);(try clear hk);(try clear hi);(try clear ho0)))
 go_ret
 exact ⟨_,by first|rfl|(simp [errW_none,errW_some]<;>rfl)|(simp [*,errW_none,errW_some]<;>rfl),by (with_reducible repeat (first|apply Kd.V_alloc|apply Kd.V_drewN|apply Kd.V_drew));exact HO449.out,by repeat (first|(with_reducible first|exact HB.out|apply below_alloc|apply pw_below_drewN|apply below_drew1)|exact HB.out)⟩
end Go.Proofs.YtaopmkcghancmaaDoor.Pr
namespace Go.Proofs.YtaopmkcghancmaaDoor.Pr
open Go.RowKit Go.Proofs.YtaopmkcghancmaaDoorW.PrintWords Go.Proofs.YtaopmkcghancmaaDoorW.PrintLast Go.Proofs.YtaopmkcghancmaaDoorW.PrintMore
attribute [local go_sem] max2_int min2_int max_two min_two max_three min_three max_four min_four
set_option linter.unusedVariables false
set_option linter.unusedSimpArgs false
set_option maxHeartbeats 8000000 in
set_option maxRecDepth 100000 in
theorem garboardref01_word.calls (k:Nat) (A0:Option Addr) (c0:Nat) (l0:List Int) (r:Int) (w:World) (hr0:Kd.C (Kd.int .u32) w A0 l0.length l0) (hc0:l0.length≤c0) (h:garboardref01_word.f k l0 = some r) :
  Calls Tryd.prog 70 #[.slice A0 l0.length c0] w fun e w'=>e = .returned (.int .u64 r)∧Drawn0 w w':=by
 have HR0:=Aside0.mk hr0
 have HC0:=Aside0.mk hc0
 clear hr0 hc0
 have H:(garboardref01_word.l0 k l0 0 (wrap64 ((l0.length:Int) - 1))) = some r:=h
 clear h
 have H':=Aside0.mk H
 clear H
 go_enter Tryd.func70,Tryd.ntmps70
 go_wp2
 go_loopg [3,4] k (fun kq v3 v4 w'=>∃ (x3_1:Int) (x4_1:Int),v3 = .int .u64 x3_1∧v4 = .int .i64 x4_1∧Aside0 (garboardref01_word.l0 kq l0 x3_1 x4_1 = some r)∧Aside0 (kq≤k)∧Drawn0 w w')
 case atStart=>exact ⟨(0),(wrap64 ((l0.length:Int) - 1)),(by first|rfl|(simp;done)|(simp [*];done)),(by first|rfl|(simp;done)|(simp [*];done)),H',⟨Nat.le_refl _⟩,by repeat (first|exact Drawn0.refl _|apply Drawn0.step)⟩
 case round =>
  clear H'
  obtain ⟨x3_1,x4_1,rfl,rfl,HA,HK1,⟨m1,rfl⟩⟩:=hrel
  cases gk with
  | zero=>exact absurd HA.out (by simp [garboardref01_word.l0])
  | succ k1 =>
   have H:=HA.out
   clear HA
   simp only [garboardref01_word.l0] at H
   by_cases c2:x4_1 ≥ 0
   ·rw [if_pos c2] at H
    have c2b0:decide (0≤x4_1) = true:=decide_eq_true c2
    clear c2
    by_cases c3:0≤x4_1
    ·rw [if_pos c3] at H
     have c3b0:decide (0≤x4_1) = true:=decide_eq_true c3
     clear c3
     by_cases c4:x4_1 < (l0.length:Int)
     ·rw [if_pos c4] at H
      have c4b0:decide (x4_1 < (l0.length:Int)) = true:=decide_eq_true c4
      clear c4
      have H':=Aside0.mk H
      clear H
      have p477:0≤(x4_1:Int):=of_decide_eq_true (by first|(with_reducible assumption)|assumption)
      have q477:x4_1 < (l0.length:Int):=of_decide_eq_true (by first|(with_reducible assumption)|assumption)
      obtain ⟨ad477,e477,hx477_0⟩:=Kd.at_int HR0.out x4_1 p477 q477
      cases e477
      replace p477:=eq_true p477
      replace q477:=eq_true q477
      go_wp2
      go_roundg k1
      case measure=>have:=HK1.out;omega
      case rel=>exact ⟨(IntKind.u64.wrap ((IntKind.u64.wrap (x3_1 * 1000000000)) + (IntKind.u64.wrap (rd l0 x4_1)))),(wrap64 (x4_1 - 1)),(by first|rfl|(simp;done)|(simp [*];done)),(by first|rfl|(simp;done)|(simp [*];done)),H',⟨by have:=HK1.out;omega⟩,by repeat (first|exact Drawn0.refl _|apply Drawn0.step)⟩
     ·rw [if_neg c4] at H
      exact absurd H (by simp)
    ·rw [if_neg c3] at H
     exact absurd H (by simp)
   ·rw [if_neg c2] at H
    have c2b0:decide (0≤x4_1) = false:=decide_eq_false c2
    clear c2
    obtain rfl:=Option.some.inj H
    go_wp2
    go_ret
    exact ⟨by first|rfl|(simp;done)|(simp [*];done),by repeat (first|exact Drawn0.refl _|apply Drawn0.step)⟩
end Go.Proofs.YtaopmkcghancmaaDoor.Pr
set_option linter.unusedVariables false
set_option linter.unusedSimpArgs false
namespace Go.Proofs.YtaopmkcghancmaaDoor.Pr
open Go.RowKit Go.Proofs.YtaopmkcghancmaaDoorW.PrintWords Go.Proofs.YtaopmkcghancmaaDoorW.PrintLast Go.Proofs.YtaopmkcghancmaaDoorW.PrintMore Go.Proofs.YtaopmkcghancmaaDoor.NatTh
theorem Small_ev (a:Nat) (h:a < 4294967296):Ev (fun k=>garboardref01_Small.f k a) (numOf a):=by
 have e1:Int.tmod (a:Int) 1000000000 = (a:Int) % 1000000000:=Int.tmod_eq_emod_of_nonneg (by omega)
 have e2:Int.tdiv (a:Int) 1000000000 = (a:Int) / 1000000000:=Int.tdiv_eq_ediv_of_nonneg (by omega)
 have ew:Wd [(a:Int) % 1000000000,(a:Int) / 1000000000]:=wd2 (by omega) (by omega)
 have ev:val [(a:Int) % 1000000000,(a:Int) / 1000000000] = a:=by
  simp only [val,BB]
  omega
 have h1:=rtrim_ev (l:=[(a:Int) % 1000000000,(a:Int) / 1000000000]) (by simp)
 rw [trim_numOf ew ev] at h1
 refine Ev.congr (f:=fun k=>(garboardref01_trim.f k [(a:Int) % 1000000000,(a:Int) / 1000000000]).bind fun t=>some t) (fun k=>?_) (Ev.bind h1 (Ev.now _))
 simp only [garboardref01_Small.f]
 rw [e1,e2,Int.emod_eq_of_lt (show (0:Int)≤(a:Int) / 1000000000 by omega) (by omega)]
end Go.Proofs.YtaopmkcghancmaaDoor.Pr
namespace Go.Proofs.YtaopmkcghancmaaDoor.Pr
open Go.RowKit Go.Proofs.YtaopmkcghancmaaDoorW.PrintWords Go.Proofs.YtaopmkcghancmaaDoorW.PrintLast Go.Proofs.YtaopmkcghancmaaDoorW.PrintMore
attribute [local go_sem] max2_int min2_int max_two min_two max_three min_three max_four min_four
set_option linter.unusedVariables false
set_option linter.unusedSimpArgs false
set_option maxHeartbeats 8000000 in
set_option maxRecDepth 100000 in
theorem garboardref01_Times.calls (k:Nat) (A0:Option Addr) (c0:Nat) (l0:List Int) (A1:Option Addr) (c1:Nat) (l1:List Int) (r:List Int) (w:World) (hr0:Kd.C (Kd.int .u32) w A0 l0.length l0) (hc0:l0.length≤c0) (hr1:Kd.C (Kd.int .u32) w A1 l1.length l1) (hc1:l1.length≤c1) (h:garboardref01_Times.f k l0 l1 = some r) :
  Calls Tryd.prog 44 #[.slice A0 l0.length c0,.slice A1 l1.length c1] w fun e w'=>∃ v0_:Value,e = .returned (v0_)∧Kd.V (Kd.int .u32) 64 w' w.heap.size (fun k_=>(w.heap.size≤k_)) v0_ r∧Below w.heap.size w w':=by
 have HR0:=Aside0.mk hr0
 have HC0:=Aside0.mk hc0
 clear hr0 hc0
 have HR1:=Aside0.mk hr1
 have HC1:=Aside0.mk hc1
 clear hr1 hc1
 have HB:=Aside0.mk (Below.refl w.heap.size w)
 have H:(if (l0.length:Int) = 0 then (garboardref01_Times.j0 k l0 l1 true) else (garboardref01_Times.j0 k l0 l1 ((l1.length:Int) == 0))) = some r:=h
 clear h
 have HC3:=Aside0.mk H
 clear H
 go_enter Tryd.func44,Tryd.ntmps44
 go_upto_region 1 with (fail)
 repeat (go_quiet (fail);go_upto_region 1 with (fail))
 go_cut [17] (fun v17 wc=>∃ (kq:Nat) (x17_2:Bool),v17 = .bool x17_2∧Aside0 (garboardref01_Times.j0 kq l0 l1 x17_2 = some r)∧Aside0 (kq≤k)∧Aside0 (Below w.heap.size w wc))
 case first =>
  have H:=HC3.out
  clear HC3
  by_cases c4:(l0.length:Int) = 0
  ·rw [if_pos c4] at H
   have c4b0:((l0.length:Int) == 0) = true:=beq_iff_eq.mpr c4
   have c4b1:((l0.length:Int) != 0) = false:=bne_eq_false_iff_eq.mpr c4
   clear c4
   (first|rw [c4b0]|(simp only [i64_w,i32_w];rw [c4b0])|skip)
   have H':=Aside0.mk H
   clear H
   go_wp2
   repeat (go_quiet (fail);try go_wp2)
   go_meet
   case rel=>exact ⟨_,(true),(by first|rfl|(simp;done)|(simp [*];done)),H',⟨by first|omega|exact Nat.le_refl _⟩,⟨by repeat (first|(with_reducible first|exact HB.out|apply below_alloc|apply pw_below_drewN|apply below_drew1)|exact HB.out)⟩⟩
  ·rw [if_neg c4] at H
   have c4b0:((l0.length:Int) == 0) = false:=beq_eq_false_iff_ne.mpr c4
   have c4b1:((l0.length:Int) != 0) = true:=bne_iff_ne.mpr c4
   have c4b2:¬ (l0 = []):=fun h_=>c4 (by rw [h_];rfl)
   (first|rw [c4b0]|(simp only [i64_w,i32_w];rw [c4b0])|skip)
   have H':=Aside0.mk H
   clear H
   go_wp2
   repeat (go_quiet (fail);try go_wp2)
   go_meet
   case rel=>exact ⟨_,(((l1.length:Int) == 0)),(by first|rfl|(simp;done)|(simp [*];done)),H',⟨by first|omega|exact Nat.le_refl _⟩,⟨by repeat (first|(with_reducible first|exact HB.out|apply below_alloc|apply pw_below_drewN|apply below_drew1)|exact HB.out)⟩⟩
 case rest =>
  clear HC3
  try clear c1
  try clear p2
  try clear c4
  try clear c4b0
  try clear c4b1
  try clear c4b2
  obtain ⟨kq,x17_2,rfl,HA,HJ2,HB⟩:=hcut
  cases kq with
  | zero=>exact absurd HA.out (by simp [garboardref01_Times.j0])
  | succ kj2 =>
   have H:=HA.out
   clear HA
   simp only [garboardref01_Times.j0] at H
   by_cases c5:x17_2 = true
   ·subst c5
    have H1:(some ([]:List Int)) = some r:=by rw [if_pos rfl] at H;exact H
    clear H
    have H:=H1
    clear H1
    obtain rfl:=Option.some.inj H
    go_wp2
    repeat (go_quiet (fail);try go_wp2)
    go_ret
    exact ⟨_,by first|rfl|(simp [errW_none,errW_some]<;>rfl)|(simp [*,errW_none,errW_some]<;>rfl),Kd.R_V (base:=w.heap.size) (by first|exact Kd.R_nil _ _ _ _ _|exact Kd.N_nil _ _ _ _ _|exact Kd.V_nil _ _ _ _ _|exact Kd.Q_nil _ _ _ _ _|exact Kd.S_nil _ _ _ _ _),by repeat (first|(with_reducible first|exact HB.out|apply below_alloc|apply pw_below_drewN|apply below_drew1)|exact HB.out)⟩
   ·replace c5:=Bool.eq_false_iff.mpr c5
    subst c5
    have H1:(if 0≤(wrap64 ((l0.length:Int) + (l1.length:Int))) then (if (wrap64 ((l0.length:Int) + (l1.length:Int)):Int).toNat≤70368744177664 then (garboardref01_Times.l0 kj2 l0 l1 (List.replicate (wrap64 ((l0.length:Int) + (l1.length:Int)):Int).toNat 0) 0) else (none)) else (none)) = some r:=by rw [if_neg (show ¬ (false = true) by decide)] at H;exact H
    clear H
    have H:=H1
    clear H1
    obtain ⟨ji6,hji6⟩:∃ j_:Int,(wrap64 ((l0.length:Int) + (l1.length:Int))) = j_:=⟨_,rfl⟩
    replace H:(if 0≤(ji6) then (if (ji6:Int).toNat≤70368744177664 then (garboardref01_Times.l0 kj2 l0 l1 (List.replicate (ji6:Int).toNat 0) 0) else (none)) else (none)) = some r:=by first|(rw [hji6] at H;exact H)|(simp only [hji6] at H ⊢;exact H)
    have hji6w:(IntKind.i64.wrap ((l0.length:Int) + (l1.length:Int))) = ji6:=(i64_w _).trans hji6
    by_cases c7:0≤(ji6)
    ·rw [if_pos c7] at H
     have c7b0:=eq_true c7
     have c7b1:decide (0≤(ji6)) = true:=decide_eq_true c7
     clear c7
     by_cases c8:(ji6:Int).toNat≤70368744177664
     ·rw [if_pos c8] at H
      have c8b0:=eq_true c8
      have c8b1:decide ((ji6:Int).toNat≤70368744177664) = true:=decide_eq_true c8
      clear c8
      obtain ⟨y396,hy396⟩:∃ y_:List Int,y_ = (List.replicate (ji6:Int).toNat 0):=⟨_,rfl⟩
      replace H:(garboardref01_Times.l0 kj2 l0 l1 y396 0) = some r:=by first|(rw [hy396];with_reducible exact H)|(have H2_:=(Option.bind_some _ _).symm.trans H;rw [hy396];with_reducible exact H2_)|(have H2_:=(Option.bind_some _ _).symm.trans H;with_reducible exact H2_)|with_reducible exact H|(rw [hy396];exact H)|exact H
      have Ny396:=Aside0.mk hy396
      clear hy396
      have H':=Aside0.mk H
      clear H
      go_wp2_with (first|((with_reducible refine gate_dst (N:=23) rfl ?_);(try (refine gate_guard (by rfl) ?_;dsimp only));refine Kd.R_make (Kd.int .u32) _ 64 rfl (N:=23) rfl 45 _ _ rfl ji6 rfl rfl Tryd.underlying45 (.int .u32 0) 4 info64 rfl (by decide) (by omega) 0 (ok:=fun _=>True) (okp:=fun _=>True) rfl (fun _ hk=>hk) trivial (of_decide_eq_true (by first|(with_reducible assumption)|assumption)) (Nat.le_trans (Nat.mul_le_mul_right _ (of_decide_eq_true (by first|(with_reducible assumption)|assumption):ji6.toNat≤70368744177664)) (by omega)) (Below.refl _ _) (Nat.le_refl _) ?_;intro v397 w9 ho10 hb hg_ hnew_;clear hg_ hnew_;(first|rw [← Ny396.out] at ho10|(simp only [Int.reduceToNat] at ho10;rw [← Ny396.out] at ho10));have n0_:=Aside0.mk (Kd.R_lower (Kd.R_newM (M:=fun k_=>(w.heap.size≤k_)) ho10 (below_size (by repeat (first|(with_reducible first|exact HB.out|apply below_alloc|apply pw_below_drewN|apply below_drew1)|exact HB.out))) (fun k_ h_=>h_)) (below_size (by repeat (first|(with_reducible first|exact HB.out|apply below_alloc|apply pw_below_drewN|apply below_drew1)|exact HB.out))));have n1_:=Aside0.mk (below_step (by repeat (first|(with_reducible first|exact HB.out|apply below_alloc|apply pw_below_drewN|apply below_drew1)|exact HB.out)) hb);clear HB;have HO398:=n0_;have HB:=n1_;clear n0_ n1_;clear hb ho10))
      repeat (go_quiet (first|((with_reducible refine gate_dst (N:=23) rfl ?_);(try (refine gate_guard (by rfl) ?_;dsimp only));refine Kd.R_make (Kd.int .u32) _ 64 rfl (N:=23) rfl 45 _ _ rfl ji6 rfl rfl Tryd.underlying45 (.int .u32 0) 4 info64 rfl (by decide) (by omega) 0 (ok:=fun _=>True) (okp:=fun _=>True) rfl (fun _ hk=>hk) trivial (of_decide_eq_true (by first|(with_reducible assumption)|assumption)) (Nat.le_trans (Nat.mul_le_mul_right _ (of_decide_eq_true (by first|(with_reducible assumption)|assumption):ji6.toNat≤70368744177664)) (by omega)) (Below.refl _ _) (Nat.le_refl _) ?_;intro v397 w9 ho10 hb hg_ hnew_;clear hg_ hnew_;(first|rw [← Ny396.out] at ho10|(simp only [Int.reduceToNat] at ho10;rw [← Ny396.out] at ho10));have n0_:=Aside0.mk (Kd.R_lower (Kd.R_newM (M:=fun k_=>(w.heap.size≤k_)) ho10 (below_size (by repeat (first|(with_reducible first|exact HB.out|apply below_alloc|apply pw_below_drewN|apply below_drew1)|exact HB.out))) (fun k_ h_=>h_)) (below_size (by repeat (first|(with_reducible first|exact HB.out|apply below_alloc|apply pw_below_drewN|apply below_drew1)|exact HB.out))));have n1_:=Aside0.mk (below_step (by repeat (first|(with_reducible first|exact HB.out|apply below_alloc|apply pw_below_drewN|apply below_drew1)|exact HB.out)) hb);clear HB;have HO398:=n0_;have HB:=n1_;clear n0_ n1_;clear hb ho10));try go_wp2_with (first|((with_reducible refine gate_dst (N:=23) rfl ?_);(try (refine gate_guard (by rfl) ?_;dsimp only));refine Kd.R_make (Kd.int .u32) _ 64 rfl (N:=23) rfl 45 _ _ rfl ji6 rfl rfl Tryd.underlying45 (.int .u32 0) 4 info64 rfl (by decide) (by omega) 0 (ok:=fun _=>True) (okp:=fun _=>True) rfl (fun _ hk=>hk) trivial (of_decide_eq_true (by first|(with_reducible assumption)|assumption)) (Nat.le_trans (Nat.mul_le_mul_right _ (of_decide_eq_true (by first|(with_reducible assumption)|assumption):ji6.toNat≤70368744177664)) (by omega)) (Below.refl _ _) (Nat.le_refl _) ?_;intro v397 w9 ho10 hb hg_ hnew_;clear hg_ hnew_;(first|rw [← Ny396.out] at ho10|(simp only [Int.reduceToNat] at ho10;rw [← Ny396.out] at ho10));have n0_:=Aside0.mk (Kd.R_lower (Kd.R_newM (M:=fun k_=>(w.heap.size≤k_)) ho10 (below_size (by repeat (first|(with_reducible first|exact HB.out|apply below_alloc|apply pw_below_drewN|apply below_drew1)|exact HB.out))) (fun k_ h_=>h_)) (below_size (by repeat (first|(with_reducible first|exact HB.out|apply below_alloc|apply pw_below_drewN|apply below_drew1)|exact HB.out))));have n1_:=Aside0.mk (below_step (by repeat (first|(with_reducible first|exact HB.out|apply below_alloc|apply pw_below_drewN|apply below_drew1)|exact HB.out)) hb);clear HB;have HO398:=n0_;have HB:=n1_;clear n0_ n1_;clear hb ho10)))
      go_loopg [6] kj2 (fun kq v6 w'=>∃ (x5_2:List Int) (x6_2:Int),v6 = .int .i64 x6_2∧Aside0 (garboardref01_Times.l0 kq l0 l1 x5_2 x6_2 = some r)∧Aside0 (kq≤kj2)∧Aside0 (Kd.R (Kd.int .u32) 64 w' w.heap.size (fun k_=>(w.heap.size≤k_)) v397 x5_2)∧Aside0 (Below w.heap.size w w'))
      case atStart=>exact ⟨(y396),(0),(by first|rfl|(simp;done)|(simp [*];done)),H',⟨Nat.le_refl _⟩,⟨by (with_reducible repeat (first|apply Kd.R_alloc|apply Kd.R_drewN|apply Kd.R_drew));exact Kd.R_mono HO398.out (fun _ hk=>hk.1)⟩,⟨by repeat (first|(with_reducible first|exact HB.out|apply below_alloc|apply pw_below_drewN|apply below_drew1)|exact HB.out)⟩⟩
      case round =>
       clear H'
       try clear c1
       try clear p2
       try clear c4
       try clear c4b0
       try clear c4b1
       try clear c4b2
       try clear c5
       try clear p6
       try clear c7
       try clear c7b0
       try clear c7b1
       try clear c8
       try clear c8b0
       try clear c8b1
       try clear p2
       obtain ⟨x5_2,x6_2,rfl,HA,HK2,HO_5,HB⟩:=hrel
       cases gk with
       | zero=>exact absurd HA.out (by simp [garboardref01_Times.l0])
       | succ k2 =>
        have H:=HA.out
        clear HA
        simp only [garboardref01_Times.l0] at H
        by_cases c11:x6_2 < (l0.length:Int)
        ·rw [if_pos c11] at H
         have c11b0:decide (x6_2 < (l0.length:Int)) = true:=decide_eq_true c11
         clear c11
         have H':=Aside0.mk H
         clear H
         go_wp2
         repeat (go_quiet (fail);try go_wp2)
         go_loopg [7,8] k2 (fun kq v7 v8 w'=>∃ (x5_3:List Int) (x7_3:Int) (x8_3:Int),v7 = .int .u64 x7_3∧v8 = .int .i64 x8_3∧Aside0 (garboardref01_Times.l1 kq l0 l1 x5_3 x6_2 x7_3 x8_3 = some r)∧Aside0 (kq≤k2)∧Aside0 (Kd.R (Kd.int .u32) 64 w' w.heap.size (fun k_=>(w.heap.size≤k_)) v397 x5_3)∧Aside0 (Below w.heap.size w w'))
         case atStart=>exact ⟨(x5_2),(0),(0),(by first|rfl|(simp;done)|(simp [*];done)),(by first|rfl|(simp;done)|(simp [*];done)),H',⟨Nat.le_refl _⟩,⟨by (with_reducible repeat (first|apply Kd.R_alloc|apply Kd.R_drewN|apply Kd.R_drew));exact HO_5.out⟩,⟨by repeat (first|(with_reducible first|exact HB.out|apply below_alloc|apply pw_below_drewN|apply below_drew1)|exact HB.out)⟩⟩
         case round =>
          clear H'
          try clear c1
          try clear p2
          try clear c4
          try clear c4b0
          try clear c4b1
          try clear c4b2
          try clear c5
          try clear p6
          try clear c7
          try clear c7b0
          try clear c7b1
          try clear c8
          try clear c8b0
          try clear c8b1
          try clear c11
          try clear c11b0
          try clear p2
          try clear p6
          obtain ⟨x5_3,x7_3,x8_3,rfl,rfl,HA,HK3,HO_5,HB⟩:=hrel
          cases gk with
          | zero=>exact absurd HA.out (by simp [garboardref01_Times.l1])
          | succ k3 =>
           have H:=HA.out
           clear HA
           simp only [garboardref01_Times.l1] at H
           by_cases c12:x8_3 < (l1.length:Int)
           ·rw [if_pos c12] at H
            have c12b0:decide (x8_3 < (l1.length:Int)) = true:=decide_eq_true c12
            clear c12
            obtain ⟨ji13,hji13⟩:∃ j_:Int,(wrap64 (x6_2 + x8_3)) = j_:=⟨_,rfl⟩
            replace H:(if 0≤(ji13) then (if (ji13) < (x5_3.length:Int) then (if 0≤x6_2 then (if x6_2 < (l0.length:Int) then (if 0≤x8_3 then (garboardref01_Times.l1 k3 l0 l1 (x5_3.set ((ji13):Int).toNat ((Int.tmod (IntKind.u64.wrap ((IntKind.u64.wrap ((IntKind.u64.wrap (rd x5_3 (ji13))) + (IntKind.u64.wrap ((IntKind.u64.wrap (rd l0 x6_2)) * (IntKind.u64.wrap (rd l1 x8_3)))))) + x7_3)) 1000000000) % 4294967296)) x6_2 (IntKind.u64.wrap (Int.tdiv (IntKind.u64.wrap ((IntKind.u64.wrap ((IntKind.u64.wrap (rd x5_3 (ji13))) + (IntKind.u64.wrap ((IntKind.u64.wrap (rd l0 x6_2)) * (IntKind.u64.wrap (rd l1 x8_3)))))) + x7_3)) 1000000000)) (wrap64 (x8_3 + 1))) else (none)) else (none)) else (none)) else (none)) else (none)) = some r:=by first|(rw [hji13] at H;exact H)|(simp only [hji13] at H ⊢;exact H)
            have hji13w:(IntKind.i64.wrap (x6_2 + x8_3)) = ji13:=(i64_w _).trans hji13
            by_cases c14:0≤(ji13)
            ·rw [if_pos c14] at H
             have c14b0:decide (0≤(ji13)) = true:=decide_eq_true c14
             clear c14
             by_cases c15:(ji13) < (x5_3.length:Int)
             ·rw [if_pos c15] at H
              have c15b0:decide ((ji13) < (x5_3.length:Int)) = true:=decide_eq_true c15
              clear c15
              by_cases c16:0≤x6_2
              ·rw [if_pos c16] at H
               have c16b0:decide (0≤x6_2) = true:=decide_eq_true c16
               clear c16
               by_cases c17:x6_2 < (l0.length:Int)
               ·rw [if_pos c17] at H
                have c17b0:decide (x6_2 < (l0.length:Int)) = true:=decide_eq_true c17
                clear c17
                by_cases c18:0≤x8_3
                ·rw [if_pos c18] at H
                 have c18b0:decide (0≤x8_3) = true:=decide_eq_true c18
                 clear c18
                 obtain ⟨y405,hy405⟩:∃ y_:List Int,y_ = (x5_3.set ((ji13):Int).toNat ((Int.tmod (IntKind.u64.wrap ((IntKind.u64.wrap ((IntKind.u64.wrap (rd x5_3 (ji13))) + (IntKind.u64.wrap ((IntKind.u64.wrap (rd l0 x6_2)) * (IntKind.u64.wrap (rd l1 x8_3)))))) + x7_3)) 1000000000) % 4294967296)):=⟨_,rfl⟩
                 replace H:(garboardref01_Times.l1 k3 l0 l1 y405 x6_2 (IntKind.u64.wrap (Int.tdiv (IntKind.u64.wrap ((IntKind.u64.wrap ((IntKind.u64.wrap (rd x5_3 (ji13))) + (IntKind.u64.wrap ((IntKind.u64.wrap (rd l0 x6_2)) * (IntKind.u64.wrap (rd l1 x8_3)))))) + x7_3)) 1000000000)) (wrap64 (x8_3 + 1))) = some r:=by first|(rw [hy405];with_reducible exact H)|(have H2_:=(Option.bind_some _ _).symm.trans H;rw [hy405];with_reducible exact H2_)|(have H2_:=(Option.bind_some _ _).symm.trans H;with_reducible exact H2_)|with_reducible exact H|(rw [hy405];exact H)|exact H
                 have Ny405:=Aside0.mk hy405
                 clear hy405
                 have H':=Aside0.mk H
                 clear H
                 obtain ⟨Ao20,co20,eo20⟩:=Kd.R_slice HO_5.out
                 subst eo20
                 have p402:0≤((ji13):Int):=of_decide_eq_true (by first|(with_reducible assumption)|assumption)
                 have q402:(ji13) < (x5_3.length:Int):=of_decide_eq_true (by first|(with_reducible assumption)|assumption)
                 obtain ⟨ad402,e402,hx402_0⟩:=Kd.at_int (Kd.R_reads' HO_5.out).2.2 (ji13) p402 q402
                 cases e402
                 replace p402:=eq_true p402
                 replace q402:=eq_true q402
                 have p403:0≤(x6_2:Int):=of_decide_eq_true (by first|(with_reducible assumption)|assumption)
                 have q403:x6_2 < (l0.length:Int):=of_decide_eq_true (by first|(with_reducible assumption)|assumption)
                 obtain ⟨ad403,e403,hx403_0⟩:=Kd.at_int HR0.out x6_2 p403 q403
                 cases e403
                 replace hx403_0:=(HB.out.cell (World.block_lt_of_cell? w _ hx403_0)).trans hx403_0
                 replace p403:=eq_true p403
                 replace q403:=eq_true q403
                 have p404:0≤(x8_3:Int):=of_decide_eq_true (by first|(with_reducible assumption)|assumption)
                 have q404:x8_3 < (l1.length:Int):=of_decide_eq_true (by first|(with_reducible assumption)|assumption)
                 obtain ⟨ad404,e404,hx404_0⟩:=Kd.at_int HR1.out x8_3 p404 q404
                 cases e404
                 replace hx404_0:=(HB.out.cell (World.block_lt_of_cell? w _ hx404_0)).trans hx404_0
                 replace p404:=eq_true p404
                 replace q404:=eq_true q404
                 have p19:0≤((ji13):Int):=of_decide_eq_true (by first|(with_reducible assumption)|assumption)
                 have q19:((ji13):Int) < ((x5_3.length:Int):Int):=of_decide_eq_true (by first|(with_reducible assumption)|assumption)
                 obtain ⟨go19,co19,eo19,gb19,gl19,cl19,HG19⟩:=Kd.R_form HO_5.out (by omega)
                 (first|cases eo19|(injection eo19 with ea_ en_ ec_;(first|subst ea_|(injection ea_ with ea_;subst ea_));subst ec_;clear en_))
                 have GB19:=Aside0.mk gb19
                 have GG19:=Aside0.mk HG19
                 clear gb19 gl19 HG19
                 (first|simp only [add_plain] at hx402_0|skip)
                 obtain ⟨hx19_0,hf19_0⟩:=Kd.R_celln 0 HO_5.out ((ji13):Int) p19 q19
                 replace p19:=eq_true p19
                 replace q19:=eq_true q19
                 have HP21:=Kd.R_putg HO_5.out ((ji13):Int) ((Int.tmod (IntKind.u64.wrap ((IntKind.u64.wrap ((IntKind.u64.wrap (rd x5_3 (ji13))) + (IntKind.u64.wrap ((IntKind.u64.wrap (rd l0 x6_2)) * (IntKind.u64.wrap (rd l1 x8_3)))))) + x7_3)) 1000000000) % 4294967296)
                 go_wp2_with (first|((with_reducible refine gate_store (t:=64) (p:=64) rfl ?_);(try (rw [drewN_self wr];generalize hq_:World.drewN wr _ = wr;have n0_:=Aside0.mk (Kd.R_at hq_ HO_5.out);have n1_:=Aside0.mk (below_at hq_ HB.out);clear hq_ HO_5 HB;have HO_5:=n0_;have HB:=n1_;clear n0_ n1_;(try (have HP21:=Kd.R_putg HO_5.out ((ji13):Int) ((Int.tmod (IntKind.u64.wrap ((IntKind.u64.wrap ((IntKind.u64.wrap (rd x5_3 (ji13))) + (IntKind.u64.wrap ((IntKind.u64.wrap (rd l0 x6_2)) * (IntKind.u64.wrap (rd l1 x8_3)))))) + x7_3)) 1000000000) % 4294967296)))));refine store_event (t:=64) (p:=64) (v:=?vo_w22) (w1:=(wr.setCell ⟨go19,((ji13):Int).toNat,none⟩ (.int .u32 ((Int.tmod (IntKind.u64.wrap ((IntKind.u64.wrap ((IntKind.u64.wrap (rd x5_3 (ji13))) + (IntKind.u64.wrap ((IntKind.u64.wrap (rd l0 x6_2)) * (IntKind.u64.wrap (rd l1 x8_3)))))) + x7_3)) 1000000000) % 4294967296)))) ?hg ?ho ?hn ?hr ?_;(case ho=>rfl);(case hg=>rfl);(case hn=>rfl);(case hr=>first|(go_simp;done)|(go_simp;rfl));intro w22 hw;have hg:wr.grownBy w22 (some go19):=(by rw [hw];exact HP21.2);have hp_:Kd.R (Kd.int .u32) 64 w22 w.heap.size (fun k_=>(w.heap.size≤k_)) (.slice (some ⟨go19,0,none⟩) x5_3.length co20) y405:=(by rw [hw,Ny405.out];exact HP21.1);clear HP21;have n0_:=Aside0.mk (hp_);have n1_:=Aside0.mk ((by rw [hw];exact below_set (HB.out) GB19.out:Below w.heap.size w w22));clear HO_5;clear HB;have HO_5:=n0_;have HB:=n1_;clear n0_ n1_;clear hg hw hp_))
                 repeat (go_quiet (first|((with_reducible refine gate_store (t:=64) (p:=64) rfl ?_);(try (rw [drewN_self wr];generalize hq_:World.drewN wr _ = wr;have n0_:=Aside0.mk (Kd.R_at hq_ HO_5.out);have n1_:=Aside0.mk (below_at hq_ HB.out);clear hq_ HO_5 HB;have HO_5:=n0_;have HB:=n1_;clear n0_ n1_;(try (have HP21:=Kd.R_putg HO_5.out ((ji13):Int) ((Int.tmod (IntKind.u64.wrap ((IntKind.u64.wrap ((IntKind.u64.wrap (rd x5_3 (ji13))) + (IntKind.u64.wrap ((IntKind.u64.wrap (rd l0 x6_2)) * (IntKind.u64.wrap (rd l1 x8_3)))))) + x7_3)) 1000000000) % 4294967296)))));refine store_event (t:=64) (p:=64) (v:=?vo_w22) (w1:=(wr.setCell ⟨go19,((ji13):Int).toNat,none⟩ (.int .u32 ((Int.tmod (IntKind.u64.wrap ((IntKind.u64.wrap ((IntKind.u64.wrap (rd x5_3 (ji13))) + (IntKind.u64.wrap ((IntKind.u64.wrap (rd l0 x6_2)) * (IntKind.u64.wrap (rd l1 x8_3)))))) + x7_3)) 1000000000) % 4294967296)))) ?hg ?ho ?hn ?hr ?_;(case ho=>rfl);(case hg=>rfl);(case hn=>rfl);(case hr=>first|(go_simp;done)|(go_simp;rfl));intro w22 hw;have hg:wr.grownBy w22 (some go19):=(by rw [hw];exact HP21.2);have hp_:Kd.R (Kd.int .u32) 64 w22 w.heap.size (fun k_=>(w.heap.size≤k_)) (.slice (some ⟨go19,0,none⟩) x5_3.length co20) y405:=(by rw [hw,Ny405.out];exact HP21.1);clear HP21;have n0_:=Aside0.mk (hp_);have n1_:=Aside0.mk ((by rw [hw];exact below_set (HB.out) GB19.out:Below w.heap.size w w22));clear HO_5;clear HB;have HO_5:=n0_;have HB:=n1_;clear n0_ n1_;clear hg hw hp_));try go_wp2_with (first|((with_reducible refine gate_store (t:=64) (p:=64) rfl ?_);(try (rw [drewN_self wr];generalize hq_:World.drewN wr _ = wr;have n0_:=Aside0.mk (Kd.R_at hq_ HO_5.out);have n1_:=Aside0.mk (below_at hq_ HB.out);clear hq_ HO_5 HB;have HO_5:=n0_;have HB:=n1_;clear n0_ n1_;(try (have HP21:=Kd.R_putg HO_5.out ((ji13):Int) ((Int.tmod (IntKind.u64.wrap ((IntKind.u64.wrap ((IntKind.u64.wrap (rd x5_3 (ji13))) + (IntKind.u64.wrap ((IntKind.u64.wrap (rd l0 x6_2)) * (IntKind.u64.wrap (rd l1 x8_3)))))) + x7_3)) 1000000000) % 4294967296)))));refine store_event (t:=64) (p:=64) (v:=?vo_w22) (w1:=(wr.setCell ⟨go19,((ji13):Int).toNat,none⟩ (.int .u32 ((Int.tmod (IntKind.u64.wrap ((IntKind.u64.wrap ((IntKind.u64.wrap (rd x5_3 (ji13))) + (IntKind.u64.wrap ((IntKind.u64.wrap (rd l0 x6_2)) * (IntKind.u64.wrap (rd l1 x8_3)))))) + x7_3)) 1000000000) % 4294967296)))) ?hg ?ho ?hn ?hr ?_;(case ho=>rfl);(case hg=>rfl);(case hn=>rfl);(case hr=>first|(go_simp;done)|(go_simp;rfl));intro w22 hw;have hg:wr.grownBy w22 (some go19):=(by rw [hw];exact HP21.2);have hp_:Kd.R (Kd.int .u32) 64 w22 w.heap.size (fun k_=>(w.heap.size≤k_)) (.slice (some ⟨go19,0,none⟩) x5_3.length co20) y405:=(by rw [hw,Ny405.out];exact HP21.1);clear HP21;have n0_:=Aside0.mk (hp_);have n1_:=Aside0.mk ((by rw [hw];exact below_set (HB.out) GB19.out:Below w.heap.size w w22));clear HO_5;clear HB;have HO_5:=n0_;have HB:=n1_;clear n0_ n1_;clear hg hw hp_)))
                 go_roundg k3
                 case measure=>have:=HJ2.out;have:=HK2.out;have:=HK3.out;omega
                 case rel=>exact ⟨(y405),(IntKind.u64.wrap (Int.tdiv (IntKind.u64.wrap ((IntKind.u64.wrap ((IntKind.u64.wrap (rd x5_3 (ji13))) + (IntKind.u64.wrap ((IntKind.u64.wrap (rd l0 x6_2)) * (IntKind.u64.wrap (rd l1 x8_3)))))) + x7_3)) 1000000000)),(wrap64 (x8_3 + 1)),(by first|rfl|(simp;done)|(simp only [← hji13]<;>(first|rfl|simp))|(simp [*];done)),(by first|rfl|(simp;done)|(simp [*];done)),H',⟨by have:=HJ2.out;have:=HK2.out;have:=HK3.out;omega⟩,⟨by (with_reducible repeat (first|apply Kd.R_alloc|apply Kd.R_drewN|apply Kd.R_drew));first|exact HO_5.out|(rw [Ny405.out];exact (Kd.R_putg (by first|exact Kd.R_drewN HO_5.out _|(apply Kd.R_drewN;exact HO_5.out)) ((ji13):Int) ((Int.tmod (IntKind.u64.wrap ((IntKind.u64.wrap ((IntKind.u64.wrap (rd x5_3 (ji13))) + (IntKind.u64.wrap ((IntKind.u64.wrap (rd l0 x6_2)) * (IntKind.u64.wrap (rd l1 x8_3)))))) + x7_3)) 1000000000) % 4294967296)).1)|(rw [Ny405.out];exact (Kd.R_putg HO_5.out ((ji13):Int) ((Int.tmod (IntKind.u64.wrap ((IntKind.u64.wrap ((IntKind.u64.wrap (rd x5_3 (ji13))) + (IntKind.u64.wrap ((IntKind.u64.wrap (rd l0 x6_2)) * (IntKind.u64.wrap (rd l1 x8_3)))))) + x7_3)) 1000000000) % 4294967296)).1)⟩,⟨by first|(exact below_set (by repeat (first|(with_reducible first|exact HB.out|apply below_alloc|apply pw_below_drewN|apply below_drew1)|exact HB.out)) GB19.out)|(repeat (first|(with_reducible first|exact HB.out|apply below_alloc|apply pw_below_drewN|apply below_drew1)|exact HB.out))⟩⟩
                ·rw [if_neg c18] at H
                 exact absurd H (by simp)
               ·rw [if_neg c17] at H
                exact absurd H (by simp)
              ·rw [if_neg c16] at H
               exact absurd H (by simp)
             ·rw [if_neg c15] at H
              exact absurd H (by simp)
            ·rw [if_neg c14] at H
             exact absurd H (by simp)
           ·rw [if_neg c12] at H
            have c12b0:decide (x8_3 < (l1.length:Int)) = false:=decide_eq_false c12
            clear c12
            obtain ⟨ji23,hji23⟩:∃ j_:Int,(wrap64 (x6_2 + (l1.length:Int))) = j_:=⟨_,rfl⟩
            replace H:(if 0≤(ji23) then (if (ji23) < (x5_3.length:Int) then (garboardref01_Times.l0 k3 l0 l1 (x5_3.set ((ji23):Int).toNat ((x7_3) % 4294967296)) (wrap64 (x6_2 + 1))) else (none)) else (none)) = some r:=by first|(rw [hji23] at H;exact H)|(simp only [hji23] at H ⊢;exact H)
            have hji23w:(IntKind.i64.wrap (x6_2 + (l1.length:Int))) = ji23:=(i64_w _).trans hji23
            by_cases c24:0≤(ji23)
            ·rw [if_pos c24] at H
             have c24b0:decide (0≤(ji23)) = true:=decide_eq_true c24
             clear c24
             by_cases c25:(ji23) < (x5_3.length:Int)
             ·rw [if_pos c25] at H
              have c25b0:decide ((ji23) < (x5_3.length:Int)) = true:=decide_eq_true c25
              clear c25
              obtain ⟨y406,hy406⟩:∃ y_:List Int,y_ = (x5_3.set ((ji23):Int).toNat ((x7_3) % 4294967296)):=⟨_,rfl⟩
              replace H:(garboardref01_Times.l0 k3 l0 l1 y406 (wrap64 (x6_2 + 1))) = some r:=by first|(rw [hy406];with_reducible exact H)|(have H2_:=(Option.bind_some _ _).symm.trans H;rw [hy406];with_reducible exact H2_)|(have H2_:=(Option.bind_some _ _).symm.trans H;with_reducible exact H2_)|with_reducible exact H|(rw [hy406];exact H)|exact H
              have Ny406:=Aside0.mk hy406
              clear hy406
              have H':=Aside0.mk H
              clear H
              have p26:0≤((ji23):Int):=of_decide_eq_true (by first|(with_reducible assumption)|assumption)
              have q26:((ji23):Int) < ((x5_3.length:Int):Int):=of_decide_eq_true (by first|(with_reducible assumption)|assumption)
              obtain ⟨go26,co26,eo26,gb26,gl26,cl26,HG26⟩:=Kd.R_form HO_5.out (by omega)
              (first|cases eo26|(injection eo26 with ea_ en_ ec_;(first|subst ea_|(injection ea_ with ea_;subst ea_));subst ec_;clear en_))
              have GB26:=Aside0.mk gb26
              have GG26:=Aside0.mk HG26
              clear gb26 gl26 HG26
              obtain ⟨hx26_0,hf26_0⟩:=Kd.R_celln 0 HO_5.out ((ji23):Int) p26 q26
              replace p26:=eq_true p26
              replace q26:=eq_true q26
              have HP27:=Kd.R_putg HO_5.out ((ji23):Int) ((x7_3) % 4294967296)
              go_wp2_with (first|((with_reducible refine gate_store (t:=64) (p:=74) rfl ?_);(try (rw [drewN_self wr];generalize hq_:World.drewN wr _ = wr;have n0_:=Aside0.mk (Kd.R_at hq_ HO_5.out);have n1_:=Aside0.mk (below_at hq_ HB.out);clear hq_ HO_5 HB;have HO_5:=n0_;have HB:=n1_;clear n0_ n1_;(try (have HP27:=Kd.R_putg HO_5.out ((ji23):Int) ((x7_3) % 4294967296)))));refine store_event (t:=64) (p:=74) (v:=?vo_w28) (w1:=(wr.setCell ⟨go26,((ji23):Int).toNat,none⟩ (.int .u32 ((x7_3) % 4294967296)))) ?hg ?ho ?hn ?hr ?_;(case ho=>rfl);(case hg=>rfl);(case hn=>rfl);(case hr=>first|(go_simp;done)|(go_simp;rfl));intro w28 hw;have hg:wr.grownBy w28 (some go26):=(by rw [hw];exact HP27.2);have hp_:Kd.R (Kd.int .u32) 64 w28 w.heap.size (fun k_=>(w.heap.size≤k_)) (.slice (some ⟨go26,0,none⟩) x5_3.length co26) y406:=(by rw [hw,Ny406.out];exact HP27.1);clear HP27;have n0_:=Aside0.mk (hp_);have n1_:=Aside0.mk ((by rw [hw];exact below_set (HB.out) GB26.out:Below w.heap.size w w28));clear HO_5;clear HB;have HO_5:=n0_;have HB:=n1_;clear n0_ n1_;clear hg hw hp_))
              repeat (go_quiet (first|((with_reducible refine gate_store (t:=64) (p:=74) rfl ?_);(try (rw [drewN_self wr];generalize hq_:World.drewN wr _ = wr;have n0_:=Aside0.mk (Kd.R_at hq_ HO_5.out);have n1_:=Aside0.mk (below_at hq_ HB.out);clear hq_ HO_5 HB;have HO_5:=n0_;have HB:=n1_;clear n0_ n1_;(try (have HP27:=Kd.R_putg HO_5.out ((ji23):Int) ((x7_3) % 4294967296)))));refine store_event (t:=64) (p:=74) (v:=?vo_w28) (w1:=(wr.setCell ⟨go26,((ji23):Int).toNat,none⟩ (.int .u32 ((x7_3) % 4294967296)))) ?hg ?ho ?hn ?hr ?_;(case ho=>rfl);(case hg=>rfl);(case hn=>rfl);(case hr=>first|(go_simp;done)|(go_simp;rfl));intro w28 hw;have hg:wr.grownBy w28 (some go26):=(by rw [hw];exact HP27.2);have hp_:Kd.R (Kd.int .u32) 64 w28 w.heap.size (fun k_=>(w.heap.size≤k_)) (.slice (some ⟨go26,0,none⟩) x5_3.length co26) y406:=(by rw [hw,Ny406.out];exact HP27.1);clear HP27;have n0_:=Aside0.mk (hp_);have n1_:=Aside0.mk ((by rw [hw];exact below_set (HB.out) GB26.out:Below w.heap.size w w28));clear HO_5;clear HB;have HO_5:=n0_;have HB:=n1_;clear n0_ n1_;clear hg hw hp_));try go_wp2_with (first|((with_reducible refine gate_store (t:=64) (p:=74) rfl ?_);(try (rw [drewN_self wr];generalize hq_:World.drewN wr _ = wr;have n0_:=Aside0.mk (Kd.R_at hq_ HO_5.out);have n1_:=Aside0.mk (below_at hq_ HB.out);clear hq_ HO_5 HB;have HO_5:=n0_;have HB:=n1_;clear n0_ n1_;(try (have HP27:=Kd.R_putg HO_5.out ((ji23):Int) ((x7_3) % 4294967296)))));refine store_event (t:=64) (p:=74) (v:=?vo_w28) (w1:=(wr.setCell ⟨go26,((ji23):Int).toNat,none⟩ (.int .u32 ((x7_3) % 4294967296)))) ?hg ?ho ?hn ?hr ?_;(case ho=>rfl);(case hg=>rfl);(case hn=>rfl);(case hr=>first|(go_simp;done)|(go_simp;rfl));intro w28 hw;have hg:wr.grownBy w28 (some go26):=(by rw [hw];exact HP27.2);have hp_:Kd.R (Kd.int .u32) 64 w28 w.heap.size (fun k_=>(w.heap.size≤k_)) (.slice (some ⟨go26,0,none⟩) x5_3.length co26) y406:=(by rw [hw,Ny406.out];exact HP27.1);clear HP27;have n0_:=Aside0.mk (hp_);have n1_:=Aside0.mk ((by rw [hw];exact below_set (HB.out) GB26.out:Below w.heap.size w w28));clear HO_5;clear HB;have HO_5:=n0_;have HB:=n1_;clear n0_ n1_;clear hg hw hp_)))
              go_roundg k3
              case measure=>have:=HJ2.out;have:=HK2.out;have:=HK3.out;omega
              case rel=>exact ⟨(y406),(wrap64 (x6_2 + 1)),(by first|rfl|(simp;done)|(simp [*];done)),H',⟨by have:=HJ2.out;have:=HK2.out;have:=HK3.out;omega⟩,⟨by (with_reducible repeat (first|apply Kd.R_alloc|apply Kd.R_drewN|apply Kd.R_drew));first|exact HO_5.out|(rw [Ny406.out];exact (Kd.R_putg (by first|exact Kd.R_drewN HO_5.out _|(apply Kd.R_drewN;exact HO_5.out)) ((ji23):Int) ((x7_3) % 4294967296)).1)|(rw [Ny406.out];exact (Kd.R_putg HO_5.out ((ji23):Int) ((x7_3) % 4294967296)).1)⟩,⟨by first|(exact below_set (by repeat (first|(with_reducible first|exact HB.out|apply below_alloc|apply pw_below_drewN|apply below_drew1)|exact HB.out)) GB26.out)|(repeat (first|(with_reducible first|exact HB.out|apply below_alloc|apply pw_below_drewN|apply below_drew1)|exact HB.out))⟩⟩
             ·rw [if_neg c25] at H
              exact absurd H (by simp)
            ·rw [if_neg c24] at H
             exact absurd H (by simp)
        ·rw [if_neg c11] at H
         have c11b0:decide (x6_2 < (l0.length:Int)) = false:=decide_eq_false c11
         clear c11
         replace H:=Option.bind_eq_some_iff.mp H
         obtain ⟨t399,A290,H⟩:=H
         replace H:(some t399) = some r:=H
         have A29:=Aside0.mk A290
         clear A290
         obtain rfl:=Option.some.inj H
         obtain ⟨Ao30,co30,eo30⟩:=Kd.R_slice HO_5.out
         subst eo30
         go_wp2_with (first|(go_at_call 59;(with_reducible refine (garboardref01_trim.calls k2 (fun k_=>some k_ = (.slice Ao30 x5_2.length co30:Value).ownBlock) _ _ x5_2 t399 _ ?side1 A29.out).mono ?_);(case side1=>exact Kd.R_V (Kd.R_tight rfl (HO_5.out)));rintro e w31 ⟨v400,rfl,ho0,hb⟩;have n0_:=Aside0.mk (Kd.R_below (by (with_reducible repeat (first|apply Kd.R_alloc|apply Kd.R_drewN|apply Kd.R_drew));exact HO_5.out) hb);have n1_:=Aside0.mk (Kd.V_lower (Kd.V_mono (ok':=fun k_=>(w.heap.size≤k_)) ho0 (fun k_ hk_=>Or.elim hk_ (fun hs_=>((HO_5.out).1 k_ hs_.symm)) (fun hn_=>(Nat.le_trans (below_size (by repeat (first|(with_reducible first|exact HB.out|apply below_alloc|apply pw_below_drewN|apply below_drew1)|exact HB.out))) hn_)))) (below_size (by repeat (first|(with_reducible first|exact HB.out|apply below_alloc|apply pw_below_drewN|apply below_drew1)|exact HB.out))));have n2_:=Aside0.mk (below_step (by repeat (first|(with_reducible first|exact HB.out|apply below_alloc|apply pw_below_drewN|apply below_drew1)|exact HB.out)) hb);clear HO_5;clear HB;have HO_5:=n0_;have HO401:=n1_;have HB:=n2_;clear n0_ n1_ n2_;(try clear hb);(try clear hb2);(try clear hk);(try clear hi);(try clear ho0)))
         repeat (go_quiet (first|(go_at_call 59;(with_reducible refine (garboardref01_trim.calls k2 (fun k_=>some k_ = (.slice Ao30 x5_2.length co30:Value).ownBlock) _ _ x5_2 t399 _ ?side1 A29.out).mono ?_);(case side1=>exact Kd.R_V (Kd.R_tight rfl (HO_5.out)));rintro e w31 ⟨v400,rfl,ho0,hb⟩;have n0_:=Aside0.mk (Kd.R_below (by (with_reducible repeat (first|apply Kd.R_alloc|apply Kd.R_drewN|apply Kd.R_drew));exact HO_5.out) hb);have n1_:=Aside0.mk (Kd.V_lower (Kd.V_mono (ok':=fun k_=>(w.heap.size≤k_)) ho0 (fun k_ hk_=>Or.elim hk_ (fun hs_=>((HO_5.out).1 k_ hs_.symm)) (fun hn_=>(Nat.le_trans (below_size (by repeat (first|(with_reducible first|exact HB.out|apply below_alloc|apply pw_below_drewN|apply below_drew1)|exact HB.out))) hn_)))) (below_size (by repeat (first|(with_reducible first|exact HB.out|apply below_alloc|apply pw_below_drewN|apply below_drew1)|exact HB.out))));have n2_:=Aside0.mk (below_step (by repeat (first|(with_reducible first|exact HB.out|apply below_alloc|apply pw_below_drewN|apply below_drew1)|exact HB.out)) hb);clear HO_5;clear HB;have HO_5:=n0_;have HO401:=n1_;have HB:=n2_;clear n0_ n1_ n2_;(try clear hb);(try clear hb2);(try clear hk);(try clear hi);(try clear ho0)));try go_wp2_with (first|(go_at_call 59;(with_reducible refine (garboardref01_trim.calls k2 (fun k_=>some k_ = (.slice Ao30 x5_2.length co30:Value).ownBlock) _ _ x5_2 t399 _ ?side1 A29.out).mono ?_);(case side1=>exact Kd.R_V (Kd.R_tight rfl (HO_5.out)));rintro e w31 ⟨v400,rfl,ho0,hb⟩;have n0_:=Aside0.mk (Kd.R_below (by (with_reducible repeat (first|apply Kd.R_alloc|apply Kd.R_drewN|apply Kd.R_drew));exact HO_5.out) hb);have n1_:=Aside0.mk (Kd.V_lower (Kd.V_mono (ok':=fun k_=>(w.heap.size≤k_)) ho0 (fun k_ hk_=>Or.elim hk_ (fun hs_=>((HO_5.out).1 k_ hs_.symm)) (fun hn_=>(Nat.le_trans (below_size (by repeat (first|(with_reducible first|exact HB.out|apply below_alloc|apply pw_below_drewN|apply below_drew1)|exact HB.out))) hn_)))) (below_size (by repeat (first|(with_reducible first|exact HB.out|apply below_alloc|apply pw_below_drewN|apply below_drew1)|exact HB.out))));have n2_:=Aside0.mk (below_step (by repeat (first|(with_reducible first|exact HB.out|apply below_alloc|apply pw_below_drewN|apply below_drew1)|exact HB.out)) hb);clear HO_5;clear HB;have HO_5:=n0_;have HO401:=n1_;have HB:=n2_;clear n0_ n1_ n2_;(try clear hb);(try clear hb2);(try clear hk);(try clear hi);(try clear ho0))))
         go_ret
         exact ⟨_,by first|rfl|(simp [errW_none,errW_some]<;>rfl)|(simp only [← hji6];first|rfl|(simp [errW_none,errW_some]<;>rfl))|(simp [*,errW_none,errW_some]<;>rfl),by (with_reducible repeat (first|apply Kd.V_alloc|apply Kd.V_drewN|apply Kd.V_drew));exact HO401.out,by repeat (first|(with_reducible first|exact HB.out|apply below_alloc|apply pw_below_drewN|apply below_drew1)|exact HB.out)⟩
     ·rw [if_neg c8] at H
      exact absurd H (by simp)
    ·rw [if_neg c7] at H
     exact absurd H (by simp)
end Go.Proofs.YtaopmkcghancmaaDoor.Pr
namespace Go.Proofs.YtaopmkcghancmaaDoor.Pr
open Go.RowKit Go.Proofs.YtaopmkcghancmaaDoorW.PrintWords Go.Proofs.YtaopmkcghancmaaDoorW.PrintLast Go.Proofs.YtaopmkcghancmaaDoorW.PrintMore
attribute [local go_sem] max2_int min2_int max_two min_two max_three min_three max_four min_four
set_option linter.unusedVariables false
set_option linter.unusedSimpArgs false
mutual
def garboardref01_Plus.l0:Nat→List Int→List Int→List Int→Int→Int→Option (List Int)
 | 0,_,_,_,_,_=>none
 | k + 1,x0,x1,x5,x6,x7=>if x7 < (x0.length:Int) then (garboardref01_Plus.j1 k x0 x1 x5 x6 x7 true) else (if x7 < (x1.length:Int) then (garboardref01_Plus.j1 k x0 x1 x5 x6 x7 true) else (garboardref01_Plus.j1 k x0 x1 x5 x6 x7 (decide (x6 > 0))))
def garboardref01_Plus.j1:Nat→List Int→List Int→List Int→Int→Int→Bool→Option (List Int)
 | 0,_,_,_,_,_,_=>none
 | k + 1,x0,x1,x5,x6,x7,x22=>if x22 = true then (if x7 < (x0.length:Int) then (if 0≤x7 then (if x7 < (x1.length:Int) then (if x5.length < 35184372088832 then (garboardref01_Plus.l0 k x0 x1 (x5 ++ [((((x6 + (rd x0 x7)) % 4294967296) + (rd x1 x7)) % 4294967296) % 1000000000]) (((((x6 + (rd x0 x7)) % 4294967296) + (rd x1 x7)) % 4294967296) / 1000000000) (wrap64 (x7 + 1))) else (none)) else (if x5.length < 35184372088832 then (garboardref01_Plus.l0 k x0 x1 (x5 ++ [((x6 + (rd x0 x7)) % 4294967296) % 1000000000]) (((x6 + (rd x0 x7)) % 4294967296) / 1000000000) (wrap64 (x7 + 1))) else (none))) else (none)) else (if x7 < (x1.length:Int) then (if 0≤x7 then (if x5.length < 35184372088832 then (garboardref01_Plus.l0 k x0 x1 (x5 ++ [((x6 + (rd x1 x7)) % 4294967296) % 1000000000]) (((x6 + (rd x1 x7)) % 4294967296) / 1000000000) (wrap64 (x7 + 1))) else (none)) else (none)) else (if x5.length < 35184372088832 then (garboardref01_Plus.l0 k x0 x1 (x5 ++ [Int.tmod x6 1000000000]) ((Int.tdiv x6 1000000000) % 4294967296) (wrap64 (x7 + 1))) else (none)))) else ((garboardref01_trim.f k x5).bind fun t338=>(some t338))
end
def garboardref01_Plus.f (k:Nat) (l0:List Int) (l1:List Int):Option (List Int):=garboardref01_Plus.l0 k l0 l1 ([]:List Int) 0 0
set_option maxHeartbeats 8000000 in
set_option maxRecDepth 100000 in
theorem garboardref01_Plus.calls (k:Nat) (A0:Option Addr) (c0:Nat) (l0:List Int) (A1:Option Addr) (c1:Nat) (l1:List Int) (r:List Int) (w:World) (hr0:Kd.C (Kd.int .u32) w A0 l0.length l0) (hc0:l0.length≤c0) (hr1:Kd.C (Kd.int .u32) w A1 l1.length l1) (hc1:l1.length≤c1) (h:garboardref01_Plus.f k l0 l1 = some r) :
  Calls Tryd.prog 40 #[.slice A0 l0.length c0,.slice A1 l1.length c1] w fun e w'=>∃ v0_:Value,e = .returned (v0_)∧Kd.V (Kd.int .u32) 64 w' w.heap.size (fun k_=>(w.heap.size≤k_)) v0_ r∧Below w.heap.size w w':=by
 have HR0:=Aside0.mk hr0
 have HC0:=Aside0.mk hc0
 clear hr0 hc0
 have HR1:=Aside0.mk hr1
 have HC1:=Aside0.mk hc1
 clear hr1 hc1
 have HB:=Aside0.mk (Below.refl w.heap.size w)
 have H:(garboardref01_Plus.l0 k l0 l1 ([]:List Int) 0 0) = some r:=h
 clear h
 have H':=Aside0.mk H
 clear H
 go_enter Tryd.func40,Tryd.ntmps40
 go_wp2
 go_loopg [5,6,7] k (fun kq v5 v6 v7 w'=>∃ (x5_1:List Int) (x6_1:Int) (x7_1:Int),v6 = .int .u32 x6_1∧v7 = .int .i64 x7_1∧Aside0 (garboardref01_Plus.l0 kq l0 l1 x5_1 x6_1 x7_1 = some r)∧Aside0 (kq≤k)∧Aside0 (Kd.R (Kd.int .u32) 64 w' w.heap.size (fun k_=>(w.heap.size≤k_)) v5 x5_1)∧Aside0 (Below w.heap.size w w'))
 case atStart=>exact ⟨(([]:List Int)),(0),(0),(by first|rfl|(simp;done)|(simp [*];done)),(by first|rfl|(simp;done)|(simp [*];done)),H',⟨Nat.le_refl _⟩,⟨by first|exact Kd.R_nil _ _ _ _ _|exact Kd.N_nil _ _ _ _ _|exact Kd.V_nil _ _ _ _ _|exact Kd.Q_nil _ _ _ _ _|exact Kd.S_nil _ _ _ _ _⟩,⟨by repeat (first|(with_reducible first|exact HB.out|apply below_alloc|apply pw_below_drewN|apply below_drew1)|exact HB.out)⟩⟩
 case round =>
  clear H'
  try clear c1
  try clear p2
  obtain ⟨x5_1,x6_1,x7_1,rfl,rfl,HA,HK1,HO_5,HB⟩:=hrel
  cases gk with
  | zero=>exact absurd HA.out (by simp [garboardref01_Plus.l0])
  | succ k1 =>
   have H:=HA.out
   clear HA
   simp only [garboardref01_Plus.l0] at H
   have HC3:=Aside0.mk H
   clear H
   go_upto_region 4 with (fail)
   go_cut [22] (fun v22 wc=>∃ (kq:Nat) (x22_2:Bool),v22 = .bool x22_2∧Aside0 (garboardref01_Plus.j1 kq l0 l1 x5_1 x6_1 x7_1 x22_2 = some r)∧Aside0 (kq≤k1)∧Aside0 (Kd.R (Kd.int .u32) 64 wc w.heap.size (fun k_=>(w.heap.size≤k_)) u5 x5_1)∧Aside0 (Below w.heap.size w wc))
   case first =>
    have H:=HC3.out
    clear HC3
    by_cases c4:x7_1 < (l0.length:Int)
    ·rw [if_pos c4] at H
     have c4b0:decide (x7_1 < (l0.length:Int)) = true:=decide_eq_true c4
     clear c4
     (first|rw [c4b0]|(simp only [i64_w,i32_w];rw [c4b0])|skip)
     have H':=Aside0.mk H
     clear H
     go_wp2
     go_meet
     case rel=>exact ⟨_,(true),(by first|rfl|(simp;done)|(simp [*];done)),H',⟨by have:=HK1.out;first|omega|exact Nat.le_refl _⟩,⟨by (with_reducible repeat (first|apply Kd.R_alloc|apply Kd.R_drewN|apply Kd.R_drew));exact HO_5.out⟩,⟨by repeat (first|(with_reducible first|exact HB.out|apply below_alloc|apply pw_below_drewN|apply below_drew1)|exact HB.out)⟩⟩
    ·rw [if_neg c4] at H
     have c4b0:decide (x7_1 < (l0.length:Int)) = false:=decide_eq_false c4
     clear c4
     (first|rw [c4b0]|(simp only [i64_w,i32_w];rw [c4b0])|skip)
     by_cases c5:x7_1 < (l1.length:Int)
     ·rw [if_pos c5] at H
      have c5b0:decide (x7_1 < (l1.length:Int)) = true:=decide_eq_true c5
      clear c5
      have H':=Aside0.mk H
      clear H
      go_wp2
      go_meet
      case rel=>exact ⟨_,(true),(by first|rfl|(simp;done)|(simp [*];done)),H',⟨by have:=HK1.out;first|omega|exact Nat.le_refl _⟩,⟨by (with_reducible repeat (first|apply Kd.R_alloc|apply Kd.R_drewN|apply Kd.R_drew));exact HO_5.out⟩,⟨by repeat (first|(with_reducible first|exact HB.out|apply below_alloc|apply pw_below_drewN|apply below_drew1)|exact HB.out)⟩⟩
     ·rw [if_neg c5] at H
      have c5b0:decide (x7_1 < (l1.length:Int)) = false:=decide_eq_false c5
      clear c5
      have H':=Aside0.mk H
      clear H
      go_wp2
      go_meet
      case rel=>exact ⟨_,(decide (x6_1 > 0)),(by first|rfl|(simp;done)|(simp [*];done)),H',⟨by have:=HK1.out;first|omega|exact Nat.le_refl _⟩,⟨by (with_reducible repeat (first|apply Kd.R_alloc|apply Kd.R_drewN|apply Kd.R_drew));exact HO_5.out⟩,⟨by repeat (first|(with_reducible first|exact HB.out|apply below_alloc|apply pw_below_drewN|apply below_drew1)|exact HB.out)⟩⟩
   case rest =>
    clear HC3
    try clear c1
    try clear p2
    try clear c4
    try clear c4b0
    try clear c5
    try clear c5b0
    try clear p2
    obtain ⟨kq,x22_2,rfl,HA,HJ2,HO_5,HB⟩:=hcut
    cases kq with
    | zero=>exact absurd HA.out (by simp [garboardref01_Plus.j1])
    | succ kj2 =>
     have H:=HA.out
     clear HA
     simp only [garboardref01_Plus.j1] at H
     by_cases c6:x22_2 = true
     ·subst c6
      have H1:(if x7_1 < (l0.length:Int) then (if 0≤x7_1 then (if x7_1 < (l1.length:Int) then (if x5_1.length < 35184372088832 then (garboardref01_Plus.l0 kj2 l0 l1 (x5_1 ++ [((((x6_1 + (rd l0 x7_1)) % 4294967296) + (rd l1 x7_1)) % 4294967296) % 1000000000]) (((((x6_1 + (rd l0 x7_1)) % 4294967296) + (rd l1 x7_1)) % 4294967296) / 1000000000) (wrap64 (x7_1 + 1))) else (none)) else (if x5_1.length < 35184372088832 then (garboardref01_Plus.l0 kj2 l0 l1 (x5_1 ++ [((x6_1 + (rd l0 x7_1)) % 4294967296) % 1000000000]) (((x6_1 + (rd l0 x7_1)) % 4294967296) / 1000000000) (wrap64 (x7_1 + 1))) else (none))) else (none)) else (if x7_1 < (l1.length:Int) then (if 0≤x7_1 then (if x5_1.length < 35184372088832 then (garboardref01_Plus.l0 kj2 l0 l1 (x5_1 ++ [((x6_1 + (rd l1 x7_1)) % 4294967296) % 1000000000]) (((x6_1 + (rd l1 x7_1)) % 4294967296) / 1000000000) (wrap64 (x7_1 + 1))) else (none)) else (none)) else (if x5_1.length < 35184372088832 then (garboardref01_Plus.l0 kj2 l0 l1 (x5_1 ++ [Int.tmod x6_1 1000000000]) ((Int.tdiv x6_1 1000000000) % 4294967296) (wrap64 (x7_1 + 1))) else (none)))) = some r:=by rw [if_pos rfl] at H;exact H
      clear H
      have H:=H1
      clear H1
      by_cases c7:x7_1 < (l0.length:Int)
      ·rw [if_pos c7] at H
       have c7b0:decide (x7_1 < (l0.length:Int)) = true:=decide_eq_true c7
       clear c7
       by_cases c8:0≤x7_1
       ·rw [if_pos c8] at H
        have c8b0:decide (0≤x7_1) = true:=decide_eq_true c8
        clear c8
        by_cases c9:x7_1 < (l1.length:Int)
        ·rw [if_pos c9] at H
         have c9b0:decide (x7_1 < (l1.length:Int)) = true:=decide_eq_true c9
         clear c9
         by_cases c10:x5_1.length < 35184372088832
         ·rw [if_pos c10] at H
          have LMc10:=Aside0.mk c10
          clear c10
          obtain ⟨y343,hy343⟩:∃ y_:List Int,y_ = (x5_1 ++ [((((x6_1 + (rd l0 x7_1)) % 4294967296) + (rd l1 x7_1)) % 4294967296) % 1000000000]):=⟨_,rfl⟩
          replace H:(garboardref01_Plus.l0 kj2 l0 l1 y343 (((((x6_1 + (rd l0 x7_1)) % 4294967296) + (rd l1 x7_1)) % 4294967296) / 1000000000) (wrap64 (x7_1 + 1))) = some r:=by first|(rw [hy343];with_reducible exact H)|(have H2_:=(Option.bind_some _ _).symm.trans H;rw [hy343];with_reducible exact H2_)|(have H2_:=(Option.bind_some _ _).symm.trans H;with_reducible exact H2_)|with_reducible exact H|(rw [hy343];exact H)|exact H
          have Ny343:=(Aside0.mk (hy343.trans (by rw [Int.emod_add_emod])):Aside0 (y343 = x5_1 ++ [(x6_1 + rd l0 x7_1 + rd l1 x7_1) % 4294967296 % 1000000000]))
          clear hy343
          have H':=Aside0.mk H
          clear H
          have p341:0≤(x7_1:Int):=of_decide_eq_true (by first|(with_reducible assumption)|assumption)
          have q341:x7_1 < (l0.length:Int):=of_decide_eq_true (by first|(with_reducible assumption)|assumption)
          obtain ⟨ad341,e341,hx341_0⟩:=Kd.at_int HR0.out x7_1 p341 q341
          cases e341
          replace hx341_0:=(HB.out.cell (World.block_lt_of_cell? w _ hx341_0)).trans hx341_0
          replace p341:=eq_true p341
          replace q341:=eq_true q341
          have p342:0≤(x7_1:Int):=of_decide_eq_true (by first|(with_reducible assumption)|assumption)
          have q342:x7_1 < (l1.length:Int):=of_decide_eq_true (by first|(with_reducible assumption)|assumption)
          obtain ⟨ad342,e342,hx342_0⟩:=Kd.at_int HR1.out x7_1 p342 q342
          cases e342
          replace hx342_0:=(HB.out.cell (World.block_lt_of_cell? w _ hx342_0)).trans hx342_0
          replace p342:=eq_true p342
          replace q342:=eq_true q342
          go_wp2_with (first|((with_reducible refine gate_builtin (b:=.append) (xs:=#[.tmp 46,.tmp 49]) rfl ?_);(try (refine gate_guard (by rfl) ?_;dsimp only));at_builtin;refine Kd.R_append (Kd.int .u32) (w0:=w) w.heap.size rfl (.tmp 46) (.tmp 49) 45 64 (.int .u32 0) 4 rfl Tryd.underlying45 info64 rfl (by decide) (by omega) u5 x5_1 ((x6_1 + rd l0 x7_1 + rd l1 x7_1) % 4294967296 % 1000000000) [.int .u32 ((x6_1 + rd l0 x7_1 + rd l1 x7_1) % 4294967296 % 1000000000)] (fun k_=>(w.heap.size≤k_)) (fun _=>False) rfl rfl ?aP (fun _ hk=>hk.elim) ?aF ?aO ?aB ?aS ?aL ?_;(case aP=>exact rfl);(case aB=>exact (by repeat (first|(with_reducible first|exact HB.out|apply below_alloc|apply pw_below_drewN|apply below_drew1)|exact HB.out)));(case aF=>exact (fun k_ hk=>(Nat.le_trans (below_size (by repeat (first|(with_reducible first|exact HB.out|apply below_alloc|apply pw_below_drewN|apply below_drew1)|exact HB.out))) hk)));(case aO=>exact (by (with_reducible repeat (first|apply Kd.R_alloc|apply Kd.R_drewN|apply Kd.R_drew));exact HO_5.out));(case aS=>exact (below_size (by repeat (first|(with_reducible first|exact HB.out|apply below_alloc|apply pw_below_drewN|apply below_drew1)|exact HB.out))));(case aL=>have:=LMc10.out;omega);intro v344 w11 ho hb hg hat;rw [← Ny343.out] at ho;have n0_:=Aside0.mk (hb);have n1_:=Aside0.mk (ho);clear HB;clear HO_5;have HB:=n0_;have HO345:=n1_;clear n0_ n1_;clear ho hb hg hat))
          go_roundg kj2
          case measure=>have:=HK1.out;have:=HJ2.out;omega
          case rel=>exact ⟨(y343),(((((x6_1 + (rd l0 x7_1)) % 4294967296) + (rd l1 x7_1)) % 4294967296) / 1000000000),(wrap64 (x7_1 + 1)),(by first|rfl|(simp;done)|(simp [*];done)),(by first|rfl|(simp;done)|(simp [*];done)),H',⟨by have:=HK1.out;have:=HJ2.out;omega⟩,⟨by (with_reducible repeat (first|apply Kd.R_alloc|apply Kd.R_drewN|apply Kd.R_drew));exact HO345.out⟩,⟨by repeat (first|(with_reducible first|exact HB.out|apply below_alloc|apply pw_below_drewN|apply below_drew1)|exact HB.out)⟩⟩
         ·rw [if_neg c10] at H
          exact absurd H (by simp)
        ·rw [if_neg c9] at H
         have c9b0:decide (x7_1 < (l1.length:Int)) = false:=decide_eq_false c9
         clear c9
         by_cases c12:x5_1.length < 35184372088832
         ·rw [if_pos c12] at H
          have LMc12:=Aside0.mk c12
          clear c12
          obtain ⟨y346,hy346⟩:∃ y_:List Int,y_ = (x5_1 ++ [((x6_1 + (rd l0 x7_1)) % 4294967296) % 1000000000]):=⟨_,rfl⟩
          replace H:(garboardref01_Plus.l0 kj2 l0 l1 y346 (((x6_1 + (rd l0 x7_1)) % 4294967296) / 1000000000) (wrap64 (x7_1 + 1))) = some r:=by first|(rw [hy346];with_reducible exact H)|(have H2_:=(Option.bind_some _ _).symm.trans H;rw [hy346];with_reducible exact H2_)|(have H2_:=(Option.bind_some _ _).symm.trans H;with_reducible exact H2_)|with_reducible exact H|(rw [hy346];exact H)|exact H
          have Ny346:=Aside0.mk hy346
          clear hy346
          have H':=Aside0.mk H
          clear H
          have p341:0≤(x7_1:Int):=of_decide_eq_true (by first|(with_reducible assumption)|assumption)
          have q341:x7_1 < (l0.length:Int):=of_decide_eq_true (by first|(with_reducible assumption)|assumption)
          obtain ⟨ad341,e341,hx341_0⟩:=Kd.at_int HR0.out x7_1 p341 q341
          cases e341
          replace hx341_0:=(HB.out.cell (World.block_lt_of_cell? w _ hx341_0)).trans hx341_0
          replace p341:=eq_true p341
          replace q341:=eq_true q341
          go_wp2_with (first|((with_reducible refine gate_builtin (b:=.append) (xs:=#[.tmp 46,.tmp 49]) rfl ?_);(try (refine gate_guard (by rfl) ?_;dsimp only));at_builtin;refine Kd.R_append (Kd.int .u32) (w0:=w) w.heap.size rfl (.tmp 46) (.tmp 49) 45 64 (.int .u32 0) 4 rfl Tryd.underlying45 info64 rfl (by decide) (by omega) u5 x5_1 (((x6_1 + (rd l0 x7_1)) % 4294967296) % 1000000000) [.int .u32 (((x6_1 + (rd l0 x7_1)) % 4294967296) % 1000000000)] (fun k_=>(w.heap.size≤k_)) (fun _=>False) rfl rfl ?aP (fun _ hk=>hk.elim) ?aF ?aO ?aB ?aS ?aL ?_;(case aP=>exact rfl);(case aB=>exact (by repeat (first|(with_reducible first|exact HB.out|apply below_alloc|apply pw_below_drewN|apply below_drew1)|exact HB.out)));(case aF=>exact (fun k_ hk=>(Nat.le_trans (below_size (by repeat (first|(with_reducible first|exact HB.out|apply below_alloc|apply pw_below_drewN|apply below_drew1)|exact HB.out))) hk)));(case aO=>exact (by (with_reducible repeat (first|apply Kd.R_alloc|apply Kd.R_drewN|apply Kd.R_drew));exact HO_5.out));(case aS=>exact (below_size (by repeat (first|(with_reducible first|exact HB.out|apply below_alloc|apply pw_below_drewN|apply below_drew1)|exact HB.out))));(case aL=>have:=LMc12.out;omega);intro v347 w13 ho hb hg hat;rw [← Ny346.out] at ho;have n0_:=Aside0.mk (hb);have n1_:=Aside0.mk (ho);clear HB;clear HO_5;have HB:=n0_;have HO348:=n1_;clear n0_ n1_;clear ho hb hg hat))
          go_roundg kj2
          case measure=>have:=HK1.out;have:=HJ2.out;omega
          case rel=>exact ⟨(y346),(((x6_1 + (rd l0 x7_1)) % 4294967296) / 1000000000),(wrap64 (x7_1 + 1)),(by first|rfl|(simp;done)|(simp [*];done)),(by first|rfl|(simp;done)|(simp [*];done)),H',⟨by have:=HK1.out;have:=HJ2.out;omega⟩,⟨by (with_reducible repeat (first|apply Kd.R_alloc|apply Kd.R_drewN|apply Kd.R_drew));exact HO348.out⟩,⟨by repeat (first|(with_reducible first|exact HB.out|apply below_alloc|apply pw_below_drewN|apply below_drew1)|exact HB.out)⟩⟩
         ·rw [if_neg c12] at H
          exact absurd H (by simp)
       ·rw [if_neg c8] at H
        exact absurd H (by simp)
      ·rw [if_neg c7] at H
       have c7b0:decide (x7_1 < (l0.length:Int)) = false:=decide_eq_false c7
       clear c7
       by_cases c14:x7_1 < (l1.length:Int)
       ·rw [if_pos c14] at H
        have c14b0:decide (x7_1 < (l1.length:Int)) = true:=decide_eq_true c14
        clear c14
        by_cases c15:0≤x7_1
        ·rw [if_pos c15] at H
         have c15b0:decide (0≤x7_1) = true:=decide_eq_true c15
         clear c15
         by_cases c16:x5_1.length < 35184372088832
         ·rw [if_pos c16] at H
          have LMc16:=Aside0.mk c16
          clear c16
          obtain ⟨y350,hy350⟩:∃ y_:List Int,y_ = (x5_1 ++ [((x6_1 + (rd l1 x7_1)) % 4294967296) % 1000000000]):=⟨_,rfl⟩
          replace H:(garboardref01_Plus.l0 kj2 l0 l1 y350 (((x6_1 + (rd l1 x7_1)) % 4294967296) / 1000000000) (wrap64 (x7_1 + 1))) = some r:=by first|(rw [hy350];with_reducible exact H)|(have H2_:=(Option.bind_some _ _).symm.trans H;rw [hy350];with_reducible exact H2_)|(have H2_:=(Option.bind_some _ _).symm.trans H;with_reducible exact H2_)|with_reducible exact H|(rw [hy350];exact H)|exact H
          have Ny350:=Aside0.mk hy350
          clear hy350
          have H':=Aside0.mk H
          clear H
          have p349:0≤(x7_1:Int):=of_decide_eq_true (by first|(with_reducible assumption)|assumption)
          have q349:x7_1 < (l1.length:Int):=of_decide_eq_true (by first|(with_reducible assumption)|assumption)
          obtain ⟨ad349,e349,hx349_0⟩:=Kd.at_int HR1.out x7_1 p349 q349
          cases e349
          replace hx349_0:=(HB.out.cell (World.block_lt_of_cell? w _ hx349_0)).trans hx349_0
          replace p349:=eq_true p349
          replace q349:=eq_true q349
          go_wp2_with (first|((with_reducible refine gate_builtin (b:=.append) (xs:=#[.tmp 46,.tmp 49]) rfl ?_);(try (refine gate_guard (by rfl) ?_;dsimp only));at_builtin;refine Kd.R_append (Kd.int .u32) (w0:=w) w.heap.size rfl (.tmp 46) (.tmp 49) 45 64 (.int .u32 0) 4 rfl Tryd.underlying45 info64 rfl (by decide) (by omega) u5 x5_1 (((x6_1 + (rd l1 x7_1)) % 4294967296) % 1000000000) [.int .u32 (((x6_1 + (rd l1 x7_1)) % 4294967296) % 1000000000)] (fun k_=>(w.heap.size≤k_)) (fun _=>False) rfl rfl ?aP (fun _ hk=>hk.elim) ?aF ?aO ?aB ?aS ?aL ?_;(case aP=>exact rfl);(case aB=>exact (by repeat (first|(with_reducible first|exact HB.out|apply below_alloc|apply pw_below_drewN|apply below_drew1)|exact HB.out)));(case aF=>exact (fun k_ hk=>(Nat.le_trans (below_size (by repeat (first|(with_reducible first|exact HB.out|apply below_alloc|apply pw_below_drewN|apply below_drew1)|exact HB.out))) hk)));(case aO=>exact (by (with_reducible repeat (first|apply Kd.R_alloc|apply Kd.R_drewN|apply Kd.R_drew));exact HO_5.out));(case aS=>exact (below_size (by repeat (first|(with_reducible first|exact HB.out|apply below_alloc|apply pw_below_drewN|apply below_drew1)|exact HB.out))));(case aL=>have:=LMc16.out;omega);intro v351 w17 ho hb hg hat;rw [← Ny350.out] at ho;have n0_:=Aside0.mk (hb);have n1_:=Aside0.mk (ho);clear HB;clear HO_5;have HB:=n0_;have HO352:=n1_;clear n0_ n1_;clear ho hb hg hat))
          go_roundg kj2
          case measure=>have:=HK1.out;have:=HJ2.out;omega
          case rel=>exact ⟨(y350),(((x6_1 + (rd l1 x7_1)) % 4294967296) / 1000000000),(wrap64 (x7_1 + 1)),(by first|rfl|(simp;done)|(simp [*];done)),(by first|rfl|(simp;done)|(simp [*];done)),H',⟨by have:=HK1.out;have:=HJ2.out;omega⟩,⟨by (with_reducible repeat (first|apply Kd.R_alloc|apply Kd.R_drewN|apply Kd.R_drew));exact HO352.out⟩,⟨by repeat (first|(with_reducible first|exact HB.out|apply below_alloc|apply pw_below_drewN|apply below_drew1)|exact HB.out)⟩⟩
         ·rw [if_neg c16] at H
          exact absurd H (by simp)
        ·rw [if_neg c15] at H
         exact absurd H (by simp)
       ·rw [if_neg c14] at H
        have c14b0:decide (x7_1 < (l1.length:Int)) = false:=decide_eq_false c14
        clear c14
        by_cases c18:x5_1.length < 35184372088832
        ·rw [if_pos c18] at H
         have LMc18:=Aside0.mk c18
         clear c18
         obtain ⟨y353,hy353⟩:∃ y_:List Int,y_ = (x5_1 ++ [Int.tmod x6_1 1000000000]):=⟨_,rfl⟩
         replace H:(garboardref01_Plus.l0 kj2 l0 l1 y353 ((Int.tdiv x6_1 1000000000) % 4294967296) (wrap64 (x7_1 + 1))) = some r:=by first|(rw [hy353];with_reducible exact H)|(have H2_:=(Option.bind_some _ _).symm.trans H;rw [hy353];with_reducible exact H2_)|(have H2_:=(Option.bind_some _ _).symm.trans H;with_reducible exact H2_)|with_reducible exact H|(rw [hy353];exact H)|exact H
         have Ny353:=Aside0.mk hy353
         clear hy353
         have H':=Aside0.mk H
         clear H
         go_wp2_with (first|((with_reducible refine gate_builtin (b:=.append) (xs:=#[.tmp 46,.tmp 49]) rfl ?_);(try (refine gate_guard (by rfl) ?_;dsimp only));at_builtin;refine Kd.R_append (Kd.int .u32) (w0:=w) w.heap.size rfl (.tmp 46) (.tmp 49) 45 64 (.int .u32 0) 4 rfl Tryd.underlying45 info64 rfl (by decide) (by omega) u5 x5_1 (Int.tmod x6_1 1000000000) [.int .u32 (Int.tmod x6_1 1000000000)] (fun k_=>(w.heap.size≤k_)) (fun _=>False) rfl rfl ?aP (fun _ hk=>hk.elim) ?aF ?aO ?aB ?aS ?aL ?_;(case aP=>exact rfl);(case aB=>exact (by repeat (first|(with_reducible first|exact HB.out|apply below_alloc|apply pw_below_drewN|apply below_drew1)|exact HB.out)));(case aF=>exact (fun k_ hk=>(Nat.le_trans (below_size (by repeat (first|(with_reducible first|exact HB.out|apply below_alloc|apply pw_below_drewN|apply below_drew1)|exact HB.out))) hk)));(case aO=>exact (by (with_reducible repeat (first|apply Kd.R_alloc|apply Kd.R_drewN|apply Kd.R_drew));exact HO_5.out));(case aS=>exact (below_size (by repeat (first|(with_reducible first|exact HB.out|apply below_alloc|apply pw_below_drewN|apply below_drew1)|exact HB.out))));(case aL=>have:=LMc18.out;omega);intro v354 w19 ho hb hg hat;rw [← Ny353.out] at ho;have n0_:=Aside0.mk (hb);have n1_:=Aside0.mk (ho);clear HB;clear HO_5;have HB:=n0_;have HO355:=n1_;clear n0_ n1_;clear ho hb hg hat))
         go_roundg kj2
         case measure=>have:=HK1.out;have:=HJ2.out;omega
         case rel=>exact ⟨(y353),((Int.tdiv x6_1 1000000000) % 4294967296),(wrap64 (x7_1 + 1)),(by first|rfl|(simp;done)|(simp [*];done)),(by first|rfl|(simp;done)|(simp [*];done)),H',⟨by have:=HK1.out;have:=HJ2.out;omega⟩,⟨by (with_reducible repeat (first|apply Kd.R_alloc|apply Kd.R_drewN|apply Kd.R_drew));exact HO355.out⟩,⟨by repeat (first|(with_reducible first|exact HB.out|apply below_alloc|apply pw_below_drewN|apply below_drew1)|exact HB.out)⟩⟩
        ·rw [if_neg c18] at H
         exact absurd H (by simp)
     ·replace c6:=Bool.eq_false_iff.mpr c6
      subst c6
      have H1:((garboardref01_trim.f kj2 x5_1).bind fun t338=>(some t338)) = some r:=by rw [if_neg (show ¬ (false = true) by decide)] at H;exact H
      clear H
      have H:=H1
      clear H1
      replace H:=Option.bind_eq_some_iff.mp H
      obtain ⟨t338,A200,H⟩:=H
      replace H:(some t338) = some r:=H
      have A20:=Aside0.mk A200
      clear A200
      obtain rfl:=Option.some.inj H
      obtain ⟨Ao21,co21,eo21⟩:=Kd.R_slice HO_5.out
      subst eo21
      go_wp2_with (first|((with_reducible refine gate_callee (f:=59) rfl ?_);refine goesL_ (some 54) rfl rfl Tryd.func59 (by kernel_rfl) rfl #[.slice Ao21 x5_1.length co21] rfl (by (try simp only [List.map_toArray,List.map_cons,List.map_nil]);first|done|rfl|(simp only [List.length_drop,List.length_take];rfl)) ?_;(with_reducible refine (garboardref01_trim.calls kj2 (fun k_=>some k_ = (.slice Ao21 x5_1.length co21:Value).ownBlock) _ _ x5_1 t338 _ ?side1 A20.out).mono ?_);(case side1=>exact Kd.R_V (Kd.R_tight rfl (HO_5.out)));rintro e w22 ⟨v339,rfl,ho0,hb⟩;refine ⟨_,rfl,?_⟩;have n0_:=Aside0.mk (Kd.R_below (by (with_reducible repeat (first|apply Kd.R_alloc|apply Kd.R_drewN|apply Kd.R_drew));exact HO_5.out) hb);have n1_:=Aside0.mk (Kd.V_lower (Kd.V_mono (ok':=fun k_=>(w.heap.size≤k_)) ho0 (fun k_ hk_=>Or.elim hk_ (fun hs_=>((HO_5.out).1 k_ hs_.symm)) (fun hn_=>(Nat.le_trans (below_size (by repeat (first|(with_reducible first|exact HB.out|apply below_alloc|apply pw_below_drewN|apply below_drew1)|exact HB.out))) hn_)))) (below_size (by repeat (first|(with_reducible first|exact HB.out|apply below_alloc|apply pw_below_drewN|apply below_drew1)|exact HB.out))));have n2_:=Aside0.mk (below_step (by repeat (first|(with_reducible first|exact HB.out|apply below_alloc|apply pw_below_drewN|apply below_drew1)|exact HB.out)) hb);clear HO_5;clear HB;have HO_5:=n0_;have HO340:=n1_;have HB:=n2_;clear n0_ n1_ n2_;(try clear hb);(try clear hb2);(try clear hk);(try clear hi);(try clear ho0)))
      go_ret
      exact ⟨_,by first|rfl|(simp [errW_none,errW_some]<;>rfl)|(simp [*,errW_none,errW_some]<;>rfl),by (with_reducible repeat (first|apply Kd.V_alloc|apply Kd.V_drewN|apply Kd.V_drew));exact HO340.out,by repeat (first|(with_reducible first|exact HB.out|apply below_alloc|apply pw_below_drewN|apply below_drew1)|exact HB.out)⟩
end Go.Proofs.YtaopmkcghancmaaDoor.Pr
set_option linter.unusedVariables false
set_option linter.unusedSimpArgs false
namespace Go.Proofs.YtaopmkcghancmaaDoor.Pr
open Go.RowKit Go.Proofs.YtaopmkcghancmaaDoorW.PrintWords Go.Proofs.YtaopmkcghancmaaDoorW.PrintLast Go.Proofs.YtaopmkcghancmaaDoorW.PrintMore Go.Proofs.YtaopmkcghancmaaDoor.NatTh
theorem rplus_j (a b out:List Int) (C:Int) (n k:Nat) (r:Option (List Int)) (hn:n < 1099511627776) (hol:out.length < 35184372088832) (ha:Wd a) (hb:Wd b) (hC:0≤C) (hC2:C≤1)
  (h:garboardref01_Plus.l0 k a b (out ++ [(C + a.getD n 0 + b.getD n 0) % 1000000000]) ((C + a.getD n 0 + b.getD n 0) / 1000000000) ((n + 1:Nat):Int) = r):garboardref01_Plus.j1 (k + 1) a b out C n true = r:=by
 have h1:=ha.getD n
 have h2:=hb.getD n
 rw [BB] at h1 h2
 have g0:(0:Int)≤(n:Int):=by omega
 have hnn:n < 9223372036854775807:=by omega
 rw [← wi1 n hnn] at h
 unfold garboardref01_Plus.j1
 rw [if_pos rfl]
 by_cases ha1:n < a.length
 ·rw [if_pos (by clear h;omega),if_pos g0]
  by_cases hb1:n < b.length
  ·rw [if_pos (by clear h;omega),if_pos hol,rd_eq,rd_eq,Int.emod_eq_of_lt (b:=4294967296) (a:=C + a.getD n 0) (by clear h;omega) (by clear h;omega),Int.emod_eq_of_lt (b:=4294967296) (by clear h;omega) (by clear h;omega)]
   exact h
  ·rw [if_neg (by clear h;omega),if_pos hol,rd_eq,Int.emod_eq_of_lt (b:=4294967296) (by clear h;omega) (by clear h;omega)]
   rw [rd_out b n hb1,Int.add_zero] at h
   exact h
 ·rw [if_neg (by clear h;omega)]
  by_cases hb1:n < b.length
  ·rw [if_pos (by clear h;omega),if_pos g0,if_pos hol,rd_eq,Int.emod_eq_of_lt (b:=4294967296) (by clear h;omega) (by clear h;omega)]
   rw [rd_out a n ha1,Int.add_zero] at h
   exact h
  ·rw [if_neg (by clear h;omega),if_pos hol,Int.tmod_eq_emod_of_nonneg hC,Int.tdiv_eq_ediv_of_nonneg hC,Int.emod_eq_of_lt (a:=C / 1000000000) (b:=4294967296) (by clear h;omega) (by clear h;omega)]
   rw [rd_out a n ha1,rd_out b n hb1,Int.add_zero,Int.add_zero] at h
   exact h
theorem rplus_end (a b out:List Int) (n k:Nat) (hna:a.length≤n) (hnb:b.length≤n):garboardref01_Plus.l0 (k + 2) a b out 0 n = ((garboardref01_trim.f k out).bind fun t=>some t):=by
 unfold garboardref01_Plus.l0
 rw [if_neg (by omega),if_neg (by omega),show decide ((0:Int) > 0) = false from rfl]
 unfold garboardref01_Plus.j1
 rw [if_neg (by simp)]
theorem rplus_loop (a b:List Int) (ha:Wd a) (hb:Wd b) (N:Nat) (hN:N = max a.length b.length) (hN2:N < 1099511627776):∀ (m n:Nat),n + m = N→∀ (out:List Int) (C:Int),MrgI a b 1 out n C→0≤C →
  ∃ out' C',MrgI a b 1 out' N C'∧0≤C'∧∀ k,garboardref01_Plus.l0 (k + 4 + 2 * m) a b out C n = (if C' > 0 then ((garboardref01_trim.f k (out' ++ [C'])).bind fun t=>some t) else ((garboardref01_trim.f (k + 2) out').bind fun t=>some t)):=by
 intro m
 induction m with
 | zero =>
  intro n hn out C h hC
  obtain rfl:n = N:=by omega
  refine ⟨out,C,h,hC,fun k=>?_⟩
  have hl:=h.len
  have hh:=h.hi
  by_cases hC1:C > 0
  ·obtain rfl:C = 1:=by omega
   rw [if_pos hC1]
   show garboardref01_Plus.l0 (k + 2 + 1 + 1) a b out 1 n = _
   unfold garboardref01_Plus.l0
   rw [if_neg (by omega),if_neg (by omega),show decide ((1:Int) > 0) = true from rfl]
   refine rplus_j a b out 1 n (k + 2) _ hN2 (by omega) ha hb (by omega) (by omega) ?_
   rw [rd_out a n (by omega),rd_out b n (by omega)]
   exact rplus_end a b _ (n + 1) k (by omega) (by omega)
  ·obtain rfl:C = 0:=by omega
   rw [if_neg hC1]
   exact rplus_end a b out n (k + 2) (by omega) (by omega)
 | succ m ih =>
  intro n hn out C h hC
  have hst:=h.step ha hb (.inl rfl)
  rw [Int.one_mul] at hst
  have h1:=ha.getD n
  have h2:=hb.getD n
  rw [BB] at h1 h2
  have hh:=h.hi
  have el:=h.len
  obtain ⟨out',C',h',hC',e⟩:=ih (n + 1) (by omega) _ _ hst (by omega)
  refine ⟨out',C',h',hC',fun k=>?_⟩
  have hj:=rplus_j a b out C n (k + 4 + 2 * m) _ (by omega) (by omega) ha hb hC hh (e k)
  rw [show k + 4 + 2 * (m + 1) = k + 4 + 2 * m + 1 + 1 by omega]
  clear e hst h'
  unfold garboardref01_Plus.l0
  by_cases ha1:n < a.length
  ·rw [if_pos (by clear hj;omega)]
   exact hj
  ·rw [if_neg (by clear hj;omega),if_pos (by clear hj;omega)]
   exact hj
theorem Plus_ev (a b:Nat) (ha:Ok (numOf a)) (hb:Ok (numOf b)) (hs:max (numOf a).length (numOf b).length < 1099511627776):Ev (fun k=>garboardref01_Plus.f k (numOf a) (numOf b)) (numOf (a + b)):=by
 obtain ⟨out,C,h,hC,e⟩:=rplus_loop (numOf a) (numOf b) (num_numOf a).1 (num_numOf b).1 (max (numOf a).length (numOf b).length) rfl hs (max (numOf a).length (numOf b).length) 0 (by omega) [] 0 (mrg_start _ _ _) (by omega)
 have ev:=h.eq
 rw [List.take_of_length_le (by omega),List.take_of_length_le (by omega),val_numOf,val_numOf,Int.one_mul] at ev
 have hl:=h.len
 have hh:=h.hi
 have key:Ev (fun k=>(if C > 0 then ((garboardref01_trim.f k (out ++ [C])).bind fun t=>some t) else ((garboardref01_trim.f (k + 2) out).bind fun t=>some t))) (numOf (a + b)):=by
  by_cases hC1:C > 0
  ·have ht:=rtrim_ev (l:=out ++ [C]) (by rw [List.length_append,hl];simp;omega)
   rw [trim_numOf (n:=a + b) (h.wd.append (Wd.cons ⟨hC,by rw [BB];omega⟩ Wd.nil)) (by rw [val_snoc,hl];omega)] at ht
   refine Ev.congr (fun k=>if_pos hC1) (Ev.bind ht (Ev.now _))
  ·obtain rfl:C = 0:=by omega
   have ht:=rtrim_ev (l:=out) (by omega)
   rw [trim_numOf (n:=a + b) h.wd (by omega)] at ht
   obtain ⟨K,ht⟩:=ht
   refine ⟨K,fun k hk=>?_⟩
   dsimp only
   have h2:=ht (k + 2) (by omega)
   dsimp only at h2
   rw [if_neg hC1,h2]
   rfl
 obtain ⟨K,key⟩:=key
 refine ⟨K + 4 + 2 * max (numOf a).length (numOf b).length,fun k hk=>?_⟩
 obtain ⟨j,rfl⟩:∃ j,k = j + 4 + 2 * max (numOf a).length (numOf b).length:=⟨k - 4 - 2 * max (numOf a).length (numOf b).length,by omega⟩
 unfold garboardref01_Plus.f
 exact (e j).trans (key j (by omega))
end Go.Proofs.YtaopmkcghancmaaDoor.Pr
set_option linter.unusedVariables false
set_option linter.unusedSimpArgs false
namespace Go.Proofs.YtaopmkcghancmaaDoor.NatTh
open Go.Lib
theorem pad_length (k w:Nat):(pad k w).length = k:=by
 induction k generalizing w with
 | zero=>rfl
 | succ k ih=>rw [pad,List.length_append,ih];rfl
end Go.Proofs.YtaopmkcghancmaaDoor.NatTh
namespace Go.Proofs.YtaopmkcghancmaaDoor.Pr
open Go.RowKit Go.Proofs.YtaopmkcghancmaaDoorW.PrintWords Go.Proofs.YtaopmkcghancmaaDoorW.PrintLast Go.Proofs.YtaopmkcghancmaaDoorW.PrintMore
attribute [local go_sem] max2_int min2_int max_two min_two max_three min_three max_four min_four
set_option linter.unusedVariables false
set_option linter.unusedSimpArgs false
def garboardref01_Valid.l0:Nat→ByteArray→Int→Option (Bool)
 | 0,_,_=>none
 | k + 1,x0,x3=>if x3 < (x0.size:Int) then (if 0≤x3 then (if (bt x0 x3) < 48 then (some false) else (if (bt x0 x3) > 57 then (some false) else (garboardref01_Valid.l0 k x0 (wrap64 (x3 + 1))))) else (none)) else (if (x0.size:Int) = 1 then (some true) else (if (x0.size:Int) > 1 then (if 0 < (x0.size:Int) then (some ((bt x0 0) != 48)) else (none)) else (some false)))
def garboardref01_Valid.f (k:Nat) (a0:ByteArray):Option (Bool):=garboardref01_Valid.l0 k a0 0
set_option maxHeartbeats 8000000 in
set_option maxRecDepth 100000 in
theorem garboardref01_Valid.calls (k:Nat) (a0:ByteArray) (r:Bool) (w:World) (h:garboardref01_Valid.f k a0 = some r) :
  Calls Tryd.prog 16 #[.string a0] w fun e w'=>e = .returned (.bool r)∧Drawn0 w w':=by
 have H:(garboardref01_Valid.l0 k a0 0) = some r:=h
 clear h
 have H':=Aside0.mk H
 clear H
 go_enter Tryd.func16,Tryd.ntmps16
 go_wp2
 go_loopg [3] k (fun kq v3 w'=>∃ (x3_1:Int),v3 = .int .i64 x3_1∧Aside0 (garboardref01_Valid.l0 kq a0 x3_1 = some r)∧Aside0 (kq≤k)∧Drawn0 w w')
 case atStart=>exact ⟨(0),(by first|rfl|(simp;done)|(simp [*];done)),H',⟨Nat.le_refl _⟩,by repeat (first|exact Drawn0.refl _|apply Drawn0.step)⟩
 case round =>
  clear H'
  try clear c1
  obtain ⟨x3_1,rfl,HA,HK1,⟨m1,rfl⟩⟩:=hrel
  cases gk with
  | zero=>exact absurd HA.out (by simp [garboardref01_Valid.l0])
  | succ k1 =>
   have H:=HA.out
   clear HA
   simp only [garboardref01_Valid.l0] at H
   by_cases c2:x3_1 < (a0.size:Int)
   ·rw [if_pos c2] at H
    have c2b0:decide (x3_1 < (a0.size:Int)) = true:=decide_eq_true c2
    clear c2
    by_cases c3:0≤x3_1
    ·rw [if_pos c3] at H
     have c3b0:decide (0≤x3_1) = true:=decide_eq_true c3
     clear c3
     by_cases c5:(bt a0 x3_1) < 48
     ·rw [if_pos c5] at H
      have c5b0:decide ((bt a0 x3_1) < 48) = true:=decide_eq_true c5
      clear c5
      obtain rfl:=Option.some.inj H
      have p4:0≤(x3_1:Int):=of_decide_eq_true (by first|(with_reducible assumption)|assumption)
      have q4:x3_1 < (a0.size:Int):=of_decide_eq_true (by first|(with_reducible assumption)|assumption)
      have hx4:=bt_at a0 x3_1
      replace p4:=eq_true p4
      replace q4:=eq_true q4
      go_wp2
      go_ret
      exact ⟨by first|rfl|(simp;done)|(simp [*];done),by repeat (first|exact Drawn0.refl _|apply Drawn0.step)⟩
     ·rw [if_neg c5] at H
      have c5b0:decide ((bt a0 x3_1) < 48) = false:=decide_eq_false c5
      clear c5
      by_cases c7:(bt a0 x3_1) > 57
      ·rw [if_pos c7] at H
       have c7b0:decide (57 < (bt a0 x3_1)) = true:=decide_eq_true c7
       clear c7
       obtain rfl:=Option.some.inj H
       have p4:0≤(x3_1:Int):=of_decide_eq_true (by first|(with_reducible assumption)|assumption)
       have q4:x3_1 < (a0.size:Int):=of_decide_eq_true (by first|(with_reducible assumption)|assumption)
       have hx4:=bt_at a0 x3_1
       replace p4:=eq_true p4
       replace q4:=eq_true q4
       have p6:0≤(x3_1:Int):=of_decide_eq_true (by first|(with_reducible assumption)|assumption)
       have q6:x3_1 < (a0.size:Int):=of_decide_eq_true (by first|(with_reducible assumption)|assumption)
       have hx6:=bt_at a0 x3_1
       replace p6:=eq_true p6
       replace q6:=eq_true q6
       go_wp2
       go_ret
       exact ⟨by first|rfl|(simp;done)|(simp [*];done),by repeat (first|exact Drawn0.refl _|apply Drawn0.step)⟩
      ·rw [if_neg c7] at H
       have c7b0:decide (57 < (bt a0 x3_1)) = false:=decide_eq_false c7
       clear c7
       have H':=Aside0.mk H
       clear H
       have p4:0≤(x3_1:Int):=of_decide_eq_true (by first|(with_reducible assumption)|assumption)
       have q4:x3_1 < (a0.size:Int):=of_decide_eq_true (by first|(with_reducible assumption)|assumption)
       have hx4:=bt_at a0 x3_1
       replace p4:=eq_true p4
       replace q4:=eq_true q4
       have p6:0≤(x3_1:Int):=of_decide_eq_true (by first|(with_reducible assumption)|assumption)
       have q6:x3_1 < (a0.size:Int):=of_decide_eq_true (by first|(with_reducible assumption)|assumption)
       have hx6:=bt_at a0 x3_1
       replace p6:=eq_true p6
       replace q6:=eq_true q6
       go_wp2
       go_roundg k1
       case measure=>have:=HK1.out;omega
       case rel=>exact ⟨(wrap64 (x3_1 + 1)),(by first|rfl|(simp;done)|(simp [*];done)),H',⟨by have:=HK1.out;omega⟩,by repeat (first|exact Drawn0.refl _|apply Drawn0.step)⟩
    ·rw [if_neg c3] at H
     exact absurd H (by simp)
   ·rw [if_neg c2] at H
    have c2b0:decide (x3_1 < (a0.size:Int)) = false:=decide_eq_false c2
    clear c2
    by_cases c8:(a0.size:Int) = 1
    ·rw [if_pos c8] at H
     have c8b0:((a0.size:Int) == 1) = true:=beq_iff_eq.mpr c8
     have c8b1:((a0.size:Int) != 1) = false:=bne_eq_false_iff_eq.mpr c8
     clear c8
     obtain rfl:=Option.some.inj H
     go_wp2
     go_ret
     exact ⟨by first|rfl|(simp;done)|(simp [*];done),by repeat (first|exact Drawn0.refl _|apply Drawn0.step)⟩
    ·rw [if_neg c8] at H
     have c8b0:((a0.size:Int) == 1) = false:=beq_eq_false_iff_ne.mpr c8
     have c8b1:((a0.size:Int) != 1) = true:=bne_iff_ne.mpr c8
     by_cases c9:(a0.size:Int) > 1
     ·rw [if_pos c9] at H
      have c9b0:decide (1 < (a0.size:Int)) = true:=decide_eq_true c9
      have c9b1:decide (1 < a0.size) = true:=decide_eq_true (by omega)
      clear c9
      by_cases c10:0 < (a0.size:Int)
      ·rw [if_pos c10] at H
       have c10b0:decide (0 < (a0.size:Int)) = true:=decide_eq_true c10
       have c10b1:decide (0 < a0.size) = true:=decide_eq_true (by omega)
       clear c10
       obtain rfl:=Option.some.inj H
       have p11:0≤(0:Int):=(by omega)
       have q11:0 < a0.size:=(by have:(0:Int) < (a0.size:Int):=of_decide_eq_true (by first|(with_reducible assumption)|assumption);omega)
       have hx11:∀ h:0 < a0.size,((a0[0]'h).toNat:Int) = bt a0 0:=bt_at a0 0
       clear p11
       have qi11:(0 < (a0.size:Int)) = True:=eq_true (of_decide_eq_true (by first|(with_reducible assumption)|assumption))
       replace q11:=eq_true q11
       go_wp2
       go_ret
       exact ⟨by first|rfl|(simp;done)|(simp [*];done),by repeat (first|exact Drawn0.refl _|apply Drawn0.step)⟩
      ·rw [if_neg c10] at H
       exact absurd H (by simp)
     ·rw [if_neg c9] at H
      have c9b0:decide (1 < (a0.size:Int)) = false:=decide_eq_false c9
      have c9b1:decide (1 < a0.size) = false:=decide_eq_false (by omega)
      clear c9
      obtain rfl:=Option.some.inj H
      go_wp2
      go_ret
      exact ⟨by first|rfl|(simp;done)|(simp [*];done),by repeat (first|exact Drawn0.refl _|apply Drawn0.step)⟩
end Go.Proofs.YtaopmkcghancmaaDoor.Pr
namespace Go.Proofs.YtaopmkcghancmaaDoor.Pr
open Go.RowKit Go.Proofs.YtaopmkcghancmaaDoorW.PrintWords Go.Proofs.YtaopmkcghancmaaDoorW.PrintLast Go.Proofs.YtaopmkcghancmaaDoorW.PrintMore
attribute [local go_sem] max2_int min2_int max_two min_two max_three min_three max_four min_four
set_option linter.unusedVariables false
set_option linter.unusedSimpArgs false
mutual
def garboardref01_From.l0:Nat→ByteArray→List Int→Int→Option (List Int)
 | 0,_,_,_=>none
 | k + 1,x0,x3,x4=>if x4 > 0 then (garboardref01_From.l1 k x0 x3 x4 0 (mx 0 (wrap64 (x4 - 9)))) else ((garboardref01_trim.f k x3).bind fun t289=>(some t289))
def garboardref01_From.l1:Nat→ByteArray→List Int→Int→Int→Int→Option (List Int)
 | 0,_,_,_,_,_=>none
 | k + 1,x0,x3,x4,x5,x6=>if x6 < x4 then (if 0≤x6 then (if x6 < (x0.size:Int) then (garboardref01_From.l1 k x0 x3 x4 ((((10 * x5) % 4294967296) + (((bt x0 x6) - 48) % 256)) % 4294967296) (wrap64 (x6 + 1))) else (none)) else (none)) else (if x3.length < 35184372088832 then (garboardref01_From.l0 k x0 (x3 ++ [x5]) (wrap64 (x4 - 9))) else (none))
end
def garboardref01_From.f (k:Nat) (a0:ByteArray):Option (List Int):=garboardref01_From.l0 k a0 ([]:List Int) (a0.size:Int)
set_option maxHeartbeats 8000000 in
set_option maxRecDepth 100000 in
theorem garboardref01_From.calls (k:Nat) (a0:ByteArray) (r:List Int) (w:World) (h:garboardref01_From.f k a0 = some r) :
  Calls Tryd.prog 54 #[.string a0] w fun e w'=>∃ v0_:Value,e = .returned (v0_)∧Kd.V (Kd.int .u32) 64 w' w.heap.size (fun k_=>(w.heap.size≤k_)) v0_ r∧Below w.heap.size w w':=by
 have HB:=Aside0.mk (Below.refl w.heap.size w)
 have H:(garboardref01_From.l0 k a0 ([]:List Int) (a0.size:Int)) = some r:=h
 clear h
 have H':=Aside0.mk H
 clear H
 go_enter Tryd.func54,Tryd.ntmps54
 go_wp2
 go_loopg [3,4] k (fun kq v3 v4 w'=>∃ (x3_1:List Int) (x4_1:Int),v4 = .int .i64 x4_1∧Aside0 (garboardref01_From.l0 kq a0 x3_1 x4_1 = some r)∧Aside0 (kq≤k)∧Aside0 (Kd.R (Kd.int .u32) 64 w' w.heap.size (fun k_=>(w.heap.size≤k_)) v3 x3_1)∧Aside0 (Below w.heap.size w w'))
 case atStart=>exact ⟨(([]:List Int)),((a0.size:Int)),(by first|rfl|(simp;done)|(simp [*];done)),H',⟨Nat.le_refl _⟩,⟨by first|exact Kd.R_nil _ _ _ _ _|exact Kd.N_nil _ _ _ _ _|exact Kd.V_nil _ _ _ _ _|exact Kd.Q_nil _ _ _ _ _|exact Kd.S_nil _ _ _ _ _⟩,⟨by repeat (first|(with_reducible first|exact HB.out|apply below_alloc|apply pw_below_drewN|apply below_drew1)|exact HB.out)⟩⟩
 case round =>
  clear H'
  obtain ⟨x3_1,x4_1,rfl,HA,HK1,HO_3,HB⟩:=hrel
  cases gk with
  | zero=>exact absurd HA.out (by simp [garboardref01_From.l0])
  | succ k1 =>
   have H:=HA.out
   clear HA
   simp only [garboardref01_From.l0] at H
   by_cases c2:x4_1 > 0
   ·rw [if_pos c2] at H
    have c2b0:decide (0 < x4_1) = true:=decide_eq_true c2
    clear c2
    obtain ⟨ji3,hji3⟩:∃ j_:Int,(mx 0 (wrap64 (x4_1 - 9))) = j_:=⟨_,rfl⟩
    replace H:(garboardref01_From.l1 k1 a0 x3_1 x4_1 0 ji3) = some r:=by first|(rw [hji3] at H;exact H)|(simp only [hji3] at H ⊢;exact H)
    have hji3_:(if 0 < (wrap64 (x4_1 - 9)) then (wrap64 (x4_1 - 9)) else 0) = ji3:=hji3
    have H':=Aside0.mk H
    clear H
    go_wp2
    go_loopg [5,6] k1 (fun kq v5 v6 w'=>∃ (x5_2:Int) (x6_2:Int),v5 = .int .u32 x5_2∧v6 = .int .i64 x6_2∧Aside0 (garboardref01_From.l1 kq a0 x3_1 x4_1 x5_2 x6_2 = some r)∧Aside0 (kq≤k1)∧Aside0 (Kd.R (Kd.int .u32) 64 w' w.heap.size (fun k_=>(w.heap.size≤k_)) u3 x3_1)∧Aside0 (Below w.heap.size w w'))
    case atStart=>exact ⟨(0),(ji3),(by first|rfl|(simp;done)|(simp [*];done)),(by first|rfl|(simp;done)|(simp only [← hji3]<;>(first|rfl|simp))|(simp [*];done)),H',⟨Nat.le_refl _⟩,⟨by (with_reducible repeat (first|apply Kd.R_alloc|apply Kd.R_drewN|apply Kd.R_drew));exact HO_3.out⟩,⟨by repeat (first|(with_reducible first|exact HB.out|apply below_alloc|apply pw_below_drewN|apply below_drew1)|exact HB.out)⟩⟩
    case round =>
     clear H'
     try clear c2
     try clear c2b0
     try clear p2
     obtain ⟨x5_2,x6_2,rfl,rfl,HA,HK2,HO_3,HB⟩:=hrel
     cases gk with
     | zero=>exact absurd HA.out (by simp [garboardref01_From.l1])
     | succ k2 =>
      have H:=HA.out
      clear HA
      simp only [garboardref01_From.l1] at H
      by_cases c4:x6_2 < x4_1
      ·rw [if_pos c4] at H
       have c4b0:decide (x6_2 < x4_1) = true:=decide_eq_true c4
       clear c4
       by_cases c5:0≤x6_2
       ·rw [if_pos c5] at H
        have c5b0:decide (0≤x6_2) = true:=decide_eq_true c5
        clear c5
        by_cases c6:x6_2 < (a0.size:Int)
        ·rw [if_pos c6] at H
         have c6b0:decide (x6_2 < (a0.size:Int)) = true:=decide_eq_true c6
         clear c6
         have H':=Aside0.mk H
         clear H
         have p7:0≤(x6_2:Int):=of_decide_eq_true (by first|(with_reducible assumption)|assumption)
         have q7:x6_2 < (a0.size:Int):=of_decide_eq_true (by first|(with_reducible assumption)|assumption)
         have hx7:=bt_at a0 x6_2
         replace p7:=eq_true p7
         replace q7:=eq_true q7
         go_wp2
         go_roundg k2
         case measure=>have:=HK1.out;have:=HK2.out;omega
         case rel=>exact ⟨((((10 * x5_2) % 4294967296) + (((bt a0 x6_2) - 48) % 256)) % 4294967296),(wrap64 (x6_2 + 1)),(by first|rfl|(simp;done)|(simp [*];done)),(by first|rfl|(simp;done)|(simp [*];done)),H',⟨by have:=HK1.out;have:=HK2.out;omega⟩,⟨by (with_reducible repeat (first|apply Kd.R_alloc|apply Kd.R_drewN|apply Kd.R_drew));exact HO_3.out⟩,⟨by repeat (first|(with_reducible first|exact HB.out|apply below_alloc|apply pw_below_drewN|apply below_drew1)|exact HB.out)⟩⟩
        ·rw [if_neg c6] at H
         exact absurd H (by simp)
       ·rw [if_neg c5] at H
        exact absurd H (by simp)
      ·rw [if_neg c4] at H
       have c4b0:decide (x6_2 < x4_1) = false:=decide_eq_false c4
       clear c4
       by_cases c8:x3_1.length < 35184372088832
       ·rw [if_pos c8] at H
        have LMc8:=Aside0.mk c8
        clear c8
        obtain ⟨y292,hy292⟩:∃ y_:List Int,y_ = (x3_1 ++ [x5_2]):=⟨_,rfl⟩
        replace H:(garboardref01_From.l0 k2 a0 y292 (wrap64 (x4_1 - 9))) = some r:=by first|(rw [hy292];with_reducible exact H)|(have H2_:=(Option.bind_some _ _).symm.trans H;rw [hy292];with_reducible exact H2_)|(have H2_:=(Option.bind_some _ _).symm.trans H;with_reducible exact H2_)|with_reducible exact H|(rw [hy292];exact H)|exact H
        have Ny292:=Aside0.mk hy292
        clear hy292
        have H':=Aside0.mk H
        clear H
        go_wp2_with (first|((with_reducible refine gate_builtin (b:=.append) (xs:=#[.tmp 29,.tmp 31]) rfl ?_);at_builtin;refine Kd.R_append (Kd.int .u32) (w0:=w) w.heap.size rfl (.tmp 29) (.tmp 31) 45 64 (.int .u32 0) 4 rfl Tryd.underlying45 info64 rfl (by decide) (by omega) u3 x3_1 x5_2 [.int .u32 x5_2] (fun k_=>(w.heap.size≤k_)) (fun _=>False) rfl rfl ?aP (fun _ hk=>hk.elim) ?aF ?aO ?aB ?aS ?aL ?_;(case aP=>exact rfl);(case aB=>exact (by repeat (first|(with_reducible first|exact HB.out|apply below_alloc|apply pw_below_drewN|apply below_drew1)|exact HB.out)));(case aF=>exact (fun k_ hk=>(Nat.le_trans (below_size (by repeat (first|(with_reducible first|exact HB.out|apply below_alloc|apply pw_below_drewN|apply below_drew1)|exact HB.out))) hk)));(case aO=>exact (by (with_reducible repeat (first|apply Kd.R_alloc|apply Kd.R_drewN|apply Kd.R_drew));exact HO_3.out));(case aS=>exact (below_size (by repeat (first|(with_reducible first|exact HB.out|apply below_alloc|apply pw_below_drewN|apply below_drew1)|exact HB.out))));(case aL=>have:=LMc8.out;omega);intro v293 w9 ho hb hg hat;rw [← Ny292.out] at ho;have n0_:=Aside0.mk (hb);have n1_:=Aside0.mk (ho);clear HB;clear HO_3;have HB:=n0_;have HO294:=n1_;clear n0_ n1_;clear ho hb hg hat))
        go_roundg k2
        case measure=>have:=HK1.out;have:=HK2.out;omega
        case rel=>exact ⟨(y292),(wrap64 (x4_1 - 9)),(by first|rfl|(simp;done)|(simp [*];done)),H',⟨by have:=HK1.out;have:=HK2.out;omega⟩,⟨by (with_reducible repeat (first|apply Kd.R_alloc|apply Kd.R_drewN|apply Kd.R_drew));exact HO294.out⟩,⟨by repeat (first|(with_reducible first|exact HB.out|apply below_alloc|apply pw_below_drewN|apply below_drew1)|exact HB.out)⟩⟩
       ·rw [if_neg c8] at H
        exact absurd H (by simp)
   ·rw [if_neg c2] at H
    have c2b0:decide (0 < x4_1) = false:=decide_eq_false c2
    clear c2
    replace H:=Option.bind_eq_some_iff.mp H
    obtain ⟨t289,A100,H⟩:=H
    replace H:(some t289) = some r:=H
    have A10:=Aside0.mk A100
    clear A100
    obtain rfl:=Option.some.inj H
    obtain ⟨Ao11,co11,eo11⟩:=Kd.R_slice HO_3.out
    subst eo11
    go_wp2_with (first|((with_reducible refine gate_callee (f:=59) rfl ?_);refine goesL_ (some 34) rfl rfl Tryd.func59 (by kernel_rfl) rfl #[.slice Ao11 x3_1.length co11] rfl (by (try simp only [List.map_toArray,List.map_cons,List.map_nil]);first|done|rfl|(simp only [List.length_drop,List.length_take];rfl)) ?_;(with_reducible refine (garboardref01_trim.calls k1 (fun k_=>some k_ = (.slice Ao11 x3_1.length co11:Value).ownBlock) _ _ x3_1 t289 _ ?side1 A10.out).mono ?_);(case side1=>exact Kd.R_V (Kd.R_tight rfl (HO_3.out)));rintro e w12 ⟨v290,rfl,ho0,hb⟩;refine ⟨_,rfl,?_⟩;have n0_:=Aside0.mk (Kd.R_below (by (with_reducible repeat (first|apply Kd.R_alloc|apply Kd.R_drewN|apply Kd.R_drew));exact HO_3.out) hb);have n1_:=Aside0.mk (Kd.V_lower (Kd.V_mono (ok':=fun k_=>(w.heap.size≤k_)) ho0 (fun k_ hk_=>Or.elim hk_ (fun hs_=>((HO_3.out).1 k_ hs_.symm)) (fun hn_=>(Nat.le_trans (below_size (by repeat (first|(with_reducible first|exact HB.out|apply below_alloc|apply pw_below_drewN|apply below_drew1)|exact HB.out))) hn_)))) (below_size (by repeat (first|(with_reducible first|exact HB.out|apply below_alloc|apply pw_below_drewN|apply below_drew1)|exact HB.out))));have n2_:=Aside0.mk (below_step (by repeat (first|(with_reducible first|exact HB.out|apply below_alloc|apply pw_below_drewN|apply below_drew1)|exact HB.out)) hb);clear HO_3;clear HB;have HO_3:=n0_;have HO291:=n1_;have HB:=n2_;clear n0_ n1_ n2_;(try clear hb);(try clear hb2);(try clear hk);(try clear hi);(try clear ho0)))
    go_ret
    exact ⟨_,by first|rfl|(simp [errW_none,errW_some]<;>rfl)|(simp [*,errW_none,errW_some]<;>rfl),by (with_reducible repeat (first|apply Kd.V_alloc|apply Kd.V_drewN|apply Kd.V_drew));exact HO291.out,by repeat (first|(with_reducible first|exact HB.out|apply below_alloc|apply pw_below_drewN|apply below_drew1)|exact HB.out)⟩
end Go.Proofs.YtaopmkcghancmaaDoor.Pr
set_option linter.unusedVariables false
set_option linter.unusedSimpArgs false
namespace Go.Proofs.YtaopmkcghancmaaDoor.Pr
open Go.RowKit Go.Proofs.YtaopmkcghancmaaDoorW.PrintWords Go.Proofs.YtaopmkcghancmaaDoorW.PrintLast Go.Proofs.YtaopmkcghancmaaDoorW.PrintMore Go.Proofs.YtaopmkcghancmaaDoor.NatTh
theorem rvalid_loop (s:ByteArray) (hs:s.size < 1152921504606846976):∀ (m n:Nat),n + m = s.size→∀ k,garboardref01_Valid.l0 (k + 1 + m) s n = some (((bs s).drop n).all dgB && (!(bs s).isEmpty && (decide ((bs s).length≤1) || (bs s).head? != some 48))):=by
 have hl:=bs_length s
 intro m
 induction m with
 | zero =>
  intro n hn k
  show garboardref01_Valid.l0 (k + 1) s n = _
  unfold garboardref01_Valid.l0
  rw [if_neg (by omega),List.drop_of_length_le (by rw [bs_length];omega)]
  by_cases h1:(s.size:Int) = 1
  ·rw [if_pos h1,decide_eq_true (by omega)]
   have e1:(bs s).isEmpty = false:=by
    rw [List.isEmpty_eq_false_iff,← List.length_pos_iff]
    omega
   rw [e1]
   rfl
  ·rw [if_neg h1]
   by_cases h2:(s.size:Int) > 1
   ·have e1:(bs s).isEmpty = false:=by
     rw [List.isEmpty_eq_false_iff,← List.length_pos_iff]
     omega
    rw [if_pos h2,if_pos (by omega),show (0:Int) = ((0:Nat):Int) from rfl,bt_get s 0 (by omega),e1,decide_eq_false (by omega)]
    have e2:(bs s).head? = some ((bs s).getD 0 0):=by
     rw [List.head?_eq_getElem?,List.getD_eq_getElem?_getD,List.getElem?_eq_getElem (by omega)]
     rfl
    rw [e2]
    by_cases h3:(bs s).getD 0 0 = 48
    ·rw [h3]
     rfl
    ·rw [show ((((bs s).getD 0 0).toNat:Int) != 48) = true by
      rw [bne_iff_ne]
      intro h4
      exact h3 (UInt8.toNat.inj (by have:(48:UInt8).toNat = 48:=rfl;omega))]
     rw [show (some ((bs s).getD 0 0) != some 48) = true by rw [bne_iff_ne];intro h4;exact h3 (Option.some.inj h4)]
     rfl
   ·have e1:bs s = []:=List.eq_nil_of_length_eq_zero (by omega)
    rw [if_neg h2,e1]
    rfl
 | succ m ih =>
  intro n hn k
  have h1:=ih (n + 1) (by omega) k
  rw [all_drop _ n (by rw [bs_length];omega)]
  rw [show k + 1 + (m + 1) = k + 1 + m + 1 by omega]
  unfold garboardref01_Valid.l0
  rw [if_pos (by omega),if_pos (by omega),bt_get s n (by omega),wi1 n (by omega),h1]
  have e3:dgB ((bs s).getD n 0) = (decide (48≤((bs s).getD n 0).toNat) && decide (((bs s).getD n 0).toNat≤57)):=rfl
  rw [e3]
  by_cases h2:(((bs s).getD n 0).toNat:Int) < 48
  ·rw [if_pos h2,decide_eq_false (p:=48≤((bs s).getD n 0).toNat) (by omega)]
   rfl
  ·rw [if_neg h2,decide_eq_true (p:=48≤((bs s).getD n 0).toNat) (by omega)]
   by_cases h3:(((bs s).getD n 0).toNat:Int) > 57
   ·rw [if_pos h3,decide_eq_false (p:=((bs s).getD n 0).toNat≤57) (by omega)]
    rfl
   ·rw [if_neg h3,decide_eq_true (p:=((bs s).getD n 0).toNat≤57) (by omega)]
    rfl
theorem rValid_ev (s:ByteArray) (hs:s.size < 1152921504606846976):Ev (fun k=>garboardref01_Valid.f k s) (nv s):=by
 refine ⟨s.size + 1,fun k hk=>?_⟩
 obtain ⟨k,rfl⟩:∃ j,k = j + 1 + s.size:=⟨k - 1 - s.size,by omega⟩
 simp only [garboardref01_Valid.f,nv]
 rw [show (0:Int) = ((0:Nat):Int) from rfl,rvalid_loop s hs s.size 0 (by omega) k,List.drop_zero,Bool.and_assoc]
end Go.Proofs.YtaopmkcghancmaaDoor.Pr
set_option linter.unusedVariables false
set_option linter.unusedSimpArgs false
namespace Go.Proofs.YtaopmkcghancmaaDoor.Pr
open Go.RowKit Go.Proofs.YtaopmkcghancmaaDoorW.PrintWords Go.Proofs.YtaopmkcghancmaaDoorW.PrintLast Go.Proofs.YtaopmkcghancmaaDoorW.PrintMore Go.Proofs.YtaopmkcghancmaaDoor.NatTh
theorem take_drop_snoc (l:List UInt8) (a i:Nat) (ha:a≤i) (hi:i < l.length):(l.take (i + 1)).drop a = (l.take i).drop a ++ [l.getD i 0]:=by
 rw [List.take_succ_eq_append_getElem hi,List.drop_append_of_le_length (by rw [List.length_take];omega),List.getD_eq_getElem?_getD,List.getElem?_eq_getElem hi]
 rfl
theorem from_inner (s:ByteArray) (hd:∀ c ∈ bs s,isDig c) (e a:Nat) (out:List Int) (he:e≤s.size) (hs:s.size < 1152921504606846976) (hae:e≤a + 9) (hae2:a≤e):∀ (m i:Nat),i + m = e→a≤i→∀ k,garboardref01_From.l1 (k + m) s out e (pv (((bs s).take i).drop a):Int) i = garboardref01_From.l1 k s out e (pv (((bs s).take e).drop a):Int) e:=by
 intro m
 induction m with
 | zero =>
  intro i hi hai k
  obtain rfl:i = e:=by omega
  rfl
 | succ m ih =>
  intro i hi hai k
  have hl:=bs_length s
  have h1:=ih (i + 1) (by omega) (by omega) k
  have hlt:=pv_lt (((bs s).take i).drop a) (fun c hc=>hd c (List.mem_of_mem_take (List.mem_of_mem_drop hc)))
  have hp8:10 ^ (((bs s).take i).drop a).length≤10 ^ 8:=Nat.pow_le_pow_right (by omega) (by rw [List.length_drop,List.length_take];omega)
  have hc:=hd ((bs s).getD i 0) (by
   rw [List.getD_eq_getElem?_getD,List.getElem?_eq_getElem (by omega)]
   exact List.getElem_mem _)
  unfold isDig at hc
  rw [← h1,take_drop_snoc _ _ _ hai (by omega),pv_snoc]
  generalize pv (((bs s).take i).drop a) = p at hlt ⊢
  rw [show k + (m + 1) = k + m + 1 by omega]
  conv=>lhs;unfold garboardref01_From.l1
  rw [if_pos (by omega),if_pos (by omega),if_pos (by omega),bt_get s i (by omega),wi1 i (by omega)]
  rw [Int.emod_eq_of_lt (a:=10 * (p:Int)) (by omega) (by omega),Int.emod_eq_of_lt (b:=256) (by omega) (by omega),Int.emod_eq_of_lt (b:=4294967296) (by omega) (by omega)]
  congr 1
  omega
theorem from_end (s:ByteArray) (out:List Int) (e:Int) (he:e≤0) (k:Nat):garboardref01_From.l0 (k + 1) s out e = (garboardref01_trim.f k out).bind fun t=>some t:=by
 unfold garboardref01_From.l0
 rw [if_neg (by omega)]
theorem from_loop (s:ByteArray) (hd:∀ c ∈ bs s,isDig c) (hs:s.size < 1099511627776) (n:Nat):∀ (e:Nat),e = n→e≤s.size→∀ (out:List Int),out.length + e < 35184372088832 →
  ∃ c,∀ k,garboardref01_From.l0 (k + c) s out e = (garboardref01_trim.f k (out ++ words ((bs s).take e))).bind fun t=>some t:=by
 induction n using Nat.strongRecOn with
 | ind n ih =>
  intro e he hes out ho
  have hl:=bs_length s
  by_cases h0:e = 0
  ·subst h0
   refine ⟨1,fun k=>?_⟩
   rw [List.take_zero,words_nil,List.append_nil]
   exact from_end s out 0 (by omega) k
  ·have hte:((bs s).take e).length = e:=by rw [List.length_take];omega
   have hne:(bs s).take e≠[]:=by
    intro hh
    rw [hh] at hte
    simp at hte
    omega
   have hw:words ((bs s).take e) = (pv (((bs s).take e).drop (e - 9)):Int) :: words ((bs s).take (e - 9)):=by
    rw [words,dif_neg hne,hte,List.take_take,Nat.min_eq_left (by omega)]
   have hat:mx 0 (wrap64 ((e:Int) - 9)) = ((e - 9:Nat):Int):=by
    rw [w64 (by omega) (by omega)]
    unfold mx
    split<;>omega
   have hin:=fun k=>from_inner s hd e (e - 9) out hes (by omega) (by omega) (by omega) (e - (e - 9)) (e - 9) (by omega) (by omega) k
   have hz:((bs s).take (e - 9)).drop (e - 9) = []:=by rw [List.drop_of_length_le (by rw [List.length_take];omega)]
   rw [hz] at hin
   have hout:out.length < 35184372088832:=by omega
   obtain ⟨c,hc⟩:∃ c,∀ k,garboardref01_From.l0 (k + c) s (out ++ [(pv (((bs s).take e).drop (e - 9)):Int)]) (wrap64 ((e:Int) - 9)) = (garboardref01_trim.f k (out ++ words ((bs s).take e))).bind fun t=>some t:=by
    rw [w64 (by omega) (by omega),hw]
    by_cases h9:e≤9
    ·refine ⟨1,fun k=>?_⟩
     rw [show e - 9 = 0 by omega,List.take_zero,words_nil]
     exact from_end s _ _ (by omega) k
    ·obtain ⟨c,hc⟩:=ih (e - 9) (by omega) (e - 9) rfl (by omega) (out ++ [(pv (((bs s).take e).drop (e - 9)):Int)]) (by rw [List.length_append];simp;omega)
     refine ⟨c,fun k=>?_⟩
     have h2:=hc k
     rw [List.append_assoc,List.singleton_append] at h2
     rw [show (e:Int) - 9 = ((e - 9:Nat):Int) by omega]
     exact h2
   refine ⟨c + 1 + (e - (e - 9)) + 1,fun k=>?_⟩
   rw [← hc k]
   have h3:=hin (k + c + 1)
   rw [show k + (c + 1 + (e - (e - 9)) + 1) = k + c + 1 + (e - (e - 9)) + 1 by omega]
   conv=>lhs;unfold garboardref01_From.l0
   rw [if_pos (by omega),hat]
   refine Eq.trans h3 ?_
   conv=>lhs;unfold garboardref01_From.l1
   rw [if_neg (by omega),if_pos hout]
theorem From_ev (s:ByteArray) (hs:s.size < 1099511627776) (h:nv s = true):Ev (fun k=>garboardref01_From.f k s) (numOf (nat s)):=by
 have hn:=(nv_iff s).1 h
 have hl:=bs_length s
 have hw:=words_len _ (bs s) rfl
 have h1:=words_spec _ (bs s) rfl hn.1
 obtain ⟨c,hc⟩:=from_loop s hn.1 hs s.size s.size rfl (Nat.le_refl _) [] (by simp;omega)
 rw [List.take_of_length_le (by omega),List.nil_append] at hc
 have ht:=rtrim_ev (l:=words (bs s)) (by omega)
 rw [trim_numOf (n:=nat s) h1.1 h1.2] at ht
 obtain ⟨K,hK⟩:=ht
 refine ⟨K + c,fun k hk=>?_⟩
 obtain ⟨j,rfl⟩:∃ j,k = j + c:=⟨k - c,by omega⟩
 have h2:=hK j (by omega)
 dsimp only at h2
 simp only [garboardref01_From.f]
 rw [hc j,h2]
 rfl
end Go.Proofs.YtaopmkcghancmaaDoor.Pr
namespace Go.Proofs.YtaopmkcghancmaaDoor.Pr
open Go.RowKit Go.Proofs.YtaopmkcghancmaaDoorW.PrintWords Go.Proofs.YtaopmkcghancmaaDoorW.PrintLast Go.Proofs.YtaopmkcghancmaaDoorW.PrintMore
attribute [local go_sem] max2_int min2_int max_two min_two max_three min_three max_four min_four
set_option linter.unusedVariables false
set_option linter.unusedSimpArgs false
mutual
def garboardref01_To.l0:Nat→List Int→List Int→Int→Option (ByteArray)
 | 0,_,_,_=>none
 | k + 1,x0,x3,x4=>if x4 < (x0.length:Int) then (if 0≤x4 then (garboardref01_To.l1 k x0 x3 x4 (rd x0 x4) 0) else (none)) else (garboardref01_To.l2 k x3 0 (wrap64 ((x3.length:Int) - 1)))
def garboardref01_To.l1:Nat→List Int→List Int→Int→Int→Int→Option (ByteArray)
 | 0,_,_,_,_,_=>none
 | k + 1,x0,x3,x4,x5,x6=>if x6 < 9 then (if (wrap64 (x4 + 1)) < (x0.length:Int) then (if x3.length < 140737488355328 then (garboardref01_To.l1 k x0 (x3 ++ [((48 + (Int.tmod x5 10)) % 4294967296) % 256]) x4 ((Int.tdiv x5 10) % 4294967296) (wrap64 (x6 + 1))) else (none)) else (if x5 > 0 then (if x3.length < 140737488355328 then (garboardref01_To.l1 k x0 (x3 ++ [((48 + (Int.tmod x5 10)) % 4294967296) % 256]) x4 ((Int.tdiv x5 10) % 4294967296) (wrap64 (x6 + 1))) else (none)) else (garboardref01_To.l0 k x0 x3 (wrap64 (x4 + 1))))) else (garboardref01_To.l0 k x0 x3 (wrap64 (x4 + 1)))
def garboardref01_To.l2:Nat→List Int→Int→Int→Option (ByteArray)
 | 0,_,_,_=>none
 | k + 1,x3,x7,x8=>if x7 < x8 then (if 0≤x8 then (if x8 < (x3.length:Int) then (if 0≤x7 then (if x7 < (x3.length:Int) then (garboardref01_To.l2 k ((x3.set (x7:Int).toNat (rd x3 x8)).set (x8:Int).toNat (rd x3 x7)) (wrap64 (x7 + 1)) (wrap64 (x8 - 1))) else (none)) else (none)) else (none)) else (none)) else (some (strOfNums x3))
end
def garboardref01_To.f (k:Nat) (l0:List Int):Option (ByteArray):=if (l0.length:Int) = 0 then (some (⟨#[48]⟩:ByteArray)) else (garboardref01_To.l0 k l0 ([]:List Int) 0)
def garboardref01_To.T16:Bool × List (List Nat × List Nat):=(true,[([],[]),([],[]),([],[]),([],[]),([],[]),([],[]),([4,5],[4,5]),([6],[6]),([],[]),([],[]),([8,9],[8,9]),([10],[10]),([0,1,0,1,4,5,6,7,11],[0,1]),([12,7,0,1,4,5,6,7,11],[7,12]),([2,3,0,1,2,3,4,5,6,7,8,9,10,11,12,13],[2,3]),([14,11,13,0,1,2,3,4,5,6,7,8,9,10,11,12,13],[11,14])])
def garboardref01_To.B16:List Nat:=[0,0,0,0,0,0,48,112,0,0,768,1792,4083,8179,16383,32767]
theorem garboardref01_To.tab16:rtab .any (opsOf Tryd.f39 16) = garboardref01_To.T16:=by kernel_rfl
theorem garboardref01_To.bits16:waitsOk garboardref01_To.T16.2 garboardref01_To.B16 = true:=by kernel_rfl
set_option maxHeartbeats 8000000 in
set_option maxRecDepth 100000 in
theorem garboardref01_To.calls (k:Nat) (A0:Option Addr) (c0:Nat) (l0:List Int) (r:ByteArray) (w:World) (hr0:Kd.C (Kd.int .u32) w A0 l0.length l0) (hc0:l0.length≤c0) (h:garboardref01_To.f k l0 = some r) :
  Calls Tryd.prog 39 #[.slice A0 l0.length c0] w fun e w'=>e = .returned (.string r)∧Below w.heap.size w w':=by
 have HR0:=Aside0.mk hr0
 have HC0:=Aside0.mk hc0
 clear hr0 hc0
 have HB:=Aside0.mk (Below.refl w.heap.size w)
 have H:(if (l0.length:Int) = 0 then (some (⟨#[48]⟩:ByteArray)) else (garboardref01_To.l0 k l0 ([]:List Int) 0)) = some r:=h
 clear h
 by_cases c2:(l0.length:Int) = 0
 ·rw [if_pos c2] at H
  have c2b0:((l0.length:Int) == 0) = true:=beq_iff_eq.mpr c2
  have c2b1:((l0.length:Int) != 0) = false:=bne_eq_false_iff_eq.mpr c2
  clear c2
  obtain rfl:=Option.some.inj H
  go_enter Tryd.func39,Tryd.ntmps39
  go_wp2
  go_ret
  exact ⟨by first|rfl|(simp [errW_none,errW_some]<;>rfl)|(simp [*,errW_none,errW_some]<;>rfl),by repeat (first|(with_reducible first|exact HB.out|apply below_alloc|apply pw_below_drewN|apply below_drew1)|exact HB.out)⟩
 ·rw [if_neg c2] at H
  have c2b0:((l0.length:Int) == 0) = false:=beq_eq_false_iff_ne.mpr c2
  have c2b1:((l0.length:Int) != 0) = true:=bne_iff_ne.mpr c2
  have c2b2:¬ (l0 = []):=fun h_=>c2 (by rw [h_];rfl)
  have H':=Aside0.mk H
  clear H
  go_enter Tryd.func39,Tryd.ntmps39
  go_wp2
  go_loopg [3,4] k (fun kq v3 v4 w'=>∃ (x3_1:List Int) (x4_1:Int),v4 = .int .i64 x4_1∧Aside0 (garboardref01_To.l0 kq l0 x3_1 x4_1 = some r)∧Aside0 (kq≤k)∧Aside0 (Kd.R (Kd.int .u8) 5 w' w.heap.size (fun _=>True) v3 x3_1)∧Aside0 (Below w.heap.size w w'))
  case atStart=>exact ⟨(([]:List Int)),(0),(by first|rfl|(simp;done)|(simp [*];done)),H',⟨Nat.le_refl _⟩,⟨by first|exact Kd.R_nil _ _ _ _ _|exact Kd.N_nil _ _ _ _ _|exact Kd.V_nil _ _ _ _ _|exact Kd.Q_nil _ _ _ _ _|exact Kd.S_nil _ _ _ _ _⟩,⟨by repeat (first|(with_reducible first|exact HB.out|apply below_alloc|apply pw_below_drewN|apply below_drew1)|exact HB.out)⟩⟩
  case round =>
   clear H'
   try clear c2
   try clear c2b0
   try clear c2b1
   try clear c2b2
   try clear p2
   obtain ⟨x3_1,x4_1,rfl,HA,HK1,HO_3,HB⟩:=hrel
   cases gk with
   | zero=>exact absurd HA.out (by simp [garboardref01_To.l0])
   | succ k1 =>
    have H:=HA.out
    clear HA
    simp only [garboardref01_To.l0] at H
    by_cases c3:x4_1 < (l0.length:Int)
    ·rw [if_pos c3] at H
     have c3b0:decide (x4_1 < (l0.length:Int)) = true:=decide_eq_true c3
     clear c3
     by_cases c4:0≤x4_1
     ·rw [if_pos c4] at H
      have c4b0:decide (0≤x4_1) = true:=decide_eq_true c4
      clear c4
      have H':=Aside0.mk H
      clear H
      have p327:0≤(x4_1:Int):=of_decide_eq_true (by first|(with_reducible assumption)|assumption)
      have q327:x4_1 < (l0.length:Int):=of_decide_eq_true (by first|(with_reducible assumption)|assumption)
      obtain ⟨ad327,e327,hx327_0⟩:=Kd.at_int HR0.out x4_1 p327 q327
      cases e327
      replace hx327_0:=(HB.out.cell (World.block_lt_of_cell? w _ hx327_0)).trans hx327_0
      replace p327:=eq_true p327
      replace q327:=eq_true q327
      go_wp2
      go_loopg [3,5,6] k1 (fun kq v3 v5 v6 w'=>∃ (x3_2:List Int) (x5_2:Int) (x6_2:Int),v5 = .int .u32 x5_2∧v6 = .int .i64 x6_2∧Aside0 (garboardref01_To.l1 kq l0 x3_2 x4_1 x5_2 x6_2 = some r)∧Aside0 (kq≤k1)∧Aside0 (Kd.R (Kd.int .u8) 5 w' w.heap.size (fun _=>True) v3 x3_2)∧Aside0 (Below w.heap.size w w'))
      case atStart=>exact ⟨(x3_1),(rd l0 x4_1),(0),(by first|rfl|(simp;done)|(simp [*];done)),(by first|rfl|(simp;done)|(simp [*];done)),H',⟨Nat.le_refl _⟩,⟨by (with_reducible repeat (first|apply Kd.R_alloc|apply Kd.R_drewN|apply Kd.R_drew));exact HO_3.out⟩,⟨by repeat (first|(with_reducible first|exact HB.out|apply below_alloc|apply pw_below_drewN|apply below_drew1)|exact HB.out)⟩⟩
      case round =>
       clear H'
       try clear c2
       try clear c2b0
       try clear c2b1
       try clear c2b2
       try clear p2
       try clear c3
       try clear c3b0
       try clear p3
       try clear q3
       try clear hx3
       try clear c4
       try clear c4b0
       try clear hx327_0
       try clear p2
       try clear p327
       try clear q327
       obtain ⟨x3_2,x5_2,x6_2,rfl,rfl,HA,HK2,HO_3,HB⟩:=hrel
       cases gk with
       | zero=>exact absurd HA.out (by simp [garboardref01_To.l1])
       | succ k2 =>
        have H:=HA.out
        clear HA
        simp only [garboardref01_To.l1] at H
        by_cases c5:x6_2 < 9
        ·rw [if_pos c5] at H
         have c5b0:decide (x6_2 < 9) = true:=decide_eq_true c5
         clear c5
         by_cases c6:(wrap64 (x4_1 + 1)) < (l0.length:Int)
         ·rw [if_pos c6] at H
          have c6b0:decide ((wrap64 (x4_1 + 1)) < (l0.length:Int)) = true:=decide_eq_true c6
          clear c6
          by_cases c7:x3_2.length < 140737488355328
          ·rw [if_pos c7] at H
           have LMc7:=Aside0.mk c7
           clear c7
           obtain ⟨y328,hy328⟩:∃ y_:List Int,y_ = (x3_2 ++ [((48 + (Int.tmod x5_2 10)) % 4294967296) % 256]):=⟨_,rfl⟩
           replace H:(garboardref01_To.l1 k2 l0 y328 x4_1 ((Int.tdiv x5_2 10) % 4294967296) (wrap64 (x6_2 + 1))) = some r:=by first|(rw [hy328];with_reducible exact H)|(have H2_:=(Option.bind_some _ _).symm.trans H;rw [hy328];with_reducible exact H2_)|(have H2_:=(Option.bind_some _ _).symm.trans H;with_reducible exact H2_)|with_reducible exact H|(rw [hy328];exact H)|exact H
           have Ny328:=(Aside0.mk (hy328.trans (by rw [Int.emod_emod_of_dvd _ (by decide:(256:Int) ∣ 4294967296)])):Aside0 (y328 = x3_2 ++ [(48 + Int.tmod x5_2 10) % 256]))
           clear hy328
           have H':=Aside0.mk H
           clear H
           go_wp2_with (first|((with_reducible refine gate_builtin (b:=.append) (xs:=#[.tmp 37,.tmp 42]) rfl ?_);(try (refine gate_guard (by rfl) ?_;dsimp only));at_builtin;refine Kd.R_append (Kd.int .u8) (w0:=w) w.heap.size rfl (.tmp 37) (.tmp 42) 69 5 (.int .u8 0) 1 rfl Tryd.underlying69 info5 rfl (by decide) (by omega) u3 x3_2 ((48 + Int.tmod x5_2 10) % 256) [.int .u8 ((48 + Int.tmod x5_2 10) % 256)] (fun _=>True) (fun _=>False) rfl rfl ?aP (fun _ hk=>hk.elim) ?aF ?aO ?aB ?aS ?aL ?_;(case aP=>exact rfl);(case aB=>exact (by repeat (first|(with_reducible first|exact HB.out|apply below_alloc|apply pw_below_drewN|apply below_drew1)|exact HB.out)));(case aF=>exact (fun _ _=>trivial));(case aO=>exact (by (with_reducible repeat (first|apply Kd.R_alloc|apply Kd.R_drewN|apply Kd.R_drew));exact HO_3.out));(case aS=>exact (below_size (by repeat (first|(with_reducible first|exact HB.out|apply below_alloc|apply pw_below_drewN|apply below_drew1)|exact HB.out))));(case aL=>have:=LMc7.out;omega);intro v329 w8 ho hb hg hat;rw [← Ny328.out] at ho;have n0_:=Aside0.mk (hb);have n1_:=Aside0.mk (ho);clear HB;clear HO_3;have HB:=n0_;have HO330:=n1_;clear n0_ n1_;clear ho hb hg hat))
           go_roundg k2
           case measure=>have:=HK1.out;have:=HK2.out;omega
           case rel=>exact ⟨(y328),((Int.tdiv x5_2 10) % 4294967296),(wrap64 (x6_2 + 1)),(by first|rfl|(simp;done)|(simp [*];done)),(by first|rfl|(simp;done)|(simp [*];done)),H',⟨by have:=HK1.out;have:=HK2.out;omega⟩,⟨by (with_reducible repeat (first|apply Kd.R_alloc|apply Kd.R_drewN|apply Kd.R_drew));exact HO330.out⟩,⟨by repeat (first|(with_reducible first|exact HB.out|apply below_alloc|apply pw_below_drewN|apply below_drew1)|exact HB.out)⟩⟩
          ·rw [if_neg c7] at H
           exact absurd H (by simp)
         ·rw [if_neg c6] at H
          have c6b0:decide ((wrap64 (x4_1 + 1)) < (l0.length:Int)) = false:=decide_eq_false c6
          clear c6
          by_cases c9:x5_2 > 0
          ·rw [if_pos c9] at H
           have c9b0:decide (0 < x5_2) = true:=decide_eq_true c9
           clear c9
           by_cases c10:x3_2.length < 140737488355328
           ·rw [if_pos c10] at H
            have LMc10:=Aside0.mk c10
            clear c10
            obtain ⟨y331,hy331⟩:∃ y_:List Int,y_ = (x3_2 ++ [((48 + (Int.tmod x5_2 10)) % 4294967296) % 256]):=⟨_,rfl⟩
            replace H:(garboardref01_To.l1 k2 l0 y331 x4_1 ((Int.tdiv x5_2 10) % 4294967296) (wrap64 (x6_2 + 1))) = some r:=by first|(rw [hy331];with_reducible exact H)|(have H2_:=(Option.bind_some _ _).symm.trans H;rw [hy331];with_reducible exact H2_)|(have H2_:=(Option.bind_some _ _).symm.trans H;with_reducible exact H2_)|with_reducible exact H|(rw [hy331];exact H)|exact H
            have Ny331:=(Aside0.mk (hy331.trans (by rw [Int.emod_emod_of_dvd _ (by decide:(256:Int) ∣ 4294967296)])):Aside0 (y331 = x3_2 ++ [(48 + Int.tmod x5_2 10) % 256]))
            clear hy331
            have H':=Aside0.mk H
            clear H
            go_wp2_with (first|((with_reducible refine gate_builtin (b:=.append) (xs:=#[.tmp 37,.tmp 42]) rfl ?_);(try (refine gate_guard (by rfl) ?_;dsimp only));at_builtin;refine Kd.R_append (Kd.int .u8) (w0:=w) w.heap.size rfl (.tmp 37) (.tmp 42) 69 5 (.int .u8 0) 1 rfl Tryd.underlying69 info5 rfl (by decide) (by omega) u3 x3_2 ((48 + Int.tmod x5_2 10) % 256) [.int .u8 ((48 + Int.tmod x5_2 10) % 256)] (fun _=>True) (fun _=>False) rfl rfl ?aP (fun _ hk=>hk.elim) ?aF ?aO ?aB ?aS ?aL ?_;(case aP=>exact rfl);(case aB=>exact (by repeat (first|(with_reducible first|exact HB.out|apply below_alloc|apply pw_below_drewN|apply below_drew1)|exact HB.out)));(case aF=>exact (fun _ _=>trivial));(case aO=>exact (by (with_reducible repeat (first|apply Kd.R_alloc|apply Kd.R_drewN|apply Kd.R_drew));exact HO_3.out));(case aS=>exact (below_size (by repeat (first|(with_reducible first|exact HB.out|apply below_alloc|apply pw_below_drewN|apply below_drew1)|exact HB.out))));(case aL=>have:=LMc10.out;omega);intro v332 w11 ho hb hg hat;rw [← Ny331.out] at ho;have n0_:=Aside0.mk (hb);have n1_:=Aside0.mk (ho);clear HB;clear HO_3;have HB:=n0_;have HO333:=n1_;clear n0_ n1_;clear ho hb hg hat))
            go_roundg k2
            case measure=>have:=HK1.out;have:=HK2.out;omega
            case rel=>exact ⟨(y331),((Int.tdiv x5_2 10) % 4294967296),(wrap64 (x6_2 + 1)),(by first|rfl|(simp;done)|(simp [*];done)),(by first|rfl|(simp;done)|(simp [*];done)),H',⟨by have:=HK1.out;have:=HK2.out;omega⟩,⟨by (with_reducible repeat (first|apply Kd.R_alloc|apply Kd.R_drewN|apply Kd.R_drew));exact HO333.out⟩,⟨by repeat (first|(with_reducible first|exact HB.out|apply below_alloc|apply pw_below_drewN|apply below_drew1)|exact HB.out)⟩⟩
           ·rw [if_neg c10] at H
            exact absurd H (by simp)
          ·rw [if_neg c9] at H
           have c9b0:decide (0 < x5_2) = false:=decide_eq_false c9
           clear c9
           have H':=Aside0.mk H
           clear H
           go_wp2
           go_roundg k2
           case measure=>have:=HK1.out;have:=HK2.out;omega
           case rel=>exact ⟨(x3_2),(wrap64 (x4_1 + 1)),(by first|rfl|(simp;done)|(simp [*];done)),H',⟨by have:=HK1.out;have:=HK2.out;omega⟩,⟨by (with_reducible repeat (first|apply Kd.R_alloc|apply Kd.R_drewN|apply Kd.R_drew));exact HO_3.out⟩,⟨by repeat (first|(with_reducible first|exact HB.out|apply below_alloc|apply pw_below_drewN|apply below_drew1)|exact HB.out)⟩⟩
        ·rw [if_neg c5] at H
         have c5b0:decide (x6_2 < 9) = false:=decide_eq_false c5
         clear c5
         have H':=Aside0.mk H
         clear H
         go_wp2
         go_roundg k2
         case measure=>have:=HK1.out;have:=HK2.out;omega
         case rel=>exact ⟨(x3_2),(wrap64 (x4_1 + 1)),(by first|rfl|(simp;done)|(simp [*];done)),H',⟨by have:=HK1.out;have:=HK2.out;omega⟩,⟨by (with_reducible repeat (first|apply Kd.R_alloc|apply Kd.R_drewN|apply Kd.R_drew));exact HO_3.out⟩,⟨by repeat (first|(with_reducible first|exact HB.out|apply below_alloc|apply pw_below_drewN|apply below_drew1)|exact HB.out)⟩⟩
     ·rw [if_neg c4] at H
      exact absurd H (by simp)
    ·rw [if_neg c3] at H
     have c3b0:decide (x4_1 < (l0.length:Int)) = false:=decide_eq_false c3
     clear c3
     have H':=Aside0.mk H
     clear H
     obtain ⟨Ao12,co12,eo12⟩:=Kd.R_slice HO_3.out
     subst eo12
     go_wp2
     go_loopg [7,8] k1 (fun kq v7 v8 w'=>∃ (x3_2:List Int) (x7_2:Int) (x8_2:Int),v7 = .int .i64 x7_2∧v8 = .int .i64 x8_2∧Aside0 (garboardref01_To.l2 kq x3_2 x7_2 x8_2 = some r)∧Aside0 (kq≤k1)∧Aside0 (Kd.R (Kd.int .u8) 5 w' w.heap.size (fun _=>True) (.slice Ao12 x3_1.length co12) x3_2)∧Aside0 (Below w.heap.size w w'))
     case atStart=>exact ⟨(x3_1),(0),(wrap64 ((x3_1.length:Int) - 1)),(by first|rfl|(simp;done)|(simp [*];done)),(by first|rfl|(simp;done)|(simp [*];done)),H',⟨Nat.le_refl _⟩,⟨by (with_reducible repeat (first|apply Kd.R_alloc|apply Kd.R_drewN|apply Kd.R_drew));exact HO_3.out⟩,⟨by repeat (first|(with_reducible first|exact HB.out|apply below_alloc|apply pw_below_drewN|apply below_drew1)|exact HB.out)⟩⟩
     case round =>
      clear H'
      try clear c1
      try clear c2
      try clear c2b0
      try clear c2b1
      try clear c2b2
      try clear p2
      try clear c3
      try clear c3b0
      try clear p3
      try clear q3
      try clear hx3
      try clear c4
      try clear c4b0
      try clear c5
      try clear c5b0
      try clear c6
      try clear c6b0
      try clear p6
      try clear c7
      try clear c9
      try clear c9b0
      try clear c10
      try clear hx327_0
      try clear p2
      try clear p3
      try clear p327
      try clear q3
      try clear q327
      obtain ⟨x3_2,x7_2,x8_2,rfl,rfl,HA,HK2,HO_3,HB⟩:=hrel
      have hl3_2:=(Kd.R_reads' HO_3.out).1
      rw [hl3_2] at HO_3
      (try simp only [hl3_2])
      cases gk with
      | zero=>exact absurd HA.out (by simp [garboardref01_To.l2])
      | succ k2 =>
       have H:=HA.out
       clear HA
       simp only [garboardref01_To.l2] at H
       by_cases c13:x7_2 < x8_2
       ·rw [if_pos c13] at H
        have c13b0:decide (x7_2 < x8_2) = true:=decide_eq_true c13
        clear c13
        by_cases c14:0≤x8_2
        ·rw [if_pos c14] at H
         have c14b0:decide (0≤x8_2) = true:=decide_eq_true c14
         clear c14
         by_cases c15:x8_2 < (x3_2.length:Int)
         ·rw [if_pos c15] at H
          have c15b0:decide (x8_2 < (x3_2.length:Int)) = true:=decide_eq_true c15
          clear c15
          by_cases c16:0≤x7_2
          ·rw [if_pos c16] at H
           have c16b0:decide (0≤x7_2) = true:=decide_eq_true c16
           clear c16
           by_cases c17:x7_2 < (x3_2.length:Int)
           ·rw [if_pos c17] at H
            have c17b0:decide (x7_2 < (x3_2.length:Int)) = true:=decide_eq_true c17
            clear c17
            obtain ⟨y336,hy336⟩:∃ y_:List Int,y_ = (x3_2.set (x7_2:Int).toNat (rd x3_2 x8_2)):=⟨_,rfl⟩
            replace H:(garboardref01_To.l2 k2 (y336.set (x8_2:Int).toNat (rd x3_2 x7_2)) (wrap64 (x7_2 + 1)) (wrap64 (x8_2 - 1))) = some r:=by first|(rw [hy336];with_reducible exact H)|(have H2_:=(Option.bind_some _ _).symm.trans H;rw [hy336];with_reducible exact H2_)|(have H2_:=(Option.bind_some _ _).symm.trans H;with_reducible exact H2_)|with_reducible exact H|(rw [hy336];exact H)|exact H
            have Ny336:=Aside0.mk hy336
            clear hy336
            obtain ⟨y337,hy337⟩:∃ y_:List Int,y_ = (y336.set (x8_2:Int).toNat (rd x3_2 x7_2)):=⟨_,rfl⟩
            replace H:(garboardref01_To.l2 k2 y337 (wrap64 (x7_2 + 1)) (wrap64 (x8_2 - 1))) = some r:=by first|(rw [hy337];with_reducible exact H)|(have H2_:=(Option.bind_some _ _).symm.trans H;rw [hy337];with_reducible exact H2_)|(have H2_:=(Option.bind_some _ _).symm.trans H;with_reducible exact H2_)|with_reducible exact H|(rw [hy337];exact H)|exact H
            have Ny337:=Aside0.mk hy337
            clear hy337
            have H':=Aside0.mk H
            clear H
            try go_wp2
            have n0_:=Aside0.mk (Kd.R_drew HO_3.out)
            have n1_:=Aside0.mk (below_drew1 HB.out)
            clear HO_3
            clear HB
            have HO_3:=n0_
            have HB:=n1_
            clear n0_ n1_
            have p334:0≤(x8_2:Int):=of_decide_eq_true (by first|(with_reducible assumption)|assumption)
            have q334:x8_2 < (x3_2.length:Int):=of_decide_eq_true (by first|(with_reducible assumption)|assumption)
            obtain ⟨ad334,e334,hx334_0⟩:=Kd.at_int (Kd.R_reads' HO_3.out).2.2 x8_2 p334 q334
            cases e334
            replace p334:=eq_true p334
            replace q334:=eq_true q334
            have p335:0≤(x7_2:Int):=of_decide_eq_true (by first|(with_reducible assumption)|assumption)
            have q335:x7_2 < (x3_2.length:Int):=of_decide_eq_true (by first|(with_reducible assumption)|assumption)
            obtain ⟨ad335,e335,hx335_0⟩:=Kd.at_int (Kd.R_reads' HO_3.out).2.2 x7_2 p335 q335
            obtain rfl:ad334 = ad335:=(by injection e335)
            replace p335:=eq_true p335
            replace q335:=eq_true q335
            have p18:0≤(x7_2:Int):=of_decide_eq_true (by first|(with_reducible assumption)|assumption)
            have q18:(x7_2:Int) < ((x3_2.length:Int):Int):=of_decide_eq_true (by first|(with_reducible assumption)|assumption)
            obtain ⟨go18,co18,eo18,gb18,gl18,cl18,HG18⟩:=Kd.R_form HO_3.out (by omega)
            (first|cases eo18|(injection eo18 with ea_ en_ ec_;(first|subst ea_|(injection ea_ with ea_;subst ea_));subst ec_;clear en_))
            have GB18:=Aside0.mk gb18
            have GG18:=Aside0.mk HG18
            clear gb18 gl18 HG18
            (first|simp only [add_plain] at hx334_0|skip)
            (first|simp only [add_plain] at hx335_0|skip)
            obtain ⟨hx18_0,hf18_0⟩:=Kd.R_celln 0 HO_3.out (x7_2:Int) p18 q18
            replace p18:=eq_true p18
            replace q18:=eq_true q18
            have HP21:=Kd.R_putn HO_3.out (x7_2:Int) (rd x3_2 x8_2)
            rw [← Ny336.out] at HP21
            have HQ21:=Aside0.mk HP21
            clear HP21
            have p19:0≤(x8_2:Int):=of_decide_eq_true (by first|(with_reducible assumption)|assumption)
            have q19:(x8_2:Int) < ((x3_2.length:Int):Int):=of_decide_eq_true (by first|(with_reducible assumption)|assumption)
            obtain ⟨hx19_0,hf19_0⟩:=Kd.R_celln 0 HQ21.out (x8_2:Int) p19 q19
            replace p19:=eq_true p19
            replace q19:=eq_true q19
            have HP22:=Kd.R_putn HQ21.out (x8_2:Int) (rd x3_2 x7_2)
            rw [← Ny337.out] at HP22
            have HQ22:=Aside0.mk HP22
            clear HP22
            refine start_ (n:=16) (S:=fun w'=>w'.cell? ⟨go18,(x8_2).toNat,none⟩ = some (.int .u8 (rd x3_2 x8_2))∧w'.cell? ⟨go18,(x7_2).toNat,none⟩ = some (.int .u8 (rd x3_2 x7_2))) (ds:=[13,15]) #[false,false,false,false,false,false,false,false,false,false,false,false,false,false,false,false] (by kernel_rfl) rfl rfl ⟨hx334_0,hx335_0⟩ (fun hHeld=>?_);refine with_tabW garboardref01_To.tab16 garboardref01_To.bits16 (fun HT_ HW_=>?_)
            generalize wr.drew = w20 at HO_3 HB GG18 HQ21 HQ22 hf18_0 hf19_0 hx18_0 hx19_0 hx334_0 hx335_0 hHeld ⊢
            refine pure_ (i:=0) (N:=some 56) (v:=?_) (a':=?_) #[true,false,false,false,false,false,false,false,false,false,false,false,false,false,false,false] rfl rfl (any_of HT_.out (by kernel_rfl)) (fun _ _ _ h=>h) (Or.inl ⟨by rfl,?_⟩) ?_ ?_
            rotate_left
            ·intro w'
             go_simp
             with_reducible rfl
            rotate_left
            ·simp only [Act.put,List.setIfInBounds_toArray,List.set_cons_zero,List.set_cons_succ,i64_w,i32_w]
             rfl
            refine pure_ (i:=1) (N:=some 57) (v:=?_) (a':=?_) #[true,true,false,false,false,false,false,false,false,false,false,false,false,false,false,false] rfl rfl (any_of HT_.out (by kernel_rfl)) (fun _ _ _ h=>h) (Or.inl ⟨by rfl,?_⟩) ?_ ?_
            rotate_left
            ·intro w'
             go_simp
             with_reducible rfl
            rotate_left
            ·simp only [Act.put,List.setIfInBounds_toArray,List.set_cons_zero,List.set_cons_succ,i64_w,i32_w]
             rfl
            refine pure_ (i:=2) (N:=some 58) (v:=?_) (a':=?_) #[true,true,true,false,false,false,false,false,false,false,false,false,false,false,false,false] rfl rfl (any_of HT_.out (by kernel_rfl)) (fun _ _ _ h=>h) (Or.inl ⟨by rfl,?_⟩) ?_ ?_
            rotate_left
            ·intro w'
             go_simp
             with_reducible rfl
            rotate_left
            ·simp only [Act.put,List.setIfInBounds_toArray,List.set_cons_zero,List.set_cons_succ,i64_w,i32_w]
             rfl
            refine pure_ (i:=3) (N:=some 59) (v:=?_) (a':=?_) #[true,true,true,true,false,false,false,false,false,false,false,false,false,false,false,false] rfl rfl (any_of HT_.out (by kernel_rfl)) (fun _ _ _ h=>h) (Or.inl ⟨by rfl,?_⟩) ?_ ?_
            rotate_left
            ·intro w'
             go_simp
             with_reducible rfl
            rotate_left
            ·simp only [Act.put,List.setIfInBounds_toArray,List.set_cons_zero,List.set_cons_succ,i64_w,i32_w]
             rfl
            refine pure_ (i:=4) (N:=some 60) (v:=?_) (a':=?_) #[true,true,true,true,true,false,false,false,false,false,false,false,false,false,false,false] rfl rfl (any_of HT_.out (by kernel_rfl)) (fun _ _ _ h=>h) (Or.inl ⟨by rfl,?_⟩) ?_ ?_
            rotate_left
            ·intro w'
             go_simp
             with_reducible rfl
            rotate_left
            ·simp only [Act.put,List.setIfInBounds_toArray,List.set_cons_zero,List.set_cons_succ,i64_w,i32_w]
             rfl
            refine pure_ (i:=5) (N:=some 61) (v:=?_) (a':=?_) #[true,true,true,true,true,true,false,false,false,false,false,false,false,false,false,false] rfl rfl (any_of HT_.out (by kernel_rfl)) (fun _ _ _ h=>h) (Or.inl ⟨by rfl,?_⟩) ?_ ?_
            rotate_left
            ·intro w'
             go_simp
             with_reducible rfl
            rotate_left
            ·simp only [Act.put,List.setIfInBounds_toArray,List.set_cons_zero,List.set_cons_succ,i64_w,i32_w]
             rfl
            refine pure_ (i:=6) (N:=some 62) (v:=?_) (a':=?_) #[true,true,true,true,true,true,true,false,false,false,false,false,false,false,false,false] rfl rfl (any_of HT_.out (by kernel_rfl)) (fun _ _ _ h=>h) (Or.inl ⟨by rfl,?_⟩) ?_ ?_
            rotate_left
            ·intro w'
             go_simp
             with_reducible rfl
            rotate_left
            ·simp only [Act.put,List.setIfInBounds_toArray,List.set_cons_zero,List.set_cons_succ,i64_w,i32_w]
             rfl
            refine pure_ (i:=8) (N:=some 64) (v:=?_) (a':=?_) #[true,true,true,true,true,true,true,false,true,false,false,false,false,false,false,false] rfl rfl (any_of HT_.out (by kernel_rfl)) (fun _ _ _ h=>h) (Or.inl ⟨by rfl,?_⟩) ?_ ?_
            rotate_left
            ·intro w'
             go_simp
             with_reducible rfl
            rotate_left
            ·simp only [Act.put,List.setIfInBounds_toArray,List.set_cons_zero,List.set_cons_succ,i64_w,i32_w]
             rfl
            refine pure_ (i:=9) (N:=some 65) (v:=?_) (a':=?_) #[true,true,true,true,true,true,true,false,true,true,false,false,false,false,false,false] rfl rfl (any_of HT_.out (by kernel_rfl)) (fun _ _ _ h=>h) (Or.inl ⟨by rfl,?_⟩) ?_ ?_
            rotate_left
            ·intro w'
             go_simp
             with_reducible rfl
            rotate_left
            ·simp only [Act.put,List.setIfInBounds_toArray,List.set_cons_zero,List.set_cons_succ,i64_w,i32_w]
             rfl
            refine pure_ (i:=10) (N:=some 66) (v:=?_) (a':=?_) #[true,true,true,true,true,true,true,false,true,true,true,false,false,false,false,false] rfl rfl (any_of HT_.out (by kernel_rfl)) (fun _ _ _ h=>h) (Or.inl ⟨by rfl,?_⟩) ?_ ?_
            rotate_left
            ·intro w'
             go_simp
             with_reducible rfl
            rotate_left
            ·simp only [Act.put,List.setIfInBounds_toArray,List.set_cons_zero,List.set_cons_succ,i64_w,i32_w]
             rfl
            refine take_ (i:=7) (N:=some 63) (v:=?_) (a':=?_) #[true,true,true,true,true,true,true,true,true,true,true,false,false,false,false,false] rfl rfl (take_ofW HT_.out HW_.out (by kernel_rfl)) (fun _ _ _ h=>h) (Or.inl ⟨by rfl,?_⟩) hHeld ?_ ?_
            rotate_left
            ·rintro w' ⟨s0,s1⟩
             go_simp
             with_reducible rfl
            rotate_left
            ·simp only [Act.put,List.setIfInBounds_toArray,List.set_cons_zero,List.set_cons_succ,i64_w,i32_w]
             rfl
            refine take_ (i:=11) (N:=some 67) (v:=?_) (a':=?_) #[true,true,true,true,true,true,true,true,true,true,true,true,false,false,false,false] rfl rfl (take_ofW HT_.out HW_.out (by kernel_rfl)) (fun _ _ _ h=>h) (Or.inl ⟨by rfl,?_⟩) hHeld ?_ ?_
            rotate_left
            ·rintro w' ⟨s0,s1⟩
             go_simp
             with_reducible rfl
            rotate_left
            ·simp only [Act.put,List.setIfInBounds_toArray,List.set_cons_zero,List.set_cons_succ,i64_w,i32_w]
             rfl
            refine pure_ (i:=12) (N:=some 68) (v:=?_) (a':=?_) #[true,true,true,true,true,true,true,true,true,true,true,true,true,false,false,false] rfl rfl (any_of HT_.out (by kernel_rfl)) (fun _ _ _ h=>h) (Or.inl ⟨by rfl,?_⟩) ?_ ?_
            rotate_left
            ·intro w'
             go_simp
             with_reducible rfl
            rotate_left
            ·simp only [Act.put,List.setIfInBounds_toArray,List.set_cons_zero,List.set_cons_succ,i64_w,i32_w]
             rfl
            refine last_ (i:=13) (N:=none) #[true,true,true,true,true,true,true,true,true,true,true,true,true,true,false,false] rfl rfl (one_of HT_.out (by kernel_rfl)) (by decide) (fun K hK=>?_)
            refine skip_ (w1:=?_) (by rfl) rfl ?_ ?_
            rotate_left
            ·go_simp
             rfl
            refine hK.out _ _ ?_
            clear hK K
            refine pure_ (i:=14) (N:=some 69) (v:=?_) (a':=?_) #[true,true,true,true,true,true,true,true,true,true,true,true,true,true,true,false] rfl rfl (any_of HT_.out (by kernel_rfl)) (fun _ _ _ h=>h) (Or.inl ⟨by rfl,?_⟩) ?_ ?_
            rotate_left
            ·intro w'
             go_simp
             with_reducible rfl
            rotate_left
            ·simp only [Act.put,List.setIfInBounds_toArray,List.set_cons_zero,List.set_cons_succ,i64_w,i32_w]
             rfl
            refine last_ (i:=15) (N:=none) #[true,true,true,true,true,true,true,true,true,true,true,true,true,true,true,true] rfl rfl (one_of HT_.out (by kernel_rfl)) (by decide) (fun K hK=>?_)
            refine skip_ (w1:=?_) (by rfl) rfl ?_ ?_
            rotate_left
            ·go_simp
             rfl
            refine hK.out _ _ ?_
            clear hK K
            refine done_ (done_of HT_.out (by kernel_rfl)) ?_
            try go_wp2
            (try simp only [← hl3_2])
            go_roundg k2
            case measure=>have:=HK1.out;have:=HK2.out;omega
            case rel=>exact ⟨(y337),(wrap64 (x7_2 + 1)),(wrap64 (x8_2 - 1)),(by first|rfl|(simp;done)|(simp [*];done)),(by first|rfl|(simp;done)|(simp [*];done)),H',⟨by have:=HK1.out;have:=HK2.out;omega⟩,⟨by (try simp only [hl3_2]);(with_reducible repeat (first|apply Kd.R_alloc|apply Kd.R_drewN|apply Kd.R_drew));exact HQ22.out⟩,⟨by repeat (first|(with_reducible first|exact HB.out|apply below_alloc|apply pw_below_drewN|apply below_drew1|refine below_set ?_ GB18.out|refine below_set ?_ GB18.out)|exact HB.out)⟩⟩
           ·rw [if_neg c17] at H
            exact absurd H (by simp)
          ·rw [if_neg c16] at H
           exact absurd H (by simp)
         ·rw [if_neg c15] at H
          exact absurd H (by simp)
        ·rw [if_neg c14] at H
         exact absurd H (by simp)
       ·rw [if_neg c13] at H
        have c13b0:decide (x7_2 < x8_2) = false:=decide_eq_false c13
        clear c13
        obtain rfl:=Option.some.inj H
        have hcv23:=own_string (P:=Tryd.prog) Tryd.underlying69 Tryd.underlying5 Tryd.underlying9 (Kd.own_of_R HO_3.out)
        go_wp2
        go_ret
        exact ⟨by first|rfl|(simp [errW_none,errW_some]<;>rfl)|(simp [*,errW_none,errW_some]<;>rfl),by repeat (first|(with_reducible first|exact HB.out|apply below_alloc|apply pw_below_drewN|apply below_drew1)|exact HB.out)⟩
end Go.Proofs.YtaopmkcghancmaaDoor.Pr
set_option linter.unusedVariables false
set_option linter.unusedSimpArgs false
namespace Go.Proofs.YtaopmkcghancmaaDoor.Pr
open Go.RowKit Go.Lib Go.Proofs.YtaopmkcghancmaaDoorW.PrintWords Go.Proofs.YtaopmkcghancmaaDoorW.PrintLast Go.Proofs.YtaopmkcghancmaaDoorW.PrintMore Go.Proofs.YtaopmkcghancmaaDoor.NatTh
def revD (l:List UInt8):List Int:=l.reverse.map fun c=>(c.toNat:Int)
theorem revD_snoc (l:List UInt8) (c:UInt8):revD (l ++ [c]) = (c.toNat:Int) :: revD l:=by simp [revD]
theorem revD_app (a b:List UInt8):revD (a ++ b) = revD b ++ revD a:=by simp [revD]
theorem revD_len (l:List UInt8):(revD l).length = l.length:=by simp [revD]
theorem dg_int (w:Nat):((48 + Int.tmod (w:Int) 10) % 4294967296) % 256 = ((NatTh.dg (w % 10)).toNat:Int):=by
 rw [dg_toNat _ (Nat.mod_lt _ (by omega)),Int.tmod_eq_emod_of_nonneg (by omega)]
 omega
theorem dv_int (w:Nat) (h:w < 4294967296):(Int.tdiv (w:Int) 10) % 4294967296 = ((w / 10:Nat):Int):=by
 rw [Int.tdiv_eq_ediv_of_nonneg (by omega)]
 omega
theorem to_pad (x:List Int) (i:Nat) (hi:i + 1 < x.length) (hx:x.length < 1099511627776):∀ (m w:Nat),m≤9→w < 4294967296→∀ (out:List Int),out.length + m < 140737488355328→∀ k,
  garboardref01_To.l1 (k + 1 + m) x out i w ((9 - m:Nat):Int) = garboardref01_To.l0 k x (out ++ revD (pad m w)) ((i + 1:Nat):Int):=by
 intro m
 induction m with
 | zero =>
  intro w _ _ out _ k
  show garboardref01_To.l1 (k + 1) x out i w 9 = _
  unfold garboardref01_To.l1
  rw [if_neg (by omega),wi1 i (by omega)]
  simp [pad,revD]
 | succ m ih =>
  intro w hm hw out ho k
  have hi1:=ih (w / 10) (by omega) (by omega) (out ++ [((NatTh.dg (w % 10)).toNat:Int)]) (by rw [List.length_append];simp;omega) k
  rw [List.append_assoc] at hi1
  rw [pad,revD_snoc,show k + 1 + (m + 1) = k + 1 + m + 1 by omega]
  rw [List.singleton_append] at hi1
  rw [← hi1]
  conv=>lhs;unfold garboardref01_To.l1
  rw [if_pos (by omega),wi1 i (by omega),if_pos (by omega),if_pos (by omega),dg_int,dv_int w hw,wi1 (9 - (m + 1)) (by omega),show 9 - (m + 1) + 1 = 9 - m by omega]
def dz (w:Nat):List UInt8:=if w = 0 then [] else decDigits w
theorem dz_step (w:Nat) (h:0 < w):dz w = dz (w / 10) ++ [NatTh.dg (w % 10)]:=by
 unfold dz
 rw [if_neg (by omega)]
 by_cases h1:w < 10
 ·rw [if_pos (by omega),dec_small w h1,Nat.mod_eq_of_lt h1]
  rfl
 ·rw [if_neg (by omega),dec_big w h1]
theorem to_last (x:List Int) (i:Nat) (hi:i + 1 = x.length) (hx:x.length < 1099511627776):∀ (m w:Nat),m≤9→w < 10 ^ m→∀ (out:List Int),out.length + m < 140737488355328→∃ c,∀ k,
  garboardref01_To.l1 (k + c) x out i w ((9 - m:Nat):Int) = garboardref01_To.l0 k x (out ++ revD (dz w)) ((i + 1:Nat):Int):=by
 intro m
 induction m with
 | zero =>
  intro w _ hw out _
  obtain rfl:w = 0:=by simpa using hw
  refine ⟨1,fun k=>?_⟩
  show garboardref01_To.l1 (k + 1) x out i 0 9 = _
  unfold garboardref01_To.l1
  rw [if_neg (by omega),wi1 i (by omega)]
  simp [dz,revD]
 | succ m ih =>
  intro w hm hw out ho
  by_cases h0:w = 0
  ·subst h0
   refine ⟨1,fun k=>?_⟩
   unfold garboardref01_To.l1
   rw [if_pos (by omega),wi1 i (by omega),if_neg (by omega),if_neg (by omega)]
   simp [dz,revD]
  ·have hw9:w < 10 ^ 9:=Nat.lt_of_lt_of_le hw (Nat.pow_le_pow_right (by omega) hm)
   obtain ⟨c,hc⟩:=ih (w / 10) (by omega) (by rw [Nat.pow_succ] at hw;omega) (out ++ [((NatTh.dg (w % 10)).toNat:Int)]) (by rw [List.length_append];simp;omega)
   refine ⟨c + 1,fun k=>?_⟩
   have h1:=hc k
   rw [List.append_assoc,List.singleton_append] at h1
   rw [dz_step w (by omega),revD_snoc,← h1,← Nat.add_assoc]
   conv=>lhs;unfold garboardref01_To.l1
   rw [if_pos (by omega),wi1 i (by omega),if_neg (by omega),if_pos (by omega),if_pos (by omega),dg_int,dv_int w (by omega),wi1 (9 - (m + 1)) (by omega),show 9 - (m + 1) + 1 = 9 - m by omega]
theorem to_words (x:List Int) (hw:Num x) (hx:x.length < 1099511627776):∀ (m i:Nat),i + m = x.length→0 < m→∀ (out:List Int),out.length + 9 * m < 140737488355328→∃ c,∀ k,
  garboardref01_To.l0 (k + c) x out i = garboardref01_To.l2 k (out ++ revD (txt (x.drop i))) 0 (wrap64 (((out ++ revD (txt (x.drop i))).length:Int) - 1)):=by
 intro m
 induction m with
 | zero=>intro i _ h;omega
 | succ m ih =>
  intro i hi _ out ho
  have hil:i < x.length:=by omega
  have hxi:=hw.1.get i hil
  rw [BB] at hxi
  obtain ⟨w,hwe⟩:∃ w:Nat,x[i] = (w:Int):=⟨x[i].toNat,by omega⟩
  rw [hwe] at hxi
  have hrd:rd x (i:Int) = (w:Int):=by
   rw [rd_eq,List.getD_eq_getElem?_getD,List.getElem?_eq_getElem hil,← hwe]
   rfl
  have hdrop:x.drop i = (w:Int) :: x.drop (i + 1):=by rw [List.drop_eq_getElem_cons hil,hwe]
  have open_:∀ k,garboardref01_To.l0 (k + 1) x out i = garboardref01_To.l1 k x out i w 0:=by
   intro k
   conv=>lhs;unfold garboardref01_To.l0
   rw [if_pos (by omega),if_pos (by omega),hrd]
  by_cases hm:m = 0
  ·subst hm
   have hnil:x.drop (i + 1) = []:=List.drop_of_length_le (by omega)
   have hw0:w≠0:=by
    intro h0
    have:=hw.2 x[i] (by
     rw [List.getLast?_eq_getElem?,show x.length - 1 = i by omega,List.getElem?_eq_getElem hil])
    rw [hwe,h0] at this
    exact this rfl
   obtain ⟨c,hc⟩:=to_last x i (by omega) hx 9 w (by omega) (by omega) out (by omega)
   refine ⟨1 + c + 1,fun k=>?_⟩
   have h1:=hc (k + 1)
   have hdz:dz w = txt (x.drop i):=by
    rw [hdrop,hnil,txt,Int.toNat_natCast]
    unfold dz
    rw [if_neg hw0]
   rw [hdz] at h1
   rw [show k + (1 + c + 1) = k + 1 + c + 1 by omega,open_]
   refine h1.trans ?_
   conv=>lhs;unfold garboardref01_To.l0
   rw [if_neg (by omega)]
  ·obtain ⟨y,l,hy⟩:∃ y l,x.drop (i + 1) = y :: l:=List.exists_cons_of_ne_nil (by
    intro e
    have:=congrArg List.length e
    rw [List.length_drop] at this
    simp at this
    omega)
   obtain ⟨c,hc⟩:=ih (i + 1) (by omega) (by omega) (out ++ revD (pad 9 w)) (by rw [List.length_append,revD_len,pad_length];omega)
   refine ⟨c + 10 + 1,fun k=>?_⟩
   have h1:=hc k
   have h2:=to_pad x i (by omega) hx 9 w (by omega) (by omega) out (by omega) (k + c)
   have ht:txt (x.drop i) = txt (x.drop (i + 1)) ++ pad 9 w:=by rw [hdrop,hy,txt,Int.toNat_natCast]
   rw [List.append_assoc,← revD_app,← ht] at h1
   rw [show k + (c + 10 + 1) = k + c + 1 + 9 + 1 by omega,open_]
   exact h2.trans h1
theorem getD_set (l:List Int) (n i:Nat) (v:Int) (h:n < l.length):(l.set n v).getD i 0 = if i = n then v else l.getD i 0:=by
 rw [List.getD_eq_getElem?_getD,List.getElem?_set]
 by_cases e:n = i
 ·subst e
  rw [if_pos rfl,if_pos h,if_pos rfl]
  rfl
 ·rw [if_neg e,if_neg (fun h=>e h.symm),List.getD_eq_getElem?_getD]
theorem turn_loop (L:List Int) (hL:L.length < 1152921504606846976):∀ (m t:Nat) (x:List Int),L.length≤2 * t + m→x.length = L.length→2 * t≤L.length→(∀ i,i < L.length→x.getD i 0 = if i < t ∨ L.length - 1 - t < i then L.getD (L.length - 1 - i) 0 else L.getD i 0) →
  ∀ k,garboardref01_To.l2 (k + 1 + m) x t ((L.length:Int) - 1 - t) = some (strOfNums L.reverse):=by
 intro m
 have fin:∀ (t:Nat) (x:List Int),x.length = L.length→2 * t≤L.length→(∀ i,i < L.length→x.getD i 0 = if i < t ∨ L.length - 1 - t < i then L.getD (L.length - 1 - i) 0 else L.getD i 0)→¬ ((t:Int) < (L.length:Int) - 1 - t)→x = L.reverse:=by
  intro t x hxl ht hx hlt
  apply List.ext_getElem
  ·rw [List.length_reverse,hxl]
  ·intro i h1 h2
   have h3:=hx i (by omega)
   rw [List.getD_eq_getElem?_getD,List.getElem?_eq_getElem h1,List.getD_eq_getElem?_getD,List.getElem?_eq_getElem (show L.length - 1 - i < L.length by omega),List.getD_eq_getElem?_getD,List.getElem?_eq_getElem (show i < L.length by omega)] at h3
   simp only [Option.getD_some] at h3
   rw [List.getElem_reverse,h3]
   split
   ·rfl
   ·rename_i hc
    congr 1
    omega
 induction m with
 | zero =>
  intro t x hm hxl ht hx k
  show garboardref01_To.l2 (k + 1) x t _ = _
  unfold garboardref01_To.l2
  rw [if_neg (by omega),fin t x hxl ht hx (by omega)]
 | succ m ih =>
  intro t x hm hxl ht hx k
  rw [show k + 1 + (m + 1) = k + 1 + m + 1 by omega]
  by_cases hlt:(t:Int) < (L.length:Int) - 1 - t
  ·obtain ⟨b,hb⟩:∃ b:Nat,(L.length:Int) - 1 - t = b:=⟨L.length - 1 - t,by omega⟩
   have hbt:b = L.length - 1 - t:=by omega
   have h1:=ih (t + 1) ((x.set t (x.getD b 0)).set b (x.getD t 0)) (by omega) (by rw [List.length_set,List.length_set,hxl]) (by omega) (fun i hi=>by
    rw [getD_set _ _ _ _ (by rw [List.length_set];omega),getD_set _ _ _ _ (by omega)]
    by_cases e1:i = b
    ·rw [if_pos e1,hx t (by omega),if_neg (by omega),if_pos (by omega),e1]
     congr 1
     omega
    ·rw [if_neg e1]
     by_cases e2:i = t
     ·rw [if_pos e2,hx b (by omega),if_neg (by omega),if_pos (by omega),e2]
      congr 1
     ·rw [if_neg e2,hx i hi]
      by_cases e3:i < t ∨ L.length - 1 - t < i
      ·rw [if_pos e3,if_pos (by omega)]
      ·rw [if_neg e3,if_neg (by omega)]) k
   rw [show (L.length:Int) - 1 - ((t + 1:Nat):Int) = (b:Int) - 1 by omega] at h1
   unfold garboardref01_To.l2
   rw [hb,if_pos (by omega),if_pos (by omega),if_pos (by omega),if_pos (by omega),if_pos (by omega),Int.toNat_natCast,Int.toNat_natCast,rd_eq,rd_eq,wi1 t (by omega),w64 (x:=(b:Int) - 1) (by omega) (by omega)]
   exact h1
  ·unfold garboardref01_To.l2
   rw [if_neg hlt,fin t x hxl ht hx hlt]
theorem strOf_rev (l:List UInt8):strOfNums (revD l).reverse = ⟨l.toArray⟩:=by
 unfold strOfNums revD
 rw [← List.map_reverse,List.reverse_reverse,List.map_map]
 congr 2
 conv=>rhs;rw [← List.map_id l]
 apply List.map_congr_left
 intro c _
 simp
theorem txt_len (n:Nat):∀ l:List Int,l.length = n→(∀ x ∈ l,0≤x∧x < 1000000000)→(txt l).length≤9 * l.length:=by
 induction n with
 | zero =>
  intro l hl _
  have:l = []:=List.eq_nil_of_length_eq_zero hl
  subst this
  simp [txt]
 | succ n ih =>
  intro l hl hz
  match l,hl with
  | [w],_ =>
   have hw:=hz w (by simp)
   rw [txt]
   have:=dec_len w.toNat (by omega)
   simpa using this
  | w :: y :: l,hl =>
   have h1:=ih (y :: l) (by simpa using hl) (fun x hx=>hz x (by simp at hx ⊢;exact .inr hx))
   rw [txt,List.length_append,pad_length]
   simp only [List.length_cons] at h1 ⊢
   omega
theorem To_ev (n:Nat) (h:(numOf n).length < 1099511627776):Ev (fun k=>garboardref01_To.f k (numOf n)) (num n):=by
 by_cases h0:n = 0
 ·subst h0
  refine ⟨0,fun k _=>?_⟩
  simp only [garboardref01_To.f]
  rw [numOf_zero,if_pos (by simp)]
  unfold num
  rw [dec_small 0 (by omega)]
  rfl
 ·have hpos:=len_pos (show 0 < n by omega)
  obtain ⟨c,hc⟩:=to_words (numOf n) (num_numOf n) h (numOf n).length 0 (by omega) hpos [] (by simp;omega)
  rw [List.drop_zero,txt_numOf n (by omega),List.nil_append] at hc
  have hL:(revD (decDigits n)).length = (decDigits n).length:=revD_len _
  have hz:∀ x ∈ numOf n,0≤x∧x < 1000000000:=fun x hx=>by have:=(num_numOf n).1 x hx;rw [BB] at this;exact this
  have htl:=txt_len _ (numOf n) rfl hz
  rw [txt_numOf n (by omega)] at htl
  have hdp:0 < (decDigits n).length:=List.length_pos_iff.2 (dec_ne n)
  have ht:=turn_loop (revD (decDigits n)) (by omega) (revD (decDigits n)).length 0 (revD (decDigits n)) (by omega) rfl (by omega) (fun i hi=>by rw [if_neg (by omega)])
  refine ⟨1 + (revD (decDigits n)).length + c,fun k hk=>?_⟩
  obtain ⟨j,rfl⟩:∃ j,k = j + 1 + (revD (decDigits n)).length + c:=⟨k - 1 - (revD (decDigits n)).length - c,by omega⟩
  simp only [garboardref01_To.f]
  rw [if_neg (by omega)]
  refine (hc _).trans ?_
  rw [w64 (by omega) (by omega)]
  have h2:=ht j
  rw [strOf_rev,show (((revD (decDigits n)).length:Int) - 1 - ((0:Nat):Int)) = ((revD (decDigits n)).length:Int) - 1 by omega] at h2
  exact h2
end Go.Proofs.YtaopmkcghancmaaDoor.Pr
set_option linter.unusedVariables false
set_option linter.unusedSimpArgs false
namespace Go.Proofs.YtaopmkcghancmaaDoor.Pr
open Go.RowKit Go.Lib Go.Proofs.YtaopmkcghancmaaDoorW.PrintWords Go.Proofs.YtaopmkcghancmaaDoorW.PrintLast Go.Proofs.YtaopmkcghancmaaDoorW.PrintMore Go.Proofs.YtaopmkcghancmaaDoor.NatTh
theorem Sm.sh {a:ByteArray} (h:Sm a):Sh a:=by
 unfold Sm at h
 unfold Sh
 omega
end Go.Proofs.YtaopmkcghancmaaDoor.Pr
set_option linter.unusedVariables false
set_option linter.unusedSimpArgs false
namespace Go.Proofs.YtaopmkcghancmaaDoor.Pr
open Go.RowKit Go.Lib Go.Proofs.YtaopmkcghancmaaDoorW.PrintWords Go.Proofs.YtaopmkcghancmaaDoorW.PrintLast Go.Proofs.YtaopmkcghancmaaDoorW.PrintMore Go.Proofs.YtaopmkcghancmaaDoor.NatTh
theorem sm120 {a:ByteArray} (h:a.size≤120):Sm a:=(Nat.le_trans h (by omega):a.size≤1000)
end Go.Proofs.YtaopmkcghancmaaDoor.Pr
set_option linter.unusedVariables false
set_option linter.unusedSimpArgs false
namespace Go.Proofs.YtaopmkcghancmaaDoor.Pr
open Go.RowKit Go.Lib Go.Proofs.YtaopmkcghancmaaDoorW.PrintWords Go.Proofs.YtaopmkcghancmaaDoorW.PrintLast Go.Proofs.YtaopmkcghancmaaDoorW.PrintMore Go.Proofs.YtaopmkcghancmaaDoor.NatTh
theorem ord_gt {m n:Nat} (h:n < m):ord m n = 1:=by unfold ord;rw [if_neg (by omega),if_pos h]
end Go.Proofs.YtaopmkcghancmaaDoor.Pr
namespace Go.Proofs.YtaopmkcghancmaaDoor.Pr
set_option linter.unusedVariables false
set_option linter.unusedSimpArgs false
open Go.ChangeShapes Go.WideShapes Go.ChangeAt Go.Deep Go.Joins Go.RowKit Go.Proofs.YtaopmkcghancmaaDoorW.PrintWords
theorem own:ownKnob Tryd.prog.godebug = none:=by kernel_rfl
theorem laidOut:laidOutB Tryd.prog = true:=by kernel_rfl
set_option maxRecDepth 100000 in
theorem openS {H:Type} {enc:TypeId × Value→H} {W:World} {r:Reach} {b0:Nat} {v:Value} {d:DataW H} {p:List MemPlace} (hv:Value.okWide Tryd.prog W r b0 9 v) (h:DataW.Trod enc Tryd.prog W 0 (fun _=>true) true 9 v d p):∃ s,v = .string s:=by
 obtain ⟨s,e,_⟩:=Go.ChangeMaps.open_string Tryd.underlying9 hv h
 exact ⟨s,e⟩
def laid5:List (String × DataW Unit):=[("math/bits.deBruijn32tab",Rows.laid_math_bits_deBruijn32tab),("math/bits.deBruijn64tab",Rows.laid_math_bits_deBruijn64tab),("internal/strconv.uint64pow10",Rows.laid_internal_strconv_uint64pow10),("strconv.ErrRange",Rows.laid_strconv_ErrRange),("strconv.ErrSyntax",Rows.laid_strconv_ErrSyntax)]
theorem gPow:Tryd.prog.globalNamed "internal/strconv.uint64pow10" = some 0:=by kernel_rfl
theorem gPowType:(Tryd.prog.globals[0]?).map (·.type) = some 123:=by kernel_rfl
theorem laid_tab {W:World} (h:laidMetH Tryd.prog laid5 W):LaidW W:=by
 rw [MakeChecks.laidMetH_plain _ _ _ (by kernel_rfl)] at h
 obtain ⟨ps,⟨g0,t0,cs0,f0,p0,q0,hg0,ht0,hv0,hd0,⟨g1,t1,cs1,f1,p1,q1,hg1,ht1,hv1,hd1,⟨g2,t2,cs2,f2,p2,q2,hg2,ht2,hv2,hd2,_,_⟩,_⟩,_⟩,_⟩:=h
 obtain rfl:=Option.some.inj (gPow.symm.trans hg2)
 obtain rfl:=Option.some.inj (gPowType.symm.trans ht2)
 have e:(Rows.laid_internal_strconv_uint64pow10:DataW Unit) = Lib.tabData .u64 Lib.pow10Tab:=rfl
 rw [e] at hd2
 unfold LaidW Lib.TabIs
 rw [hv2,← Lib.cells_of_tab Tryd.underlying123 Tryd.underlying61 (by kernel_rfl) (by kernel_rfl) hd2]
theorem door_met (os:Os) (args:Array Value):laidMetH Tryd.prog laid5 ((World.doorLaid Tryd.prog 400 os).forCall (fun _ _=>0) ⟨#[],args,[]⟩).memory :=
 laidMetH_of_parts3 (fuel:=8) (laidMet_of_run' 8 (by kernel_rfl) (by kernel_rfl)) (by kernel_rfl) (by kernel_rfl)
end Go.Proofs.YtaopmkcghancmaaDoor.Pr
namespace Go.Proofs.YtaopmkcghancmaaDoor.Pr
open Go.RowKit Go.Proofs.YtaopmkcghancmaaDoorW.PrintWords Go.Proofs.YtaopmkcghancmaaDoorW.PrintLast Go.Proofs.YtaopmkcghancmaaDoorW.PrintMore
attribute [local go_sem] max2_int min2_int max_two min_two max_three min_three max_four min_four
set_option linter.unusedVariables false
set_option linter.unusedSimpArgs false
def garboardref01_Power.l0:Nat→List Int→Int→List Int→Int→Option (List Int)
 | 0,_,_,_,_=>none
 | k + 1,x0,x1,x5,x6=>if x6 < x1 then ((garboardref01_Times.f k x5 x0).bind fun t525=>(garboardref01_Power.l0 k x0 x1 t525 (wrap64 (x6 + 1)))) else (some x5)
def garboardref01_Power.f (k:Nat) (l0:List Int) (a1:Int):Option (List Int):=(garboardref01_Small.f k 1).bind fun t522=>(garboardref01_Power.l0 k l0 a1 t522 0)
set_option maxHeartbeats 8000000 in
set_option maxRecDepth 100000 in
theorem garboardref01_Power.calls (k:Nat) (A0:Option Addr) (c0:Nat) (l0:List Int) (a1:Int) (r:List Int) (w:World) (hr0:Kd.C (Kd.int .u32) w A0 l0.length l0) (hc0:l0.length≤c0) (h:garboardref01_Power.f k l0 a1 = some r) :
  Calls Tryd.prog 55 #[.slice A0 l0.length c0,.int .i64 a1] w fun e w'=>∃ v0_:Value,e = .returned (v0_)∧Kd.V (Kd.int .u32) 64 w' w.heap.size (fun k_=>(w.heap.size≤k_)) v0_ r∧Below w.heap.size w w':=by
 have HR0:=Aside0.mk hr0
 have HC0:=Aside0.mk hc0
 clear hr0 hc0
 have HB:=Aside0.mk (Below.refl w.heap.size w)
 have H:((garboardref01_Small.f k 1).bind fun t522=>(garboardref01_Power.l0 k l0 a1 t522 0)) = some r:=h
 clear h
 replace H:=Option.bind_eq_some_iff.mp H
 obtain ⟨t522,A30,H⟩:=H
 replace H:(garboardref01_Power.l0 k l0 a1 t522 0) = some r:=H
 have A3:=Aside0.mk A30
 clear A30
 have H':=Aside0.mk H
 clear H
 go_enter Tryd.func55,Tryd.ntmps55
 go_wp2_with (first|((with_reducible refine gate_callee (f:=68) rfl ?_);refine goesL_ (some 7) rfl rfl Tryd.func68 (by kernel_rfl) rfl #[.int .u32 1] rfl (by (try simp only [List.map_toArray,List.map_cons,List.map_nil]);first|done|rfl|(simp only [List.length_drop,List.length_take];rfl)) ?_;(with_reducible refine (garboardref01_Small.calls k 1 t522 _ A3.out).mono ?_);rintro e w4 ⟨v523,rfl,ho0,hb⟩;refine ⟨_,rfl,?_⟩;have n0_:=Aside0.mk (Kd.V_lower (Kd.V_mono (ok':=fun k_=>(w.heap.size≤k_)) ho0 (fun k_ hk_=>(Nat.le_trans (below_size (by repeat (first|(with_reducible first|exact HB.out|apply below_alloc|apply pw_below_drewN|apply below_drew1)|exact HB.out))) hk_))) (below_size (by repeat (first|(with_reducible first|exact HB.out|apply below_alloc|apply pw_below_drewN|apply below_drew1)|exact HB.out))));have n1_:=Aside0.mk (below_step (by repeat (first|(with_reducible first|exact HB.out|apply below_alloc|apply pw_below_drewN|apply below_drew1)|exact HB.out)) hb);clear HB;have HO524:=n0_;have HB:=n1_;clear n0_ n1_;(try clear hb);(try clear hb2);(try clear hk);(try clear hi);(try clear ho0)))
 go_loopg [5,6] k (fun kq v5 v6 w'=>∃ (x5_1:List Int) (x6_1:Int),v6 = .int .i64 x6_1∧Aside0 (garboardref01_Power.l0 kq l0 a1 x5_1 x6_1 = some r)∧Aside0 (kq≤k)∧Aside0 (Kd.V (Kd.int .u32) 64 w' w.heap.size (fun k_=>(w.heap.size≤k_)) v5 x5_1)∧Aside0 (Below w.heap.size w w'))
 case atStart=>exact ⟨(t522),(0),(by first|rfl|(simp;done)|(simp [*];done)),H',⟨Nat.le_refl _⟩,⟨by (with_reducible repeat (first|apply Kd.V_alloc|apply Kd.V_drewN|apply Kd.V_drew));exact HO524.out⟩,⟨by repeat (first|(with_reducible first|exact HB.out|apply below_alloc|apply pw_below_drewN|apply below_drew1)|exact HB.out)⟩⟩
 case round =>
  clear H'
  try clear p2
  obtain ⟨x5_1,x6_1,rfl,HA,HK1,HO_5,HB⟩:=hrel
  cases gk with
  | zero=>exact absurd HA.out (by simp [garboardref01_Power.l0])
  | succ k1 =>
   have H:=HA.out
   clear HA
   simp only [garboardref01_Power.l0] at H
   by_cases c5:x6_1 < a1
   ·rw [if_pos c5] at H
    have c5b0:decide (x6_1 < a1) = true:=decide_eq_true c5
    clear c5
    replace H:=Option.bind_eq_some_iff.mp H
    obtain ⟨t525,A60,H⟩:=H
    replace H:(garboardref01_Power.l0 k1 l0 a1 t525 (wrap64 (x6_1 + 1))) = some r:=H
    have A6:=Aside0.mk A60
    clear A60
    have H':=Aside0.mk H
    clear H
    obtain ⟨Ao7,co7,eo7⟩:=Kd.V_slice HO_5.out
    subst eo7
    go_wp2_with (first|((with_reducible refine gate_callee (f:=44) rfl ?_);refine goesL_ (some 15) rfl rfl Tryd.func44 (by kernel_rfl) rfl #[.slice Ao7 x5_1.length co7,.slice A0 l0.length c0] rfl (by (try simp only [List.map_toArray,List.map_cons,List.map_nil]);first|done|rfl|(simp only [List.length_drop,List.length_take];rfl)) ?_;(with_reducible refine (garboardref01_Times.calls k1 _ _ x5_1 _ _ l0 t525 _ ?side1 ?side2 ?side3 ?side4 A6.out).mono ?_);(case side1=>repeat (first|exact (Kd.V_reads' HO_5.out).2.2|(with_reducible refine Kd.C_alloc ?_ _)|(with_reducible refine Kd.C_drewN ?_ _)|(with_reducible refine Kd.C_drew ?_)));(case side2=>exact (Kd.V_reads' HO_5.out).2.1);(case side3=>repeat (first|exact (Kd.C_below HR0.out HB.out)|(with_reducible refine Kd.C_alloc ?_ _)|(with_reducible refine Kd.C_drewN ?_ _)|(with_reducible refine Kd.C_drew ?_)));(case side4=>exact HC0.out);rintro e w8 ⟨v526,rfl,ho0,hb⟩;refine ⟨_,rfl,?_⟩;have n0_:=Aside0.mk (Kd.V_below (by (with_reducible repeat (first|apply Kd.V_alloc|apply Kd.V_drewN|apply Kd.V_drew));exact HO_5.out) hb);have n1_:=Aside0.mk (Kd.V_lower (Kd.V_mono (ok':=fun k_=>(w.heap.size≤k_)) ho0 (fun k_ hk_=>(Nat.le_trans (below_size (by repeat (first|(with_reducible first|exact HB.out|apply below_alloc|apply pw_below_drewN|apply below_drew1)|exact HB.out))) hk_))) (below_size (by repeat (first|(with_reducible first|exact HB.out|apply below_alloc|apply pw_below_drewN|apply below_drew1)|exact HB.out))));have n2_:=Aside0.mk (below_step (by repeat (first|(with_reducible first|exact HB.out|apply below_alloc|apply pw_below_drewN|apply below_drew1)|exact HB.out)) hb);clear HO_5;clear HB;have HO_5:=n0_;have HO527:=n1_;have HB:=n2_;clear n0_ n1_ n2_;(try clear hb);(try clear hb2);(try clear hk);(try clear hi);(try clear ho0)))
    go_roundg k1
    case measure=>have:=HK1.out;omega
    case rel=>exact ⟨(t525),(wrap64 (x6_1 + 1)),(by first|rfl|(simp;done)|(simp [*];done)),H',⟨by have:=HK1.out;omega⟩,⟨by (with_reducible repeat (first|apply Kd.V_alloc|apply Kd.V_drewN|apply Kd.V_drew));exact HO527.out⟩,⟨by repeat (first|(with_reducible first|exact HB.out|apply below_alloc|apply pw_below_drewN|apply below_drew1)|exact HB.out)⟩⟩
   ·rw [if_neg c5] at H
    have c5b0:decide (x6_1 < a1) = false:=decide_eq_false c5
    clear c5
    obtain rfl:=Option.some.inj H
    go_wp2
    go_ret
    exact ⟨_,by first|rfl|(simp [errW_none,errW_some]<;>rfl)|(simp [*,errW_none,errW_some]<;>rfl),by (with_reducible repeat (first|apply Kd.V_alloc|apply Kd.V_drewN|apply Kd.V_drew));exact HO_5.out,by repeat (first|(with_reducible first|exact HB.out|apply below_alloc|apply pw_below_drewN|apply below_drew1)|exact HB.out)⟩
end Go.Proofs.YtaopmkcghancmaaDoor.Pr
namespace Go.Proofs.YtaopmkcghancmaaDoor.Pr
open Go.RowKit Go.Proofs.YtaopmkcghancmaaDoorW.PrintWords Go.Proofs.YtaopmkcghancmaaDoorW.PrintLast Go.Proofs.YtaopmkcghancmaaDoorW.PrintMore
attribute [local go_sem] max2_int min2_int max_two min_two max_three min_three max_four min_four
set_option linter.unusedVariables false
set_option linter.unusedSimpArgs false
mutual
def garboardref01_Floor.l0:Nat→List Int→List Int→Int→Option (List Int)
 | 0,_,_,_=>none
 | k + 1,x0,x3,x4=>if x4 ≥ 0 then (if 0≤(wrap64 (Int.tdiv x4 9)) then (if (wrap64 (Int.tdiv x4 9):Int).toNat≤70368744177664 then ((some (List.replicate (wrap64 (Int.tdiv x4 9):Int).toNat 0:List Int)).bind fun y531=>((garboardref01_Small.f k 10).bind fun t534=>((garboardref01_Power.f k t534 (Int.tmod x4 9)).bind fun t537=>((garboardref01_word.f k t537).bind fun t540=>((garboardref01_Small.f k ((t540) % 4294967296)).bind fun t541=>(if y531.length + t541.length < 35184372088832 then (garboardref01_Floor.l1 k x0 x3 x4 (y531 ++ t541)) else (none))))))) else (none)) else (none)) else (some x3)
def garboardref01_Floor.l1:Nat→List Int→List Int→Int→List Int→Option (List Int)
 | 0,_,_,_,_=>none
 | k + 1,x0,x3,x4,x5=>(garboardref01_Plus.f k x3 x5).bind fun t547=>((garboardref01_Times.f k t547 t547).bind fun t550=>((garboardref01_Cmp.f k t550 x0).bind fun t553=>(if t553 > 0 then (garboardref01_Floor.l0 k x0 x3 (wrap64 (x4 - 1))) else (garboardref01_Floor.l1 k x0 t547 x4 x5))))
end
def garboardref01_Floor.f (k:Nat) (l0:List Int):Option (List Int):=garboardref01_Floor.l0 k l0 (([]:List Int)) (wrap64 ((wrap64 (Int.tdiv (wrap64 ((l0.length:Int) + 1)) 2)) * 9))
def garboardref01_Floor.T5:Bool × List (List Nat × List Nat):=(true,[([],[]),([0],[0]),([1,1],[1]),([],[]),([],[]),([4],[4]),([3,5,3],[3,5]),([6,6],[6]),([7],[7]),([8,7],[8]),([2,9,9],[2,9]),([10,10,0,1,2,3,4,5,6,7,8,9,10],[10])])
def garboardref01_Floor.B5:List Nat:=[0,1,3,0,0,16,56,120,248,504,1023,2047]
theorem garboardref01_Floor.tab5:rtab .any (opsOf Tryd.f53 5) = garboardref01_Floor.T5:=by kernel_rfl
theorem garboardref01_Floor.bits5:waitsOk garboardref01_Floor.T5.2 garboardref01_Floor.B5 = true:=by kernel_rfl
set_option maxHeartbeats 8000000 in
set_option maxRecDepth 100000 in
theorem garboardref01_Floor.calls (k:Nat) (A0:Option Addr) (c0:Nat) (l0:List Int) (r:List Int) (w:World) (hr0:Kd.C (Kd.int .u32) w A0 l0.length l0) (hc0:l0.length≤c0) (h:garboardref01_Floor.f k l0 = some r) :
  Calls Tryd.prog 53 #[.slice A0 l0.length c0] w fun e w'=>∃ v0_:Value,e = .returned (v0_)∧Kd.V (Kd.int .u32) 64 w' w.heap.size (fun k_=>(w.heap.size≤k_)) v0_ r∧Below w.heap.size w w':=by
 have HR0:=Aside0.mk hr0
 have HC0:=Aside0.mk hc0
 clear hr0 hc0
 have HB:=Aside0.mk (Below.refl w.heap.size w)
 have H:(garboardref01_Floor.l0 k l0 (([]:List Int)) (wrap64 ((wrap64 (Int.tdiv (wrap64 ((l0.length:Int) + 1)) 2)) * 9))) = some r:=h
 clear h
 obtain ⟨y528,hy528⟩:∃ y_:List Int,y_ = (([]:List Int)):=⟨_,rfl⟩
 replace H:(garboardref01_Floor.l0 k l0 y528 (wrap64 ((wrap64 (Int.tdiv (wrap64 ((l0.length:Int) + 1)) 2)) * 9))) = some r:=by first|(rw [hy528];with_reducible exact H)|(have H2_:=(Option.bind_some _ _).symm.trans H;rw [hy528];with_reducible exact H2_)|(have H2_:=(Option.bind_some _ _).symm.trans H;with_reducible exact H2_)|with_reducible exact H|(rw [hy528];exact H)|exact H
 have Ny528:=Aside0.mk hy528
 clear hy528
 have H':=Aside0.mk H
 clear H
 go_enter Tryd.func53,Tryd.ntmps53
 go_wp2_with (first|((with_reducible refine gate_dst (N:=7) rfl ?_);refine Kd.R_lit (Kd.int .u32) _ 64 ?hg (N:=7) ?hd (xs:=([]:List Int)) (inner:=[]) (ok:=fun _=>True) (okp:=fun _=>True) ?hr ?hp (fun _ hk=>hk) trivial (Below.refl _ _) (Nat.le_refl _) (by simp) ?_;(case hd=>rfl);(case hg=>rfl);(case hr=>first|(go_simp;done)|(go_simp;rfl));(case hp=>exact (Reps.none _ _));intro v529 w2 ho3 hb hg_ hnew_;clear hg_ hnew_;(first|rw [← Ny528.out] at ho3|(simp only [Int.reduceToNat] at ho3;rw [← Ny528.out] at ho3));have n0_:=Aside0.mk (Kd.R_lower (Kd.R_newM (M:=fun k_=>(w.heap.size≤k_)) ho3 (below_size (by repeat (first|(with_reducible first|exact HB.out|apply below_alloc|apply pw_below_drewN|apply below_drew1)|exact HB.out))) (fun k_ h_=>h_)) (below_size (by repeat (first|(with_reducible first|exact HB.out|apply below_alloc|apply pw_below_drewN|apply below_drew1)|exact HB.out))));have n1_:=Aside0.mk (below_step (by repeat (first|(with_reducible first|exact HB.out|apply below_alloc|apply pw_below_drewN|apply below_drew1)|exact HB.out)) hb);clear HB;have HO530:=n0_;have HB:=n1_;clear n0_ n1_;clear hb ho3))
 go_loopg [3,4] k (fun kq v3 v4 w'=>∃ (x3_1:List Int) (x4_1:Int),v4 = .int .i64 x4_1∧Aside0 (garboardref01_Floor.l0 kq l0 x3_1 x4_1 = some r)∧Aside0 (kq≤k)∧Aside0 (Kd.V (Kd.int .u32) 64 w' w.heap.size (fun k_=>(w.heap.size≤k_)) v3 x3_1)∧Aside0 (Below w.heap.size w w'))
 case atStart=>exact ⟨(y528),(wrap64 ((wrap64 (Int.tdiv (wrap64 ((l0.length:Int) + 1)) 2)) * 9)),(by first|rfl|(simp;done)|(simp [*];done)),H',⟨Nat.le_refl _⟩,⟨Kd.R_V (by (with_reducible repeat (first|apply Kd.R_alloc|apply Kd.R_drewN|apply Kd.R_drew));exact Kd.R_mono HO530.out (fun _ hk=>hk.1))⟩,⟨by repeat (first|(with_reducible first|exact HB.out|apply below_alloc|apply pw_below_drewN|apply below_drew1)|exact HB.out)⟩⟩
 case round =>
  clear H'
  try clear p2
  obtain ⟨x3_1,x4_1,rfl,HA,HK1,HO_3,HB⟩:=hrel
  cases gk with
  | zero=>exact absurd HA.out (by simp [garboardref01_Floor.l0])
  | succ k1 =>
   have H:=HA.out
   clear HA
   simp only [garboardref01_Floor.l0] at H
   by_cases c4:x4_1 ≥ 0
   ·rw [if_pos c4] at H
    have c4b0:decide (0≤x4_1) = true:=decide_eq_true c4
    clear c4
    obtain ⟨ji5,hji5⟩:∃ j_:Int,(wrap64 (Int.tdiv x4_1 9)) = j_:=⟨_,rfl⟩
    replace H:(if 0≤(ji5) then (if (ji5:Int).toNat≤70368744177664 then ((some (List.replicate (ji5:Int).toNat 0:List Int)).bind fun y531=>((garboardref01_Small.f k1 10).bind fun t534=>((garboardref01_Power.f k1 t534 (Int.tmod x4_1 9)).bind fun t537=>((garboardref01_word.f k1 t537).bind fun t540=>((garboardref01_Small.f k1 ((t540) % 4294967296)).bind fun t541=>(if y531.length + t541.length < 35184372088832 then (garboardref01_Floor.l1 k1 l0 x3_1 x4_1 (y531 ++ t541)) else (none))))))) else (none)) else (none)) = some r:=by first|(rw [hji5] at H;exact H)|(simp only [hji5] at H ⊢;exact H)
    have hji5w:(IntKind.i64.wrap (Int.tdiv x4_1 9)) = ji5:=(i64_w _).trans hji5
    by_cases c6:0≤(ji5)
    ·rw [if_pos c6] at H
     have c6b0:=eq_true c6
     have c6b1:decide (0≤(ji5)) = true:=decide_eq_true c6
     clear c6
     by_cases c7:(ji5:Int).toNat≤70368744177664
     ·rw [if_pos c7] at H
      have c7b0:=eq_true c7
      have c7b1:decide ((ji5:Int).toNat≤70368744177664) = true:=decide_eq_true c7
      clear c7
      obtain ⟨y531,hy531⟩:∃ y_:List Int,y_ = (List.replicate (ji5:Int).toNat 0):=⟨_,rfl⟩
      replace H:((garboardref01_Small.f k1 10).bind fun t534=>((garboardref01_Power.f k1 t534 (Int.tmod x4_1 9)).bind fun t537=>((garboardref01_word.f k1 t537).bind fun t540=>((garboardref01_Small.f k1 ((t540) % 4294967296)).bind fun t541=>(if y531.length + t541.length < 35184372088832 then (garboardref01_Floor.l1 k1 l0 x3_1 x4_1 (y531 ++ t541)) else (none)))))) = some r:=by first|(rw [hy531];with_reducible exact H)|(have H2_:=(Option.bind_some _ _).symm.trans H;rw [hy531];with_reducible exact H2_)|(have H2_:=(Option.bind_some _ _).symm.trans H;with_reducible exact H2_)|with_reducible exact H|(rw [hy531];exact H)|exact H
      have Ny531:=Aside0.mk hy531
      clear hy531
      replace H:=Option.bind_eq_some_iff.mp H
      obtain ⟨t534,A80,H⟩:=H
      replace H:((garboardref01_Power.f k1 t534 (Int.tmod x4_1 9)).bind fun t537=>((garboardref01_word.f k1 t537).bind fun t540=>((garboardref01_Small.f k1 ((t540) % 4294967296)).bind fun t541=>(if y531.length + t541.length < 35184372088832 then (garboardref01_Floor.l1 k1 l0 x3_1 x4_1 (y531 ++ t541)) else (none))))) = some r:=H
      have A8:=Aside0.mk A80
      clear A80
      replace H:=Option.bind_eq_some_iff.mp H
      obtain ⟨t537,A90,H⟩:=H
      replace H:((garboardref01_word.f k1 t537).bind fun t540=>((garboardref01_Small.f k1 ((t540) % 4294967296)).bind fun t541=>(if y531.length + t541.length < 35184372088832 then (garboardref01_Floor.l1 k1 l0 x3_1 x4_1 (y531 ++ t541)) else (none)))) = some r:=H
      have A9:=Aside0.mk A90
      clear A90
      replace H:=Option.bind_eq_some_iff.mp H
      obtain ⟨t540,A100,H⟩:=H
      replace H:((garboardref01_Small.f k1 ((t540) % 4294967296)).bind fun t541=>(if y531.length + t541.length < 35184372088832 then (garboardref01_Floor.l1 k1 l0 x3_1 x4_1 (y531 ++ t541)) else (none))) = some r:=H
      have A10:=Aside0.mk A100
      clear A100
      replace H:=Option.bind_eq_some_iff.mp H
      obtain ⟨t541,A110,H⟩:=H
      replace H:(if y531.length + t541.length < 35184372088832 then (garboardref01_Floor.l1 k1 l0 x3_1 x4_1 (y531 ++ t541)) else (none)) = some r:=H
      have A11:=Aside0.mk A110
      clear A110
      by_cases c12:y531.length + t541.length < 35184372088832
      ·rw [if_pos c12] at H
       have LMc12:=Aside0.mk c12
       clear c12
       obtain ⟨y544,hy544⟩:∃ y_:List Int,y_ = (y531 ++ t541):=⟨_,rfl⟩
       replace H:(garboardref01_Floor.l1 k1 l0 x3_1 x4_1 y544) = some r:=by first|(rw [hy544];with_reducible exact H)|(have H2_:=(Option.bind_some _ _).symm.trans H;rw [hy544];with_reducible exact H2_)|(have H2_:=(Option.bind_some _ _).symm.trans H;with_reducible exact H2_)|with_reducible exact H|(rw [hy544];exact H)|exact H
       have Ny544:=Aside0.mk hy544
       clear hy544
       have H':=Aside0.mk H
       clear H
       try go_wp2
       have n0_:=Aside0.mk (Kd.V_drew HO_3.out)
       have n1_:=Aside0.mk (below_drew1 HB.out)
       clear HO_3
       clear HB
       have HO_3:=n0_
       have HB:=n1_
       clear n0_ n1_
       refine start_ (n:=12) (S:=fun w'=>True) (ds:=[]) #[false,false,false,false,false,false,false,false,false,false,false,false] (by kernel_rfl) rfl rfl trivial (fun hHeld=>?_);refine with_tabW garboardref01_Floor.tab5 garboardref01_Floor.bits5 (fun HT_ HW_=>?_)
       generalize wr.drew = w13 at HO_3 HB hHeld ⊢
       refine pure_ (i:=0) (N:=some 17) (v:=?_) (a':=?_) #[true,false,false,false,false,false,false,false,false,false,false,false] rfl rfl (any_of HT_.out (by kernel_rfl)) (fun _ _ _ h=>h) (Or.inl ⟨by rfl,?_⟩) ?_ ?_
       rotate_left
       ·intro w'
        go_simp
        with_reducible rfl
       rotate_left
       ·simp only [Act.put,List.setIfInBounds_toArray,List.set_cons_zero,List.set_cons_succ,i64_w,i32_w]
        rfl
       refine pure_ (i:=1) (N:=some 18) (v:=?_) (a':=?_) #[true,true,false,false,false,false,false,false,false,false,false,false] rfl rfl (any_of HT_.out (by kernel_rfl)) (fun _ _ _ h=>h) (Or.inl ⟨by rfl,?_⟩) ?_ ?_
       rotate_left
       ·intro w'
        go_simp
        with_reducible rfl
       rotate_left
       ·simp only [Act.put,List.setIfInBounds_toArray,List.set_cons_zero,List.set_cons_succ,i64_w,i32_w]
        rfl
       refine pure_ (i:=4) (N:=some 21) (v:=?_) (a':=?_) #[true,true,false,false,true,false,false,false,false,false,false,false] rfl rfl (any_of HT_.out (by kernel_rfl)) (fun _ _ _ h=>h) (Or.inl ⟨by rfl,?_⟩) ?_ ?_
       rotate_left
       ·intro w'
        go_simp
        with_reducible rfl
       rotate_left
       ·simp only [Act.put,List.setIfInBounds_toArray,List.set_cons_zero,List.set_cons_succ,i64_w,i32_w]
        rfl
       refine pure_ (i:=5) (N:=some 22) (v:=?_) (a':=?_) #[true,true,false,false,true,true,false,false,false,false,false,false] rfl rfl (any_of HT_.out (by kernel_rfl)) (fun _ _ _ h=>h) (Or.inl ⟨by rfl,?_⟩) ?_ ?_
       rotate_left
       ·intro w'
        go_simp
        with_reducible rfl
       rotate_left
       ·simp only [Act.put,List.setIfInBounds_toArray,List.set_cons_zero,List.set_cons_succ,i64_w,i32_w]
        rfl
       refine join_ (σ:=Value × Value × Value × Value) 2 #[true,true,true,true,true,true,true,true,true,true,false,false] (fun s_=>[(19,s_.1),(20,s_.2.1),(23,s_.2.2.1),(24,.int .u64 t540),(26,s_.2.2.2),(25,.int .u32 ((t540) % 4294967296))]) (fun s_ w'=>(Kd.R (Kd.int .u32) 64 w' w.heap.size (fun k_=>(w.heap.size≤k_)) s_.1 y531)∧(Kd.V (Kd.int .u32) 64 w' w.heap.size (fun k_=>(w.heap.size≤k_)∧some k_≠(s_.1:Value).ownBlock) s_.2.1 t534)∧(Kd.V (Kd.int .u32) 64 w' w.heap.size (fun k_=>(w.heap.size≤k_)∧some k_≠(s_.1:Value).ownBlock) s_.2.2.1 t537)∧(Kd.V (Kd.int .u32) 64 w' w.heap.size (fun k_=>(w.heap.size≤k_)∧some k_≠(s_.1:Value).ownBlock) s_.2.2.2 t541)∧(Kd.V (Kd.int .u32) 64 w' w.heap.size (fun k_=>(w.heap.size≤k_)∧some k_≠(s_.1:Value).ownBlock) u3 x3_1)∧(Below w.heap.size w w')) ?_ ?_
       rotate_left
       ·intro hJ2_3_6_7_9
        refine join_ (σ:=Value × Value × Value) 3 #[true,true,true,true,true,true,true,true,true,false,false,false] (fun s_=>[(19,s_.1),(20,s_.2.1),(23,s_.2.2),(24,.int .u64 t540),(25,.int .u32 ((t540) % 4294967296))]) (fun s_ w'=>(Kd.R (Kd.int .u32) 64 w' w.heap.size (fun k_=>(w.heap.size≤k_)) s_.1 y531)∧(Kd.V (Kd.int .u32) 64 w' w.heap.size (fun k_=>(w.heap.size≤k_)∧some k_≠(s_.1:Value).ownBlock) s_.2.1 t534)∧(Kd.V (Kd.int .u32) 64 w' w.heap.size (fun k_=>(w.heap.size≤k_)∧some k_≠(s_.1:Value).ownBlock) s_.2.2 t537)∧(Kd.V (Kd.int .u32) 64 w' w.heap.size (fun k_=>(w.heap.size≤k_)∧some k_≠(s_.1:Value).ownBlock) u3 x3_1)∧(Below w.heap.size w w')) ?_ ?_
        rotate_left
        ·intro hJ2_3_6_7
         refine join_ (σ:=Value × Value × Value) 3 #[true,true,false,true,true,true,true,true,true,true,false,false] (fun s_=>[(20,s_.1),(23,s_.2.1),(24,.int .u64 t540),(26,s_.2.2),(25,.int .u32 ((t540) % 4294967296))]) (fun s_ w'=>(Kd.V (Kd.int .u32) 64 w' w.heap.size (fun k_=>(w.heap.size≤k_)) s_.1 t534)∧(Kd.V (Kd.int .u32) 64 w' w.heap.size (fun k_=>(w.heap.size≤k_)) s_.2.1 t537)∧(Kd.V (Kd.int .u32) 64 w' w.heap.size (fun k_=>(w.heap.size≤k_)) s_.2.2 t541)∧(Kd.V (Kd.int .u32) 64 w' w.heap.size (fun k_=>(w.heap.size≤k_)) u3 x3_1)∧(Below w.heap.size w w')) ?_ ?_
         rotate_left
         ·intro hJ3_6_7_9
          refine join_ (σ:=Value × Value × Value) 5 #[true,true,true,true,true,true,true,false,false,false,false,false] (fun s_=>[(19,s_.1),(20,s_.2.1),(23,s_.2.2)]) (fun s_ w'=>(Kd.R (Kd.int .u32) 64 w' w.heap.size (fun k_=>(w.heap.size≤k_)) s_.1 y531)∧(Kd.V (Kd.int .u32) 64 w' w.heap.size (fun k_=>(w.heap.size≤k_)∧some k_≠(s_.1:Value).ownBlock) s_.2.1 t534)∧(Kd.V (Kd.int .u32) 64 w' w.heap.size (fun k_=>(w.heap.size≤k_)∧some k_≠(s_.1:Value).ownBlock) s_.2.2 t537)∧(Kd.V (Kd.int .u32) 64 w' w.heap.size (fun k_=>(w.heap.size≤k_)∧some k_≠(s_.1:Value).ownBlock) u3 x3_1)∧(Below w.heap.size w w')) ?_ ?_
          rotate_left
          ·intro hJ2_3_6
           refine join_ (σ:=Value × Value) 4 #[true,true,false,true,true,true,true,true,true,false,false,false] (fun s_=>[(20,s_.1),(23,s_.2),(24,.int .u64 t540),(25,.int .u32 ((t540) % 4294967296))]) (fun s_ w'=>(Kd.V (Kd.int .u32) 64 w' w.heap.size (fun k_=>(w.heap.size≤k_)) s_.1 t534)∧(Kd.V (Kd.int .u32) 64 w' w.heap.size (fun k_=>(w.heap.size≤k_)) s_.2 t537)∧(Kd.V (Kd.int .u32) 64 w' w.heap.size (fun k_=>(w.heap.size≤k_)) u3 x3_1)∧(Below w.heap.size w w')) ?_ ?_
           rotate_left
           ·intro hJ3_6_7
            refine join_ (σ:=Value × Value) 6 #[true,true,true,true,true,true,false,false,false,false,false,false] (fun s_=>[(19,s_.1),(20,s_.2)]) (fun s_ w'=>(Kd.R (Kd.int .u32) 64 w' w.heap.size (fun k_=>(w.heap.size≤k_)) s_.1 y531)∧(Kd.V (Kd.int .u32) 64 w' w.heap.size (fun k_=>(w.heap.size≤k_)∧some k_≠(s_.1:Value).ownBlock) s_.2 t534)∧(Kd.V (Kd.int .u32) 64 w' w.heap.size (fun k_=>(w.heap.size≤k_)∧some k_≠(s_.1:Value).ownBlock) u3 x3_1)∧(Below w.heap.size w w')) ?_ ?_
            rotate_left
            ·intro hJ2_3
             refine join_ (σ:=Value × Value) 6 #[true,true,false,true,true,true,true,false,false,false,false,false] (fun s_=>[(20,s_.1),(23,s_.2)]) (fun s_ w'=>(Kd.V (Kd.int .u32) 64 w' w.heap.size (fun k_=>(w.heap.size≤k_)) s_.1 t534)∧(Kd.V (Kd.int .u32) 64 w' w.heap.size (fun k_=>(w.heap.size≤k_)) s_.2 t537)∧(Kd.V (Kd.int .u32) 64 w' w.heap.size (fun k_=>(w.heap.size≤k_)) u3 x3_1)∧(Below w.heap.size w w')) ?_ ?_
             rotate_left
             ·intro hJ3_6
              refine join_ (σ:=Value) 7 #[true,true,true,false,true,true,false,false,false,false,false,false] (fun s_=>[(19,s_)]) (fun s_ w'=>(Kd.R (Kd.int .u32) 64 w' w.heap.size (fun k_=>(w.heap.size≤k_)) s_ y531)∧(Kd.V (Kd.int .u32) 64 w' w.heap.size (fun k_=>(w.heap.size≤k_)∧some k_≠(s_:Value).ownBlock) u3 x3_1)∧(Below w.heap.size w w')) ?_ ?_
              rotate_left
              ·intro hJ2
               refine join_ (σ:=Value) 7 #[true,true,false,true,true,true,false,false,false,false,false,false] (fun s_=>[(20,s_)]) (fun s_ w'=>(Kd.V (Kd.int .u32) 64 w' w.heap.size (fun k_=>(w.heap.size≤k_)) s_ t534)∧(Kd.V (Kd.int .u32) 64 w' w.heap.size (fun k_=>(w.heap.size≤k_)) u3 x3_1)∧(Below w.heap.size w w')) ?_ ?_
               rotate_left
               ·intro hJ3
                refine two_ (i:=2) (j:=3) (Ni:=some 19) (Nj:=some 20) #[true,true,true,false,true,true,false,false,false,false,false,false] #[true,true,false,true,true,true,false,false,false,false,false,false] rfl rfl rfl rfl (two_of HT_.out (by kernel_rfl)) (by decide) (by decide) (fun K hK=>?_) (fun K hK=>?_)
                ·skip
                 refine Kd.R_make_step (Kd.int .u32) _ 64 (by rfl) (N:=19) rfl 45 _ _ rfl ji5 rfl rfl Tryd.underlying45 (.int .u32 0) 4 info64 rfl (by decide) (by omega) 0 (ok:=fun _=>True) (okp:=fun _=>True) rfl (fun _ hk=>hk) trivial (of_decide_eq_true (by first|(with_reducible assumption)|assumption)) (Nat.le_trans (Nat.mul_le_mul_right _ (of_decide_eq_true (by first|(with_reducible assumption)|assumption):ji5.toNat≤70368744177664)) (by omega)) (Below.refl _ _) (Nat.le_refl _) ?_
                 intro v532 w14 ho15 hb hg_ hnew_
                 clear hg_ hnew_
                 (first|rw [← Ny531.out] at ho15|(simp only [Int.reduceToNat] at ho15;rw [← Ny531.out] at ho15))
                 have n0_:=Aside0.mk (Kd.V_elder' (by (with_reducible repeat (first|apply Kd.V_alloc|apply Kd.V_drewN|apply Kd.V_drew));exact HO_3.out) (Kd.R_base ho15) hb)
                 have n1_:=Aside0.mk (Kd.R_lower (Kd.R_newM (M:=fun k_=>(w.heap.size≤k_)) ho15 (below_size (by repeat (first|(with_reducible first|exact HB.out|apply below_alloc|apply pw_below_drewN|apply below_drew1)|exact HB.out))) (fun k_ h_=>h_)) (below_size (by repeat (first|(with_reducible first|exact HB.out|apply below_alloc|apply pw_below_drewN|apply below_drew1)|exact HB.out))))
                 have n2_:=Aside0.mk (below_step (by repeat (first|(with_reducible first|exact HB.out|apply below_alloc|apply pw_below_drewN|apply below_drew1)|exact HB.out)) hb)
                 clear HO_3
                 clear HB
                 have HO_3:=n0_
                 have HO533:=n1_
                 have HB:=n2_
                 clear n0_ n1_ n2_
                 clear hb ho15
                 refine hK.out _ _ trivial (fun hHeld=>?_)
                 clear hK K
                 refine norm_ (a':=?_) ?_ ?_
                 rotate_left
                 ·show Act.put _ (some 19) _ = _
                  simp only [Act.put,List.setIfInBounds_toArray,List.set_cons_zero,List.set_cons_succ,i64_w,i32_w]
                  rfl
                 exact norm_ (by first|(simp only [putAll,Act.put,List.setIfInBounds_toArray,List.set_cons_zero,List.set_cons_succ];done)|(simp only [putAll,Act.put,List.setIfInBounds_toArray,List.set_cons_zero,List.set_cons_succ];rfl)) (hJ2 (v532) _ ⟨(by (with_reducible repeat (first|apply Kd.R_alloc|apply Kd.R_drewN|apply Kd.R_drew));exact Kd.R_mono HO533.out (fun _ hk=>hk.1)),(by (with_reducible repeat (first|apply Kd.V_alloc|apply Kd.V_drewN|apply Kd.V_drew));exact HO_3.out),(by repeat (first|(with_reducible first|exact HB.out|apply below_alloc|apply pw_below_drewN|apply below_drew1)|exact HB.out))⟩)
                ·skip
                 refine goes_ Tryd.func68 (by kernel_rfl) rfl #[.int .u32 10] (by rfl) rfl rfl (by (try simp only [List.map_toArray,List.map_cons,List.map_nil]);first|done|rfl|(simp only [List.length_drop,List.length_take];rfl)) ?_
                 with_reducible refine (garboardref01_Small.calls k1 10 t534 _ A8.out).mono ?_
                 rintro e w14 ⟨v535,rfl,ho0,hb⟩
                 refine ⟨_,rfl,?_⟩
                 have n0_:=Aside0.mk (Kd.V_below (by (with_reducible repeat (first|apply Kd.V_alloc|apply Kd.V_drewN|apply Kd.V_drew));exact HO_3.out) hb)
                 have n1_:=Aside0.mk (Kd.V_lower (Kd.V_mono (ok':=fun k_=>(w.heap.size≤k_)) ho0 (fun k_ hk_=>(Nat.le_trans (below_size (by repeat (first|(with_reducible first|exact HB.out|apply below_alloc|apply pw_below_drewN|apply below_drew1)|exact HB.out))) hk_))) (below_size (by repeat (first|(with_reducible first|exact HB.out|apply below_alloc|apply pw_below_drewN|apply below_drew1)|exact HB.out))))
                 have n2_:=Aside0.mk (below_step (by repeat (first|(with_reducible first|exact HB.out|apply below_alloc|apply pw_below_drewN|apply below_drew1)|exact HB.out)) hb)
                 clear HO_3
                 clear HB
                 have HO_3:=n0_
                 have HO536:=n1_
                 have HB:=n2_
                 clear n0_ n1_ n2_
                 (try clear hb)
                 (try clear hb2)
                 (try clear hk)
                 (try clear hi)
                 (try clear ho0)
                 refine hK.out _ _ trivial (fun hHeld=>?_)
                 clear hK K
                 refine norm_ (a':=?_) ?_ ?_
                 rotate_left
                 ·show Act.put _ (some 20) _ = _
                  simp only [Act.put,List.setIfInBounds_toArray,List.set_cons_zero,List.set_cons_succ,i64_w,i32_w]
                  rfl
                 exact norm_ (by first|(simp only [putAll,Act.put,List.setIfInBounds_toArray,List.set_cons_zero,List.set_cons_succ];done)|(simp only [putAll,Act.put,List.setIfInBounds_toArray,List.set_cons_zero,List.set_cons_succ];rfl)) (hJ3 (v535) _ ⟨(by (with_reducible repeat (first|apply Kd.V_alloc|apply Kd.V_drewN|apply Kd.V_drew));exact HO536.out),(by (with_reducible repeat (first|apply Kd.V_alloc|apply Kd.V_drewN|apply Kd.V_drew));exact HO_3.out),(by repeat (first|(with_reducible first|exact HB.out|apply below_alloc|apply pw_below_drewN|apply below_drew1)|exact HB.out))⟩)
               ·skip
                rintro v535 w15 ⟨h0_,h1_,h2_⟩
                have n0_:Aside0 (Kd.V (Kd.int .u32) 64 w15 w.heap.size (fun k_=>(w.heap.size≤k_)) v535 t534):=⟨h0_⟩
                have n1_:Aside0 (Kd.V (Kd.int .u32) 64 w15 w.heap.size (fun k_=>(w.heap.size≤k_)) u3 x3_1):=⟨h1_⟩
                have n2_:Aside0 (Below w.heap.size w w15):=⟨h2_⟩
                clear HO_3
                clear HB
                clear h0_ h1_ h2_
                have HO536:=n0_
                have HO_3:=n1_
                have HB:=n2_
                clear n0_ n1_ n2_
                have hHeld:=trivial
                refine norm_ (a':=?_) ?_ ?_
                rotate_left
                ·simp only [putAll,Act.put,List.setIfInBounds_toArray,List.set_cons_zero,List.set_cons_succ]
                 rfl
                refine two_ (i:=2) (j:=6) (Ni:=some 19) (Nj:=some 23) #[true,true,true,true,true,true,false,false,false,false,false,false] #[true,true,false,true,true,true,true,false,false,false,false,false] rfl rfl rfl rfl (two_of HT_.out (by kernel_rfl)) (by decide) (by decide) (fun K hK=>?_) (fun K hK=>?_)
                ·skip
                 refine Kd.R_make_step (Kd.int .u32) _ 64 (by rfl) (N:=19) rfl 45 _ _ rfl ji5 rfl rfl Tryd.underlying45 (.int .u32 0) 4 info64 rfl (by decide) (by omega) 0 (ok:=fun _=>True) (okp:=fun _=>True) rfl (fun _ hk=>hk) trivial (of_decide_eq_true (by first|(with_reducible assumption)|assumption)) (Nat.le_trans (Nat.mul_le_mul_right _ (of_decide_eq_true (by first|(with_reducible assumption)|assumption):ji5.toNat≤70368744177664)) (by omega)) (Below.refl _ _) (Nat.le_refl _) ?_
                 intro v532 w16 ho17 hb hg_ hnew_
                 clear hg_ hnew_
                 (first|rw [← Ny531.out] at ho17|(simp only [Int.reduceToNat] at ho17;rw [← Ny531.out] at ho17))
                 have n0_:=Aside0.mk (Kd.V_elder' (by (with_reducible repeat (first|apply Kd.V_alloc|apply Kd.V_drewN|apply Kd.V_drew));exact HO_3.out) (Kd.R_base ho17) hb)
                 have n1_:=Aside0.mk (Kd.V_elder' (by (with_reducible repeat (first|apply Kd.V_alloc|apply Kd.V_drewN|apply Kd.V_drew));exact HO536.out) (Kd.R_base ho17) hb)
                 have n2_:=Aside0.mk (Kd.R_lower (Kd.R_newM (M:=fun k_=>(w.heap.size≤k_)) ho17 (below_size (by repeat (first|(with_reducible first|exact HB.out|apply below_alloc|apply pw_below_drewN|apply below_drew1)|exact HB.out))) (fun k_ h_=>h_)) (below_size (by repeat (first|(with_reducible first|exact HB.out|apply below_alloc|apply pw_below_drewN|apply below_drew1)|exact HB.out))))
                 have n3_:=Aside0.mk (below_step (by repeat (first|(with_reducible first|exact HB.out|apply below_alloc|apply pw_below_drewN|apply below_drew1)|exact HB.out)) hb)
                 clear HO_3
                 clear HO536
                 clear HB
                 have HO_3:=n0_
                 have HO536:=n1_
                 have HO533:=n2_
                 have HB:=n3_
                 clear n0_ n1_ n2_ n3_
                 clear hb ho17
                 refine hK.out _ _ trivial (fun hHeld=>?_)
                 clear hK K
                 refine norm_ (a':=?_) ?_ ?_
                 rotate_left
                 ·show Act.put _ (some 19) _ = _
                  simp only [Act.put,List.setIfInBounds_toArray,List.set_cons_zero,List.set_cons_succ,i64_w,i32_w]
                  rfl
                 exact norm_ (by first|(simp only [putAll,Act.put,List.setIfInBounds_toArray,List.set_cons_zero,List.set_cons_succ];done)|(simp only [putAll,Act.put,List.setIfInBounds_toArray,List.set_cons_zero,List.set_cons_succ];rfl)) (hJ2_3 (v532,v535) _ ⟨(by (with_reducible repeat (first|apply Kd.R_alloc|apply Kd.R_drewN|apply Kd.R_drew));exact Kd.R_mono HO533.out (fun _ hk=>hk.1)),(by (with_reducible repeat (first|apply Kd.V_alloc|apply Kd.V_drewN|apply Kd.V_drew));exact HO536.out),(by (with_reducible repeat (first|apply Kd.V_alloc|apply Kd.V_drewN|apply Kd.V_drew));exact HO_3.out),(by repeat (first|(with_reducible first|exact HB.out|apply below_alloc|apply pw_below_drewN|apply below_drew1)|exact HB.out))⟩)
                ·skip
                 obtain ⟨Ao16,co16,eo16⟩:=Kd.V_slice HO536.out
                 (first|subst eo16|(injection eo16 with f1_ f2_ f3_;have f4_:=f1_.symm;have f5_:=f3_.symm;clear f1_ f2_ f3_;subst f4_;subst f5_))
                 refine goes_ Tryd.func55 (by kernel_rfl) rfl #[.slice Ao16 t534.length co16,.int .i64 (Int.tmod x4_1 9)] (by rfl) rfl rfl (by (try simp only [List.map_toArray,List.map_cons,List.map_nil]);first|done|rfl|(simp only [List.length_drop,List.length_take];rfl)) ?_
                 with_reducible refine (garboardref01_Power.calls k1 _ _ t534 (Int.tmod x4_1 9) t537 _ ?side1 ?side2 A9.out).mono ?_
                 (case side1=>repeat (first|exact (Kd.V_reads' HO536.out).2.2|(with_reducible refine Kd.C_alloc ?_ _)|(with_reducible refine Kd.C_drewN ?_ _)|(with_reducible refine Kd.C_drew ?_)))
                 (case side2=>exact (Kd.V_reads' HO536.out).2.1)
                 rintro e w17 ⟨v538,rfl,ho0,hb⟩
                 refine ⟨_,rfl,?_⟩
                 have n0_:=Aside0.mk (Kd.V_below (by (with_reducible repeat (first|apply Kd.V_alloc|apply Kd.V_drewN|apply Kd.V_drew));exact HO_3.out) hb)
                 have n1_:=Aside0.mk (Kd.V_below (by (with_reducible repeat (first|apply Kd.V_alloc|apply Kd.V_drewN|apply Kd.V_drew));exact HO536.out) hb)
                 have n2_:=Aside0.mk (Kd.V_lower (Kd.V_mono (ok':=fun k_=>(w.heap.size≤k_)) ho0 (fun k_ hk_=>(Nat.le_trans (below_size (by repeat (first|(with_reducible first|exact HB.out|apply below_alloc|apply pw_below_drewN|apply below_drew1)|exact HB.out))) hk_))) (below_size (by repeat (first|(with_reducible first|exact HB.out|apply below_alloc|apply pw_below_drewN|apply below_drew1)|exact HB.out))))
                 have n3_:=Aside0.mk (below_step (by repeat (first|(with_reducible first|exact HB.out|apply below_alloc|apply pw_below_drewN|apply below_drew1)|exact HB.out)) hb)
                 clear HO_3
                 clear HO536
                 clear HB
                 have HO_3:=n0_
                 have HO536:=n1_
                 have HO539:=n2_
                 have HB:=n3_
                 clear n0_ n1_ n2_ n3_
                 (try clear hb)
                 (try clear hb2)
                 (try clear hk)
                 (try clear hi)
                 (try clear ho0)
                 refine hK.out _ _ trivial (fun hHeld=>?_)
                 clear hK K
                 refine norm_ (a':=?_) ?_ ?_
                 rotate_left
                 ·show Act.put _ (some 23) _ = _
                  simp only [Act.put,List.setIfInBounds_toArray,List.set_cons_zero,List.set_cons_succ,i64_w,i32_w]
                  rfl
                 exact norm_ (by first|(simp only [putAll,Act.put,List.setIfInBounds_toArray,List.set_cons_zero,List.set_cons_succ];done)|(simp only [putAll,Act.put,List.setIfInBounds_toArray,List.set_cons_zero,List.set_cons_succ];rfl)) (hJ3_6 (.slice Ao16 t534.length co16,v538) _ ⟨(by (with_reducible repeat (first|apply Kd.V_alloc|apply Kd.V_drewN|apply Kd.V_drew));exact HO536.out),(by (with_reducible repeat (first|apply Kd.V_alloc|apply Kd.V_drewN|apply Kd.V_drew));exact HO539.out),(by (with_reducible repeat (first|apply Kd.V_alloc|apply Kd.V_drewN|apply Kd.V_drew));exact HO_3.out),(by repeat (first|(with_reducible first|exact HB.out|apply below_alloc|apply pw_below_drewN|apply below_drew1)|exact HB.out))⟩)
              ·skip
               rintro v532 w16 ⟨h0_,h1_,h2_⟩
               have n0_:Aside0 (Kd.R (Kd.int .u32) 64 w16 w.heap.size (fun k_=>(w.heap.size≤k_)) v532 y531):=⟨h0_⟩
               have n1_:Aside0 (Kd.V (Kd.int .u32) 64 w16 w.heap.size (fun k_=>(w.heap.size≤k_)∧some k_≠(v532:Value).ownBlock) u3 x3_1):=⟨h1_⟩
               have n2_:Aside0 (Below w.heap.size w w16):=⟨h2_⟩
               clear HO_3
               clear HB
               clear h0_ h1_ h2_
               have HO533:=n0_
               have HO_3:=n1_
               have HB:=n2_
               clear n0_ n1_ n2_
               have hHeld:=trivial
               refine norm_ (a':=?_) ?_ ?_
               rotate_left
               ·simp only [putAll,Act.put,List.setIfInBounds_toArray,List.set_cons_zero,List.set_cons_succ]
                rfl
               refine one_ (i:=3) (N:=some 20) #[true,true,true,true,true,true,false,false,false,false,false,false] rfl rfl (one_of HT_.out (by kernel_rfl)) (by decide) (fun K hK=>?_)
               refine goes_ Tryd.func68 (by kernel_rfl) rfl #[.int .u32 10] (by rfl) rfl rfl (by (try simp only [List.map_toArray,List.map_cons,List.map_nil]);first|done|rfl|(simp only [List.length_drop,List.length_take];rfl)) ?_
               with_reducible refine (garboardref01_Small.calls k1 10 t534 _ A8.out).mono ?_
               rintro e w17 ⟨v535,rfl,ho0,hb⟩
               refine ⟨_,rfl,?_⟩
               have n0_:=Aside0.mk (Kd.V_below (by (with_reducible repeat (first|apply Kd.V_alloc|apply Kd.V_drewN|apply Kd.V_drew));exact HO_3.out) hb)
               have n1_:=Aside0.mk (Kd.R_below (by (with_reducible repeat (first|apply Kd.R_alloc|apply Kd.R_drewN|apply Kd.R_drew));exact HO533.out) hb)
               have n2_:=Aside0.mk (Kd.V_lower (Kd.V_mono (ok':=fun k_=>(w.heap.size≤k_)∧some k_≠(v532:Value).ownBlock) ho0 (fun k_ hk_=>⟨(Nat.le_trans (below_size (by repeat (first|(with_reducible first|exact HB.out|apply below_alloc|apply pw_below_drewN|apply below_drew1)|exact HB.out))) hk_),(Kd.fresh' (Kd.R_lt (by (with_reducible repeat (first|apply Kd.R_alloc|apply Kd.R_drewN|apply Kd.R_drew));exact HO533.out)) k_ hk_)⟩)) (below_size (by repeat (first|(with_reducible first|exact HB.out|apply below_alloc|apply pw_below_drewN|apply below_drew1)|exact HB.out))))
               have n3_:=Aside0.mk (below_step (by repeat (first|(with_reducible first|exact HB.out|apply below_alloc|apply pw_below_drewN|apply below_drew1)|exact HB.out)) hb)
               clear HO_3
               clear HO533
               clear HB
               have HO_3:=n0_
               have HO533:=n1_
               have HO536:=n2_
               have HB:=n3_
               clear n0_ n1_ n2_ n3_
               (try clear hb)
               (try clear hb2)
               (try clear hk)
               (try clear hi)
               (try clear ho0)
               refine hK.out _ _ trivial (fun hHeld=>?_)
               clear hK K
               refine norm_ (a':=?_) ?_ ?_
               rotate_left
               ·show Act.put _ (some 20) _ = _
                simp only [Act.put,List.setIfInBounds_toArray,List.set_cons_zero,List.set_cons_succ,i64_w,i32_w]
                rfl
               exact norm_ (by first|(simp only [putAll,Act.put,List.setIfInBounds_toArray,List.set_cons_zero,List.set_cons_succ];done)|(simp only [putAll,Act.put,List.setIfInBounds_toArray,List.set_cons_zero,List.set_cons_succ];rfl)) (hJ2_3 (v532,v535) _ ⟨(by (with_reducible repeat (first|apply Kd.R_alloc|apply Kd.R_drewN|apply Kd.R_drew));exact HO533.out),(by (with_reducible repeat (first|apply Kd.V_alloc|apply Kd.V_drewN|apply Kd.V_drew));exact HO536.out),(by (with_reducible repeat (first|apply Kd.V_alloc|apply Kd.V_drewN|apply Kd.V_drew));exact HO_3.out),(by repeat (first|(with_reducible first|exact HB.out|apply below_alloc|apply pw_below_drewN|apply below_drew1)|exact HB.out))⟩)
             ·skip
              rintro ⟨v535,v538⟩ w17 ⟨h0_,h1_,h2_,h3_⟩
              have n0_:Aside0 (Kd.V (Kd.int .u32) 64 w17 w.heap.size (fun k_=>(w.heap.size≤k_)) v535 t534):=⟨h0_⟩
              have n1_:Aside0 (Kd.V (Kd.int .u32) 64 w17 w.heap.size (fun k_=>(w.heap.size≤k_)) v538 t537):=⟨h1_⟩
              have n2_:Aside0 (Kd.V (Kd.int .u32) 64 w17 w.heap.size (fun k_=>(w.heap.size≤k_)) u3 x3_1):=⟨h2_⟩
              have n3_:Aside0 (Below w.heap.size w w17):=⟨h3_⟩
              clear HO_3
              clear HB
              clear h0_ h1_ h2_ h3_
              have HO536:=n0_
              have HO539:=n1_
              have HO_3:=n2_
              have HB:=n3_
              clear n0_ n1_ n2_ n3_
              have hHeld:=trivial
              refine norm_ (a':=?_) ?_ ?_
              rotate_left
              ·simp only [putAll,Act.put,List.setIfInBounds_toArray,List.set_cons_zero,List.set_cons_succ]
               rfl
              refine two_ (i:=2) (j:=7) (Ni:=some 19) (Nj:=some 24) #[true,true,true,true,true,true,true,false,false,false,false,false] #[true,true,false,true,true,true,true,true,false,false,false,false] rfl rfl rfl rfl (two_of HT_.out (by kernel_rfl)) (by decide) (by decide) (fun K hK=>?_) (fun K hK=>?_)
              ·skip
               refine Kd.R_make_step (Kd.int .u32) _ 64 (by rfl) (N:=19) rfl 45 _ _ rfl ji5 rfl rfl Tryd.underlying45 (.int .u32 0) 4 info64 rfl (by decide) (by omega) 0 (ok:=fun _=>True) (okp:=fun _=>True) rfl (fun _ hk=>hk) trivial (of_decide_eq_true (by first|(with_reducible assumption)|assumption)) (Nat.le_trans (Nat.mul_le_mul_right _ (of_decide_eq_true (by first|(with_reducible assumption)|assumption):ji5.toNat≤70368744177664)) (by omega)) (Below.refl _ _) (Nat.le_refl _) ?_
               intro v532 w18 ho19 hb hg_ hnew_
               clear hg_ hnew_
               (first|rw [← Ny531.out] at ho19|(simp only [Int.reduceToNat] at ho19;rw [← Ny531.out] at ho19))
               have n0_:=Aside0.mk (Kd.V_elder' (by (with_reducible repeat (first|apply Kd.V_alloc|apply Kd.V_drewN|apply Kd.V_drew));exact HO_3.out) (Kd.R_base ho19) hb)
               have n1_:=Aside0.mk (Kd.V_elder' (by (with_reducible repeat (first|apply Kd.V_alloc|apply Kd.V_drewN|apply Kd.V_drew));exact HO536.out) (Kd.R_base ho19) hb)
               have n2_:=Aside0.mk (Kd.V_elder' (by (with_reducible repeat (first|apply Kd.V_alloc|apply Kd.V_drewN|apply Kd.V_drew));exact HO539.out) (Kd.R_base ho19) hb)
               have n3_:=Aside0.mk (Kd.R_lower (Kd.R_newM (M:=fun k_=>(w.heap.size≤k_)) ho19 (below_size (by repeat (first|(with_reducible first|exact HB.out|apply below_alloc|apply pw_below_drewN|apply below_drew1)|exact HB.out))) (fun k_ h_=>h_)) (below_size (by repeat (first|(with_reducible first|exact HB.out|apply below_alloc|apply pw_below_drewN|apply below_drew1)|exact HB.out))))
               have n4_:=Aside0.mk (below_step (by repeat (first|(with_reducible first|exact HB.out|apply below_alloc|apply pw_below_drewN|apply below_drew1)|exact HB.out)) hb)
               clear HO_3
               clear HO536
               clear HO539
               clear HB
               have HO_3:=n0_
               have HO536:=n1_
               have HO539:=n2_
               have HO533:=n3_
               have HB:=n4_
               clear n0_ n1_ n2_ n3_ n4_
               clear hb ho19
               refine hK.out _ _ trivial (fun hHeld=>?_)
               clear hK K
               refine norm_ (a':=?_) ?_ ?_
               rotate_left
               ·show Act.put _ (some 19) _ = _
                simp only [Act.put,List.setIfInBounds_toArray,List.set_cons_zero,List.set_cons_succ,i64_w,i32_w]
                rfl
               exact norm_ (by first|(simp only [putAll,Act.put,List.setIfInBounds_toArray,List.set_cons_zero,List.set_cons_succ];done)|(simp only [putAll,Act.put,List.setIfInBounds_toArray,List.set_cons_zero,List.set_cons_succ];rfl)) (hJ2_3_6 (v532,v535,v538) _ ⟨(by (with_reducible repeat (first|apply Kd.R_alloc|apply Kd.R_drewN|apply Kd.R_drew));exact Kd.R_mono HO533.out (fun _ hk=>hk.1)),(by (with_reducible repeat (first|apply Kd.V_alloc|apply Kd.V_drewN|apply Kd.V_drew));exact HO536.out),(by (with_reducible repeat (first|apply Kd.V_alloc|apply Kd.V_drewN|apply Kd.V_drew));exact HO539.out),(by (with_reducible repeat (first|apply Kd.V_alloc|apply Kd.V_drewN|apply Kd.V_drew));exact HO_3.out),(by repeat (first|(with_reducible first|exact HB.out|apply below_alloc|apply pw_below_drewN|apply below_drew1)|exact HB.out))⟩)
              ·skip
               obtain ⟨Ao18,co18,eo18⟩:=Kd.V_slice HO539.out
               (first|subst eo18|(injection eo18 with f1_ f2_ f3_;have f4_:=f1_.symm;have f5_:=f3_.symm;clear f1_ f2_ f3_;subst f4_;subst f5_))
               refine goes_ Tryd.func70 (by kernel_rfl) rfl #[.slice Ao18 t537.length co18] (by rfl) rfl rfl (by (try simp only [List.map_toArray,List.map_cons,List.map_nil]);first|done|rfl|(simp only [List.length_drop,List.length_take];rfl)) ?_
               with_reducible refine (garboardref01_word.calls k1 _ _ t537 t540 _ ?side1 ?side2 A10.out).mono ?_
               (case side1=>repeat (first|exact (Kd.V_reads' HO539.out).2.2|(with_reducible refine Kd.C_alloc ?_ _)|(with_reducible refine Kd.C_drewN ?_ _)|(with_reducible refine Kd.C_drew ?_)))
               (case side2=>exact (Kd.V_reads' HO539.out).2.1)
               rintro e w' ⟨rfl,⟨nd,rfl⟩⟩
               refine ⟨_,rfl,?_⟩
               refine hK.out _ _ trivial (fun hHeld=>?_)
               clear hK K
               refine norm_ (a':=?_) ?_ ?_
               rotate_left
               ·show Act.put _ (some 24) _ = _
                simp only [Act.put,List.setIfInBounds_toArray,List.set_cons_zero,List.set_cons_succ,i64_w,i32_w]
                rfl
               refine pure_ (i:=8) (N:=some 25) (v:=?_) (a':=?_) #[true,true,false,true,true,true,true,true,true,false,false,false] rfl rfl (any_of HT_.out (by kernel_rfl)) (fun _ _ _ h=>h) (Or.inl ⟨by rfl,?_⟩) ?_ ?_
               rotate_left
               ·intro w'
                go_simp
                with_reducible rfl
               rotate_left
               ·simp only [Act.put,List.setIfInBounds_toArray,List.set_cons_zero,List.set_cons_succ,i64_w,i32_w]
                rfl
               exact norm_ (by first|(simp only [putAll,Act.put,List.setIfInBounds_toArray,List.set_cons_zero,List.set_cons_succ];done)|(simp only [putAll,Act.put,List.setIfInBounds_toArray,List.set_cons_zero,List.set_cons_succ];rfl)) (hJ3_6_7 (v535,.slice Ao18 t537.length co18) _ ⟨(by (with_reducible repeat (first|apply Kd.V_alloc|apply Kd.V_drewN|apply Kd.V_drew));exact HO536.out),(by (with_reducible repeat (first|apply Kd.V_alloc|apply Kd.V_drewN|apply Kd.V_drew));exact HO539.out),(by (with_reducible repeat (first|apply Kd.V_alloc|apply Kd.V_drewN|apply Kd.V_drew));exact HO_3.out),(by repeat (first|(with_reducible first|exact HB.out|apply below_alloc|apply pw_below_drewN|apply below_drew1)|exact HB.out))⟩)
            ·skip
             rintro ⟨v532,v535⟩ w17 ⟨h0_,h1_,h2_,h3_⟩
             have n0_:Aside0 (Kd.R (Kd.int .u32) 64 w17 w.heap.size (fun k_=>(w.heap.size≤k_)) v532 y531):=⟨h0_⟩
             have n1_:Aside0 (Kd.V (Kd.int .u32) 64 w17 w.heap.size (fun k_=>(w.heap.size≤k_)∧some k_≠(v532:Value).ownBlock) v535 t534):=⟨h1_⟩
             have n2_:Aside0 (Kd.V (Kd.int .u32) 64 w17 w.heap.size (fun k_=>(w.heap.size≤k_)∧some k_≠(v532:Value).ownBlock) u3 x3_1):=⟨h2_⟩
             have n3_:Aside0 (Below w.heap.size w w17):=⟨h3_⟩
             clear HO_3
             clear HB
             clear h0_ h1_ h2_ h3_
             have HO533:=n0_
             have HO536:=n1_
             have HO_3:=n2_
             have HB:=n3_
             clear n0_ n1_ n2_ n3_
             have hHeld:=trivial
             obtain ⟨Ao18,co18,eo18⟩:=Kd.V_slice HO536.out
             (first|subst eo18|(injection eo18 with f1_ f2_ f3_;have f4_:=f1_.symm;have f5_:=f3_.symm;clear f1_ f2_ f3_;subst f4_;subst f5_))
             refine norm_ (a':=?_) ?_ ?_
             rotate_left
             ·simp only [putAll,Act.put,List.setIfInBounds_toArray,List.set_cons_zero,List.set_cons_succ]
              rfl
             refine one_ (i:=6) (N:=some 23) #[true,true,true,true,true,true,true,false,false,false,false,false] rfl rfl (one_of HT_.out (by kernel_rfl)) (by decide) (fun K hK=>?_)
             refine goes_ Tryd.func55 (by kernel_rfl) rfl #[.slice Ao18 t534.length co18,.int .i64 (Int.tmod x4_1 9)] (by rfl) rfl rfl (by (try simp only [List.map_toArray,List.map_cons,List.map_nil]);first|done|rfl|(simp only [List.length_drop,List.length_take];rfl)) ?_
             with_reducible refine (garboardref01_Power.calls k1 _ _ t534 (Int.tmod x4_1 9) t537 _ ?side1 ?side2 A9.out).mono ?_
             (case side1=>repeat (first|exact (Kd.V_reads' HO536.out).2.2|(with_reducible refine Kd.C_alloc ?_ _)|(with_reducible refine Kd.C_drewN ?_ _)|(with_reducible refine Kd.C_drew ?_)))
             (case side2=>exact (Kd.V_reads' HO536.out).2.1)
             rintro e w19 ⟨v538,rfl,ho0,hb⟩
             refine ⟨_,rfl,?_⟩
             have n0_:=Aside0.mk (Kd.V_below (by (with_reducible repeat (first|apply Kd.V_alloc|apply Kd.V_drewN|apply Kd.V_drew));exact HO_3.out) hb)
             have n1_:=Aside0.mk (Kd.R_below (by (with_reducible repeat (first|apply Kd.R_alloc|apply Kd.R_drewN|apply Kd.R_drew));exact HO533.out) hb)
             have n2_:=Aside0.mk (Kd.V_below (by (with_reducible repeat (first|apply Kd.V_alloc|apply Kd.V_drewN|apply Kd.V_drew));exact HO536.out) hb)
             have n3_:=Aside0.mk (Kd.V_lower (Kd.V_mono (ok':=fun k_=>(w.heap.size≤k_)∧some k_≠(v532:Value).ownBlock) ho0 (fun k_ hk_=>⟨(Nat.le_trans (below_size (by repeat (first|(with_reducible first|exact HB.out|apply below_alloc|apply pw_below_drewN|apply below_drew1)|exact HB.out))) hk_),(Kd.fresh' (Kd.R_lt (by (with_reducible repeat (first|apply Kd.R_alloc|apply Kd.R_drewN|apply Kd.R_drew));exact HO533.out)) k_ hk_)⟩)) (below_size (by repeat (first|(with_reducible first|exact HB.out|apply below_alloc|apply pw_below_drewN|apply below_drew1)|exact HB.out))))
             have n4_:=Aside0.mk (below_step (by repeat (first|(with_reducible first|exact HB.out|apply below_alloc|apply pw_below_drewN|apply below_drew1)|exact HB.out)) hb)
             clear HO_3
             clear HO533
             clear HO536
             clear HB
             have HO_3:=n0_
             have HO533:=n1_
             have HO536:=n2_
             have HO539:=n3_
             have HB:=n4_
             clear n0_ n1_ n2_ n3_ n4_
             (try clear hb)
             (try clear hb2)
             (try clear hk)
             (try clear hi)
             (try clear ho0)
             refine hK.out _ _ trivial (fun hHeld=>?_)
             clear hK K
             refine norm_ (a':=?_) ?_ ?_
             rotate_left
             ·show Act.put _ (some 23) _ = _
              simp only [Act.put,List.setIfInBounds_toArray,List.set_cons_zero,List.set_cons_succ,i64_w,i32_w]
              rfl
             exact norm_ (by first|(simp only [putAll,Act.put,List.setIfInBounds_toArray,List.set_cons_zero,List.set_cons_succ];done)|(simp only [putAll,Act.put,List.setIfInBounds_toArray,List.set_cons_zero,List.set_cons_succ];rfl)) (hJ2_3_6 (v532,.slice Ao18 t534.length co18,v538) _ ⟨(by (with_reducible repeat (first|apply Kd.R_alloc|apply Kd.R_drewN|apply Kd.R_drew));exact HO533.out),(by (with_reducible repeat (first|apply Kd.V_alloc|apply Kd.V_drewN|apply Kd.V_drew));exact HO536.out),(by (with_reducible repeat (first|apply Kd.V_alloc|apply Kd.V_drewN|apply Kd.V_drew));exact HO539.out),(by (with_reducible repeat (first|apply Kd.V_alloc|apply Kd.V_drewN|apply Kd.V_drew));exact HO_3.out),(by repeat (first|(with_reducible first|exact HB.out|apply below_alloc|apply pw_below_drewN|apply below_drew1)|exact HB.out))⟩)
           ·skip
            rintro ⟨v535,v538⟩ w18 ⟨h0_,h1_,h2_,h3_⟩
            have n0_:Aside0 (Kd.V (Kd.int .u32) 64 w18 w.heap.size (fun k_=>(w.heap.size≤k_)) v535 t534):=⟨h0_⟩
            have n1_:Aside0 (Kd.V (Kd.int .u32) 64 w18 w.heap.size (fun k_=>(w.heap.size≤k_)) v538 t537):=⟨h1_⟩
            have n2_:Aside0 (Kd.V (Kd.int .u32) 64 w18 w.heap.size (fun k_=>(w.heap.size≤k_)) u3 x3_1):=⟨h2_⟩
            have n3_:Aside0 (Below w.heap.size w w18):=⟨h3_⟩
            clear HO_3
            clear HB
            clear h0_ h1_ h2_ h3_
            have HO536:=n0_
            have HO539:=n1_
            have HO_3:=n2_
            have HB:=n3_
            clear n0_ n1_ n2_ n3_
            have hHeld:=trivial
            refine norm_ (a':=?_) ?_ ?_
            rotate_left
            ·simp only [putAll,Act.put,List.setIfInBounds_toArray,List.set_cons_zero,List.set_cons_succ]
             rfl
            refine two_ (i:=2) (j:=9) (Ni:=some 19) (Nj:=some 26) #[true,true,true,true,true,true,true,true,true,false,false,false] #[true,true,false,true,true,true,true,true,true,true,false,false] rfl rfl rfl rfl (two_of HT_.out (by kernel_rfl)) (by decide) (by decide) (fun K hK=>?_) (fun K hK=>?_)
            ·skip
             refine Kd.R_make_step (Kd.int .u32) _ 64 (by rfl) (N:=19) rfl 45 _ _ rfl ji5 rfl rfl Tryd.underlying45 (.int .u32 0) 4 info64 rfl (by decide) (by omega) 0 (ok:=fun _=>True) (okp:=fun _=>True) rfl (fun _ hk=>hk) trivial (of_decide_eq_true (by first|(with_reducible assumption)|assumption)) (Nat.le_trans (Nat.mul_le_mul_right _ (of_decide_eq_true (by first|(with_reducible assumption)|assumption):ji5.toNat≤70368744177664)) (by omega)) (Below.refl _ _) (Nat.le_refl _) ?_
             intro v532 w19 ho20 hb hg_ hnew_
             clear hg_ hnew_
             (first|rw [← Ny531.out] at ho20|(simp only [Int.reduceToNat] at ho20;rw [← Ny531.out] at ho20))
             have n0_:=Aside0.mk (Kd.V_elder' (by (with_reducible repeat (first|apply Kd.V_alloc|apply Kd.V_drewN|apply Kd.V_drew));exact HO_3.out) (Kd.R_base ho20) hb)
             have n1_:=Aside0.mk (Kd.V_elder' (by (with_reducible repeat (first|apply Kd.V_alloc|apply Kd.V_drewN|apply Kd.V_drew));exact HO536.out) (Kd.R_base ho20) hb)
             have n2_:=Aside0.mk (Kd.V_elder' (by (with_reducible repeat (first|apply Kd.V_alloc|apply Kd.V_drewN|apply Kd.V_drew));exact HO539.out) (Kd.R_base ho20) hb)
             have n3_:=Aside0.mk (Kd.R_lower (Kd.R_newM (M:=fun k_=>(w.heap.size≤k_)) ho20 (below_size (by repeat (first|(with_reducible first|exact HB.out|apply below_alloc|apply pw_below_drewN|apply below_drew1)|exact HB.out))) (fun k_ h_=>h_)) (below_size (by repeat (first|(with_reducible first|exact HB.out|apply below_alloc|apply pw_below_drewN|apply below_drew1)|exact HB.out))))
             have n4_:=Aside0.mk (below_step (by repeat (first|(with_reducible first|exact HB.out|apply below_alloc|apply pw_below_drewN|apply below_drew1)|exact HB.out)) hb)
             clear HO_3
             clear HO536
             clear HO539
             clear HB
             have HO_3:=n0_
             have HO536:=n1_
             have HO539:=n2_
             have HO533:=n3_
             have HB:=n4_
             clear n0_ n1_ n2_ n3_ n4_
             clear hb ho20
             refine hK.out _ _ trivial (fun hHeld=>?_)
             clear hK K
             refine norm_ (a':=?_) ?_ ?_
             rotate_left
             ·show Act.put _ (some 19) _ = _
              simp only [Act.put,List.setIfInBounds_toArray,List.set_cons_zero,List.set_cons_succ,i64_w,i32_w]
              rfl
             exact norm_ (by first|(simp only [putAll,Act.put,List.setIfInBounds_toArray,List.set_cons_zero,List.set_cons_succ];done)|(simp only [putAll,Act.put,List.setIfInBounds_toArray,List.set_cons_zero,List.set_cons_succ];rfl)) (hJ2_3_6_7 (v532,v535,v538) _ ⟨(by (with_reducible repeat (first|apply Kd.R_alloc|apply Kd.R_drewN|apply Kd.R_drew));exact Kd.R_mono HO533.out (fun _ hk=>hk.1)),(by (with_reducible repeat (first|apply Kd.V_alloc|apply Kd.V_drewN|apply Kd.V_drew));exact HO536.out),(by (with_reducible repeat (first|apply Kd.V_alloc|apply Kd.V_drewN|apply Kd.V_drew));exact HO539.out),(by (with_reducible repeat (first|apply Kd.V_alloc|apply Kd.V_drewN|apply Kd.V_drew));exact HO_3.out),(by repeat (first|(with_reducible first|exact HB.out|apply below_alloc|apply pw_below_drewN|apply below_drew1)|exact HB.out))⟩)
            ·skip
             refine goes_ Tryd.func68 (by kernel_rfl) rfl #[.int .u32 ((t540) % 4294967296)] (by rfl) rfl rfl (by (try simp only [List.map_toArray,List.map_cons,List.map_nil]);first|done|rfl|(simp only [List.length_drop,List.length_take];rfl)) ?_
             with_reducible refine (garboardref01_Small.calls k1 ((t540) % 4294967296) t541 _ A11.out).mono ?_
             rintro e w19 ⟨v542,rfl,ho0,hb⟩
             refine ⟨_,rfl,?_⟩
             have n0_:=Aside0.mk (Kd.V_below (by (with_reducible repeat (first|apply Kd.V_alloc|apply Kd.V_drewN|apply Kd.V_drew));exact HO_3.out) hb)
             have n1_:=Aside0.mk (Kd.V_below (by (with_reducible repeat (first|apply Kd.V_alloc|apply Kd.V_drewN|apply Kd.V_drew));exact HO536.out) hb)
             have n2_:=Aside0.mk (Kd.V_below (by (with_reducible repeat (first|apply Kd.V_alloc|apply Kd.V_drewN|apply Kd.V_drew));exact HO539.out) hb)
             have n3_:=Aside0.mk (Kd.V_lower (Kd.V_mono (ok':=fun k_=>(w.heap.size≤k_)) ho0 (fun k_ hk_=>(Nat.le_trans (below_size (by repeat (first|(with_reducible first|exact HB.out|apply below_alloc|apply pw_below_drewN|apply below_drew1)|exact HB.out))) hk_))) (below_size (by repeat (first|(with_reducible first|exact HB.out|apply below_alloc|apply pw_below_drewN|apply below_drew1)|exact HB.out))))
             have n4_:=Aside0.mk (below_step (by repeat (first|(with_reducible first|exact HB.out|apply below_alloc|apply pw_below_drewN|apply below_drew1)|exact HB.out)) hb)
             clear HO_3
             clear HO536
             clear HO539
             clear HB
             have HO_3:=n0_
             have HO536:=n1_
             have HO539:=n2_
             have HO543:=n3_
             have HB:=n4_
             clear n0_ n1_ n2_ n3_ n4_
             (try clear hb)
             (try clear hb2)
             (try clear hk)
             (try clear hi)
             (try clear ho0)
             refine hK.out _ _ trivial (fun hHeld=>?_)
             clear hK K
             refine norm_ (a':=?_) ?_ ?_
             rotate_left
             ·show Act.put _ (some 26) _ = _
              simp only [Act.put,List.setIfInBounds_toArray,List.set_cons_zero,List.set_cons_succ,i64_w,i32_w]
              rfl
             exact norm_ (by first|(simp only [putAll,Act.put,List.setIfInBounds_toArray,List.set_cons_zero,List.set_cons_succ];done)|(simp only [putAll,Act.put,List.setIfInBounds_toArray,List.set_cons_zero,List.set_cons_succ];rfl)) (hJ3_6_7_9 (v535,v538,v542) _ ⟨(by (with_reducible repeat (first|apply Kd.V_alloc|apply Kd.V_drewN|apply Kd.V_drew));exact HO536.out),(by (with_reducible repeat (first|apply Kd.V_alloc|apply Kd.V_drewN|apply Kd.V_drew));exact HO539.out),(by (with_reducible repeat (first|apply Kd.V_alloc|apply Kd.V_drewN|apply Kd.V_drew));exact HO543.out),(by (with_reducible repeat (first|apply Kd.V_alloc|apply Kd.V_drewN|apply Kd.V_drew));exact HO_3.out),(by repeat (first|(with_reducible first|exact HB.out|apply below_alloc|apply pw_below_drewN|apply below_drew1)|exact HB.out))⟩)
          ·skip
           rintro ⟨v532,v535,v538⟩ w19 ⟨h0_,h1_,h2_,h3_,h4_⟩
           have n0_:Aside0 (Kd.R (Kd.int .u32) 64 w19 w.heap.size (fun k_=>(w.heap.size≤k_)) v532 y531):=⟨h0_⟩
           have n1_:Aside0 (Kd.V (Kd.int .u32) 64 w19 w.heap.size (fun k_=>(w.heap.size≤k_)∧some k_≠(v532:Value).ownBlock) v535 t534):=⟨h1_⟩
           have n2_:Aside0 (Kd.V (Kd.int .u32) 64 w19 w.heap.size (fun k_=>(w.heap.size≤k_)∧some k_≠(v532:Value).ownBlock) v538 t537):=⟨h2_⟩
           have n3_:Aside0 (Kd.V (Kd.int .u32) 64 w19 w.heap.size (fun k_=>(w.heap.size≤k_)∧some k_≠(v532:Value).ownBlock) u3 x3_1):=⟨h3_⟩
           have n4_:Aside0 (Below w.heap.size w w19):=⟨h4_⟩
           clear HO_3
           clear HB
           clear h0_ h1_ h2_ h3_ h4_
           have HO533:=n0_
           have HO536:=n1_
           have HO539:=n2_
           have HO_3:=n3_
           have HB:=n4_
           clear n0_ n1_ n2_ n3_ n4_
           have hHeld:=trivial
           obtain ⟨Ao20,co20,eo20⟩:=Kd.V_slice HO539.out
           (first|subst eo20|(injection eo20 with f1_ f2_ f3_;have f4_:=f1_.symm;have f5_:=f3_.symm;clear f1_ f2_ f3_;subst f4_;subst f5_))
           refine norm_ (a':=?_) ?_ ?_
           rotate_left
           ·simp only [putAll,Act.put,List.setIfInBounds_toArray,List.set_cons_zero,List.set_cons_succ]
            rfl
           refine one_ (i:=7) (N:=some 24) #[true,true,true,true,true,true,true,true,false,false,false,false] rfl rfl (one_of HT_.out (by kernel_rfl)) (by decide) (fun K hK=>?_)
           refine goes_ Tryd.func70 (by kernel_rfl) rfl #[.slice Ao20 t537.length co20] (by rfl) rfl rfl (by (try simp only [List.map_toArray,List.map_cons,List.map_nil]);first|done|rfl|(simp only [List.length_drop,List.length_take];rfl)) ?_
           with_reducible refine (garboardref01_word.calls k1 _ _ t537 t540 _ ?side1 ?side2 A10.out).mono ?_
           (case side1=>repeat (first|exact (Kd.V_reads' HO539.out).2.2|(with_reducible refine Kd.C_alloc ?_ _)|(with_reducible refine Kd.C_drewN ?_ _)|(with_reducible refine Kd.C_drew ?_)))
           (case side2=>exact (Kd.V_reads' HO539.out).2.1)
           rintro e w' ⟨rfl,⟨nd,rfl⟩⟩
           refine ⟨_,rfl,?_⟩
           refine hK.out _ _ trivial (fun hHeld=>?_)
           clear hK K
           refine norm_ (a':=?_) ?_ ?_
           rotate_left
           ·show Act.put _ (some 24) _ = _
            simp only [Act.put,List.setIfInBounds_toArray,List.set_cons_zero,List.set_cons_succ,i64_w,i32_w]
            rfl
           refine pure_ (i:=8) (N:=some 25) (v:=?_) (a':=?_) #[true,true,true,true,true,true,true,true,true,false,false,false] rfl rfl (any_of HT_.out (by kernel_rfl)) (fun _ _ _ h=>h) (Or.inl ⟨by rfl,?_⟩) ?_ ?_
           rotate_left
           ·intro w'
            go_simp
            with_reducible rfl
           rotate_left
           ·simp only [Act.put,List.setIfInBounds_toArray,List.set_cons_zero,List.set_cons_succ,i64_w,i32_w]
            rfl
           exact norm_ (by first|(simp only [putAll,Act.put,List.setIfInBounds_toArray,List.set_cons_zero,List.set_cons_succ];done)|(simp only [putAll,Act.put,List.setIfInBounds_toArray,List.set_cons_zero,List.set_cons_succ];rfl)) (hJ2_3_6_7 (v532,v535,.slice Ao20 t537.length co20) _ ⟨(by (with_reducible repeat (first|apply Kd.R_alloc|apply Kd.R_drewN|apply Kd.R_drew));exact HO533.out),(by (with_reducible repeat (first|apply Kd.V_alloc|apply Kd.V_drewN|apply Kd.V_drew));exact HO536.out),(by (with_reducible repeat (first|apply Kd.V_alloc|apply Kd.V_drewN|apply Kd.V_drew));exact HO539.out),(by (with_reducible repeat (first|apply Kd.V_alloc|apply Kd.V_drewN|apply Kd.V_drew));exact HO_3.out),(by repeat (first|(with_reducible first|exact HB.out|apply below_alloc|apply pw_below_drewN|apply below_drew1)|exact HB.out))⟩)
         ·skip
          rintro ⟨v535,v538,v542⟩ w19 ⟨h0_,h1_,h2_,h3_,h4_⟩
          have n0_:Aside0 (Kd.V (Kd.int .u32) 64 w19 w.heap.size (fun k_=>(w.heap.size≤k_)) v535 t534):=⟨h0_⟩
          have n1_:Aside0 (Kd.V (Kd.int .u32) 64 w19 w.heap.size (fun k_=>(w.heap.size≤k_)) v538 t537):=⟨h1_⟩
          have n2_:Aside0 (Kd.V (Kd.int .u32) 64 w19 w.heap.size (fun k_=>(w.heap.size≤k_)) v542 t541):=⟨h2_⟩
          have n3_:Aside0 (Kd.V (Kd.int .u32) 64 w19 w.heap.size (fun k_=>(w.heap.size≤k_)) u3 x3_1):=⟨h3_⟩
          have n4_:Aside0 (Below w.heap.size w w19):=⟨h4_⟩
          clear HO_3
          clear HB
          clear h0_ h1_ h2_ h3_ h4_
          have HO536:=n0_
          have HO539:=n1_
          have HO543:=n2_
          have HO_3:=n3_
          have HB:=n4_
          clear n0_ n1_ n2_ n3_ n4_
          have hHeld:=trivial
          refine norm_ (a':=?_) ?_ ?_
          rotate_left
          ·simp only [putAll,Act.put,List.setIfInBounds_toArray,List.set_cons_zero,List.set_cons_succ]
           rfl
          refine one_ (i:=2) (N:=some 19) #[true,true,true,true,true,true,true,true,true,true,false,false] rfl rfl (one_of HT_.out (by kernel_rfl)) (by decide) (fun K hK=>?_)
          refine Kd.R_make_step (Kd.int .u32) _ 64 (by rfl) (N:=19) rfl 45 _ _ rfl ji5 rfl rfl Tryd.underlying45 (.int .u32 0) 4 info64 rfl (by decide) (by omega) 0 (ok:=fun _=>True) (okp:=fun _=>True) rfl (fun _ hk=>hk) trivial (of_decide_eq_true (by first|(with_reducible assumption)|assumption)) (Nat.le_trans (Nat.mul_le_mul_right _ (of_decide_eq_true (by first|(with_reducible assumption)|assumption):ji5.toNat≤70368744177664)) (by omega)) (Below.refl _ _) (Nat.le_refl _) ?_
          intro v532 w20 ho21 hb hg_ hnew_
          clear hg_ hnew_
          (first|rw [← Ny531.out] at ho21|(simp only [Int.reduceToNat] at ho21;rw [← Ny531.out] at ho21))
          have n0_:=Aside0.mk (Kd.V_elder' (by (with_reducible repeat (first|apply Kd.V_alloc|apply Kd.V_drewN|apply Kd.V_drew));exact HO_3.out) (Kd.R_base ho21) hb)
          have n1_:=Aside0.mk (Kd.V_elder' (by (with_reducible repeat (first|apply Kd.V_alloc|apply Kd.V_drewN|apply Kd.V_drew));exact HO536.out) (Kd.R_base ho21) hb)
          have n2_:=Aside0.mk (Kd.V_elder' (by (with_reducible repeat (first|apply Kd.V_alloc|apply Kd.V_drewN|apply Kd.V_drew));exact HO539.out) (Kd.R_base ho21) hb)
          have n3_:=Aside0.mk (Kd.V_elder' (by (with_reducible repeat (first|apply Kd.V_alloc|apply Kd.V_drewN|apply Kd.V_drew));exact HO543.out) (Kd.R_base ho21) hb)
          have n4_:=Aside0.mk (Kd.R_lower (Kd.R_newM (M:=fun k_=>(w.heap.size≤k_)) ho21 (below_size (by repeat (first|(with_reducible first|exact HB.out|apply below_alloc|apply pw_below_drewN|apply below_drew1)|exact HB.out))) (fun k_ h_=>h_)) (below_size (by repeat (first|(with_reducible first|exact HB.out|apply below_alloc|apply pw_below_drewN|apply below_drew1)|exact HB.out))))
          have n5_:=Aside0.mk (below_step (by repeat (first|(with_reducible first|exact HB.out|apply below_alloc|apply pw_below_drewN|apply below_drew1)|exact HB.out)) hb)
          clear HO_3
          clear HO536
          clear HO539
          clear HO543
          clear HB
          have HO_3:=n0_
          have HO536:=n1_
          have HO539:=n2_
          have HO543:=n3_
          have HO533:=n4_
          have HB:=n5_
          clear n0_ n1_ n2_ n3_ n4_ n5_
          clear hb ho21
          refine hK.out _ _ trivial (fun hHeld=>?_)
          clear hK K
          refine norm_ (a':=?_) ?_ ?_
          rotate_left
          ·show Act.put _ (some 19) _ = _
           simp only [Act.put,List.setIfInBounds_toArray,List.set_cons_zero,List.set_cons_succ,i64_w,i32_w]
           rfl
          exact norm_ (by first|(simp only [putAll,Act.put,List.setIfInBounds_toArray,List.set_cons_zero,List.set_cons_succ];done)|(simp only [putAll,Act.put,List.setIfInBounds_toArray,List.set_cons_zero,List.set_cons_succ];rfl)) (hJ2_3_6_7_9 (v532,v535,v538,v542) _ ⟨(by (with_reducible repeat (first|apply Kd.R_alloc|apply Kd.R_drewN|apply Kd.R_drew));exact Kd.R_mono HO533.out (fun _ hk=>hk.1)),(by (with_reducible repeat (first|apply Kd.V_alloc|apply Kd.V_drewN|apply Kd.V_drew));exact HO536.out),(by (with_reducible repeat (first|apply Kd.V_alloc|apply Kd.V_drewN|apply Kd.V_drew));exact HO539.out),(by (with_reducible repeat (first|apply Kd.V_alloc|apply Kd.V_drewN|apply Kd.V_drew));exact HO543.out),(by (with_reducible repeat (first|apply Kd.V_alloc|apply Kd.V_drewN|apply Kd.V_drew));exact HO_3.out),(by repeat (first|(with_reducible first|exact HB.out|apply below_alloc|apply pw_below_drewN|apply below_drew1)|exact HB.out))⟩)
        ·skip
         rintro ⟨v532,v535,v538⟩ w20 ⟨h0_,h1_,h2_,h3_,h4_⟩
         have n0_:Aside0 (Kd.R (Kd.int .u32) 64 w20 w.heap.size (fun k_=>(w.heap.size≤k_)) v532 y531):=⟨h0_⟩
         have n1_:Aside0 (Kd.V (Kd.int .u32) 64 w20 w.heap.size (fun k_=>(w.heap.size≤k_)∧some k_≠(v532:Value).ownBlock) v535 t534):=⟨h1_⟩
         have n2_:Aside0 (Kd.V (Kd.int .u32) 64 w20 w.heap.size (fun k_=>(w.heap.size≤k_)∧some k_≠(v532:Value).ownBlock) v538 t537):=⟨h2_⟩
         have n3_:Aside0 (Kd.V (Kd.int .u32) 64 w20 w.heap.size (fun k_=>(w.heap.size≤k_)∧some k_≠(v532:Value).ownBlock) u3 x3_1):=⟨h3_⟩
         have n4_:Aside0 (Below w.heap.size w w20):=⟨h4_⟩
         clear HO_3
         clear HB
         clear h0_ h1_ h2_ h3_ h4_
         have HO533:=n0_
         have HO536:=n1_
         have HO539:=n2_
         have HO_3:=n3_
         have HB:=n4_
         clear n0_ n1_ n2_ n3_ n4_
         have hHeld:=trivial
         refine norm_ (a':=?_) ?_ ?_
         rotate_left
         ·simp only [putAll,Act.put,List.setIfInBounds_toArray,List.set_cons_zero,List.set_cons_succ]
          rfl
         refine one_ (i:=9) (N:=some 26) #[true,true,true,true,true,true,true,true,true,true,false,false] rfl rfl (one_of HT_.out (by kernel_rfl)) (by decide) (fun K hK=>?_)
         refine goes_ Tryd.func68 (by kernel_rfl) rfl #[.int .u32 ((t540) % 4294967296)] (by rfl) rfl rfl (by (try simp only [List.map_toArray,List.map_cons,List.map_nil]);first|done|rfl|(simp only [List.length_drop,List.length_take];rfl)) ?_
         with_reducible refine (garboardref01_Small.calls k1 ((t540) % 4294967296) t541 _ A11.out).mono ?_
         rintro e w21 ⟨v542,rfl,ho0,hb⟩
         refine ⟨_,rfl,?_⟩
         have n0_:=Aside0.mk (Kd.V_below (by (with_reducible repeat (first|apply Kd.V_alloc|apply Kd.V_drewN|apply Kd.V_drew));exact HO_3.out) hb)
         have n1_:=Aside0.mk (Kd.R_below (by (with_reducible repeat (first|apply Kd.R_alloc|apply Kd.R_drewN|apply Kd.R_drew));exact HO533.out) hb)
         have n2_:=Aside0.mk (Kd.V_below (by (with_reducible repeat (first|apply Kd.V_alloc|apply Kd.V_drewN|apply Kd.V_drew));exact HO536.out) hb)
         have n3_:=Aside0.mk (Kd.V_below (by (with_reducible repeat (first|apply Kd.V_alloc|apply Kd.V_drewN|apply Kd.V_drew));exact HO539.out) hb)
         have n4_:=Aside0.mk (Kd.V_lower (Kd.V_mono (ok':=fun k_=>(w.heap.size≤k_)∧some k_≠(v532:Value).ownBlock) ho0 (fun k_ hk_=>⟨(Nat.le_trans (below_size (by repeat (first|(with_reducible first|exact HB.out|apply below_alloc|apply pw_below_drewN|apply below_drew1)|exact HB.out))) hk_),(Kd.fresh' (Kd.R_lt (by (with_reducible repeat (first|apply Kd.R_alloc|apply Kd.R_drewN|apply Kd.R_drew));exact HO533.out)) k_ hk_)⟩)) (below_size (by repeat (first|(with_reducible first|exact HB.out|apply below_alloc|apply pw_below_drewN|apply below_drew1)|exact HB.out))))
         have n5_:=Aside0.mk (below_step (by repeat (first|(with_reducible first|exact HB.out|apply below_alloc|apply pw_below_drewN|apply below_drew1)|exact HB.out)) hb)
         clear HO_3
         clear HO533
         clear HO536
         clear HO539
         clear HB
         have HO_3:=n0_
         have HO533:=n1_
         have HO536:=n2_
         have HO539:=n3_
         have HO543:=n4_
         have HB:=n5_
         clear n0_ n1_ n2_ n3_ n4_ n5_
         (try clear hb)
         (try clear hb2)
         (try clear hk)
         (try clear hi)
         (try clear ho0)
         refine hK.out _ _ trivial (fun hHeld=>?_)
         clear hK K
         refine norm_ (a':=?_) ?_ ?_
         rotate_left
         ·show Act.put _ (some 26) _ = _
          simp only [Act.put,List.setIfInBounds_toArray,List.set_cons_zero,List.set_cons_succ,i64_w,i32_w]
          rfl
         exact norm_ (by first|(simp only [putAll,Act.put,List.setIfInBounds_toArray,List.set_cons_zero,List.set_cons_succ];done)|(simp only [putAll,Act.put,List.setIfInBounds_toArray,List.set_cons_zero,List.set_cons_succ];rfl)) (hJ2_3_6_7_9 (v532,v535,v538,v542) _ ⟨(by (with_reducible repeat (first|apply Kd.R_alloc|apply Kd.R_drewN|apply Kd.R_drew));exact HO533.out),(by (with_reducible repeat (first|apply Kd.V_alloc|apply Kd.V_drewN|apply Kd.V_drew));exact HO536.out),(by (with_reducible repeat (first|apply Kd.V_alloc|apply Kd.V_drewN|apply Kd.V_drew));exact HO539.out),(by (with_reducible repeat (first|apply Kd.V_alloc|apply Kd.V_drewN|apply Kd.V_drew));exact HO543.out),(by (with_reducible repeat (first|apply Kd.V_alloc|apply Kd.V_drewN|apply Kd.V_drew));exact HO_3.out),(by repeat (first|(with_reducible first|exact HB.out|apply below_alloc|apply pw_below_drewN|apply below_drew1)|exact HB.out))⟩)
       rintro ⟨v532,v535,v538,v542⟩ w21 ⟨h0_,h1_,h2_,h3_,h4_,h5_⟩
       have n0_:Aside0 (Kd.R (Kd.int .u32) 64 w21 w.heap.size (fun k_=>(w.heap.size≤k_)) v532 y531):=⟨h0_⟩
       have n1_:Aside0 (Kd.V (Kd.int .u32) 64 w21 w.heap.size (fun k_=>(w.heap.size≤k_)∧some k_≠(v532:Value).ownBlock) v535 t534):=⟨h1_⟩
       have n2_:Aside0 (Kd.V (Kd.int .u32) 64 w21 w.heap.size (fun k_=>(w.heap.size≤k_)∧some k_≠(v532:Value).ownBlock) v538 t537):=⟨h2_⟩
       have n3_:Aside0 (Kd.V (Kd.int .u32) 64 w21 w.heap.size (fun k_=>(w.heap.size≤k_)∧some k_≠(v532:Value).ownBlock) v542 t541):=⟨h3_⟩
       have n4_:Aside0 (Kd.V (Kd.int .u32) 64 w21 w.heap.size (fun k_=>(w.heap.size≤k_)∧some k_≠(v532:Value).ownBlock) u3 x3_1):=⟨h4_⟩
       have n5_:Aside0 (Below w.heap.size w w21):=⟨h5_⟩
       clear HO_3
       clear HB
       clear h0_ h1_ h2_ h3_ h4_ h5_
       have HO533:=n0_
       have HO536:=n1_
       have HO539:=n2_
       have HO543:=n3_
       have HO_3:=n4_
       have HB:=n5_
       clear n0_ n1_ n2_ n3_ n4_ n5_
       have hHeld:=trivial
       obtain ⟨Ao23,co23,eo23⟩:=Kd.V_slice HO543.out
       (first|subst eo23|(injection eo23 with f1_ f2_ f3_;have f4_:=f1_.symm;have f5_:=f3_.symm;clear f1_ f2_ f3_;subst f4_;subst f5_))
       refine norm_ (a':=?_) ?_ ?_
       rotate_left
       ·simp only [putAll,Act.put,List.setIfInBounds_toArray,List.set_cons_zero,List.set_cons_succ]
        rfl
       refine one_ (i:=10) (N:=some 27) #[true,true,true,true,true,true,true,true,true,true,true,false] rfl rfl (one_of HT_.out (by kernel_rfl)) (by decide) (fun K hK=>?_)
       refine Kd.R_append_rows_step (Kd.int .u32) (w0:=w) w.heap.size (by rfl) (.tmp 19) (.tmp 26) 45 64 (.int .u32 0) 4 rfl Tryd.underlying45 info64 rfl (by decide) (by omega) v532 y531 t541 _ _ _ (fun k_=>(w.heap.size≤k_)) (fun _=>False) rfl rfl ?aO ?aR (fun _ _ h=>h) (fun _ h=>h.elim) ?aF ?aB ?aS ?aL ?_
       (case aR=>repeat (first|exact (Kd.V_reads' HO543.out).2.2|(with_reducible refine Kd.C_alloc ?_ _)|(with_reducible refine Kd.C_drewN ?_ _)|(with_reducible refine Kd.C_drew ?_)))
       (case aB=>exact (by repeat (first|(with_reducible first|exact HB.out|apply below_alloc|apply pw_below_drewN|apply below_drew1)|exact HB.out)))
       (case aF=>exact (fun k_ hk=>(Nat.le_trans (below_size (by repeat (first|(with_reducible first|exact HB.out|apply below_alloc|apply pw_below_drewN|apply below_drew1)|exact HB.out))) hk)))
       (case aO=>exact (by (with_reducible repeat (first|apply Kd.R_alloc|apply Kd.R_drewN|apply Kd.R_drew));exact HO533.out))
       (case aS=>exact (below_size (by repeat (first|(with_reducible first|exact HB.out|apply below_alloc|apply pw_below_drewN|apply below_drew1)|exact HB.out))))
       (case aL=>have:=LMc12.out;omega)
       intro v545 w22 ho hb hg hat
       rw [← Ny544.out] at ho
       have n0_:=Aside0.mk (Kd.V_afterv (ok:=(fun k_=>(w.heap.size≤k_))) (by (with_reducible repeat (first|apply Kd.V_alloc|apply Kd.V_drewN|apply Kd.V_drew));exact HO_3.out) hg hat)
       have n1_:=Aside0.mk (Kd.V_afterv (ok:=(fun k_=>(w.heap.size≤k_))) (by (with_reducible repeat (first|apply Kd.V_alloc|apply Kd.V_drewN|apply Kd.V_drew));exact HO536.out) hg hat)
       have n2_:=Aside0.mk (Kd.V_afterv (ok:=(fun k_=>(w.heap.size≤k_))) (by (with_reducible repeat (first|apply Kd.V_alloc|apply Kd.V_drewN|apply Kd.V_drew));exact HO539.out) hg hat)
       have n3_:=Aside0.mk (Kd.V_afterv (ok:=(fun k_=>(w.heap.size≤k_))) (by (with_reducible repeat (first|apply Kd.V_alloc|apply Kd.V_drewN|apply Kd.V_drew));exact HO543.out) hg hat)
       have n4_:=Aside0.mk (hb)
       have n5_:=Aside0.mk (ho)
       clear HO_3
       clear HO536
       clear HO539
       clear HO543
       clear HB
       clear HO533
       have HO_3:=n0_
       have HO536:=n1_
       have HO539:=n2_
       have HO543:=n3_
       have HB:=n4_
       have HO546:=n5_
       clear n0_ n1_ n2_ n3_ n4_ n5_
       clear ho hb hg hat
       refine hK.out _ _ trivial (fun hHeld=>?_)
       clear hK K
       refine norm_ (a':=?_) ?_ ?_
       rotate_left
       ·show Act.put _ (some 27) _ = _
        simp only [Act.put,List.setIfInBounds_toArray,List.set_cons_zero,List.set_cons_succ,i64_w,i32_w]
        rfl
       refine pure_ (i:=11) (N:=some 5) (v:=?_) (a':=?_) #[true,true,true,true,true,true,true,true,true,true,true,true] rfl rfl (any_of HT_.out (by kernel_rfl)) (fun _ _ _ h=>h) (Or.inl ⟨by rfl,?_⟩) ?_ ?_
       rotate_left
       ·intro w'
        go_simp
        with_reducible rfl
       rotate_left
       ·simp only [Act.put,List.setIfInBounds_toArray,List.set_cons_zero,List.set_cons_succ,i64_w,i32_w]
        rfl
       refine done_ (done_of HT_.out (by kernel_rfl)) ?_
       try go_wp2
       go_loopg [3] k1 (fun kq v3 w'=>∃ (x3_2:List Int),Aside0 (garboardref01_Floor.l1 kq l0 x3_2 x4_1 y544 = some r)∧Aside0 (kq≤k1)∧Aside0 (Kd.V (Kd.int .u32) 64 w' w.heap.size (fun k_=>(w.heap.size≤k_)∧some k_≠(v545:Value).ownBlock) v3 x3_2)∧Aside0 (Kd.R (Kd.int .u32) 64 w' w.heap.size (fun k_=>(w.heap.size≤k_)) v545 y544)∧Aside0 (Below w.heap.size w w'))
       case atStart=>exact ⟨(x3_1),H',⟨Nat.le_refl _⟩,⟨by (with_reducible repeat (first|apply Kd.V_alloc|apply Kd.V_drewN|apply Kd.V_drew));exact HO_3.out⟩,⟨by (with_reducible repeat (first|apply Kd.R_alloc|apply Kd.R_drewN|apply Kd.R_drew));exact HO546.out⟩,⟨by repeat (first|(with_reducible first|exact HB.out|apply below_alloc|apply pw_below_drewN|apply below_drew1)|exact HB.out)⟩⟩
       case round =>
        clear H'
        try clear c1
        try clear p2
        try clear c5
        try clear c6
        try clear c7
        try clear c12
        obtain ⟨x3_2,HA,HK2,HO_3,HO_5,HB⟩:=hrel
        cases gk with
        | zero=>exact absurd HA.out (by simp [garboardref01_Floor.l1])
        | succ k2 =>
         have H:=HA.out
         clear HA
         simp only [garboardref01_Floor.l1] at H
         replace H:=Option.bind_eq_some_iff.mp H
         obtain ⟨t547,A240,H⟩:=H
         replace H:((garboardref01_Times.f k2 t547 t547).bind fun t550=>((garboardref01_Cmp.f k2 t550 l0).bind fun t553=>(if t553 > 0 then (garboardref01_Floor.l0 k2 l0 x3_2 (wrap64 (x4_1 - 1))) else (garboardref01_Floor.l1 k2 l0 t547 x4_1 y544)))) = some r:=H
         have A24:=Aside0.mk A240
         clear A240
         replace H:=Option.bind_eq_some_iff.mp H
         obtain ⟨t550,A250,H⟩:=H
         replace H:((garboardref01_Cmp.f k2 t550 l0).bind fun t553=>(if t553 > 0 then (garboardref01_Floor.l0 k2 l0 x3_2 (wrap64 (x4_1 - 1))) else (garboardref01_Floor.l1 k2 l0 t547 x4_1 y544))) = some r:=H
         have A25:=Aside0.mk A250
         clear A250
         replace H:=Option.bind_eq_some_iff.mp H
         obtain ⟨t553,A260,H⟩:=H
         replace H:(if t553 > 0 then (garboardref01_Floor.l0 k2 l0 x3_2 (wrap64 (x4_1 - 1))) else (garboardref01_Floor.l1 k2 l0 t547 x4_1 y544)) = some r:=H
         have A26:=Aside0.mk A260
         clear A260
         by_cases c27:t553 > 0
         ·rw [if_pos c27] at H
          have c27b0:decide (0 < t553) = true:=decide_eq_true c27
          clear c27
          have H':=Aside0.mk H
          clear H
          obtain ⟨Ao28,co28,eo28⟩:=Kd.V_slice HO_3.out
          subst eo28
          obtain ⟨Ao29,co29,eo29⟩:=Kd.R_slice HO_5.out
          subst eo29
          go_wp2_with (first|((with_reducible refine gate_callee (f:=40) rfl ?_);refine goesL_ (some 30) rfl rfl Tryd.func40 (by kernel_rfl) rfl #[.slice Ao28 x3_2.length co28,.slice Ao29 y544.length co29] rfl (by (try simp only [List.map_toArray,List.map_cons,List.map_nil]);first|done|rfl|(simp only [List.length_drop,List.length_take];rfl)) ?_;(with_reducible refine (garboardref01_Plus.calls k2 _ _ x3_2 _ _ y544 t547 _ ?side1 ?side2 ?side3 ?side4 A24.out).mono ?_);(case side1=>repeat (first|exact (Kd.V_reads' HO_3.out).2.2|(with_reducible refine Kd.C_alloc ?_ _)|(with_reducible refine Kd.C_drewN ?_ _)|(with_reducible refine Kd.C_drew ?_)));(case side2=>exact (Kd.V_reads' HO_3.out).2.1);(case side3=>repeat (first|exact (Kd.R_reads' HO_5.out).2.2|(with_reducible refine Kd.C_alloc ?_ _)|(with_reducible refine Kd.C_drewN ?_ _)|(with_reducible refine Kd.C_drew ?_)));(case side4=>exact (Kd.R_reads' HO_5.out).2.1);rintro e w30 ⟨v548,rfl,ho0,hb⟩;refine ⟨_,rfl,?_⟩;have n0_:=Aside0.mk (Kd.V_below (by (with_reducible repeat (first|apply Kd.V_alloc|apply Kd.V_drewN|apply Kd.V_drew));exact HO_3.out) hb);have n1_:=Aside0.mk (Kd.R_below (by (with_reducible repeat (first|apply Kd.R_alloc|apply Kd.R_drewN|apply Kd.R_drew));exact HO_5.out) hb);have n2_:=Aside0.mk (Kd.V_lower (Kd.V_mono (ok':=fun k_=>(w.heap.size≤k_)∧some k_≠(.slice Ao29 y544.length co29:Value).ownBlock) ho0 (fun k_ hk_=>⟨(Nat.le_trans (below_size (by repeat (first|(with_reducible first|exact HB.out|apply below_alloc|apply pw_below_drewN|apply below_drew1)|exact HB.out))) hk_),(Kd.fresh' (Kd.R_lt (by (with_reducible repeat (first|apply Kd.R_alloc|apply Kd.R_drewN|apply Kd.R_drew));exact HO_5.out)) k_ hk_)⟩)) (below_size (by repeat (first|(with_reducible first|exact HB.out|apply below_alloc|apply pw_below_drewN|apply below_drew1)|exact HB.out))));have n3_:=Aside0.mk (below_step (by repeat (first|(with_reducible first|exact HB.out|apply below_alloc|apply pw_below_drewN|apply below_drew1)|exact HB.out)) hb);clear HO_3;clear HO_5;clear HB;have HO_3:=n0_;have HO_5:=n1_;have HO549:=n2_;have HB:=n3_;clear n0_ n1_ n2_ n3_;(try clear hb);(try clear hb2);(try clear hk);(try clear hi);(try clear ho0);obtain ⟨Ao31,co31,eo31⟩:=Kd.V_slice HO549.out;subst eo31)|((with_reducible refine gate_callee (f:=44) rfl ?_);refine goesL_ (some 33) rfl rfl Tryd.func44 (by kernel_rfl) rfl #[.slice Ao31 t547.length co31,.slice Ao31 t547.length co31] rfl (by (try simp only [List.map_toArray,List.map_cons,List.map_nil]);first|done|rfl|(simp only [List.length_drop,List.length_take];rfl)) ?_;(with_reducible refine (garboardref01_Times.calls k2 _ _ t547 _ _ t547 t550 _ ?side1 ?side2 ?side3 ?side4 A25.out).mono ?_);(case side1=>repeat (first|exact (Kd.V_reads' HO549.out).2.2|(with_reducible refine Kd.C_alloc ?_ _)|(with_reducible refine Kd.C_drewN ?_ _)|(with_reducible refine Kd.C_drew ?_)));(case side2=>exact (Kd.V_reads' HO549.out).2.1);(case side3=>repeat (first|exact (Kd.V_reads' HO549.out).2.2|(with_reducible refine Kd.C_alloc ?_ _)|(with_reducible refine Kd.C_drewN ?_ _)|(with_reducible refine Kd.C_drew ?_)));(case side4=>exact (Kd.V_reads' HO549.out).2.1);rintro e w32 ⟨v551,rfl,ho0,hb⟩;refine ⟨_,rfl,?_⟩;have n0_:=Aside0.mk (Kd.V_below (by (with_reducible repeat (first|apply Kd.V_alloc|apply Kd.V_drewN|apply Kd.V_drew));exact HO_3.out) hb);have n1_:=Aside0.mk (Kd.R_below (by (with_reducible repeat (first|apply Kd.R_alloc|apply Kd.R_drewN|apply Kd.R_drew));exact HO_5.out) hb);have n2_:=Aside0.mk (Kd.V_below (by (with_reducible repeat (first|apply Kd.V_alloc|apply Kd.V_drewN|apply Kd.V_drew));exact HO549.out) hb);have n3_:=Aside0.mk (Kd.V_lower (Kd.V_mono (ok':=fun k_=>(w.heap.size≤k_)∧some k_≠(.slice Ao29 y544.length co29:Value).ownBlock) ho0 (fun k_ hk_=>⟨(Nat.le_trans (below_size (by repeat (first|(with_reducible first|exact HB.out|apply below_alloc|apply pw_below_drewN|apply below_drew1)|exact HB.out))) hk_),(Kd.fresh' (Kd.R_lt (by (with_reducible repeat (first|apply Kd.R_alloc|apply Kd.R_drewN|apply Kd.R_drew));exact HO_5.out)) k_ hk_)⟩)) (below_size (by repeat (first|(with_reducible first|exact HB.out|apply below_alloc|apply pw_below_drewN|apply below_drew1)|exact HB.out))));have n4_:=Aside0.mk (below_step (by repeat (first|(with_reducible first|exact HB.out|apply below_alloc|apply pw_below_drewN|apply below_drew1)|exact HB.out)) hb);clear HO_3;clear HO_5;clear HO549;clear HB;have HO_3:=n0_;have HO_5:=n1_;have HO549:=n2_;have HO552:=n3_;have HB:=n4_;clear n0_ n1_ n2_ n3_ n4_;(try clear hb);(try clear hb2);(try clear hk);(try clear hi);(try clear ho0);obtain ⟨Ao33,co33,eo33⟩:=Kd.V_slice HO552.out;subst eo33)|((with_reducible refine gate_callee (f:=36) rfl ?_);refine goesL_ (some 35) rfl rfl Tryd.func36 (by kernel_rfl) rfl #[.slice Ao33 t550.length co33,.slice A0 l0.length c0] rfl (by (try simp only [List.map_toArray,List.map_cons,List.map_nil]);first|done|rfl|(simp only [List.length_drop,List.length_take];rfl)) ?_;(with_reducible refine (garboardref01_Cmp.calls k2 _ _ t550 _ _ l0 t553 _ ?side1 ?side2 ?side3 ?side4 A26.out).mono ?_);(case side1=>repeat (first|exact (Kd.V_reads' HO552.out).2.2|(with_reducible refine Kd.C_alloc ?_ _)|(with_reducible refine Kd.C_drewN ?_ _)|(with_reducible refine Kd.C_drew ?_)));(case side2=>exact (Kd.V_reads' HO552.out).2.1);(case side3=>repeat (first|exact (Kd.C_below HR0.out HB.out)|(with_reducible refine Kd.C_alloc ?_ _)|(with_reducible refine Kd.C_drewN ?_ _)|(with_reducible refine Kd.C_drew ?_)));(case side4=>exact HC0.out);rintro e w' ⟨rfl,⟨nd,rfl⟩⟩;refine ⟨_,rfl,?_⟩))
          go_roundg k2
          case measure=>have:=HK1.out;have:=HK2.out;omega
          case rel=>exact ⟨(x3_2),(wrap64 (x4_1 - 1)),(by first|rfl|(simp;done)|(simp [*];done)),H',⟨by have:=HK1.out;have:=HK2.out;omega⟩,⟨by (with_reducible repeat (first|apply Kd.V_alloc|apply Kd.V_drewN|apply Kd.V_drew));exact Kd.V_mono HO_3.out (fun _ hk=>hk.1)⟩,⟨by repeat (first|(with_reducible first|exact HB.out|apply below_alloc|apply pw_below_drewN|apply below_drew1)|exact HB.out)⟩⟩
         ·rw [if_neg c27] at H
          have c27b0:decide (0 < t553) = false:=decide_eq_false c27
          clear c27
          have H':=Aside0.mk H
          clear H
          obtain ⟨Ao34,co34,eo34⟩:=Kd.V_slice HO_3.out
          subst eo34
          obtain ⟨Ao35,co35,eo35⟩:=Kd.R_slice HO_5.out
          subst eo35
          go_wp2_with (first|((with_reducible refine gate_callee (f:=40) rfl ?_);refine goesL_ (some 30) rfl rfl Tryd.func40 (by kernel_rfl) rfl #[.slice Ao34 x3_2.length co34,.slice Ao35 y544.length co35] rfl (by (try simp only [List.map_toArray,List.map_cons,List.map_nil]);first|done|rfl|(simp only [List.length_drop,List.length_take];rfl)) ?_;(with_reducible refine (garboardref01_Plus.calls k2 _ _ x3_2 _ _ y544 t547 _ ?side1 ?side2 ?side3 ?side4 A24.out).mono ?_);(case side1=>repeat (first|exact (Kd.V_reads' HO_3.out).2.2|(with_reducible refine Kd.C_alloc ?_ _)|(with_reducible refine Kd.C_drewN ?_ _)|(with_reducible refine Kd.C_drew ?_)));(case side2=>exact (Kd.V_reads' HO_3.out).2.1);(case side3=>repeat (first|exact (Kd.R_reads' HO_5.out).2.2|(with_reducible refine Kd.C_alloc ?_ _)|(with_reducible refine Kd.C_drewN ?_ _)|(with_reducible refine Kd.C_drew ?_)));(case side4=>exact (Kd.R_reads' HO_5.out).2.1);rintro e w36 ⟨v548,rfl,ho0,hb⟩;refine ⟨_,rfl,?_⟩;have n0_:=Aside0.mk (Kd.V_below (by (with_reducible repeat (first|apply Kd.V_alloc|apply Kd.V_drewN|apply Kd.V_drew));exact HO_3.out) hb);have n1_:=Aside0.mk (Kd.R_below (by (with_reducible repeat (first|apply Kd.R_alloc|apply Kd.R_drewN|apply Kd.R_drew));exact HO_5.out) hb);have n2_:=Aside0.mk (Kd.V_lower (Kd.V_mono (ok':=fun k_=>(w.heap.size≤k_)∧some k_≠(.slice Ao35 y544.length co35:Value).ownBlock) ho0 (fun k_ hk_=>⟨(Nat.le_trans (below_size (by repeat (first|(with_reducible first|exact HB.out|apply below_alloc|apply pw_below_drewN|apply below_drew1)|exact HB.out))) hk_),(Kd.fresh' (Kd.R_lt (by (with_reducible repeat (first|apply Kd.R_alloc|apply Kd.R_drewN|apply Kd.R_drew));exact HO_5.out)) k_ hk_)⟩)) (below_size (by repeat (first|(with_reducible first|exact HB.out|apply below_alloc|apply pw_below_drewN|apply below_drew1)|exact HB.out))));have n3_:=Aside0.mk (below_step (by repeat (first|(with_reducible first|exact HB.out|apply below_alloc|apply pw_below_drewN|apply below_drew1)|exact HB.out)) hb);clear HO_3;clear HO_5;clear HB;have HO_3:=n0_;have HO_5:=n1_;have HO549:=n2_;have HB:=n3_;clear n0_ n1_ n2_ n3_;(try clear hb);(try clear hb2);(try clear hk);(try clear hi);(try clear ho0);obtain ⟨Ao37,co37,eo37⟩:=Kd.V_slice HO549.out;subst eo37)|((with_reducible refine gate_callee (f:=44) rfl ?_);refine goesL_ (some 33) rfl rfl Tryd.func44 (by kernel_rfl) rfl #[.slice Ao37 t547.length co37,.slice Ao37 t547.length co37] rfl (by (try simp only [List.map_toArray,List.map_cons,List.map_nil]);first|done|rfl|(simp only [List.length_drop,List.length_take];rfl)) ?_;(with_reducible refine (garboardref01_Times.calls k2 _ _ t547 _ _ t547 t550 _ ?side1 ?side2 ?side3 ?side4 A25.out).mono ?_);(case side1=>repeat (first|exact (Kd.V_reads' HO549.out).2.2|(with_reducible refine Kd.C_alloc ?_ _)|(with_reducible refine Kd.C_drewN ?_ _)|(with_reducible refine Kd.C_drew ?_)));(case side2=>exact (Kd.V_reads' HO549.out).2.1);(case side3=>repeat (first|exact (Kd.V_reads' HO549.out).2.2|(with_reducible refine Kd.C_alloc ?_ _)|(with_reducible refine Kd.C_drewN ?_ _)|(with_reducible refine Kd.C_drew ?_)));(case side4=>exact (Kd.V_reads' HO549.out).2.1);rintro e w38 ⟨v551,rfl,ho0,hb⟩;refine ⟨_,rfl,?_⟩;have n0_:=Aside0.mk (Kd.V_below (by (with_reducible repeat (first|apply Kd.V_alloc|apply Kd.V_drewN|apply Kd.V_drew));exact HO_3.out) hb);have n1_:=Aside0.mk (Kd.R_below (by (with_reducible repeat (first|apply Kd.R_alloc|apply Kd.R_drewN|apply Kd.R_drew));exact HO_5.out) hb);have n2_:=Aside0.mk (Kd.V_below (by (with_reducible repeat (first|apply Kd.V_alloc|apply Kd.V_drewN|apply Kd.V_drew));exact HO549.out) hb);have n3_:=Aside0.mk (Kd.V_lower (Kd.V_mono (ok':=fun k_=>(w.heap.size≤k_)∧some k_≠(.slice Ao35 y544.length co35:Value).ownBlock) ho0 (fun k_ hk_=>⟨(Nat.le_trans (below_size (by repeat (first|(with_reducible first|exact HB.out|apply below_alloc|apply pw_below_drewN|apply below_drew1)|exact HB.out))) hk_),(Kd.fresh' (Kd.R_lt (by (with_reducible repeat (first|apply Kd.R_alloc|apply Kd.R_drewN|apply Kd.R_drew));exact HO_5.out)) k_ hk_)⟩)) (below_size (by repeat (first|(with_reducible first|exact HB.out|apply below_alloc|apply pw_below_drewN|apply below_drew1)|exact HB.out))));have n4_:=Aside0.mk (below_step (by repeat (first|(with_reducible first|exact HB.out|apply below_alloc|apply pw_below_drewN|apply below_drew1)|exact HB.out)) hb);clear HO_3;clear HO_5;clear HO549;clear HB;have HO_3:=n0_;have HO_5:=n1_;have HO549:=n2_;have HO552:=n3_;have HB:=n4_;clear n0_ n1_ n2_ n3_ n4_;(try clear hb);(try clear hb2);(try clear hk);(try clear hi);(try clear ho0);obtain ⟨Ao39,co39,eo39⟩:=Kd.V_slice HO552.out;subst eo39)|((with_reducible refine gate_callee (f:=36) rfl ?_);refine goesL_ (some 35) rfl rfl Tryd.func36 (by kernel_rfl) rfl #[.slice Ao39 t550.length co39,.slice A0 l0.length c0] rfl (by (try simp only [List.map_toArray,List.map_cons,List.map_nil]);first|done|rfl|(simp only [List.length_drop,List.length_take];rfl)) ?_;(with_reducible refine (garboardref01_Cmp.calls k2 _ _ t550 _ _ l0 t553 _ ?side1 ?side2 ?side3 ?side4 A26.out).mono ?_);(case side1=>repeat (first|exact (Kd.V_reads' HO552.out).2.2|(with_reducible refine Kd.C_alloc ?_ _)|(with_reducible refine Kd.C_drewN ?_ _)|(with_reducible refine Kd.C_drew ?_)));(case side2=>exact (Kd.V_reads' HO552.out).2.1);(case side3=>repeat (first|exact (Kd.C_below HR0.out HB.out)|(with_reducible refine Kd.C_alloc ?_ _)|(with_reducible refine Kd.C_drewN ?_ _)|(with_reducible refine Kd.C_drew ?_)));(case side4=>exact HC0.out);rintro e w' ⟨rfl,⟨nd,rfl⟩⟩;refine ⟨_,rfl,?_⟩))
          go_roundg k2
          case measure=>have:=HK1.out;have:=HK2.out;omega
          case rel=>exact ⟨(t547),H',⟨by have:=HK1.out;have:=HK2.out;omega⟩,⟨by (with_reducible repeat (first|apply Kd.V_alloc|apply Kd.V_drewN|apply Kd.V_drew));exact HO549.out⟩,⟨by (with_reducible repeat (first|apply Kd.R_alloc|apply Kd.R_drewN|apply Kd.R_drew));exact HO_5.out⟩,⟨by repeat (first|(with_reducible first|exact HB.out|apply below_alloc|apply pw_below_drewN|apply below_drew1)|exact HB.out)⟩⟩
      ·rw [if_neg c12] at H
       exact absurd H (by simp)
     ·rw [if_neg c7] at H
      exact absurd H (by simp)
    ·rw [if_neg c6] at H
     exact absurd H (by simp)
   ·rw [if_neg c4] at H
    have c4b0:decide (0≤x4_1) = false:=decide_eq_false c4
    clear c4
    obtain rfl:=Option.some.inj H
    go_wp2
    go_ret
    exact ⟨_,by first|rfl|(simp [errW_none,errW_some]<;>rfl)|(simp [*,errW_none,errW_some]<;>rfl),by (with_reducible repeat (first|apply Kd.V_alloc|apply Kd.V_drewN|apply Kd.V_drew));exact HO_3.out,by repeat (first|(with_reducible first|exact HB.out|apply below_alloc|apply pw_below_drewN|apply below_drew1)|exact HB.out)⟩
end Go.Proofs.YtaopmkcghancmaaDoor.Pr
namespace Go.Proofs.YtaopmkcghancmaaDoor.Pr
open Go.RowKit Go.Proofs.YtaopmkcghancmaaDoorW.PrintWords Go.Proofs.YtaopmkcghancmaaDoorW.PrintLast Go.Proofs.YtaopmkcghancmaaDoorW.PrintMore
attribute [local go_sem] max2_int min2_int max_two min_two max_three min_three max_four min_four
set_option linter.unusedVariables false
set_option linter.unusedSimpArgs false
def garboardref01_Root.f (k:Nat) (a0:ByteArray):Option (ByteArray × Int):=(garboardref01_Valid.f k a0).bind fun t554=>(if t554 = true then ((garboardref01_From.f k a0).bind fun t555=>((garboardref01_Floor.f k t555).bind fun t558=>((garboardref01_To.f k t558).bind fun t561=>(some (t561,0))))) else (some ((⟨#[]⟩:ByteArray),1)))
set_option maxHeartbeats 8000000 in
set_option maxRecDepth 100000 in
theorem garboardref01_Root.calls (k:Nat) (a0:ByteArray) (r1:ByteArray) (r2:Int) (w:World) (h:garboardref01_Root.f k a0 = some (r1,r2)) :
  Calls Tryd.prog 28 #[.string a0] w fun e w'=>e = .returned (.tuple #[.string r1,.int .i64 r2])∧Below w.heap.size w w':=by
 have HB:=Aside0.mk (Below.refl w.heap.size w)
 have H:((garboardref01_Valid.f k a0).bind fun t554=>(if t554 = true then ((garboardref01_From.f k a0).bind fun t555=>((garboardref01_Floor.f k t555).bind fun t558=>((garboardref01_To.f k t558).bind fun t561=>(some (t561,0))))) else (some ((⟨#[]⟩:ByteArray),1)))) = some (r1,r2):=h
 clear h
 replace H:=Option.bind_eq_some_iff.mp H
 obtain ⟨t554,A20,H⟩:=H
 replace H:(if t554 = true then ((garboardref01_From.f k a0).bind fun t555=>((garboardref01_Floor.f k t555).bind fun t558=>((garboardref01_To.f k t558).bind fun t561=>(some (t561,0))))) else (some ((⟨#[]⟩:ByteArray),1))) = some (r1,r2):=H
 have A2:=Aside0.mk A20
 clear A20
 by_cases c3:t554 = true
 ·subst c3
  have H1:((garboardref01_From.f k a0).bind fun t555=>((garboardref01_Floor.f k t555).bind fun t558=>((garboardref01_To.f k t558).bind fun t561=>(some (t561,0))))) = some (r1,r2):=by rw [if_pos rfl] at H;exact H
  clear H
  have H:=H1
  clear H1
  replace H:=Option.bind_eq_some_iff.mp H
  obtain ⟨t555,A40,H⟩:=H
  replace H:((garboardref01_Floor.f k t555).bind fun t558=>((garboardref01_To.f k t558).bind fun t561=>(some (t561,0)))) = some (r1,r2):=H
  have A4:=Aside0.mk A40
  clear A40
  replace H:=Option.bind_eq_some_iff.mp H
  obtain ⟨t558,A50,H⟩:=H
  replace H:((garboardref01_To.f k t558).bind fun t561=>(some (t561,0))) = some (r1,r2):=H
  have A5:=Aside0.mk A50
  clear A50
  replace H:=Option.bind_eq_some_iff.mp H
  obtain ⟨t561,A60,H⟩:=H
  replace H:(some (t561,0)) = some (r1,r2):=H
  have A6:=Aside0.mk A60
  clear A60
  simp only [Option.some.injEq,Prod.mk.injEq] at H
  obtain ⟨rfl,rfl⟩:=H
  go_enter Tryd.func28,Tryd.ntmps28
  go_wp2_with (first|((with_reducible refine gate_callee (f:=16) rfl ?_);refine goesL_ (some 5) rfl rfl Tryd.func16 (by kernel_rfl) rfl #[.string a0] rfl (by (try simp only [List.map_toArray,List.map_cons,List.map_nil]);first|done|rfl|(simp only [List.length_drop,List.length_take];rfl)) ?_;(with_reducible refine (garboardref01_Valid.calls k a0 true _ A2.out).mono ?_);rintro e w' ⟨rfl,⟨nd,rfl⟩⟩;refine ⟨_,rfl,?_⟩)|((with_reducible refine gate_callee (f:=54) rfl ?_);refine goesL_ (some 8) rfl rfl Tryd.func54 (by kernel_rfl) rfl #[.string a0] rfl (by (try simp only [List.map_toArray,List.map_cons,List.map_nil]);first|done|rfl|(simp only [List.length_drop,List.length_take];rfl)) ?_;(with_reducible refine (garboardref01_From.calls k a0 t555 _ A4.out).mono ?_);rintro e w7 ⟨v556,rfl,ho0,hb⟩;refine ⟨_,rfl,?_⟩;have n0_:=Aside0.mk (Kd.V_lower (Kd.V_mono (ok':=fun k_=>True) ho0 (fun k_ hk_=>trivial)) (below_size (by repeat (first|(with_reducible first|exact HB.out|apply below_alloc|apply pw_below_drewN|apply below_drew1)|exact HB.out))));have n1_:=Aside0.mk (below_step (by repeat (first|(with_reducible first|exact HB.out|apply below_alloc|apply pw_below_drewN|apply below_drew1)|exact HB.out)) hb);clear HB;have HO557:=n0_;have HB:=n1_;clear n0_ n1_;(try clear hb);(try clear hb2);(try clear hk);(try clear hi);(try clear ho0);obtain ⟨Ao8,co8,eo8⟩:=Kd.V_slice HO557.out;subst eo8)|((with_reducible refine gate_callee (f:=53) rfl ?_);refine goesL_ (some 9) rfl rfl Tryd.func53 (by kernel_rfl) rfl #[.slice Ao8 t555.length co8] rfl (by (try simp only [List.map_toArray,List.map_cons,List.map_nil]);first|done|rfl|(simp only [List.length_drop,List.length_take];rfl)) ?_;(with_reducible refine (garboardref01_Floor.calls k _ _ t555 t558 _ ?side1 ?side2 A5.out).mono ?_);(case side1=>repeat (first|exact (Kd.V_reads' HO557.out).2.2|(with_reducible refine Kd.C_alloc ?_ _)|(with_reducible refine Kd.C_drewN ?_ _)|(with_reducible refine Kd.C_drew ?_)));(case side2=>exact (Kd.V_reads' HO557.out).2.1);rintro e w9 ⟨v559,rfl,ho0,hb⟩;refine ⟨_,rfl,?_⟩;have n0_:=Aside0.mk (Kd.V_below (by (with_reducible repeat (first|apply Kd.V_alloc|apply Kd.V_drewN|apply Kd.V_drew));exact HO557.out) hb);have n1_:=Aside0.mk (Kd.V_lower (Kd.V_mono (ok':=fun k_=>True) ho0 (fun k_ hk_=>trivial)) (below_size (by repeat (first|(with_reducible first|exact HB.out|apply below_alloc|apply pw_below_drewN|apply below_drew1)|exact HB.out))));have n2_:=Aside0.mk (below_step (by repeat (first|(with_reducible first|exact HB.out|apply below_alloc|apply pw_below_drewN|apply below_drew1)|exact HB.out)) hb);clear HO557;clear HB;have HO557:=n0_;have HO560:=n1_;have HB:=n2_;clear n0_ n1_ n2_;(try clear hb);(try clear hb2);(try clear hk);(try clear hi);(try clear ho0);obtain ⟨Ao10,co10,eo10⟩:=Kd.V_slice HO560.out;subst eo10)|((with_reducible refine gate_callee (f:=39) rfl ?_);refine goesL_ (some 10) rfl rfl Tryd.func39 (by kernel_rfl) rfl #[.slice Ao10 t558.length co10] rfl (by (try simp only [List.map_toArray,List.map_cons,List.map_nil]);first|done|rfl|(simp only [List.length_drop,List.length_take];rfl)) ?_;(with_reducible refine (garboardref01_To.calls k _ _ t558 t561 _ ?side1 ?side2 A6.out).mono ?_);(case side1=>repeat (first|exact (Kd.V_reads' HO560.out).2.2|(with_reducible refine Kd.C_alloc ?_ _)|(with_reducible refine Kd.C_drewN ?_ _)|(with_reducible refine Kd.C_drew ?_)));(case side2=>exact (Kd.V_reads' HO560.out).2.1);rintro e w11 ⟨rfl,hb⟩;refine ⟨_,rfl,?_⟩;have n0_:=Aside0.mk (Kd.V_below (by (with_reducible repeat (first|apply Kd.V_alloc|apply Kd.V_drewN|apply Kd.V_drew));exact HO557.out) hb);have n1_:=Aside0.mk (Kd.V_below (by (with_reducible repeat (first|apply Kd.V_alloc|apply Kd.V_drewN|apply Kd.V_drew));exact HO560.out) hb);have n2_:=Aside0.mk (below_step (by repeat (first|(with_reducible first|exact HB.out|apply below_alloc|apply pw_below_drewN|apply below_drew1)|exact HB.out)) hb);clear HO557;clear HO560;clear HB;have HO557:=n0_;have HO560:=n1_;have HB:=n2_;clear n0_ n1_ n2_;(try clear hb);(try clear hb2);(try clear hk);(try clear hi)))
  go_ret2
  exact ⟨by first|rfl|(simp [errW_none,errW_some]<;>rfl)|(simp [*,errW_none,errW_some]<;>rfl),by repeat (first|(with_reducible first|exact HB.out|apply below_alloc|apply pw_below_drewN|apply below_drew1)|exact HB.out)⟩
 ·replace c3:=Bool.eq_false_iff.mpr c3
  subst c3
  have H1:(some ((⟨#[]⟩:ByteArray),1)) = some (r1,r2):=by rw [if_neg (show ¬ (false = true) by decide)] at H;exact H
  clear H
  have H:=H1
  clear H1
  simp only [Option.some.injEq,Prod.mk.injEq] at H
  obtain ⟨rfl,rfl⟩:=H
  go_enter Tryd.func28,Tryd.ntmps28
  go_wp2_with (first|((with_reducible refine gate_callee (f:=16) rfl ?_);refine goesL_ (some 5) rfl rfl Tryd.func16 (by kernel_rfl) rfl #[.string a0] rfl (by (try simp only [List.map_toArray,List.map_cons,List.map_nil]);first|done|rfl|(simp only [List.length_drop,List.length_take];rfl)) ?_;(with_reducible refine (garboardref01_Valid.calls k a0 false _ A2.out).mono ?_);rintro e w' ⟨rfl,⟨nd,rfl⟩⟩;refine ⟨_,rfl,?_⟩))
  go_ret2
  exact ⟨by first|rfl|(simp [errW_none,errW_some]<;>rfl)|(simp [*,errW_none,errW_some]<;>rfl),by repeat (first|(with_reducible first|exact HB.out|apply below_alloc|apply pw_below_drewN|apply below_drew1)|exact HB.out)⟩
end Go.Proofs.YtaopmkcghancmaaDoor.Pr
namespace Go.Proofs.YtaopmkcghancmaaDoor.Pr
open Go.RowKit Go.Proofs.YtaopmkcghancmaaDoorW.PrintWords Go.Proofs.YtaopmkcghancmaaDoorW.PrintLast Go.Proofs.YtaopmkcghancmaaDoorW.PrintMore
attribute [local go_sem] max2_int min2_int max_two min_two max_three min_three max_four min_four
set_option linter.unusedVariables false
set_option linter.unusedSimpArgs false
def garboardref01_Pow.j0:Nat→ByteArray→Int→Bool→Option (ByteArray × Int)
 | 0,_,_,_=>none
 | k + 1,x0,x1,x14=>if x14 = true then (some ((⟨#[]⟩:ByteArray),2)) else ((garboardref01_From.f k x0).bind fun t563=>((garboardref01_Power.f k t563 x1).bind fun t566=>((garboardref01_To.f k t566).bind fun t569=>(some (t569,0)))))
def garboardref01_Pow.f (k:Nat) (a0:ByteArray) (a1:Int):Option (ByteArray × Int):=(garboardref01_Valid.f k a0).bind fun t562=>(if t562 = true then (if a1 < 0 then (garboardref01_Pow.j0 k a0 a1 true) else (garboardref01_Pow.j0 k a0 a1 (decide (a1 > 64)))) else (some ((⟨#[]⟩:ByteArray),1)))
set_option maxHeartbeats 8000000 in
set_option maxRecDepth 100000 in
theorem garboardref01_Pow.calls (k:Nat) (a0:ByteArray) (a1:Int) (r1:ByteArray) (r2:Int) (w:World) (h:garboardref01_Pow.f k a0 a1 = some (r1,r2)) :
  Calls Tryd.prog 30 #[.string a0,.int .i64 a1] w fun e w'=>e = .returned (.tuple #[.string r1,.int .i64 r2])∧Below w.heap.size w w':=by
 have HB:=Aside0.mk (Below.refl w.heap.size w)
 have H:((garboardref01_Valid.f k a0).bind fun t562=>(if t562 = true then (if a1 < 0 then (garboardref01_Pow.j0 k a0 a1 true) else (garboardref01_Pow.j0 k a0 a1 (decide (a1 > 64)))) else (some ((⟨#[]⟩:ByteArray),1)))) = some (r1,r2):=h
 clear h
 replace H:=Option.bind_eq_some_iff.mp H
 obtain ⟨t562,A30,H⟩:=H
 replace H:(if t562 = true then (if a1 < 0 then (garboardref01_Pow.j0 k a0 a1 true) else (garboardref01_Pow.j0 k a0 a1 (decide (a1 > 64)))) else (some ((⟨#[]⟩:ByteArray),1))) = some (r1,r2):=H
 have A3:=Aside0.mk A30
 clear A30
 by_cases c4:t562 = true
 ·subst c4
  have H1:(if a1 < 0 then (garboardref01_Pow.j0 k a0 a1 true) else (garboardref01_Pow.j0 k a0 a1 (decide (a1 > 64)))) = some (r1,r2):=by rw [if_pos rfl] at H;exact H
  clear H
  have H:=H1
  clear H1
  have HC5:=Aside0.mk H
  clear H
  go_enter Tryd.func30,Tryd.ntmps30
  go_upto_region 3 with (first|((with_reducible refine gate_callee (f:=16) rfl ?_);refine goesL_ (some 7) rfl rfl Tryd.func16 (by kernel_rfl) rfl #[.string a0] rfl (by (try simp only [List.map_toArray,List.map_cons,List.map_nil]);first|done|rfl|(simp only [List.length_drop,List.length_take];rfl)) ?_;(with_reducible refine (garboardref01_Valid.calls k a0 true _ A3.out).mono ?_);rintro e w' ⟨rfl,⟨nd,rfl⟩⟩;refine ⟨_,rfl,?_⟩))
  (try simp only [Act.put,List.setIfInBounds_toArray,List.set_cons_zero,List.set_cons_succ])
  go_cut [14] (fun v14 wc=>∃ (kq:Nat) (x14_4:Bool),v14 = .bool x14_4∧Aside0 (garboardref01_Pow.j0 kq a0 a1 x14_4 = some (r1,r2))∧Aside0 (kq≤k)∧Aside0 (Below w.heap.size w wc))
  case first =>
   have H:=HC5.out
   clear HC5
   by_cases c6:a1 < 0
   ·rw [if_pos c6] at H
    have c6b0:decide (a1 < 0) = true:=decide_eq_true c6
    clear c6
    (first|rw [c6b0]|(simp only [i64_w,i32_w];rw [c6b0])|skip)
    have H':=Aside0.mk H
    clear H
    go_wp2
    go_meet
    case rel=>exact ⟨_,(true),(by first|rfl|(simp;done)|(simp [*];done)),H',⟨by first|omega|exact Nat.le_refl _⟩,⟨by repeat (first|(with_reducible first|exact HB.out|apply below_alloc|apply pw_below_drewN|apply below_drew1)|exact HB.out)⟩⟩
   ·rw [if_neg c6] at H
    have c6b0:decide (a1 < 0) = false:=decide_eq_false c6
    clear c6
    (first|rw [c6b0]|(simp only [i64_w,i32_w];rw [c6b0])|skip)
    have H':=Aside0.mk H
    clear H
    go_wp2
    go_meet
    case rel=>exact ⟨_,(decide (a1 > 64)),(by first|rfl|(simp;done)|(simp [*];done)),H',⟨by first|omega|exact Nat.le_refl _⟩,⟨by repeat (first|(with_reducible first|exact HB.out|apply below_alloc|apply pw_below_drewN|apply below_drew1)|exact HB.out)⟩⟩
  case rest =>
   clear HC5
   try clear c1
   try clear p2
   try clear c3
   try clear c4
   try clear c6
   try clear c6b0
   obtain ⟨kq,x14_4,rfl,HA,HJ4,HB⟩:=hcut
   cases kq with
   | zero=>exact absurd HA.out (by simp [garboardref01_Pow.j0])
   | succ kj4 =>
    have H:=HA.out
    clear HA
    simp only [garboardref01_Pow.j0] at H
    by_cases c7:x14_4 = true
    ·subst c7
     have H1:(some ((⟨#[]⟩:ByteArray),2)) = some (r1,r2):=by rw [if_pos rfl] at H;exact H
     clear H
     have H:=H1
     clear H1
     simp only [Option.some.injEq,Prod.mk.injEq] at H
     obtain ⟨rfl,rfl⟩:=H
     go_wp2
     go_ret2
     exact ⟨by first|rfl|(simp [errW_none,errW_some]<;>rfl)|(simp [*,errW_none,errW_some]<;>rfl),by repeat (first|(with_reducible first|exact HB.out|apply below_alloc|apply pw_below_drewN|apply below_drew1)|exact HB.out)⟩
    ·replace c7:=Bool.eq_false_iff.mpr c7
     subst c7
     have H1:((garboardref01_From.f kj4 a0).bind fun t563=>((garboardref01_Power.f kj4 t563 a1).bind fun t566=>((garboardref01_To.f kj4 t566).bind fun t569=>(some (t569,0))))) = some (r1,r2):=by rw [if_neg (show ¬ (false = true) by decide)] at H;exact H
     clear H
     have H:=H1
     clear H1
     replace H:=Option.bind_eq_some_iff.mp H
     obtain ⟨t563,A80,H⟩:=H
     replace H:((garboardref01_Power.f kj4 t563 a1).bind fun t566=>((garboardref01_To.f kj4 t566).bind fun t569=>(some (t569,0)))) = some (r1,r2):=H
     have A8:=Aside0.mk A80
     clear A80
     replace H:=Option.bind_eq_some_iff.mp H
     obtain ⟨t566,A90,H⟩:=H
     replace H:((garboardref01_To.f kj4 t566).bind fun t569=>(some (t569,0))) = some (r1,r2):=H
     have A9:=Aside0.mk A90
     clear A90
     replace H:=Option.bind_eq_some_iff.mp H
     obtain ⟨t569,A100,H⟩:=H
     replace H:(some (t569,0)) = some (r1,r2):=H
     have A10:=Aside0.mk A100
     clear A100
     simp only [Option.some.injEq,Prod.mk.injEq] at H
     obtain ⟨rfl,rfl⟩:=H
     go_wp2_with (first|((with_reducible refine gate_callee (f:=54) rfl ?_);refine goesL_ (some 16) rfl rfl Tryd.func54 (by kernel_rfl) rfl #[.string a0] rfl (by (try simp only [List.map_toArray,List.map_cons,List.map_nil]);first|done|rfl|(simp only [List.length_drop,List.length_take];rfl)) ?_;(with_reducible refine (garboardref01_From.calls kj4 a0 t563 _ A8.out).mono ?_);rintro e w11 ⟨v564,rfl,ho0,hb⟩;refine ⟨_,rfl,?_⟩;have n0_:=Aside0.mk (Kd.V_lower (Kd.V_mono (ok':=fun k_=>True) ho0 (fun k_ hk_=>trivial)) (below_size (by repeat (first|(with_reducible first|exact HB.out|apply below_alloc|apply pw_below_drewN|apply below_drew1)|exact HB.out))));have n1_:=Aside0.mk (below_step (by repeat (first|(with_reducible first|exact HB.out|apply below_alloc|apply pw_below_drewN|apply below_drew1)|exact HB.out)) hb);clear HB;have HO565:=n0_;have HB:=n1_;clear n0_ n1_;(try clear hb);(try clear hb2);(try clear hk);(try clear hi);(try clear ho0);obtain ⟨Ao12,co12,eo12⟩:=Kd.V_slice HO565.out;subst eo12)|((with_reducible refine gate_callee (f:=55) rfl ?_);refine goesL_ (some 18) rfl rfl Tryd.func55 (by kernel_rfl) rfl #[.slice Ao12 t563.length co12,.int .i64 a1] rfl (by (try simp only [List.map_toArray,List.map_cons,List.map_nil]);first|done|rfl|(simp only [List.length_drop,List.length_take];rfl)) ?_;(with_reducible refine (garboardref01_Power.calls kj4 _ _ t563 a1 t566 _ ?side1 ?side2 A9.out).mono ?_);(case side1=>repeat (first|exact (Kd.V_reads' HO565.out).2.2|(with_reducible refine Kd.C_alloc ?_ _)|(with_reducible refine Kd.C_drewN ?_ _)|(with_reducible refine Kd.C_drew ?_)));(case side2=>exact (Kd.V_reads' HO565.out).2.1);rintro e w13 ⟨v567,rfl,ho0,hb⟩;refine ⟨_,rfl,?_⟩;have n0_:=Aside0.mk (Kd.V_below (by (with_reducible repeat (first|apply Kd.V_alloc|apply Kd.V_drewN|apply Kd.V_drew));exact HO565.out) hb);have n1_:=Aside0.mk (Kd.V_lower (Kd.V_mono (ok':=fun k_=>True) ho0 (fun k_ hk_=>trivial)) (below_size (by repeat (first|(with_reducible first|exact HB.out|apply below_alloc|apply pw_below_drewN|apply below_drew1)|exact HB.out))));have n2_:=Aside0.mk (below_step (by repeat (first|(with_reducible first|exact HB.out|apply below_alloc|apply pw_below_drewN|apply below_drew1)|exact HB.out)) hb);clear HO565;clear HB;have HO565:=n0_;have HO568:=n1_;have HB:=n2_;clear n0_ n1_ n2_;(try clear hb);(try clear hb2);(try clear hk);(try clear hi);(try clear ho0);obtain ⟨Ao14,co14,eo14⟩:=Kd.V_slice HO568.out;subst eo14)|((with_reducible refine gate_callee (f:=39) rfl ?_);refine goesL_ (some 19) rfl rfl Tryd.func39 (by kernel_rfl) rfl #[.slice Ao14 t566.length co14] rfl (by (try simp only [List.map_toArray,List.map_cons,List.map_nil]);first|done|rfl|(simp only [List.length_drop,List.length_take];rfl)) ?_;(with_reducible refine (garboardref01_To.calls kj4 _ _ t566 t569 _ ?side1 ?side2 A10.out).mono ?_);(case side1=>repeat (first|exact (Kd.V_reads' HO568.out).2.2|(with_reducible refine Kd.C_alloc ?_ _)|(with_reducible refine Kd.C_drewN ?_ _)|(with_reducible refine Kd.C_drew ?_)));(case side2=>exact (Kd.V_reads' HO568.out).2.1);rintro e w15 ⟨rfl,hb⟩;refine ⟨_,rfl,?_⟩;have n0_:=Aside0.mk (Kd.V_below (by (with_reducible repeat (first|apply Kd.V_alloc|apply Kd.V_drewN|apply Kd.V_drew));exact HO565.out) hb);have n1_:=Aside0.mk (Kd.V_below (by (with_reducible repeat (first|apply Kd.V_alloc|apply Kd.V_drewN|apply Kd.V_drew));exact HO568.out) hb);have n2_:=Aside0.mk (below_step (by repeat (first|(with_reducible first|exact HB.out|apply below_alloc|apply pw_below_drewN|apply below_drew1)|exact HB.out)) hb);clear HO565;clear HO568;clear HB;have HO565:=n0_;have HO568:=n1_;have HB:=n2_;clear n0_ n1_ n2_;(try clear hb);(try clear hb2);(try clear hk);(try clear hi)))
     go_ret2
     exact ⟨by first|rfl|(simp [errW_none,errW_some]<;>rfl)|(simp [*,errW_none,errW_some]<;>rfl),by repeat (first|(with_reducible first|exact HB.out|apply below_alloc|apply pw_below_drewN|apply below_drew1)|exact HB.out)⟩
 ·replace c4:=Bool.eq_false_iff.mpr c4
  subst c4
  have H1:(some ((⟨#[]⟩:ByteArray),1)) = some (r1,r2):=by rw [if_neg (show ¬ (false = true) by decide)] at H;exact H
  clear H
  have H:=H1
  clear H1
  simp only [Option.some.injEq,Prod.mk.injEq] at H
  obtain ⟨rfl,rfl⟩:=H
  go_enter Tryd.func30,Tryd.ntmps30
  go_wp2_with (first|((with_reducible refine gate_callee (f:=16) rfl ?_);refine goesL_ (some 7) rfl rfl Tryd.func16 (by kernel_rfl) rfl #[.string a0] rfl (by (try simp only [List.map_toArray,List.map_cons,List.map_nil]);first|done|rfl|(simp only [List.length_drop,List.length_take];rfl)) ?_;(with_reducible refine (garboardref01_Valid.calls k a0 false _ A3.out).mono ?_);rintro e w' ⟨rfl,⟨nd,rfl⟩⟩;refine ⟨_,rfl,?_⟩))
  go_ret2
  exact ⟨by first|rfl|(simp [errW_none,errW_some]<;>rfl)|(simp [*,errW_none,errW_some]<;>rfl),by repeat (first|(with_reducible first|exact HB.out|apply below_alloc|apply pw_below_drewN|apply below_drew1)|exact HB.out)⟩
end Go.Proofs.YtaopmkcghancmaaDoor.Pr
