/- Part 3 of 3: walks and laws of the functions of chapter 58 (approval), which the last part joins; no condition beyond those of the theorem there. The words of the print (W..) are the kit's, cut down by program to what is used here. -/
import Derived.Maps.Own
import Derived.Maps.OwnOps
import Derived.Maps.Views
import Derived.Maps.OwnSet
import Derived.Deep.RegionHeld3
import Derived.Test.YtbfimjncophcaaaDoorCb2
namespace Go.Proofs.YtbfimjncophcaaaDoor.Pr
open Go.RowKit Go.Proofs.YtbfimjncophcaaaDoorW.PrintWords Go.Proofs.YtbfimjncophcaaaDoorW.PrintLast Go.Proofs.YtbfimjncophcaaaDoorW.PrintMore
attribute [local go_sem] max2_int min2_int max_two min_two max_three min_three max_four min_four
set_option linter.unusedVariables false
set_option linter.unusedSimpArgs false
def approval_Sign.f (k : Nat) (l0 : List (S33)) (l1 : List (S25)) (a2_0 : Int) (a2_1 : Int) (a2_2 : ByteArray) (a2_3 : ByteArray) : Option ((List (S25)) × Int) := (approval_Check.f k l0 l1).bind fun bt140 => (if bt140.2 = 0 then (if (l1.length : Int) = 1024 then (some (([] : List (S25)), 12)) else ((approval_fault.f l0 l1 a2_0 a2_1 a2_2 a2_3).bind fun t142 => (if t142 = 0 then ((approval_signer.f l0 a2_0).bind fun t143 => (if 0 ≤ t143 then (if t143 < (l0.length : Int) then ((approval_code.f ((rd_T33 l0 t143).f3) a2_0 a2_1 a2_2 a2_3).bind fun t145 => ((api_Approval_13.f l1).bind fun t146 => ((some (([(⟨a2_0, a2_1, a2_2, t145⟩ : S25)] : List (S25)) : List (S25))).bind fun y149 => (if t146.length + y149.length < 2932031007402 then (some ((t146 ++ y149), 0)) else (none))))) else (none)) else (none))) else (some (([] : List (S25)), t142))))) else (some (([] : List (S25)), 1)))
def approval_Sign.T9 : Bool × List (List Nat × List Nat) := (true, [([], []), ([], []), ([], []), ([2], [2]), ([1, 3], [1, 3]), ([0, 4], [0, 4]), ([5], [5]), ([6], [6]), ([], []), ([7, 8, 4], [7, 8]), ([0, 1, 2, 3, 4, 5, 6, 7, 8, 9], []), ([10, 9, 9, 0, 1, 2, 3, 4, 5, 6, 7, 8, 9], [9, 10])])
def approval_Sign.B9 : List Nat := [0, 0, 0, 4, 14, 31, 63, 127, 0, 511, 1023, 2047]
theorem approval_Sign.tab9 : rtab .any (opsOf Tryd.f15 9) = approval_Sign.T9 := by kernel_rfl
theorem approval_Sign.bits9 : waitsOk approval_Sign.T9.2 approval_Sign.B9 = true := by kernel_rfl
set_option maxHeartbeats 8000000 in
set_option maxRecDepth 100000 in
theorem approval_Sign.calls (k : Nat) (A0 : Option Addr) (c0 : Nat) (l0 : List (S33)) (A1 : Option Addr) (c1 : Nat) (l1 : List (S25)) (a2_0 : Int) (a2_1 : Int) (a2_2 : ByteArray) (a2_3 : ByteArray) (r1 : List (S25)) (r2 : Int) (w : World) (hr0 : Kd.C k33 w A0 l0.length l0) (hc0 : l0.length ≤ c0) (hr1 : Kd.C k25 w A1 l1.length l1) (hc1 : l1.length ≤ c1) (hL : LaidW w) (h : approval_Sign.f k l0 l1 a2_0 a2_1 a2_2 a2_3 = some (r1, r2)) :
  Calls Tryd.prog 15 #[.slice A0 l0.length c0, .slice A1 l1.length c1, .agg #[.int .i64 a2_0, .int .i64 a2_1, .string a2_2, .string a2_3]] w fun e w' => ∃ v0_ : Value, e = .returned (.tuple #[v0_, .int .i64 r2]) ∧ Kd.R k25 25 w' w.heap.size (fun _ => True) v0_ r1 ∧ Below w.heap.size w w' := by
 have hu25 := Tryd.underlying25
 have HR0 := Aside0.mk hr0
 have HC0 := Aside0.mk hc0
 clear hr0 hc0
 have HR1 := Aside0.mk hr1
 have HC1 := Aside0.mk hc1
 clear hr1 hc1
 have HB := Aside0.mk (Below.refl w.heap.size w)
 have HLW := Aside0.mk hL
 clear hL
 have H : ((approval_Check.f k l0 l1).bind fun bt140 => (if bt140.2 = 0 then (if (l1.length : Int) = 1024 then (some (([] : List (S25)), 12)) else ((approval_fault.f l0 l1 a2_0 a2_1 a2_2 a2_3).bind fun t142 => (if t142 = 0 then ((approval_signer.f l0 a2_0).bind fun t143 => (if 0 ≤ t143 then (if t143 < (l0.length : Int) then ((approval_code.f ((rd_T33 l0 t143).f3) a2_0 a2_1 a2_2 a2_3).bind fun t145 => ((api_Approval_13.f l1).bind fun t146 => ((some (([(⟨a2_0, a2_1, a2_2, t145⟩ : S25)] : List (S25)) : List (S25))).bind fun y149 => (if t146.length + y149.length < 2932031007402 then (some ((t146 ++ y149), 0)) else (none))))) else (none)) else (none))) else (some (([] : List (S25)), t142))))) else (some (([] : List (S25)), 1)))) = some (r1, r2) := h
 clear h
 replace H := Option.bind_eq_some_iff.mp H
 obtain ⟨⟨t140, t141⟩, A40, H⟩ := H
 replace H : (if t141 = 0 then (if (l1.length : Int) = 1024 then (some (([] : List (S25)), 12)) else ((approval_fault.f l0 l1 a2_0 a2_1 a2_2 a2_3).bind fun t142 => (if t142 = 0 then ((approval_signer.f l0 a2_0).bind fun t143 => (if 0 ≤ t143 then (if t143 < (l0.length : Int) then ((approval_code.f ((rd_T33 l0 t143).f3) a2_0 a2_1 a2_2 a2_3).bind fun t145 => ((api_Approval_13.f l1).bind fun t146 => ((some (([(⟨a2_0, a2_1, a2_2, t145⟩ : S25)] : List (S25)) : List (S25))).bind fun y149 => (if t146.length + y149.length < 2932031007402 then (some ((t146 ++ y149), 0)) else (none))))) else (none)) else (none))) else (some (([] : List (S25)), t142))))) else (some (([] : List (S25)), 1))) = some (r1, r2) := H
 have A4 := Aside0.mk A40
 clear A40
 by_cases c5 : t141 = 0
 ·rw [if_pos c5] at H
  have c5b0 : (t141 == 0) = true := beq_iff_eq.mpr c5
  have c5b1 : (t141 != 0) = false := bne_eq_false_iff_eq.mpr c5
  clear c5
  by_cases c6 : (l1.length : Int) = 1024
  ·rw [if_pos c6] at H
   have c6b0 : ((l1.length : Int) == 1024) = true := beq_iff_eq.mpr c6
   have c6b1 : ((l1.length : Int) != 1024) = false := bne_eq_false_iff_eq.mpr c6
   clear c6
   simp only [Option.some.injEq, Prod.mk.injEq] at H
   obtain ⟨rfl, rfl⟩ := H
   go_enter Tryd.func15, Tryd.ntmps15
   go_wp2_with (first | ((with_reducible refine gate_dst (N := 5) rfl ?_); refine box_event ?hg (N := 5) ?hd (cs := #[.int .i64 a2_0, .int .i64 a2_1, .string a2_2, .string a2_3]) (t := 25) ?hr ?_; (case hd => rfl); (case hg => rfl); (case hr => first | (go_simp; done) | (go_simp; rfl)); intro gb139 hg w7 hbox hb; have n0_ := Aside0.mk (below_step (by repeat (first | (with_reducible first | exact HB.out | apply below_alloc | apply pw_below_drewN | apply below_drew1) | exact HB.out)) hb); have n1_ := Aside0.mk (hbox); have n2_ := Aside0.mk ((by rw [hg]; exact (below_size (by repeat (first | (with_reducible first | exact HB.out | apply below_alloc | apply pw_below_drewN | apply below_drew1) | exact HB.out))) : w.heap.size ≤ gb139)); have n3_ := Aside0.mk ((by rw [hg]; exact (below_size (by repeat (first | (with_reducible first | exact HB.out | apply below_alloc | apply pw_below_drewN | apply below_drew1) | exact HB.out))) : w.heap.size ≤ gb139)); clear HB; have HB := n0_; have BK139 := n1_; have GW139 := n2_; have GE139 := n3_; clear n0_ n1_ n2_ n3_; clear hb hbox hg) | ((with_reducible refine gate_callee (f := 11) rfl ?_); refine goesL_ (some 14) rfl rfl Tryd.func11 (by kernel_rfl) rfl #[.slice A0 l0.length c0, .slice A1 l1.length c1] rfl (by (try simp only [List.map_toArray, List.map_cons, List.map_nil]); first | done | rfl | (simp only [List.length_drop, List.length_take]; rfl)) ?_; (with_reducible refine (approval_Check.calls k _ _ l0 _ _ l1 t140 t141 _ ?side1 ?side2 ?side3 ?side4 ?side5 A4.out).mono ?_); (case side1 => repeat (first | exact (Kd.C_below HR0.out HB.out) | (with_reducible refine Kd.C_alloc ?_ _) | (with_reducible refine Kd.C_drewN ?_ _) | (with_reducible refine Kd.C_drew ?_))); (case side2 => exact HC0.out); (case side3 => repeat (first | exact (Kd.C_below HR1.out HB.out) | (with_reducible refine Kd.C_alloc ?_ _) | (with_reducible refine Kd.C_drewN ?_ _) | (with_reducible refine Kd.C_drew ?_))); (case side4 => exact HC1.out); (case side5 => exact HLW.out.below (by repeat (first | (with_reducible first | exact HB.out | apply below_alloc | apply pw_below_drewN | apply below_drew1 | refine below_set ?_ GE139.out) | exact HB.out))); rintro e w8 ⟨rfl, hb⟩; refine ⟨_, rfl, ?_⟩; have n0_ := Aside0.mk (blk_below (g := gb139) (o := .cells #[.int .i64 a2_0, .int .i64 a2_1, .string a2_2, .string a2_3] 25 (0, 0)) (by (with_reducible repeat (first | refine blk_drewN ?_ _ | refine blk_drew ?_ | refine blk_alloc ?_ _)); exact BK139.out) hb); have n1_ := Aside0.mk (below_step (by repeat (first | (with_reducible first | exact HB.out | apply below_alloc | apply pw_below_drewN | apply below_drew1 | refine below_set ?_ GE139.out) | exact HB.out)) hb); clear BK139; clear HB; have BK139 := n0_; have HB := n1_; clear n0_ n1_; (try clear hb); (try clear hb2); (try clear hk); (try clear hi)))
   go_ret2
   exact ⟨_, by first | rfl | (simp [errW_none, errW_some] <;> rfl) | (simp [*, errW_none, errW_some] <;> rfl), by first | exact Kd.R_nil _ _ _ _ _ | exact Kd.N_nil _ _ _ _ _ | exact Kd.V_nil _ _ _ _ _ | exact Kd.Q_nil _ _ _ _ _ | exact Kd.S_nil _ _ _ _ _, by repeat (first | (with_reducible first | exact HB.out | apply below_alloc | apply pw_below_drewN | apply below_drew1 | refine below_set ?_ GE139.out) | exact HB.out)⟩
  ·rw [if_neg c6] at H
   have c6b0 : ((l1.length : Int) == 1024) = false := beq_eq_false_iff_ne.mpr c6
   have c6b1 : ((l1.length : Int) != 1024) = true := bne_iff_ne.mpr c6
   replace H := Option.bind_eq_some_iff.mp H
   obtain ⟨t142, A90, H⟩ := H
   replace H : (if t142 = 0 then ((approval_signer.f l0 a2_0).bind fun t143 => (if 0 ≤ t143 then (if t143 < (l0.length : Int) then ((approval_code.f ((rd_T33 l0 t143).f3) a2_0 a2_1 a2_2 a2_3).bind fun t145 => ((api_Approval_13.f l1).bind fun t146 => ((some (([(⟨a2_0, a2_1, a2_2, t145⟩ : S25)] : List (S25)) : List (S25))).bind fun y149 => (if t146.length + y149.length < 2932031007402 then (some ((t146 ++ y149), 0)) else (none))))) else (none)) else (none))) else (some (([] : List (S25)), t142))) = some (r1, r2) := H
   have A9 := Aside0.mk A90
   clear A90
   by_cases c10 : t142 = 0
   ·rw [if_pos c10] at H
    have c10b0 : (t142 == 0) = true := beq_iff_eq.mpr c10
    have c10b1 : (t142 != 0) = false := bne_eq_false_iff_eq.mpr c10
    clear c10
    replace H := Option.bind_eq_some_iff.mp H
    obtain ⟨t143, A110, H⟩ := H
    replace H : (if 0 ≤ t143 then (if t143 < (l0.length : Int) then ((approval_code.f ((rd_T33 l0 t143).f3) a2_0 a2_1 a2_2 a2_3).bind fun t145 => ((api_Approval_13.f l1).bind fun t146 => ((some (([(⟨a2_0, a2_1, a2_2, t145⟩ : S25)] : List (S25)) : List (S25))).bind fun y149 => (if t146.length + y149.length < 2932031007402 then (some ((t146 ++ y149), 0)) else (none))))) else (none)) else (none)) = some (r1, r2) := H
    have A11 := Aside0.mk A110
    clear A110
    by_cases c12 : 0 ≤ t143
    ·rw [if_pos c12] at H
     have c12b0 : decide (0 ≤ t143) = true := decide_eq_true c12
     clear c12
     by_cases c13 : t143 < (l0.length : Int)
     ·rw [if_pos c13] at H
      have c13b0 : decide (t143 < (l0.length : Int)) = true := decide_eq_true c13
      clear c13
      replace H := Option.bind_eq_some_iff.mp H
      obtain ⟨t145, A140, H⟩ := H
      replace H : ((api_Approval_13.f l1).bind fun t146 => ((some (([(⟨a2_0, a2_1, a2_2, t145⟩ : S25)] : List (S25)) : List (S25))).bind fun y149 => (if t146.length + y149.length < 2932031007402 then (some ((t146 ++ y149), 0)) else (none)))) = some (r1, r2) := H
      have A14 := Aside0.mk A140
      clear A140
      replace H := Option.bind_eq_some_iff.mp H
      obtain ⟨t146, A150, H⟩ := H
      replace H : ((some (([(⟨a2_0, a2_1, a2_2, t145⟩ : S25)] : List (S25)) : List (S25))).bind fun y149 => (if t146.length + y149.length < 2932031007402 then (some ((t146 ++ y149), 0)) else (none))) = some (r1, r2) := H
      have A15 := Aside0.mk A150
      clear A150
      obtain ⟨y149, hy149⟩ : ∃ y_ : List (S25), y_ = (([(⟨a2_0, a2_1, a2_2, t145⟩ : S25)] : List (S25))) := ⟨_, rfl⟩
      replace H : (if t146.length + y149.length < 2932031007402 then (some ((t146 ++ y149), 0)) else (none)) = some (r1, r2) := by first | (rw [hy149]; with_reducible exact H) | (have H2_ := (Option.bind_some _ _).symm.trans H; rw [hy149]; with_reducible exact H2_) | (have H2_ := (Option.bind_some _ _).symm.trans H; with_reducible exact H2_) | with_reducible exact H | (rw [hy149]; exact H) | exact H
      have Ny149 := Aside0.mk hy149
      clear hy149
      by_cases c16 : t146.length + y149.length < 2932031007402
      ·rw [if_pos c16] at H
       have LMc16 := Aside0.mk c16
       clear c16
       obtain ⟨y152, hy152⟩ : ∃ y_ : List (S25), y_ = (t146 ++ y149) := ⟨_, rfl⟩
       replace H : (some (y152, 0)) = some (r1, r2) := by first | (rw [hy152]; with_reducible exact H) | (have H2_ := (Option.bind_some _ _).symm.trans H; rw [hy152]; with_reducible exact H2_) | (have H2_ := (Option.bind_some _ _).symm.trans H; with_reducible exact H2_) | with_reducible exact H | (rw [hy152]; exact H) | exact H
       have Ny152 := Aside0.mk hy152
       clear hy152
       simp only [Option.some.injEq, Prod.mk.injEq] at H
       obtain ⟨rfl, rfl⟩ := H
       go_enter Tryd.func15, Tryd.ntmps15
       try go_wp2_with (first | ((with_reducible refine gate_dst (N := 5) rfl ?_); refine box_event ?hg (N := 5) ?hd (cs := #[.int .i64 a2_0, .int .i64 a2_1, .string a2_2, .string a2_3]) (t := 25) ?hr ?_; (case hd => rfl); (case hg => rfl); (case hr => first | (go_simp; done) | (go_simp; rfl)); intro gb139 hg w17 hbox hb; have n0_ := Aside0.mk (below_step (by repeat (first | (with_reducible first | exact HB.out | apply below_alloc | apply pw_below_drewN | apply below_drew1) | exact HB.out)) hb); have n1_ := Aside0.mk (hbox); have n2_ := Aside0.mk ((by rw [hg]; exact (below_size (by repeat (first | (with_reducible first | exact HB.out | apply below_alloc | apply pw_below_drewN | apply below_drew1) | exact HB.out))) : w.heap.size ≤ gb139)); have n3_ := Aside0.mk ((by rw [hg]; exact (below_size (by repeat (first | (with_reducible first | exact HB.out | apply below_alloc | apply pw_below_drewN | apply below_drew1) | exact HB.out))) : w.heap.size ≤ gb139)); clear HB; have HB := n0_; have BK139 := n1_; have GW139 := n2_; have GE139 := n3_; clear n0_ n1_ n2_ n3_; clear hb hbox hg) | ((with_reducible refine gate_callee (f := 11) rfl ?_); refine goesL_ (some 14) rfl rfl Tryd.func11 (by kernel_rfl) rfl #[.slice A0 l0.length c0, .slice A1 l1.length c1] rfl (by (try simp only [List.map_toArray, List.map_cons, List.map_nil]); first | done | rfl | (simp only [List.length_drop, List.length_take]; rfl)) ?_; (with_reducible refine (approval_Check.calls k _ _ l0 _ _ l1 t140 t141 _ ?side1 ?side2 ?side3 ?side4 ?side5 A4.out).mono ?_); (case side1 => repeat (first | exact (Kd.C_below HR0.out HB.out) | (with_reducible refine Kd.C_alloc ?_ _) | (with_reducible refine Kd.C_drewN ?_ _) | (with_reducible refine Kd.C_drew ?_))); (case side2 => exact HC0.out); (case side3 => repeat (first | exact (Kd.C_below HR1.out HB.out) | (with_reducible refine Kd.C_alloc ?_ _) | (with_reducible refine Kd.C_drewN ?_ _) | (with_reducible refine Kd.C_drew ?_))); (case side4 => exact HC1.out); (case side5 => exact HLW.out.below (by repeat (first | (with_reducible first | exact HB.out | apply below_alloc | apply pw_below_drewN | apply below_drew1 | refine below_set ?_ GE139.out) | exact HB.out))); rintro e w18 ⟨rfl, hb⟩; refine ⟨_, rfl, ?_⟩; have n0_ := Aside0.mk (blk_below (g := gb139) (o := .cells #[.int .i64 a2_0, .int .i64 a2_1, .string a2_2, .string a2_3] 25 (0, 0)) (by (with_reducible repeat (first | refine blk_drewN ?_ _ | refine blk_drew ?_ | refine blk_alloc ?_ _)); exact BK139.out) hb); have n1_ := Aside0.mk (below_step (by repeat (first | (with_reducible first | exact HB.out | apply below_alloc | apply pw_below_drewN | apply below_drew1 | refine below_set ?_ GE139.out) | exact HB.out)) hb); clear BK139; clear HB; have BK139 := n0_; have HB := n1_; clear n0_ n1_; (try clear hb); (try clear hb2); (try clear hk); (try clear hi); have hcz19_0 : w18.cell? ⟨gb139, 0, none⟩ = some (.int .i64 a2_0) := (blk_cell BK139.out 0).trans rfl; have hcz19_1 : w18.cell? ⟨gb139, 1, none⟩ = some (.int .i64 a2_1) := (blk_cell BK139.out 1).trans rfl; have hcz19_2 : w18.cell? ⟨gb139, 2, none⟩ = some (.string a2_2) := (blk_cell BK139.out 2).trans rfl; have hcz19_3 : w18.cell? ⟨gb139, 3, none⟩ = some (.string a2_3) := (blk_cell BK139.out 3).trans rfl; have hfz19_0 := blk_frozen BK139.out 0; have hfz19_1 := blk_frozen BK139.out 1; have hfz19_2 := blk_frozen BK139.out 2; have hfz19_3 := blk_frozen BK139.out 3) | ((with_reducible refine gate_callee (f := 36) rfl ?_); refine goesL_ (some 25) rfl rfl Tryd.func36 (by kernel_rfl) rfl #[.slice A0 l0.length c0, .slice A1 l1.length c1, .agg #[.int .i64 a2_0, .int .i64 a2_1, .string a2_2, .string a2_3]] rfl (by (try simp only [List.map_toArray, List.map_cons, List.map_nil]); first | done | rfl | (simp only [List.length_drop, List.length_take]; rfl)) ?_; (with_reducible refine (approval_fault.calls _ _ l0 _ _ l1 a2_0 a2_1 a2_2 a2_3 t142 _ ?side1 ?side2 ?side3 ?side4 A9.out).mono ?_); (case side1 => repeat (first | exact (Kd.C_below HR0.out HB.out) | (with_reducible refine Kd.C_alloc ?_ _) | (with_reducible refine Kd.C_drewN ?_ _) | (with_reducible refine Kd.C_drew ?_))); (case side2 => exact HC0.out); (case side3 => repeat (first | exact (Kd.C_below HR1.out HB.out) | (with_reducible refine Kd.C_alloc ?_ _) | (with_reducible refine Kd.C_drewN ?_ _) | (with_reducible refine Kd.C_drew ?_))); (case side4 => exact HC1.out); rintro e w20 ⟨rfl, hb⟩; refine ⟨_, rfl, ?_⟩; have n0_ := Aside0.mk (blk_below (g := gb139) (o := .cells #[.int .i64 a2_0, .int .i64 a2_1, .string a2_2, .string a2_3] 25 (0, 0)) (by (with_reducible repeat (first | refine blk_drewN ?_ _ | refine blk_drew ?_ | refine blk_alloc ?_ _)); exact BK139.out) hb); have n1_ := Aside0.mk (below_step (by repeat (first | (with_reducible first | exact HB.out | apply below_alloc | apply pw_below_drewN | apply below_drew1 | refine below_set ?_ GE139.out) | exact HB.out)) hb); clear BK139; clear HB; have BK139 := n0_; have HB := n1_; clear n0_ n1_; (try clear hb); (try clear hb2); (try clear hk); (try clear hi)))
       have n0_ := Aside0.mk (blk_drew BK139.out)
       have n1_ := Aside0.mk (below_drew1 HB.out)
       clear BK139
       clear HB
       have BK139 := n0_
       have HB := n1_
       clear n0_ n1_
       have p144 : 0 ≤ (t143 : Int) := of_decide_eq_true (by first | (with_reducible assumption) | assumption)
       have q144 : t143 < (l0.length : Int) := of_decide_eq_true (by first | (with_reducible assumption) | assumption)
       obtain ⟨ad144, e144, hx144_0, hx144_1, hx144_2, hx144_3⟩ := at_T33 HR0.out t143 p144 q144
       have hw144_3 := hx144_3
       have hw144_2 := hx144_2
       have hw144_1 := hx144_1
       have hw144_0 := hx144_0
       cases e144
       replace hx144_0 := (HB.out.cell (World.block_lt_of_cell? w _ hx144_0)).trans hx144_0
       replace hx144_1 := (HB.out.cell (World.block_lt_of_cell? w _ hx144_1)).trans hx144_1
       replace hx144_2 := (HB.out.cell (World.block_lt_of_cell? w _ hx144_2)).trans hx144_2
       replace hx144_3 := (HB.out.cell (World.block_lt_of_cell? w _ hx144_3)).trans hx144_3
       replace p144 := eq_true p144
       replace q144 := eq_true q144
       refine start_ (n := 12) (S := fun w' => w'.cell? ⟨gb139, 0, none⟩ = some (.int .i64 a2_0) ∧ w'.cell? ⟨gb139, 1, none⟩ = some (.int .i64 a2_1) ∧ w'.cell? ⟨gb139, 2, none⟩ = some (.string a2_2) ∧ w'.cell? ⟨gb139, 3, none⟩ = some (.string a2_3) ∧ w'.cell? (ad144.add ((t143).toNat * 4)) = some (.int .i64 ((rd_T33 l0 t143).f0)) ∧ w'.cell? ⟨(ad144.add ((t143).toNat * 4)).block, (ad144.add ((t143).toNat * 4)).off + 1, none⟩ = some (.int .i64 ((rd_T33 l0 t143).f1)) ∧ w'.cell? ⟨(ad144.add ((t143).toNat * 4)).block, (ad144.add ((t143).toNat * 4)).off + 2, none⟩ = some (.string ((rd_T33 l0 t143).f2)) ∧ w'.cell? ⟨(ad144.add ((t143).toNat * 4)).block, (ad144.add ((t143).toNat * 4)).off + 3, none⟩ = some (.string ((rd_T33 l0 t143).f3))) (ds := [11]) #[false, false, false, false, false, false, false, false, false, false, false, false] (by kernel_rfl) rfl rfl ⟨(blk_cell BK139.out 0).trans rfl, (blk_cell BK139.out 1).trans rfl, (blk_cell BK139.out 2).trans rfl, (blk_cell BK139.out 3).trans rfl, ((HB.out.cell (World.block_lt_of_cell? w _ hw144_0)).trans hw144_0), ((HB.out.cell (World.block_lt_of_cell? w _ hw144_1)).trans hw144_1), ((HB.out.cell (World.block_lt_of_cell? w _ hw144_2)).trans hw144_2), ((HB.out.cell (World.block_lt_of_cell? w _ hw144_3)).trans hw144_3)⟩ (fun hHeld => ?_); refine with_tabW approval_Sign.tab9 approval_Sign.bits9 (fun HT_ HW_ => ?_)
       generalize w20.drew = w21 at BK139 HB hx144_0 hx144_1 hx144_2 hx144_3 hHeld ⊢
       refine pure_ (i := 0) (N := some 29) (v := ?_) (a' := ?_) #[true, false, false, false, false, false, false, false, false, false, false, false] rfl rfl (any_of HT_.out (by kernel_rfl)) (fun _ _ _ h => h) (Or.inl ⟨by rfl, ?_⟩) ?_ ?_
       rotate_left
       ·intro w'
        go_simp
        with_reducible rfl
       rotate_left
       ·simp only [Act.put, List.setIfInBounds_toArray, List.set_cons_zero, List.set_cons_succ, i64_w, i32_w]
        rfl
       refine pure_ (i := 1) (N := some 30) (v := ?_) (a' := ?_) #[true, true, false, false, false, false, false, false, false, false, false, false] rfl rfl (any_of HT_.out (by kernel_rfl)) (fun _ _ _ h => h) (Or.inl ⟨by rfl, ?_⟩) ?_ ?_
       rotate_left
       ·intro w'
        go_simp
        with_reducible rfl
       rotate_left
       ·simp only [Act.put, List.setIfInBounds_toArray, List.set_cons_zero, List.set_cons_succ, i64_w, i32_w]
        rfl
       refine pure_ (i := 2) (N := some 31) (v := ?_) (a' := ?_) #[true, true, true, false, false, false, false, false, false, false, false, false] rfl rfl (any_of HT_.out (by kernel_rfl)) (fun _ _ _ h => h) (Or.inl ⟨by rfl, ?_⟩) ?_ ?_
       rotate_left
       ·intro w'
        go_simp
        with_reducible rfl
       rotate_left
       ·simp only [Act.put, List.setIfInBounds_toArray, List.set_cons_zero, List.set_cons_succ, i64_w, i32_w]
        rfl
       refine take_ (i := 3) (N := some 32) (v := ?_) (a' := ?_) #[true, true, true, true, false, false, false, false, false, false, false, false] rfl rfl (take_ofW HT_.out HW_.out (by kernel_rfl)) (fun _ _ _ h => h) (Or.inl ⟨by rfl, ?_⟩) hHeld ?_ ?_
       rotate_left
       ·rintro w' ⟨s0, s1, s2, s3, s4, s5, s6, s7⟩
        go_simp
        with_reducible rfl
       rotate_left
       ·simp only [Act.put, List.setIfInBounds_toArray, List.set_cons_zero, List.set_cons_succ, i64_w, i32_w]
        rfl
       refine take_ (i := 8) (N := some 37) (v := ?_) (a' := ?_) #[true, true, true, true, false, false, false, false, true, false, false, false] rfl rfl (take_ofW HT_.out HW_.out (by kernel_rfl)) (fun _ _ _ h => h) (Or.inl ⟨by rfl, ?_⟩) hHeld ?_ ?_
       rotate_left
       ·rintro w' ⟨s0, s1, s2, s3, s4, s5, s6, s7⟩
        go_simp
        with_reducible rfl
       rotate_left
       ·simp only [Act.put, List.setIfInBounds_toArray, List.set_cons_zero, List.set_cons_succ, i64_w, i32_w]
        rfl
       refine one_ (i := 4) (N := some 33) #[true, true, true, true, true, false, false, false, true, false, false, false] rfl rfl (one_of HT_.out (by kernel_rfl)) (by decide) (fun K hK => ?_)
       refine goes_ Tryd.func38 (by kernel_rfl) rfl #[.slice (some ad144) l0.length c0, .int .i64 a2_0] (by rfl) rfl rfl (by (try simp only [List.map_toArray, List.map_cons, List.map_nil]); first | done | rfl | (simp only [List.length_drop, List.length_take]; rfl)) ?_
       with_reducible refine (approval_signer.calls _ _ l0 a2_0 t143 _ ?side1 ?side2 A11.out).mono ?_
       (case side1 => repeat (first | exact (Kd.C_below HR0.out HB.out) | (with_reducible refine Kd.C_alloc ?_ _) | (with_reducible refine Kd.C_drewN ?_ _) | (with_reducible refine Kd.C_drew ?_)))
       (case side2 => exact HC0.out)
       rintro e w22 ⟨rfl, hb⟩
       refine ⟨_, rfl, ?_⟩
       have n0_ := Aside0.mk (blk_below (g := gb139) (o := .cells #[.int .i64 a2_0, .int .i64 a2_1, .string a2_2, .string a2_3] 25 (0, 0)) (by (with_reducible repeat (first | refine blk_drewN ?_ _ | refine blk_drew ?_ | refine blk_alloc ?_ _)); exact BK139.out) hb)
       have n1_ := Aside0.mk (below_step (by repeat (first | (with_reducible first | exact HB.out | apply below_alloc | apply pw_below_drewN | apply below_drew1 | refine below_set ?_ GE139.out) | exact HB.out)) hb)
       clear BK139
       clear HB
       have BK139 := n0_
       have HB := n1_
       clear n0_ n1_
       (try clear hb)
       (try clear hb2)
       (try clear hk)
       (try clear hi)
       refine hK.out _ _ ⟨(blk_cell BK139.out 0).trans rfl, (blk_cell BK139.out 1).trans rfl, (blk_cell BK139.out 2).trans rfl, (blk_cell BK139.out 3).trans rfl, ((HB.out.cell (World.block_lt_of_cell? w _ hw144_0)).trans hw144_0), ((HB.out.cell (World.block_lt_of_cell? w _ hw144_1)).trans hw144_1), ((HB.out.cell (World.block_lt_of_cell? w _ hw144_2)).trans hw144_2), ((HB.out.cell (World.block_lt_of_cell? w _ hw144_3)).trans hw144_3)⟩ (fun hHeld => ?_)
       clear hK K
       refine norm_ (a' := ?_) ?_ ?_
       rotate_left
       ·show Act.put _ (some 33) _ = _
        simp only [Act.put, List.setIfInBounds_toArray, List.set_cons_zero, List.set_cons_succ, i64_w, i32_w]
        rfl
       refine pure_ (i := 5) (N := some 34) (v := ?_) (a' := ?_) #[true, true, true, true, true, true, false, false, true, false, false, false] rfl rfl (any_of HT_.out (by kernel_rfl)) (fun _ _ _ h => h) (Or.inl ⟨by rfl, ?_⟩) ?_ ?_
       rotate_left
       ·intro w'
        go_simp
        with_reducible rfl
       rotate_left
       ·simp only [Act.put, List.setIfInBounds_toArray, List.set_cons_zero, List.set_cons_succ, i64_w, i32_w]
        rfl
       refine pure_ (i := 6) (N := some 35) (v := ?_) (a' := ?_) #[true, true, true, true, true, true, true, false, true, false, false, false] rfl rfl (any_of HT_.out (by kernel_rfl)) (fun _ _ _ h => h) (Or.inl ⟨by rfl, ?_⟩) ?_ ?_
       rotate_left
       ·intro w'
        go_simp
        with_reducible rfl
       rotate_left
       ·simp only [Act.put, List.setIfInBounds_toArray, List.set_cons_zero, List.set_cons_succ, i64_w, i32_w]
        rfl
       refine take_ (i := 7) (N := some 36) (v := ?_) (a' := ?_) #[true, true, true, true, true, true, true, true, true, false, false, false] rfl rfl (take_ofW HT_.out HW_.out (by kernel_rfl)) (fun _ _ _ h => h) (Or.inl ⟨by rfl, ?_⟩) hHeld ?_ ?_
       rotate_left
       ·rintro w' ⟨s0, s1, s2, s3, s4, s5, s6, s7⟩
        go_simp
        with_reducible rfl
       rotate_left
       ·simp only [Act.put, List.setIfInBounds_toArray, List.set_cons_zero, List.set_cons_succ, i64_w, i32_w]
        rfl
       refine one_ (i := 9) (N := some 38) #[true, true, true, true, true, true, true, true, true, true, false, false] rfl rfl (one_of HT_.out (by kernel_rfl)) (by decide) (fun K hK => ?_)
       refine goes_ Tryd.func37 (by kernel_rfl) rfl #[.string ((rd_T33 l0 t143).f3), .agg #[.int .i64 a2_0, .int .i64 a2_1, .string a2_2, .string a2_3]] (by rfl) rfl rfl (by (try simp only [List.map_toArray, List.map_cons, List.map_nil]); first | done | rfl | (simp only [List.length_drop, List.length_take]; rfl)) ?_
       with_reducible refine (approval_code.calls ((rd_T33 l0 t143).f3) a2_0 a2_1 a2_2 a2_3 t145 _ ?side1 A14.out).mono ?_
       (case side1 => exact HLW.out.below (by repeat (first | (with_reducible first | exact HB.out | apply below_alloc | apply pw_below_drewN | apply below_drew1 | refine below_set ?_ GE139.out) | exact HB.out)))
       rintro e w23 ⟨rfl, hb⟩
       refine ⟨_, rfl, ?_⟩
       have n0_ := Aside0.mk (blk_below (g := gb139) (o := .cells #[.int .i64 a2_0, .int .i64 a2_1, .string a2_2, .string a2_3] 25 (0, 0)) (by (with_reducible repeat (first | refine blk_drewN ?_ _ | refine blk_drew ?_ | refine blk_alloc ?_ _)); exact BK139.out) hb)
       have n1_ := Aside0.mk (below_step (by repeat (first | (with_reducible first | exact HB.out | apply below_alloc | apply pw_below_drewN | apply below_drew1 | refine below_set ?_ GE139.out) | exact HB.out)) hb)
       clear BK139
       clear HB
       have BK139 := n0_
       have HB := n1_
       clear n0_ n1_
       (try clear hb)
       (try clear hb2)
       (try clear hk)
       (try clear hi)
       refine hK.out _ _ ⟨(blk_cell BK139.out 0).trans rfl, (blk_cell BK139.out 1).trans rfl, (blk_cell BK139.out 2).trans rfl, (blk_cell BK139.out 3).trans rfl, ((HB.out.cell (World.block_lt_of_cell? w _ hw144_0)).trans hw144_0), ((HB.out.cell (World.block_lt_of_cell? w _ hw144_1)).trans hw144_1), ((HB.out.cell (World.block_lt_of_cell? w _ hw144_2)).trans hw144_2), ((HB.out.cell (World.block_lt_of_cell? w _ hw144_3)).trans hw144_3)⟩ (fun hHeld => ?_)
       clear hK K
       refine norm_ (a' := ?_) ?_ ?_
       rotate_left
       ·show Act.put _ (some 38) _ = _
        simp only [Act.put, List.setIfInBounds_toArray, List.set_cons_zero, List.set_cons_succ, i64_w, i32_w]
        rfl
       refine pure_ (i := 10) (N := some 39) (v := ?_) (a' := ?_) #[true, true, true, true, true, true, true, true, true, true, true, false] rfl rfl (any_of HT_.out (by kernel_rfl)) (fun _ _ _ h => h) (Or.inl ⟨by rfl, ?_⟩) ?_ ?_
       rotate_left
       ·intro w'
        go_simp
        with_reducible rfl
       rotate_left
       ·simp only [Act.put, List.setIfInBounds_toArray, List.set_cons_zero, List.set_cons_succ, i64_w, i32_w]
        rfl
       refine last_ (i := 11) (N := none) #[true, true, true, true, true, true, true, true, true, true, true, true] rfl rfl (one_of HT_.out (by kernel_rfl)) (by decide) (fun K hK => ?_)
       have hs24 : w23.cell? ⟨gb139, 3, none⟩ = some (.string a2_3) := (blk_cell BK139.out 3).trans rfl
       have hfs24 := blk_frozen BK139.out 3
       refine skip_ (w1 := ?_) (by rfl) rfl ?_ ?_
       rotate_left
       ·go_simp
        rfl
       refine hK.out _ _ ?_
       clear hK K
       refine done_ (done_of HT_.out (by kernel_rfl)) ?_
       try go_wp2
       have n0_ : Aside0 ((w23.setCell ⟨gb139, 3, none⟩ (.string t145)).heap[gb139]? = some (.cells #[.int .i64 a2_0, .int .i64 a2_1, .string a2_2, .string t145] 25 (0, 0))) := ⟨by (with_reducible repeat (first | refine blk_drewN ?_ _ | refine blk_drew ?_ | refine blk_alloc ?_ _)); refine blk_put (cs := #[.int .i64 a2_0, .int .i64 a2_1, .string a2_2, .string a2_3]) ?_ 3 _ rfl; (with_reducible repeat (first | refine blk_drewN ?_ _ | refine blk_drew ?_ | refine blk_alloc ?_ _)); exact BK139.out⟩
       have n1_ : Aside0 (Below w.heap.size w (w23.setCell ⟨gb139, 3, none⟩ (.string t145))) := ⟨by repeat (first | (with_reducible first | exact HB.out | apply below_alloc | apply pw_below_drewN | apply below_drew1 | refine below_set ?_ GE139.out) | exact HB.out)⟩
       (try clear BK139)
       (try clear HB)
       generalize (w23.setCell ⟨gb139, 3, none⟩ (.string t145)) = w25 at n0_ n1_ ⊢
       have BK139 := n0_
       have HB := n1_
       clear n0_ n1_
       have n0_ := Aside0.mk (blk_drew BK139.out)
       have n1_ := Aside0.mk (below_drew1 HB.out)
       clear BK139
       clear HB
       have BK139 := n0_
       have HB := n1_
       clear n0_ n1_
       refine start_ (n := 7) (S := fun w' => w'.cell? ⟨gb139, 0, none⟩ = some (.int .i64 a2_0) ∧ w'.cell? ⟨gb139, 1, none⟩ = some (.int .i64 a2_1) ∧ w'.cell? ⟨gb139, 2, none⟩ = some (.string a2_2) ∧ w'.cell? ⟨gb139, 3, none⟩ = some (.string t145)) (ds := []) #[false, false, false, false, false, false, false] (by kernel_rfl) rfl rfl ⟨(blk_cell BK139.out 0).trans rfl, (blk_cell BK139.out 1).trans rfl, (blk_cell BK139.out 2).trans rfl, (blk_cell BK139.out 3).trans rfl⟩ (fun hHeld => ?_)
       generalize w25.drew = w26 at BK139 HB hHeld ⊢
       refine pure_ (i := 0) (N := some 40) (v := ?_) (a' := ?_) #[true, false, false, false, false, false, false] rfl rfl (by kernel_rfl) (fun _ _ _ h => h) (Or.inl ⟨by rfl, ?_⟩) ?_ ?_
       rotate_left
       ·intro w'
        go_simp
        with_reducible rfl
       rotate_left
       ·simp only [Act.put, List.setIfInBounds_toArray, List.set_cons_zero, List.set_cons_succ, i64_w, i32_w]
        rfl
       refine take_ (i := 2) (N := some 42) (v := ?_) (a' := ?_) #[true, false, true, false, false, false, false] rfl rfl (by kernel_rfl) (fun _ _ _ h => h) (Or.inl ⟨by rfl, ?_⟩) hHeld ?_ ?_
       rotate_left
       ·rintro w' ⟨s0, s1, s2, s3⟩
        go_simp
        with_reducible rfl
       rotate_left
       ·simp only [Act.put, List.setIfInBounds_toArray, List.set_cons_zero, List.set_cons_succ, i64_w, i32_w]
        rfl
       refine join_ (σ := Value × Value) 3 #[true, true, true, true, false, false, false] (fun s_ => [(41, s_.1), (43, s_.2)]) (fun s_ w' => (w'.cell? ⟨gb139, 0, none⟩ = some (.int .i64 a2_0) ∧ w'.cell? ⟨gb139, 1, none⟩ = some (.int .i64 a2_1) ∧ w'.cell? ⟨gb139, 2, none⟩ = some (.string a2_2) ∧ w'.cell? ⟨gb139, 3, none⟩ = some (.string t145)) ∧ (Kd.R k25 25 w' w.heap.size (fun k_ => some k_ ≠ (s_.2 : Value).ownBlock ∧ k_ ≠ gb139) s_.1 t146) ∧ (Kd.R k25 25 w' w.heap.size (fun k_ => some k_ ≠ (s_.1 : Value).ownBlock ∧ k_ ≠ gb139) s_.2 y149) ∧ (w'.heap[gb139]? = some (.cells #[.int .i64 a2_0, .int .i64 a2_1, .string a2_2, .string t145] 25 (0, 0))) ∧ (Below w.heap.size w w')) ?_ ?_
       rotate_left
       ·intro hCont
        refine two_ (i := 1) (j := 3) (Ni := some 41) (Nj := some 43) #[true, true, true, false, false, false, false] #[true, false, true, true, false, false, false] rfl rfl rfl rfl (by kernel_rfl) (by decide) (by decide) (fun K hK => ?_) (fun K hK => ?_)
        ·skip
         refine goes_ Tryd.func13 (by kernel_rfl) rfl #[.slice A1 l1.length c1] (by rfl) rfl rfl (by (try simp only [List.map_toArray, List.map_cons, List.map_nil]); first | done | rfl | (simp only [List.length_drop, List.length_take]; rfl)) ?_
         with_reducible refine (api_Approval_13.calls _ _ l1 t146 _ ?side1 ?side2 A15.out).mono ?_
         (case side1 => repeat (first | exact (Kd.C_below HR1.out HB.out) | (with_reducible refine Kd.C_alloc ?_ _) | (with_reducible refine Kd.C_drewN ?_ _) | (with_reducible refine Kd.C_drew ?_)))
         (case side2 => exact HC1.out)
         rintro e w27 ⟨v147, rfl, ho0, hb⟩
         refine ⟨_, rfl, ?_⟩
         have n0_ := Aside0.mk (Kd.R_lower (Kd.R_newB ho0 (g := gb139) (o := .cells #[.int .i64 a2_0, .int .i64 a2_1, .string a2_2, .string t145] 25 (0, 0)) (by (with_reducible repeat (first | refine blk_drewN ?_ _ | refine blk_drew ?_ | refine blk_alloc ?_ _)); exact BK139.out)) (below_size (by repeat (first | (with_reducible first | exact HB.out | apply below_alloc | apply pw_below_drewN | apply below_drew1 | refine below_set ?_ GE139.out) | exact HB.out))))
         have n1_ := Aside0.mk (blk_below (g := gb139) (o := .cells #[.int .i64 a2_0, .int .i64 a2_1, .string a2_2, .string t145] 25 (0, 0)) (by (with_reducible repeat (first | refine blk_drewN ?_ _ | refine blk_drew ?_ | refine blk_alloc ?_ _)); exact BK139.out) hb)
         have n2_ := Aside0.mk (below_step (by repeat (first | (with_reducible first | exact HB.out | apply below_alloc | apply pw_below_drewN | apply below_drew1 | refine below_set ?_ GE139.out) | exact HB.out)) hb)
         clear BK139
         clear HB
         have HO148 := n0_
         have BK139 := n1_
         have HB := n2_
         clear n0_ n1_ n2_
         (try clear hb)
         (try clear hb2)
         (try clear hk)
         (try clear hi)
         (try clear ho0)
         refine hK.out _ _ ⟨(blk_cell BK139.out 0).trans rfl, (blk_cell BK139.out 1).trans rfl, (blk_cell BK139.out 2).trans rfl, (blk_cell BK139.out 3).trans rfl⟩ (fun hHeld => ?_)
         clear hK K
         refine norm_ (a' := ?_) ?_ ?_
         rotate_left
         ·show Act.put _ (some 41) _ = _
          simp only [Act.put, List.setIfInBounds_toArray, List.set_cons_zero, List.set_cons_succ, i64_w, i32_w]
          rfl
         refine one_ (i := 3) (N := some 43) #[true, true, true, true, false, false, false] rfl rfl (by kernel_rfl) (by decide) (fun K hK => ?_)
         refine Kd.R_lit_step k25 _ 25 ?hg (N := 43) ?hd (xs := ([(⟨a2_0, a2_1, a2_2, t145⟩ : S25)] : List (S25))) (inner := [.int .i64 a2_0, .int .i64 a2_1, .string a2_2, .string t145]) (ok := fun _ => True) (okp := fun _ => True) ?hr ?hp (fun _ hk => hk) trivial (Below.refl _ _) (Nat.le_refl _) (by simp) ?_; (case hd => rfl); (case hg => rfl); (case hr => first | (go_simp; done) | (go_simp; rfl)); (case hp => exact (Reps.c4 (show Kd.M k25 _ _ _ (⟨a2_0, a2_1, a2_2, t145⟩ : S25) [.int .i64 a2_0, .int .i64 a2_1, .string a2_2, .string t145] from (k25_mkM _ _ _ (⟨a2_0, a2_1, a2_2, t145⟩ : S25) )) (Reps.none _ _)))
         intro v150 w28 ho29 hb hg_ hnew_
         clear hg_ hnew_
         (first | rw [← Ny149.out] at ho29 | (simp only [Int.reduceToNat] at ho29; rw [← Ny149.out] at ho29))
         have n0_ := Aside0.mk (Kd.R_elder' (by (with_reducible repeat (first | apply Kd.R_alloc | apply Kd.R_drewN | apply Kd.R_drew)); exact HO148.out) (Kd.R_base ho29) hb)
         have n1_ := Aside0.mk (Kd.R_lower (Kd.R_newB (Kd.R_new' ho29 (Kd.R_lt (by (with_reducible repeat (first | apply Kd.R_alloc | apply Kd.R_drewN | apply Kd.R_drew)); exact HO148.out))) (g := gb139) (o := .cells #[.int .i64 a2_0, .int .i64 a2_1, .string a2_2, .string t145] 25 (0, 0)) (by (with_reducible repeat (first | refine blk_drewN ?_ _ | refine blk_drew ?_ | refine blk_alloc ?_ _)); exact BK139.out)) (below_size (by repeat (first | (with_reducible first | exact HB.out | apply below_alloc | apply pw_below_drewN | apply below_drew1 | refine below_set ?_ GE139.out) | exact HB.out))))
         have n2_ := Aside0.mk (blk_below (g := gb139) (o := .cells #[.int .i64 a2_0, .int .i64 a2_1, .string a2_2, .string t145] 25 (0, 0)) (by (with_reducible repeat (first | refine blk_drewN ?_ _ | refine blk_drew ?_ | refine blk_alloc ?_ _)); exact BK139.out) hb)
         have n3_ := Aside0.mk (below_step (by repeat (first | (with_reducible first | exact HB.out | apply below_alloc | apply pw_below_drewN | apply below_drew1 | refine below_set ?_ GE139.out) | exact HB.out)) hb)
         clear HO148
         clear BK139
         clear HB
         have HO148 := n0_
         have HO151 := n1_
         have BK139 := n2_
         have HB := n3_
         clear n0_ n1_ n2_ n3_
         clear hb ho29
         refine hK.out _ _ ⟨(blk_cell BK139.out 0).trans rfl, (blk_cell BK139.out 1).trans rfl, (blk_cell BK139.out 2).trans rfl, (blk_cell BK139.out 3).trans rfl⟩ (fun hHeld => ?_)
         clear hK K
         refine norm_ (a' := ?_) ?_ ?_
         rotate_left
         ·show Act.put _ (some 43) _ = _
          simp only [Act.put, List.setIfInBounds_toArray, List.set_cons_zero, List.set_cons_succ, i64_w, i32_w]
          rfl
         exact norm_ (by simp only [putAll, Act.put, List.setIfInBounds_toArray, List.set_cons_zero, List.set_cons_succ]) (hCont (v147, v150) _ ⟨hHeld, (by (with_reducible repeat (first | apply Kd.R_alloc | apply Kd.R_drewN | apply Kd.R_drew)); exact Kd.R_mono HO148.out (fun _ hk => ⟨hk.2, hk.1.2⟩)), (by (with_reducible repeat (first | apply Kd.R_alloc | apply Kd.R_drewN | apply Kd.R_drew)); exact Kd.R_mono HO151.out (fun _ hk => ⟨hk.1.2, hk.2⟩)), (by (with_reducible repeat (first | refine blk_drewN ?_ _ | refine blk_drew ?_ | refine blk_alloc ?_ _)); exact BK139.out), (by repeat (first | (with_reducible first | exact HB.out | apply below_alloc | apply pw_below_drewN | apply below_drew1 | refine below_set ?_ GE139.out) | exact HB.out))⟩)
        ·skip
         refine Kd.R_lit_step k25 _ 25 ?hg (N := 43) ?hd (xs := ([(⟨a2_0, a2_1, a2_2, t145⟩ : S25)] : List (S25))) (inner := [.int .i64 a2_0, .int .i64 a2_1, .string a2_2, .string t145]) (ok := fun _ => True) (okp := fun _ => True) ?hr ?hp (fun _ hk => hk) trivial (Below.refl _ _) (Nat.le_refl _) (by simp) ?_; (case hd => rfl); (case hg => rfl); (case hr => first | (go_simp; done) | (go_simp; rfl)); (case hp => exact (Reps.c4 (show Kd.M k25 _ _ _ (⟨a2_0, a2_1, a2_2, t145⟩ : S25) [.int .i64 a2_0, .int .i64 a2_1, .string a2_2, .string t145] from (k25_mkM _ _ _ (⟨a2_0, a2_1, a2_2, t145⟩ : S25) )) (Reps.none _ _)))
         intro v150 w27 ho28 hb hg_ hnew_
         clear hg_ hnew_
         (first | rw [← Ny149.out] at ho28 | (simp only [Int.reduceToNat] at ho28; rw [← Ny149.out] at ho28))
         have n0_ := Aside0.mk (Kd.R_lower (Kd.R_newB ho28 (g := gb139) (o := .cells #[.int .i64 a2_0, .int .i64 a2_1, .string a2_2, .string t145] 25 (0, 0)) (by (with_reducible repeat (first | refine blk_drewN ?_ _ | refine blk_drew ?_ | refine blk_alloc ?_ _)); exact BK139.out)) (below_size (by repeat (first | (with_reducible first | exact HB.out | apply below_alloc | apply pw_below_drewN | apply below_drew1 | refine below_set ?_ GE139.out) | exact HB.out))))
         have n1_ := Aside0.mk (blk_below (g := gb139) (o := .cells #[.int .i64 a2_0, .int .i64 a2_1, .string a2_2, .string t145] 25 (0, 0)) (by (with_reducible repeat (first | refine blk_drewN ?_ _ | refine blk_drew ?_ | refine blk_alloc ?_ _)); exact BK139.out) hb)
         have n2_ := Aside0.mk (below_step (by repeat (first | (with_reducible first | exact HB.out | apply below_alloc | apply pw_below_drewN | apply below_drew1 | refine below_set ?_ GE139.out) | exact HB.out)) hb)
         clear BK139
         clear HB
         have HO151 := n0_
         have BK139 := n1_
         have HB := n2_
         clear n0_ n1_ n2_
         clear hb ho28
         refine hK.out _ _ ⟨(blk_cell BK139.out 0).trans rfl, (blk_cell BK139.out 1).trans rfl, (blk_cell BK139.out 2).trans rfl, (blk_cell BK139.out 3).trans rfl⟩ (fun hHeld => ?_)
         clear hK K
         refine norm_ (a' := ?_) ?_ ?_
         rotate_left
         ·show Act.put _ (some 43) _ = _
          simp only [Act.put, List.setIfInBounds_toArray, List.set_cons_zero, List.set_cons_succ, i64_w, i32_w]
          rfl
         refine one_ (i := 1) (N := some 41) #[true, true, true, true, false, false, false] rfl rfl (by kernel_rfl) (by decide) (fun K hK => ?_)
         refine goes_ Tryd.func13 (by kernel_rfl) rfl #[.slice A1 l1.length c1] (by rfl) rfl rfl (by (try simp only [List.map_toArray, List.map_cons, List.map_nil]); first | done | rfl | (simp only [List.length_drop, List.length_take]; rfl)) ?_
         with_reducible refine (api_Approval_13.calls _ _ l1 t146 _ ?side1 ?side2 A15.out).mono ?_
         (case side1 => repeat (first | exact (Kd.C_below HR1.out HB.out) | (with_reducible refine Kd.C_alloc ?_ _) | (with_reducible refine Kd.C_drewN ?_ _) | (with_reducible refine Kd.C_drew ?_)))
         (case side2 => exact HC1.out)
         rintro e w29 ⟨v147, rfl, ho0, hb⟩
         refine ⟨_, rfl, ?_⟩
         have n0_ := Aside0.mk (Kd.R_elder' (by (with_reducible repeat (first | apply Kd.R_alloc | apply Kd.R_drewN | apply Kd.R_drew)); exact HO151.out) (Kd.R_base ho0) hb)
         have n1_ := Aside0.mk (Kd.R_lower (Kd.R_newB (Kd.R_new' ho0 (Kd.R_lt (by (with_reducible repeat (first | apply Kd.R_alloc | apply Kd.R_drewN | apply Kd.R_drew)); exact HO151.out))) (g := gb139) (o := .cells #[.int .i64 a2_0, .int .i64 a2_1, .string a2_2, .string t145] 25 (0, 0)) (by (with_reducible repeat (first | refine blk_drewN ?_ _ | refine blk_drew ?_ | refine blk_alloc ?_ _)); exact BK139.out)) (below_size (by repeat (first | (with_reducible first | exact HB.out | apply below_alloc | apply pw_below_drewN | apply below_drew1 | refine below_set ?_ GE139.out) | exact HB.out))))
         have n2_ := Aside0.mk (blk_below (g := gb139) (o := .cells #[.int .i64 a2_0, .int .i64 a2_1, .string a2_2, .string t145] 25 (0, 0)) (by (with_reducible repeat (first | refine blk_drewN ?_ _ | refine blk_drew ?_ | refine blk_alloc ?_ _)); exact BK139.out) hb)
         have n3_ := Aside0.mk (below_step (by repeat (first | (with_reducible first | exact HB.out | apply below_alloc | apply pw_below_drewN | apply below_drew1 | refine below_set ?_ GE139.out) | exact HB.out)) hb)
         clear HO151
         clear BK139
         clear HB
         have HO151 := n0_
         have HO148 := n1_
         have BK139 := n2_
         have HB := n3_
         clear n0_ n1_ n2_ n3_
         (try clear hb)
         (try clear hb2)
         (try clear hk)
         (try clear hi)
         (try clear ho0)
         refine hK.out _ _ ⟨(blk_cell BK139.out 0).trans rfl, (blk_cell BK139.out 1).trans rfl, (blk_cell BK139.out 2).trans rfl, (blk_cell BK139.out 3).trans rfl⟩ (fun hHeld => ?_)
         clear hK K
         refine norm_ (a' := ?_) ?_ ?_
         rotate_left
         ·show Act.put _ (some 41) _ = _
          simp only [Act.put, List.setIfInBounds_toArray, List.set_cons_zero, List.set_cons_succ, i64_w, i32_w]
          rfl
         exact norm_ (by simp only [putAll, Act.put, List.setIfInBounds_toArray, List.set_cons_zero, List.set_cons_succ]) (hCont (v147, v150) _ ⟨hHeld, (by (with_reducible repeat (first | apply Kd.R_alloc | apply Kd.R_drewN | apply Kd.R_drew)); exact Kd.R_mono HO148.out (fun _ hk => ⟨hk.1.2, hk.2⟩)), (by (with_reducible repeat (first | apply Kd.R_alloc | apply Kd.R_drewN | apply Kd.R_drew)); exact Kd.R_mono HO151.out (fun _ hk => ⟨hk.2, hk.1.2⟩)), (by (with_reducible repeat (first | refine blk_drewN ?_ _ | refine blk_drew ?_ | refine blk_alloc ?_ _)); exact BK139.out), (by repeat (first | (with_reducible first | exact HB.out | apply below_alloc | apply pw_below_drewN | apply below_drew1 | refine below_set ?_ GE139.out) | exact HB.out))⟩)
       rintro ⟨v147, v150⟩ w30 ⟨hS_, h0_, h1_, h2_, h3_⟩
       have n0_ : Aside0 (Kd.R k25 25 w30 w.heap.size (fun k_ => some k_ ≠ (v150 : Value).ownBlock ∧ k_ ≠ gb139) v147 t146) := ⟨h0_⟩
       have n1_ : Aside0 (Kd.R k25 25 w30 w.heap.size (fun k_ => some k_ ≠ (v147 : Value).ownBlock ∧ k_ ≠ gb139) v150 y149) := ⟨h1_⟩
       have n2_ : Aside0 (w30.heap[gb139]? = some (.cells #[.int .i64 a2_0, .int .i64 a2_1, .string a2_2, .string t145] 25 (0, 0))) := ⟨h2_⟩
       have n3_ : Aside0 (Below w.heap.size w w30) := ⟨h3_⟩
       clear BK139
       clear HB
       clear h0_ h1_ h2_ h3_
       have HO148 := n0_
       have HO151 := n1_
       have BK139 := n2_
       have HB := n3_
       clear n0_ n1_ n2_ n3_
       have hHeld : w30.cell? ⟨gb139, 0, none⟩ = some (.int .i64 a2_0) ∧ w30.cell? ⟨gb139, 1, none⟩ = some (.int .i64 a2_1) ∧ w30.cell? ⟨gb139, 2, none⟩ = some (.string a2_2) ∧ w30.cell? ⟨gb139, 3, none⟩ = some (.string t145) := hS_
       obtain ⟨Ao32, co32, eo32⟩ := Kd.R_slice HO151.out
       (first | subst eo32 | (injection eo32 with f1_ f2_ f3_; have f4_ := f1_.symm; have f5_ := f3_.symm; clear f1_ f2_ f3_; subst f4_; subst f5_))
       refine norm_ (a' := ?_) ?_ ?_
       rotate_left
       ·simp only [putAll, Act.put, List.setIfInBounds_toArray, List.set_cons_zero, List.set_cons_succ]
        rfl
       refine one_ (i := 4) (N := some 44) #[true, true, true, true, true, false, false] rfl rfl (by kernel_rfl) (by decide) (fun K hK => ?_)
       refine Kd.R_append_rows_step k25 (w0 := w) w.heap.size (by rfl) (.tmp 41) (.tmp 43) 23 25 (.agg #[(.int .i64 0), (.int .i64 0), (.string ⟨#[]⟩), (.string ⟨#[]⟩)]) 48 rfl Tryd.underlying23 info25 rfl (by decide) (by omega) v147 t146 y149 _ _ _ (fun k_ => some k_ ≠ (.slice Ao32 y149.length co32 : Value).ownBlock ∧ k_ ≠ gb139) (fun _ => False) rfl rfl ?aO ?aR (fun _ _ h => h) (fun _ h => h.elim) ?aF ?aB ?aS ?aL ?_
       (case aR => repeat (first | exact (Kd.R_reads' HO151.out).2.2 | (with_reducible refine Kd.C_alloc ?_ _) | (with_reducible refine Kd.C_drewN ?_ _) | (with_reducible refine Kd.C_drew ?_)))
       (case aB => exact (by repeat (first | (with_reducible first | exact HB.out | apply below_alloc | apply pw_below_drewN | apply below_drew1 | refine below_set ?_ GE139.out) | exact HB.out)))
       (case aF => exact (fun k_ hk => ⟨Kd.fresh' (Kd.R_lt (by (with_reducible repeat (first | apply Kd.R_alloc | apply Kd.R_drewN | apply Kd.R_drew)); exact HO151.out)) k_ hk, Kd.freshB (g := gb139) (o := .cells #[.int .i64 a2_0, .int .i64 a2_1, .string a2_2, .string t145] 25 (0, 0)) (by (with_reducible repeat (first | refine blk_drewN ?_ _ | refine blk_drew ?_ | refine blk_alloc ?_ _)); exact BK139.out) k_ hk⟩))
       (case aO => exact (by (with_reducible repeat (first | apply Kd.R_alloc | apply Kd.R_drewN | apply Kd.R_drew)); exact HO148.out))
       (case aS => exact (below_size (by repeat (first | (with_reducible first | exact HB.out | apply below_alloc | apply pw_below_drewN | apply below_drew1 | refine below_set ?_ GE139.out) | exact HB.out))))
       (case aL => have := LMc16.out; omega)
       intro v153 w31 ho hb hg hat
       rw [← Ny152.out] at ho
       have n0_ := Aside0.mk (blk_grown (g := gb139) (o := .cells #[.int .i64 a2_0, .int .i64 a2_1, .string a2_2, .string t145] 25 (0, 0)) (by (with_reducible repeat (first | refine blk_drewN ?_ _ | refine blk_drew ?_ | refine blk_alloc ?_ _)); exact BK139.out) hg (Kd.R_away HO148.out (fun _ hk => hk.2)))
       have n1_ := Aside0.mk (Kd.R_after (ok := (fun k_ => k_ ≠ gb139)) (by (with_reducible repeat (first | apply Kd.R_alloc | apply Kd.R_drewN | apply Kd.R_drew)); exact Kd.R_mono HO151.out (fun _ hk => ⟨hk.2, hk.1⟩)) hg hat)
       have n2_ := Aside0.mk (hb)
       have n3_ := Aside0.mk (ho)
       clear BK139
       clear HO151
       clear HB
       clear HO148
       have BK139 := n0_
       have HO151 := n1_
       have HB := n2_
       have HO154 := n3_
       clear n0_ n1_ n2_ n3_
       clear ho hb hg hat
       refine hK.out _ _ ⟨(blk_cell BK139.out 0).trans rfl, (blk_cell BK139.out 1).trans rfl, (blk_cell BK139.out 2).trans rfl, (blk_cell BK139.out 3).trans rfl⟩ (fun hHeld => ?_)
       clear hK K
       refine norm_ (a' := ?_) ?_ ?_
       rotate_left
       ·show Act.put _ (some 44) _ = _
        simp only [Act.put, List.setIfInBounds_toArray, List.set_cons_zero, List.set_cons_succ, i64_w, i32_w]
        rfl
       refine pure_ (i := 5) (N := some 6) (v := ?_) (a' := ?_) #[true, true, true, true, true, true, false] rfl rfl (by kernel_rfl) (fun _ _ _ h => h) (Or.inl ⟨by rfl, ?_⟩) ?_ ?_
       rotate_left
       ·intro w'
        go_simp
        with_reducible rfl
       rotate_left
       ·simp only [Act.put, List.setIfInBounds_toArray, List.set_cons_zero, List.set_cons_succ, i64_w, i32_w]
        rfl
       refine pure_ (i := 6) (N := some 7) (v := ?_) (a' := ?_) #[true, true, true, true, true, true, true] rfl rfl (by kernel_rfl) (fun _ _ _ h => h) (Or.inl ⟨by rfl, ?_⟩) ?_ ?_
       rotate_left
       ·intro w'
        go_simp
        with_reducible rfl
       rotate_left
       ·simp only [Act.put, List.setIfInBounds_toArray, List.set_cons_zero, List.set_cons_succ, i64_w, i32_w]
        rfl
       refine done_ (by kernel_rfl) ?_
       try go_wp2
       go_ret2
       exact ⟨_, by first | rfl | (simp [errW_none, errW_some] <;> rfl) | (simp [*, errW_none, errW_some] <;> rfl), by (with_reducible repeat (first | apply Kd.R_alloc | apply Kd.R_drewN | apply Kd.R_drew)); exact Kd.R_mono HO154.out (fun _ hk => trivial), by repeat (first | (with_reducible first | exact HB.out | apply below_alloc | apply pw_below_drewN | apply below_drew1 | refine below_set ?_ GE139.out) | exact HB.out)⟩
      ·rw [if_neg c16] at H
       exact absurd H (by simp)
     ·rw [if_neg c13] at H
      exact absurd H (by simp)
    ·rw [if_neg c12] at H
     exact absurd H (by simp)
   ·rw [if_neg c10] at H
    have c10b0 : (t142 == 0) = false := beq_eq_false_iff_ne.mpr c10
    have c10b1 : (t142 != 0) = true := bne_iff_ne.mpr c10
    simp only [Option.some.injEq, Prod.mk.injEq] at H
    obtain ⟨rfl, rfl⟩ := H
    go_enter Tryd.func15, Tryd.ntmps15
    go_wp2_with (first | ((with_reducible refine gate_dst (N := 5) rfl ?_); refine box_event ?hg (N := 5) ?hd (cs := #[.int .i64 a2_0, .int .i64 a2_1, .string a2_2, .string a2_3]) (t := 25) ?hr ?_; (case hd => rfl); (case hg => rfl); (case hr => first | (go_simp; done) | (go_simp; rfl)); intro gb139 hg w33 hbox hb; have n0_ := Aside0.mk (below_step (by repeat (first | (with_reducible first | exact HB.out | apply below_alloc | apply pw_below_drewN | apply below_drew1) | exact HB.out)) hb); have n1_ := Aside0.mk (hbox); have n2_ := Aside0.mk ((by rw [hg]; exact (below_size (by repeat (first | (with_reducible first | exact HB.out | apply below_alloc | apply pw_below_drewN | apply below_drew1) | exact HB.out))) : w.heap.size ≤ gb139)); have n3_ := Aside0.mk ((by rw [hg]; exact (below_size (by repeat (first | (with_reducible first | exact HB.out | apply below_alloc | apply pw_below_drewN | apply below_drew1) | exact HB.out))) : w.heap.size ≤ gb139)); clear HB; have HB := n0_; have BK139 := n1_; have GW139 := n2_; have GE139 := n3_; clear n0_ n1_ n2_ n3_; clear hb hbox hg) | ((with_reducible refine gate_callee (f := 11) rfl ?_); refine goesL_ (some 14) rfl rfl Tryd.func11 (by kernel_rfl) rfl #[.slice A0 l0.length c0, .slice A1 l1.length c1] rfl (by (try simp only [List.map_toArray, List.map_cons, List.map_nil]); first | done | rfl | (simp only [List.length_drop, List.length_take]; rfl)) ?_; (with_reducible refine (approval_Check.calls k _ _ l0 _ _ l1 t140 t141 _ ?side1 ?side2 ?side3 ?side4 ?side5 A4.out).mono ?_); (case side1 => repeat (first | exact (Kd.C_below HR0.out HB.out) | (with_reducible refine Kd.C_alloc ?_ _) | (with_reducible refine Kd.C_drewN ?_ _) | (with_reducible refine Kd.C_drew ?_))); (case side2 => exact HC0.out); (case side3 => repeat (first | exact (Kd.C_below HR1.out HB.out) | (with_reducible refine Kd.C_alloc ?_ _) | (with_reducible refine Kd.C_drewN ?_ _) | (with_reducible refine Kd.C_drew ?_))); (case side4 => exact HC1.out); (case side5 => exact HLW.out.below (by repeat (first | (with_reducible first | exact HB.out | apply below_alloc | apply pw_below_drewN | apply below_drew1 | refine below_set ?_ GE139.out) | exact HB.out))); rintro e w34 ⟨rfl, hb⟩; refine ⟨_, rfl, ?_⟩; have n0_ := Aside0.mk (blk_below (g := gb139) (o := .cells #[.int .i64 a2_0, .int .i64 a2_1, .string a2_2, .string a2_3] 25 (0, 0)) (by (with_reducible repeat (first | refine blk_drewN ?_ _ | refine blk_drew ?_ | refine blk_alloc ?_ _)); exact BK139.out) hb); have n1_ := Aside0.mk (below_step (by repeat (first | (with_reducible first | exact HB.out | apply below_alloc | apply pw_below_drewN | apply below_drew1 | refine below_set ?_ GE139.out) | exact HB.out)) hb); clear BK139; clear HB; have BK139 := n0_; have HB := n1_; clear n0_ n1_; (try clear hb); (try clear hb2); (try clear hk); (try clear hi); have hcz35_0 : w34.cell? ⟨gb139, 0, none⟩ = some (.int .i64 a2_0) := (blk_cell BK139.out 0).trans rfl; have hcz35_1 : w34.cell? ⟨gb139, 1, none⟩ = some (.int .i64 a2_1) := (blk_cell BK139.out 1).trans rfl; have hcz35_2 : w34.cell? ⟨gb139, 2, none⟩ = some (.string a2_2) := (blk_cell BK139.out 2).trans rfl; have hcz35_3 : w34.cell? ⟨gb139, 3, none⟩ = some (.string a2_3) := (blk_cell BK139.out 3).trans rfl; have hfz35_0 := blk_frozen BK139.out 0; have hfz35_1 := blk_frozen BK139.out 1; have hfz35_2 := blk_frozen BK139.out 2; have hfz35_3 := blk_frozen BK139.out 3) | ((with_reducible refine gate_callee (f := 36) rfl ?_); refine goesL_ (some 25) rfl rfl Tryd.func36 (by kernel_rfl) rfl #[.slice A0 l0.length c0, .slice A1 l1.length c1, .agg #[.int .i64 a2_0, .int .i64 a2_1, .string a2_2, .string a2_3]] rfl (by (try simp only [List.map_toArray, List.map_cons, List.map_nil]); first | done | rfl | (simp only [List.length_drop, List.length_take]; rfl)) ?_; (with_reducible refine (approval_fault.calls _ _ l0 _ _ l1 a2_0 a2_1 a2_2 a2_3 t142 _ ?side1 ?side2 ?side3 ?side4 A9.out).mono ?_); (case side1 => repeat (first | exact (Kd.C_below HR0.out HB.out) | (with_reducible refine Kd.C_alloc ?_ _) | (with_reducible refine Kd.C_drewN ?_ _) | (with_reducible refine Kd.C_drew ?_))); (case side2 => exact HC0.out); (case side3 => repeat (first | exact (Kd.C_below HR1.out HB.out) | (with_reducible refine Kd.C_alloc ?_ _) | (with_reducible refine Kd.C_drewN ?_ _) | (with_reducible refine Kd.C_drew ?_))); (case side4 => exact HC1.out); rintro e w36 ⟨rfl, hb⟩; refine ⟨_, rfl, ?_⟩; have n0_ := Aside0.mk (blk_below (g := gb139) (o := .cells #[.int .i64 a2_0, .int .i64 a2_1, .string a2_2, .string a2_3] 25 (0, 0)) (by (with_reducible repeat (first | refine blk_drewN ?_ _ | refine blk_drew ?_ | refine blk_alloc ?_ _)); exact BK139.out) hb); have n1_ := Aside0.mk (below_step (by repeat (first | (with_reducible first | exact HB.out | apply below_alloc | apply pw_below_drewN | apply below_drew1 | refine below_set ?_ GE139.out) | exact HB.out)) hb); clear BK139; clear HB; have BK139 := n0_; have HB := n1_; clear n0_ n1_; (try clear hb); (try clear hb2); (try clear hk); (try clear hi)))
    go_ret2
    exact ⟨_, by first | rfl | (simp [errW_none, errW_some] <;> rfl) | (simp [*, errW_none, errW_some] <;> rfl), by first | exact Kd.R_nil _ _ _ _ _ | exact Kd.N_nil _ _ _ _ _ | exact Kd.V_nil _ _ _ _ _ | exact Kd.Q_nil _ _ _ _ _ | exact Kd.S_nil _ _ _ _ _, by repeat (first | (with_reducible first | exact HB.out | apply below_alloc | apply pw_below_drewN | apply below_drew1 | refine below_set ?_ GE139.out) | exact HB.out)⟩
 ·rw [if_neg c5] at H
  have c5b0 : (t141 == 0) = false := beq_eq_false_iff_ne.mpr c5
  have c5b1 : (t141 != 0) = true := bne_iff_ne.mpr c5
  simp only [Option.some.injEq, Prod.mk.injEq] at H
  obtain ⟨rfl, rfl⟩ := H
  go_enter Tryd.func15, Tryd.ntmps15
  go_wp2_with (first | ((with_reducible refine gate_dst (N := 5) rfl ?_); refine box_event ?hg (N := 5) ?hd (cs := #[.int .i64 a2_0, .int .i64 a2_1, .string a2_2, .string a2_3]) (t := 25) ?hr ?_; (case hd => rfl); (case hg => rfl); (case hr => first | (go_simp; done) | (go_simp; rfl)); intro gb139 hg w37 hbox hb; have n0_ := Aside0.mk (below_step (by repeat (first | (with_reducible first | exact HB.out | apply below_alloc | apply pw_below_drewN | apply below_drew1) | exact HB.out)) hb); have n1_ := Aside0.mk (hbox); have n2_ := Aside0.mk ((by rw [hg]; exact (below_size (by repeat (first | (with_reducible first | exact HB.out | apply below_alloc | apply pw_below_drewN | apply below_drew1) | exact HB.out))) : w.heap.size ≤ gb139)); have n3_ := Aside0.mk ((by rw [hg]; exact (below_size (by repeat (first | (with_reducible first | exact HB.out | apply below_alloc | apply pw_below_drewN | apply below_drew1) | exact HB.out))) : w.heap.size ≤ gb139)); clear HB; have HB := n0_; have BK139 := n1_; have GW139 := n2_; have GE139 := n3_; clear n0_ n1_ n2_ n3_; clear hb hbox hg) | ((with_reducible refine gate_callee (f := 11) rfl ?_); refine goesL_ (some 14) rfl rfl Tryd.func11 (by kernel_rfl) rfl #[.slice A0 l0.length c0, .slice A1 l1.length c1] rfl (by (try simp only [List.map_toArray, List.map_cons, List.map_nil]); first | done | rfl | (simp only [List.length_drop, List.length_take]; rfl)) ?_; (with_reducible refine (approval_Check.calls k _ _ l0 _ _ l1 t140 t141 _ ?side1 ?side2 ?side3 ?side4 ?side5 A4.out).mono ?_); (case side1 => repeat (first | exact (Kd.C_below HR0.out HB.out) | (with_reducible refine Kd.C_alloc ?_ _) | (with_reducible refine Kd.C_drewN ?_ _) | (with_reducible refine Kd.C_drew ?_))); (case side2 => exact HC0.out); (case side3 => repeat (first | exact (Kd.C_below HR1.out HB.out) | (with_reducible refine Kd.C_alloc ?_ _) | (with_reducible refine Kd.C_drewN ?_ _) | (with_reducible refine Kd.C_drew ?_))); (case side4 => exact HC1.out); (case side5 => exact HLW.out.below (by repeat (first | (with_reducible first | exact HB.out | apply below_alloc | apply pw_below_drewN | apply below_drew1 | refine below_set ?_ GE139.out) | exact HB.out))); rintro e w38 ⟨rfl, hb⟩; refine ⟨_, rfl, ?_⟩; have n0_ := Aside0.mk (blk_below (g := gb139) (o := .cells #[.int .i64 a2_0, .int .i64 a2_1, .string a2_2, .string a2_3] 25 (0, 0)) (by (with_reducible repeat (first | refine blk_drewN ?_ _ | refine blk_drew ?_ | refine blk_alloc ?_ _)); exact BK139.out) hb); have n1_ := Aside0.mk (below_step (by repeat (first | (with_reducible first | exact HB.out | apply below_alloc | apply pw_below_drewN | apply below_drew1 | refine below_set ?_ GE139.out) | exact HB.out)) hb); clear BK139; clear HB; have BK139 := n0_; have HB := n1_; clear n0_ n1_; (try clear hb); (try clear hb2); (try clear hk); (try clear hi)))
  go_ret2
  exact ⟨_, by first | rfl | (simp [errW_none, errW_some] <;> rfl) | (simp [*, errW_none, errW_some] <;> rfl), by first | exact Kd.R_nil _ _ _ _ _ | exact Kd.N_nil _ _ _ _ _ | exact Kd.V_nil _ _ _ _ _ | exact Kd.Q_nil _ _ _ _ _ | exact Kd.S_nil _ _ _ _ _, by repeat (first | (with_reducible first | exact HB.out | apply below_alloc | apply pw_below_drewN | apply below_drew1 | refine below_set ?_ GE139.out) | exact HB.out)⟩
end Go.Proofs.YtbfimjncophcaaaDoor.Pr
namespace Go.Proofs.YtbfimjncophcaaaDoor.Pr
open Go.RowKit Go.Proofs.YtbfimjncophcaaaDoorW.PrintWords Go.Proofs.YtbfimjncophcaaaDoorW.PrintLast Go.Proofs.YtbfimjncophcaaaDoorW.PrintMore
attribute [local go_sem] max2_int min2_int max_two min_two max_three min_three max_four min_four
set_option linter.unusedVariables false
set_option linter.unusedSimpArgs false
theorem eqA25 (d : Nat) (w : World) (x0 y0 : Int) (x1 y1 : Int) (x2 y2 : ByteArray) (x3 y3 : ByteArray) :
  (Op.equalIn (d + 2) 25 (.agg #[.int .i64 x0, .int .i64 x1, .string x2, .string x3]) (.agg #[.int .i64 y0, .int .i64 y1, .string y2, .string y3])).run Tryd.prog w = .ok (x0 == y0 && (x1 == y1 && (x2.toList == y2.toList && (x3.toList == y3.toList)))) w := by
 refine eqA_of Tryd.underlying25 (by kernel_rfl) ?_
 refine eqf_cons (by rfl) (by go_simp; rfl) (by go_simp; rfl) (by go_simp) ?_
 refine eqf_cons (by rfl) (by go_simp; rfl) (by go_simp; rfl) (by go_simp) ?_
 refine eqf_cons (by rfl) (by go_simp; rfl) (by go_simp; rfl) (by go_simp) ?_
 exact eqf_last (by rfl) (by go_simp; rfl) (by go_simp; rfl) (by go_simp)
end Go.Proofs.YtbfimjncophcaaaDoor.Pr
namespace Go.Proofs.YtbfimjncophcaaaDoor.Pr
set_option linter.unusedVariables false
set_option linter.unusedSimpArgs false
open Go.RowKit Go.Proofs.YtbfimjncophcaaaDoorW.PrintWords
theorem wrap_succ (i : Nat) (h : i < 9223372036854775807) : wrap64 ((i : Int) + 1) = ((i + 1 : Nat) : Int) := by unfold wrap64; omega
theorem rd33_get (l : List S33) (i : Nat) (h : i < l.length) : rd_T33 l (i : Int) = l[i] := by
 unfold rd_T33
 simp [List.getD, h]
theorem rd25_get (l : List S25) (i : Nat) (h : i < l.length) : rd_T25 l (i : Int) = l[i] := by
 unfold rd_T25
 simp [List.getD, h]
def keyOf (l0 : List S33) (id : Int) : ByteArray := (rd_T33 l0 (fidx (fun x => x.f0 == id) l0 0)).f3
theorem fidx_lt {α : Type} (p : α → Bool) : ∀ (xs : List α) (i : Nat), fidx p xs i < ((i + xs.length : Nat) : Int) ∨ xs = []
 | [], _ => .inr rfl
 | x :: xs, i => by
  left
  simp only [fidx]
  split
  ·simp; omega
  ·rcases fidx_lt p xs (i + 1) with h | rfl
   ·simp only [List.length_cons]; omega
   ·simp only [fidx, List.length_cons]; omega
theorem fidx_bound (l0 : List S33) (p : S33 → Bool) : fidx p l0 0 < (l0.length : Int) ∨ fidx p l0 0 < 0 := by
 rcases fidx_lt p l0 0 with h | rfl
 ·left; omega
 ·right; simp only [fidx]; omega
theorem okAt_key (l : List S33) (i : Int) (h : okAt l i = true) : 1 ≤ (rd_T33 l i).f3.size ∧ (rd_T33 l i).f3.size ≤ 64 := by
 unfold okAt namedB at h
 simp only [Bool.not_eq_true', Bool.or_eq_false_iff, Bool.not_eq_false', Bool.and_eq_true, decide_eq_true_eq, Bool.not_eq_eq_eq_not, Bool.not_true, Bool.not_false] at h
 obtain ⟨_, _, _, _, _, ⟨h1, h2⟩, _⟩ := h
 omega
theorem key_size (l0 : List S33) (id : Int) (hr : rightB l0 = true) (h : 0 ≤ fidx (fun x => x.f0 == id) l0 0) : 1 ≤ (keyOf l0 id).size ∧ (keyOf l0 id).size ≤ 64 := by
 unfold rightB at hr
 rw [Bool.and_eq_true] at hr
 rcases fidx_bound l0 (fun x => x.f0 == id) with h1 | h1
 ·have := List.all_eq_true.1 hr.1 (fidx (fun x => x.f0 == id) l0 0).toNat (List.mem_range.2 (by omega))
  rw [show (((fidx (fun x => x.f0 == id) l0 0).toNat : Nat) : Int) = fidx (fun x => x.f0 == id) l0 0 by omega] at this
  exact okAt_key l0 _ this
 ·omega
def faultC (l0 : List S33) (l1 : List S25) (a : S25) : Int :=
 if faultA l0 l1 a.f0 a.f1 a.f2 = 0 then (if a.f3.toList = (codeOf (keyOf l0 a.f0) a.f0 a.f1 a.f2).toList then 0 else 14) else faultA l0 l1 a.f0 a.f1 a.f2
def Wf25 (a : S25) : Prop := i64B a.f0 ∧ i64B a.f1 ∧ a.f2.size ≤ 1000000
theorem faultA_found (l0 : List S33) (l1 : List S25) (a : S25) (h : faultA l0 l1 a.f0 a.f1 a.f2 = 0) : 0 ≤ fidx (fun x => x.f0 == a.f0) l0 0 := by
 unfold faultA at h
 by_cases c : fidx (fun x => x.f0 == a.f0) l0 0 < 0
 ·rw [if_pos c] at h
  omega
 ·omega
def chkV (l0 : List S33) (l1 : List S25) : Nat → Nat → Int × Int
 | 0, _ => (-1, 0)
 | m + 1, i => if faultC l0 (l1.take i) (rd_T25 l1 (i : Int)) = 0 then chkV l0 l1 m (i + 1) else ((i : Int), faultC l0 (l1.take i) (rd_T25 l1 (i : Int)))
theorem wf_rd {l1 : List S25} (hw : ∀ a ∈ l1, Wf25 a) (i : Nat) (hi : i < l1.length) : Wf25 (rd_T25 l1 (i : Int)) := by
 rw [rd25_get l1 i hi]
 exact hw _ (List.getElem_mem hi)
theorem acheck_l0 (l0 : List S33) (l1 : List S25) (hr : rightB l0 = true) (hl : l1.length < 1000000) (hw : ∀ a ∈ l1, Wf25 a) :
  ∀ (m i k : Nat), i + m = l1.length → m < k → approval_Check.l0 k l0 l1 l1 (l1.length : Int) (i : Int) = some (chkV l0 l1 m i)
 | 0, i, k, hi, hk => by
  obtain ⟨k, rfl⟩ : ∃ k', k = k' + 1 := ⟨k - 1, by omega⟩
  simp only [approval_Check.l0]
  rw [if_neg (by omega)]
  rfl
 | m + 1, i, k, hi, hk => by
  obtain ⟨k, rfl⟩ : ∃ k', k = k' + 1 := ⟨k - 1, by omega⟩
  have ih := acheck_l0 l0 l1 hr hl hw m (i + 1) k (by omega) (by omega)
  have wf := wf_rd hw i (by omega)
  simp only [approval_Check.l0, chkV]
  rw [if_pos (by omega), if_pos (by omega), if_pos (by omega), if_pos (by omega), wrap_succ i (by omega), ih]
  generalize rd_T25 l1 (i : Int) = a at *
  rw [show ((i : Int)).toNat = i from by omega]
  unfold approval_fault.f approval_signer.f
  simp only [Option.bind_some]
  by_cases e : faultA l0 (l1.take i) a.f0 a.f1 a.f2 = 0
  ·have hp := faultA_found _ _ _ e
   have hb : fidx (fun x => x.f0 == a.f0) l0 0 < (l0.length : Int) := by
    rcases fidx_bound l0 (fun x => x.f0 == a.f0) with h | h <;> omega
   have hks := key_size l0 a.f0 hr hp
   rw [if_pos e, if_pos hp, if_pos hb, show (rd_T33 l0 (fidx (fun x => x.f0 == a.f0) l0 0)).f3 = keyOf l0 a.f0 from rfl, code_f _ _ _ _ _ (by omega) wf.1 wf.2.1 wf.2.2]
   simp only [Option.bind_some]
   unfold faultC
   rw [if_pos e]
   by_cases q : a.f3.toList = (codeOf (keyOf l0 a.f0) a.f0 a.f1 a.f2).toList
   ·rw [if_pos q, if_pos (by rw [if_pos q])]
   ·rw [if_neg q, if_neg (by rw [if_neg q]; omega), if_neg q]
  ·rw [if_neg e]
   unfold faultC
   rw [if_neg e, if_neg e]
def checkR (l0 : List S33) (l1 : List S25) : Int × Int :=
 if rightB l0 = true then (if (l1.length : Int) > 1024 then (-1, 8) else chkV l0 l1 l1.length 0) else (-1, 1)
theorem acheck_f (l0 : List S33) (l1 : List S25) (k : Nat) (hl : l1.length < 1000000) (hw : ∀ a ∈ l1, Wf25 a) (hk : l1.length < k) : approval_Check.f k l0 l1 = some (checkR l0 l1) := by
 unfold approval_Check.f approval_right.f checkR
 simp only [Option.bind_some]
 by_cases hr : rightB l0 = true
 ·rw [if_pos hr, if_pos hr]
  split
  ·rfl
  ·exact acheck_l0 l0 l1 hr hl hw l1.length 0 k (by omega) hk
 ·rw [if_neg hr, if_neg hr]
theorem checkR_right (l0 : List S33) (l1 : List S25) (h : (checkR l0 l1).2 = 0) : rightB l0 = true := by
 unfold checkR at h
 by_cases hr : rightB l0 = true
 ·exact hr
 ·rw [if_neg hr] at h
  exact absurd h (by decide)
def signR (l0 : List S33) (l1 : List S25) (a : S25) : List S25 × Int :=
 if (checkR l0 l1).2 = 0 then
  (if (l1.length : Int) = 1024 then ([], 12) else if faultA l0 l1 a.f0 a.f1 a.f2 = 0 then (l1 ++ [⟨a.f0, a.f1, a.f2, codeOf (keyOf l0 a.f0) a.f0 a.f1 a.f2⟩], 0) else ([], faultA l0 l1 a.f0 a.f1 a.f2))
 else ([], 1)
theorem asign_f (l0 : List S33) (l1 : List S25) (a : S25) (k : Nat) (hl : l1.length < 1000000) (hw : ∀ a ∈ l1, Wf25 a) (ha : Wf25 a) (hk : l1.length < k) :
  approval_Sign.f k l0 l1 a.f0 a.f1 a.f2 a.f3 = some (signR l0 l1 a) := by
 unfold approval_Sign.f signR
 rw [acheck_f l0 l1 k hl hw hk]
 simp only [Option.bind_some]
 by_cases hc : (checkR l0 l1).2 = 0
 ·have hr := checkR_right l0 l1 hc
  rw [if_pos hc, if_pos hc]
  split
  ·rfl
  ·unfold approval_fault.f approval_signer.f
   simp only [Option.bind_some]
   by_cases e : faultA l0 l1 a.f0 a.f1 a.f2 = 0
   ·have hp := faultA_found _ _ _ e
    have hb : fidx (fun x => x.f0 == a.f0) l0 0 < (l0.length : Int) := by
     rcases fidx_bound l0 (fun x => x.f0 == a.f0) with h | h <;> omega
    have hks := key_size l0 a.f0 hr hp
    rw [if_pos e, if_pos e, if_pos hp, if_pos hb, show (rd_T33 l0 (fidx (fun x => x.f0 == a.f0) l0 0)).f3 = keyOf l0 a.f0 from rfl, code_f _ _ _ _ _ (by omega) ha.1 ha.2.1 ha.2.2]
    unfold api_Approval_13.f
    rw [if_pos (by omega)]
    simp only [Option.bind_some]
    rw [if_pos (by simp only [List.length_cons, List.length_nil]; omega)]
   ·rw [if_neg e, if_neg e]
 ·rw [if_neg hc, if_neg hc]
def FewP (l0 : List S33) (l1 : List S25) : Prop := (∀ s ∈ l0, s.f2.size ≤ 70 ∧ s.f3.size ≤ 70) ∧ (∀ a ∈ l1, a.f2.size ≤ 40 ∧ a.f3.size ≤ 40) ∧ l0.length ≤ 17 ∧ l1.length ≤ 12
theorem few_l1 (l0 : List S33) (l1 : List S25) (hl1 : l1.length ≤ 9223372036854775807) :
  ∀ (m i k : Nat), i + m = l1.length → m < k → ∃ b, garboardref58_Few.l1 k l0 l1 (i : Int) = some b ∧ (b = true → (∀ a ∈ l1.drop i, a.f2.size ≤ 40 ∧ a.f3.size ≤ 40) ∧ l0.length ≤ 17 ∧ l1.length ≤ 12)
 | 0, i, k, hi, hk => by
  obtain ⟨k, rfl⟩ : ∃ k', k = k' + 1 := ⟨k - 1, by omega⟩
  simp only [garboardref58_Few.l1]
  rw [if_neg (by omega), List.drop_of_length_le (by omega)]
  by_cases c : (l0.length : Int) ≤ 17
  ·rw [if_pos c]
   refine ⟨_, rfl, fun h => ⟨fun a h => by simp at h, by omega, ?_⟩⟩
   have := of_decide_eq_true h
   omega
  ·rw [if_neg c]
   exact ⟨_, rfl, fun h => by cases h⟩
 | m + 1, i, k, hi, hk => by
  obtain ⟨k, rfl⟩ : ∃ k', k = k' + 1 := ⟨k - 1, by omega⟩
  obtain ⟨b, ih, ih2⟩ := few_l1 l0 l1 hl1 m (i + 1) k (by omega) (by omega)
  simp only [garboardref58_Few.l1]
  rw [if_pos (by omega), if_pos (by omega), wrap_succ i (by omega), ih, rd25_get l1 i (by omega), List.drop_eq_getElem_cons (show i < l1.length by omega)]
  by_cases c : (l1[i].f2.size : Int) > 40
  ·rw [if_pos c]
   exact ⟨_, rfl, fun h => by cases h⟩
  rw [if_neg c]
  by_cases d : (l1[i].f3.size : Int) > 40
  ·rw [if_pos d]
   exact ⟨_, rfl, fun h => by cases h⟩
  rw [if_neg d]
  refine ⟨b, rfl, fun h => ?_⟩
  obtain ⟨h1, h2⟩ := ih2 h
  refine ⟨fun a ha => ?_, h2⟩
  rcases List.mem_cons.1 ha with rfl | ha
  ·omega
  ·exact h1 a ha
theorem few_l0 (l0 : List S33) (l1 : List S25) (hl0 : l0.length ≤ 9223372036854775807) (hl1 : l1.length ≤ 9223372036854775807) :
  ∀ (m i k : Nat), i + m = l0.length → m + l1.length + 1 < k → ∃ b, garboardref58_Few.l0 k l0 l1 (i : Int) = some b ∧ (b = true → (∀ s ∈ l0.drop i, s.f2.size ≤ 70 ∧ s.f3.size ≤ 70) ∧ (∀ a ∈ l1, a.f2.size ≤ 40 ∧ a.f3.size ≤ 40) ∧ l0.length ≤ 17 ∧ l1.length ≤ 12)
 | 0, i, k, hi, hk => by
  obtain ⟨k, rfl⟩ : ∃ k', k = k' + 1 := ⟨k - 1, by omega⟩
  simp only [garboardref58_Few.l0]
  rw [if_neg (by omega), List.drop_of_length_le (by omega)]
  obtain ⟨b, h1, h2⟩ := few_l1 l0 l1 hl1 l1.length 0 k (by omega) (by omega)
  exact ⟨b, h1, fun h => ⟨fun a h => by simp at h, h2 h⟩⟩
 | m + 1, i, k, hi, hk => by
  obtain ⟨k, rfl⟩ : ∃ k', k = k' + 1 := ⟨k - 1, by omega⟩
  obtain ⟨b, ih, ih2⟩ := few_l0 l0 l1 hl0 hl1 m (i + 1) k (by omega) (by omega)
  simp only [garboardref58_Few.l0]
  rw [if_pos (by omega), if_pos (by omega), wrap_succ i (by omega), ih, rd33_get l0 i (by omega), List.drop_eq_getElem_cons (show i < l0.length by omega)]
  by_cases c : (l0[i].f2.size : Int) > 70
  ·rw [if_pos c]
   exact ⟨_, rfl, fun h => by cases h⟩
  rw [if_neg c]
  by_cases d : (l0[i].f3.size : Int) > 70
  ·rw [if_pos d]
   exact ⟨_, rfl, fun h => by cases h⟩
  rw [if_neg d]
  refine ⟨b, rfl, fun h => ?_⟩
  obtain ⟨h1, h2⟩ := ih2 h
  refine ⟨fun a ha => ?_, h2⟩
  rcases List.mem_cons.1 ha with rfl | ha
  ·omega
  ·exact h1 a ha
theorem few_f (l0 : List S33) (l1 : List S25) (k : Nat) (hl0 : l0.length ≤ 9223372036854775807) (hl1 : l1.length ≤ 9223372036854775807) (hk : l0.length + l1.length + 1 < k) :
  ∃ b, garboardref58_Few.f k l0 l1 = some b ∧ (b = true → FewP l0 l1) := by
 unfold garboardref58_Few.f
 obtain ⟨b, h1, h2⟩ := few_l0 l0 l1 hl0 hl1 l0.length 0 k (by omega) hk
 exact ⟨b, h1, h2⟩
end Go.Proofs.YtbfimjncophcaaaDoor.Pr
namespace Go.Proofs.YtbfimjncophcaaaDoor.Pr
set_option linter.unusedVariables false
set_option linter.unusedSimpArgs false
open Go.RowKit Go.Proofs.YtbfimjncophcaaaDoorW.PrintWords Go.Proofs.YtbfimjncophcaaaDoorW.PrintLast Go.Proofs.YtbfimjncophcaaaDoorW.PrintMore
set_option maxHeartbeats 1000000 in
theorem idxFunc75 (p : Int → Bool) (g : Nat) (lb : Array Value) (eg : ∀ args w, (callFunc g args).run Tryd.prog w = .ok (.enter g args) w) (A : Option Addr) (c : Nat) (xs : List Int) (w : World)
  (hr : Kd.C (Kd.int .i64) w A xs.length xs) (hp : PredB Tryd.prog g lb (fun x : Int => .int .i64 x) p w) :
  Calls Tryd.prog 75 #[.slice A xs.length c, .func (.func g) #[] lb] w fun e w' => e = .returned (.int .i64 (fidx p xs 0)) ∧ Below w.heap.size w w' := by
 have hmax := hr.2.1
 have HR := Aside0.mk hr
 have HP := Aside0.mk hp
 clear hr hp
 go_enter Tryd.func75, Tryd.ntmps75
 go_wp2
 go_loopg [5, 8] xs.length (fun gg _ s8 wr => ∃ kk : Nat, kk ≤ xs.length ∧ xs.length - kk ≤ gg ∧ s8 = .int .i64 kk ∧ Aside0 (Below w.heap.size w wr) ∧ Aside0 (∀ j z, j < kk → xs[j]? = some z → p z = false))
 case atStart => exact ⟨0, Nat.zero_le _, by omega, rfl, ⟨Below.refl _ w⟩, ⟨fun j z hj => absurd hj (Nat.not_lt_zero _)⟩⟩
 case round =>
  obtain ⟨kk, hkk, hg, rfl, BW, AF⟩ := hrel
  by_cases hlt : kk < xs.length
  ·have hltz : (kk : Int) < (xs.length : Int) := by omega
   obtain ⟨ad, e, h0⟩ := (Kd.reads_of_C (enc := Value.int .i64) (d := (0 : Int)) (h1 := fun _ => rfl) HR.out).at_ kk (by omega) hltz
   cases e
   replace h0 := (BW.out.cell (World.block_lt_of_cell? w _ h0)).trans h0
   simp only [Int.toNat_natCast] at h0
   have hcall := HP.out wr (rdOf 0 xs kk) BW.out
   have hget : xs[kk]? = some (rdOf 0 xs kk) := by
    show xs[kk]? = some (xs.getD (kk : Int).toNat 0)
    rw [List.getD_eq_getElem?_getD, Int.toNat_natCast, List.getElem?_eq_getElem hlt]
    rfl
   have HG := Aside0.mk hget
   clear hget
   generalize rdOf 0 xs (kk : Int) = y at h0 hcall HG
   cases hq : p y with
   | true =>
    have HQ := Aside0.mk hq
    rw [hq] at hcall
    clear hq
    go_wp2_with fail
    refine hcall.mono ?_
    clear hcall
    rintro e w' ⟨rfl, hb'⟩
    go_wp2_with fail
    go_ret
    refine ⟨?_, hb'⟩
    rw [fidx_hit p xs 0 kk _ HG.out HQ.out AF.out, Nat.zero_add]
    rfl
   | false =>
    have HQ := Aside0.mk hq
    rw [hq] at hcall
    clear hq
    go_wp2_with fail
    refine hcall.mono ?_
    clear hcall
    rintro e w' ⟨rfl, hb'⟩
    go_wp2_with fail
    go_roundg (xs.length - (kk + 1))
    case measure => omega
    case rel =>
     refine ⟨kk + 1, by omega, by omega, by go_num, ⟨hb'⟩, ⟨fun j z hj hz => ?_⟩⟩
     by_cases e : j = kk
     ·subst e
      rw [HG.out] at hz
      injection hz with hz
      rw [← hz]
      exact HQ.out
     ·exact AF.out j z (by omega) hz
  ·have hltz : ¬ (kk : Int) < (xs.length : Int) := by omega
   go_wp2
   go_ret
   refine ⟨?_, BW.out⟩
   have hf : fidx p xs 0 = -1 := fidx_miss p xs 0 (fun x hx => by
    obtain ⟨j, hj⟩ := List.getElem?_of_mem hx
    have hjl := (List.getElem?_eq_some_iff.1 hj).1
    exact AF.out j x (by omega) hj)
   rw [hf]
   rfl
theorem containsFunc64 (p : Int → Bool) (g : Nat) (lb : Array Value) (eg : ∀ args w, (callFunc g args).run Tryd.prog w = .ok (.enter g args) w) (A : Option Addr) (c : Nat) (xs : List Int) (w : World)
  (hr : Kd.C (Kd.int .i64) w A xs.length xs) (hp : PredB Tryd.prog g lb (fun x : Int => .int .i64 x) p w) :
  Calls Tryd.prog 64 #[.slice A xs.length c, .func (.func g) #[] lb] w fun e w' => e = .returned (.bool (xs.any p)) ∧ Below w.heap.size w w' := by
 have hcon := idxFunc75 p g lb eg A c xs w hr hp
 rw [fidx_any p xs 0]
 generalize fidx p xs 0 = q at hcon ⊢
 clear eg hr hp
 go_enter Tryd.func64, Tryd.ntmps64
 go_wp2_with fail
 refine hcon.mono ?_
 clear hcon
 rintro e w' ⟨rfl, hb'⟩
 go_wp2_with fail
 go_ret
 exact ⟨rfl, hb'⟩
theorem pred65 (w : World) : PredB Tryd.prog 65 #[] (fun x : Int => .int .i64 x) (fun x => decide (x < 1) || decide (9 < x)) w := fun W x hb => by
 show Calls Tryd.prog 65 #[.int .i64 x] W _
 go_enter Tryd.func65, Tryd.ntmps65
 go_wp2
 all_goals (go_ret; exact ⟨by simp_all <;> omega, hb⟩)
def roleBad (x : Int) : Bool := decide (x < 1) || decide (9 < x)
def tickB (n : Int) : Bool := decide (0 ≤ n) && decide (n ≤ 1073741824)
def validB (l : List Int) (a b : Int) : Bool := decide (1 ≤ l.length) && (decide (l.length ≤ 9) && (!(l.any roleBad) && (tickB a && tickB b)))
set_option maxHeartbeats 1000000 in
theorem valid43 (A0 : Option Addr) (c0 : Nat) (l0 : List Int) (a1 a2 : Int) (w : World) (hr0 : Kd.C (Kd.int .i64) w A0 l0.length l0) :
  Calls Tryd.prog 43 #[.agg #[.slice A0 l0.length c0, .int .i64 a1, .int .i64 a2]] w fun e w' => e = .returned (.bool (validB l0 a1 a2)) ∧ Below w.heap.size w w' := by
 have eg : ∀ args w, (callFunc 65 args).run Tryd.prog w = .ok (.enter 65 args) w := enters_of Tryd.func65 (by kernel_rfl) rfl
 have HA := Aside0.mk (fun W (hW : Below w.heap.size w W) => containsFunc64 (fun x => decide (x < 1) || decide (9 < x)) 65 #[] eg A0 c0 l0 W (Kd.C_below hr0 hW) (pred65 W))
 have hmax := hr0.2.1
 have HV := Aside0.mk (show validB l0 a1 a2 = (decide (1 ≤ l0.length) && (decide (l0.length ≤ 9) && (!(l0.any (fun x => decide (x < 1) || decide (9 < x))) && ((decide (0 ≤ a1) && decide (a1 ≤ 1073741824)) && (decide (0 ≤ a2) && decide (a2 ≤ 1073741824)))))) from rfl)
 generalize validB l0 a1 a2 = r at HV ⊢
 generalize l0.any (fun x => decide (x < 1) || decide (9 < x)) = bad at HA HV
 clear hr0 eg
 have HT := Aside0.mk tick44
 go_enter Tryd.func43, Tryd.ntmps43
 by_cases h1 : 1 ≤ l0.length
 case neg =>
  have h1z : ¬ (1 : Int) ≤ (l0.length : Int) := by omega
  go_wp2_with fail
  go_ret
  refine ⟨?_, below_alloc (Below.refl _ _) _⟩
  rw [HV.out]
  simp [h1]
 have h1z : (1 : Int) ≤ (l0.length : Int) := by omega
 by_cases h9 : l0.length ≤ 9
 case neg =>
  have h9z : ¬ (l0.length : Int) ≤ 9 := by omega
  go_wp2_with fail
  go_ret
  refine ⟨?_, below_alloc (Below.refl _ _) _⟩
  rw [HV.out]
  simp [h9]
 have h9z : (l0.length : Int) ≤ 9 := by omega
 go_wp2_with fail
 refine (HA.out _ (below_alloc (Below.refl _ _) _)).mono ?_
 rintro e w1 ⟨rfl, hb1⟩
 have HB := Aside0.mk (below_step (below_alloc (Below.refl w.heap.size w) (.cells #[.slice A0 l0.length c0, .int .i64 a1, .int .i64 a2] 41)) hb1)
 have k1 : w1.cell? ⟨w.heap.size, 1, none⟩ = some (.int .i64 a1) := (hb1.cell (p := ⟨w.heap.size, 1, none⟩) (by simp)).trans (by simp)
 have k2 : w1.cell? ⟨w.heap.size, 2, none⟩ = some (.int .i64 a2) := (hb1.cell (p := ⟨w.heap.size, 2, none⟩) (by simp)).trans (by simp)
 clear hb1 HA
 cases bad with
 | true =>
  go_wp2_with fail
  go_ret
  refine ⟨?_, HB.out⟩
  rw [HV.out]
  simp
 | false =>
  go_wp2_with fail
  refine (HT.out _ _).mono ?_
  rintro e w2 ⟨rfl, hw⟩
  subst hw
  cases ht : (decide (0 ≤ a1) && decide (a1 ≤ 1073741824)) with
  | false =>
   have HTT := Aside0.mk ht
   clear ht
   go_wp2_with fail
   go_ret
   refine ⟨?_, HB.out⟩
   rw [HV.out, HTT.out]
   simp
  | true =>
   have HTT := Aside0.mk ht
   clear ht
   go_wp2_with fail
   refine (HT.out _ _).mono ?_
   rintro e w2 ⟨rfl, hw⟩
   subst hw
   cases ht2 : (decide (0 ≤ a2) && decide (a2 ≤ 1073741824)) with
   | false =>
    have HT2 := Aside0.mk ht2
    clear ht2
    go_wp2_with fail
    go_ret
    refine ⟨?_, HB.out⟩
    rw [HV.out, HTT.out, HT2.out]
    simp
   | true =>
    have HT2 := Aside0.mk ht2
    clear ht2
    go_wp2_with fail
    go_ret
    refine ⟨?_, HB.out⟩
    rw [HV.out, HTT.out, HT2.out]
    simp [h1, h9]
end Go.Proofs.YtbfimjncophcaaaDoor.Pr
namespace Go.Proofs.YtbfimjncophcaaaDoor.Pr
set_option linter.unusedVariables false
set_option linter.unusedSimpArgs false
open Go.RowKit Go.Maps Go.Proofs.YtbfimjncophcaaaDoorW.PrintWords Go.Proofs.YtbfimjncophcaaaDoorW.PrintLast Go.Proofs.YtbfimjncophcaaaDoorW.PrintMore
theorem key3 : Keyed Tryd.prog 3 := int_keyed Tryd.underlying3
theorem zero3 (w : World) : (zeroValue 3).run Tryd.prog w = .ok (.int .i64 0) w := by kernel_rfl
def MapF (W : World) (b n : Nat) (f : Int → Int) : Prop :=
 ∃ D : DataW Unit, W.ownsMap Tryd.prog 3 (plainElem Tryd.prog 3) b n D ∧ ∀ k, (Lit.int .i64 k).wf = true → D.atKey (.int .i64 k) (.lit (.int .i64 0)) = .lit (.int .i64 (f k))
theorem MapF.same {W W1 : World} {b n : Nat} {f : Int → Int} (h : MapF W b n f) (hb : W1.heap[b]? = W.heap[b]?) : MapF W1 b n f := by
 obtain ⟨D, ⟨es, clock, h1, h2, h3, h4⟩, hD⟩ := h
 exact ⟨D, ⟨es, clock, hb.trans h1, h2, h3, h4⟩, hD⟩
theorem MapF.lt {W : World} {b n : Nat} {f : Int → Int} (h : MapF W b n f) : b < W.heap.size := by
 obtain ⟨D, ⟨es, clock, h1, _⟩, _⟩ := h
 exact blk_lt h1
theorem MapF.below {W W1 : World} {b n : Nat} {f : Int → Int} (h : MapF W b n f) (hb : Below W.heap.size W W1) : MapF W1 b n f := h.same (hb.block b h.lt)
theorem MapF.made (W : World) : MapF (W.alloc (.map #[] 0)) W.heap.size 0 (fun _ => 0) := ⟨_, World.ownsMap_made _ _ _ _, fun k hk => rfl⟩
theorem makeMap_event {W : World} {ops : Array Oper} {rest : List Oper} {o : Oper} {a : Act} {Q : Exit → Act → World → Prop} (hgd : o.guard = none) (ho : o.op = .makeMap 68 none)
  (h : ∀ g, g = W.heap.size → ∀ w1, MapF w1 g 0 (fun _ => 0) → Below W.heap.size W w1 → wpList Tryd.prog ops Q rest (a.put o.dst (.map (some g))) w1) : wpList Tryd.prog ops Q (o :: rest) a W := by
 refine Kd.event_run hgd (v := .map (some W.heap.size)) (w1 := W.alloc (.map #[] 0)) ?_ (h _ rfl _ (MapF.made W) (below_alloc (Below.refl _ _) _))
 rw [show execOp a.eval o = (Next.value <$> Instr.makeMap 68 none) from by simp [execOp, ho]]
 rfl
theorem MapF.grown {W W1 : World} {b n : Nat} {f : Int → Int} {row : Option Nat} (h : MapF W b n f) (hg : W.grownBy W1 row) (hne : some b ≠ row) : MapF W1 b n f := h.same (hg.block b h.lt hne)
theorem MapF.lookup {W : World} {ops : Array Oper} {rest : List Oper} {o : Oper} {a : Act} {Q : Exit → Act → World → Prop} {b n : Nat} {f : Int → Int} (h : MapF W b n f)
  (hg : o.guard = none) (m x : Operand) (hop : o.op = Op.lookup 68 m x false) (hm : a.eval m = .map (some b)) (k : Int) (hx : a.eval x = .int .i64 k) (hk : (Lit.int .i64 k).wf = true)
  (hK : (Lit.int .i64 (f k)).wf = true → wpList Tryd.prog ops Q rest (a.put o.dst (.int .i64 (f k))) W) : wpList Tryd.prog ops Q (o :: rest) a W := by
 obtain ⟨D, hown, hD⟩ := h
 refine wpList_lookup_own_int W hg m x 68 hop 3 3 .i64 key3 Tryd.underlying68 Tryd.underlying3 (zero3 _) b n D hm hown _ _ hx (keyOf_int_mk Tryd.underlying3 hk) ?_
 intro c hat hwc
 rw [hD k hk] at hat
 have e : f k = c := by injection hat with h1; injection h1
 rw [e] at hK
 exact hK hwc
theorem MapF.update {W : World} {ops : Array Oper} {rest : List Oper} {o : Oper} {a : Act} {Q : Exit → Act → World → Prop} {b n : Nat} {f : Int → Int} (h : MapF W b n f)
  (hg : o.guard = none) (m x v : Operand) (hop : o.op = Op.mapUpdate 68 m x v) (hm : a.eval m = .map (some b)) (hn : n < 1000000) (k y : Int) (hx : a.eval x = .int .i64 k) (hv : a.eval v = .int .i64 y)
  (hk : (Lit.int .i64 k).wf = true) (hy : (Lit.int .i64 y).wf = true)
  (hK : ∀ w', MapF w' b (n + 1) (fun j => if j = k then y else f j) → W.grownBy w' (some b) → wpList Tryd.prog ops Q rest (a.put o.dst undef) w') : wpList Tryd.prog ops Q (o :: rest) a W := by
 obtain ⟨D, hown, hD⟩ := h
 refine wpList_mapUpdate_own W hg m x v 68 hop 3 3 key3 Tryd.underlying68 _ b n D hm hown (by unfold maxLen; omega) _ _ _ hx hv (keyOf_int_mk Tryd.underlying3 hk) _ [] (plainElem_int Tryd.underlying3 hy) ?_
 intro w' hown' hgr
 refine hK w' ⟨_, hown', fun j hj => ?_⟩ hgr
 by_cases e : j = k
 ·subst e
  show _ = DataW.lit (.int .i64 (if j = j then y else f j))
  rw [if_pos rfl]
  exact Maps.atKey_put_same hown.isMap (show WideAt.IsKeyLit (.int .i64 j) from trivial) _ _
 ·show _ = DataW.lit (.int .i64 (if j = k then y else f j))
  rw [if_neg e, Maps.atKey_put_other (fun h => e (by injection h)) _ _]
  exact hD j hj
def countsB (subject : ByteArray) (window except at_ : Int) (id : Int) (x : S25) : Bool :=
 x.f0 == id && (x.f2.toList == subject.toList && (decide (x.f1 ≤ at_) && (decide (at_ - window ≤ x.f1) && !(id == except))))
theorem pred45 (subject : ByteArray) (A : Option Addr) (n c : Nat) (window except at_ : Int) (s0 s1 : Int) (s2 s3 : ByteArray) (S B0 : Nat) (w : World) (hS : S < w.heap.size) (hB : B0 + 2 < w.heap.size)
  (hw0 : 0 ≤ window) (hw1 : window ≤ 1073741824) (ha0 : 0 ≤ at_) (ha1 : at_ ≤ 1073741824)
  (hs : w.heap[S]? = some (.cells #[.int .i64 s0, .int .i64 s1, .string s2, .string s3] 33 (0, 0)))
  (h0 : w.heap[B0]? = some (.cells #[.string subject] 9 (0, 0))) (h1 : w.heap[B0 + 1]? = some (.cells #[.slice A n c, .int .i64 window, .int .i64 except] 41 (0, 0))) (h2 : w.heap[B0 + 2]? = some (.cells #[.int .i64 at_] 3 (0, 0))) :
  PredB Tryd.prog 45 #[.pointer (some ⟨S, 0, none⟩), .pointer (some ⟨B0, 0, none⟩), .pointer (some ⟨B0 + 2, 0, none⟩), .pointer (some ⟨B0 + 1, 0, none⟩)]
   (fun x : S25 => .agg #[.int .i64 x.f0, .int .i64 x.f1, .string x.f2, .string x.f3]) (countsB subject window except at_ s0) w := fun W x hb => by
 have c0 : W.cell? ⟨S, 0, none⟩ = some (.int .i64 s0) := (hb.cell (p := ⟨S, 0, none⟩) hS).trans (blk_cell hs 0)
 have c1 : W.cell? ⟨B0, 0, none⟩ = some (.string subject) := (hb.cell (p := ⟨B0, 0, none⟩) (by show B0 < _; omega)).trans (blk_cell h0 0)
 have c2 : W.cell? ⟨B0 + 2, 0, none⟩ = some (.int .i64 at_) := (hb.cell (p := ⟨B0 + 2, 0, none⟩) (by show B0 + 2 < _; omega)).trans (blk_cell h2 0)
 have c3 : W.cell? ⟨B0 + 1, 1, none⟩ = some (.int .i64 window) := (hb.cell (p := ⟨B0 + 1, 1, none⟩) (by show B0 + 1 < _; omega)).trans (blk_cell h1 1)
 have c4 : W.cell? ⟨B0 + 1, 2, none⟩ = some (.int .i64 except) := (hb.cell (p := ⟨B0 + 1, 2, none⟩) (by show B0 + 1 < _; omega)).trans (blk_cell h1 2)
 have hBW : B0 + 2 < W.heap.size := Nat.lt_of_lt_of_le hB hb.size
 have hSW : S < W.heap.size := Nat.lt_of_lt_of_le hS hb.size
 have n0 : S ≠ W.heap.size := by omega
 have n1 : B0 ≠ W.heap.size := by omega
 have n2 : B0 + 1 ≠ W.heap.size := by omega
 have n3 : B0 + 2 ≠ W.heap.size := by omega
 have HB := Aside0.mk hb
 clear hs h0 h1 h2 hb
 show Calls Tryd.prog 45 #[.agg #[.int .i64 x.f0, .int .i64 x.f1, .string x.f2, .string x.f3], .pointer (some ⟨S, 0, none⟩), .pointer (some ⟨B0, 0, none⟩), .pointer (some ⟨B0 + 2, 0, none⟩), .pointer (some ⟨B0 + 1, 0, none⟩)] W _
 go_enter Tryd.func45, Tryd.ntmps45
 go_wp2_with ((with_reducible refine gate_dst (N := 5) rfl ?_); refine box_event rfl (N := 5) rfl (cs := #[.int .i64 x.f0, .int .i64 x.f1, .string x.f2, .string x.f3]) (t := 25) (by first | (go_simp; done) | (go_simp; rfl)) ?_; intro g5 hg5 w5 hb5 hB5; replace c0 := (hB5.cell (p := ⟨S, 0, none⟩) hSW).trans c0; replace c1 := (hB5.cell (p := ⟨B0, 0, none⟩) (by show B0 < _; omega)).trans c1; replace c2 := (hB5.cell (p := ⟨B0 + 2, 0, none⟩) (by show B0 + 2 < _; omega)).trans c2; replace c3 := (hB5.cell (p := ⟨B0 + 1, 1, none⟩) (by show B0 + 1 < _; omega)).trans c3; replace c4 := (hB5.cell (p := ⟨B0 + 1, 2, none⟩) (by show B0 + 1 < _; omega)).trans c4; have c5 := (blk_cell hb5 0).trans (show _ = some (Value.int .i64 x.f0) from rfl); have c6 := (blk_cell hb5 1).trans (show _ = some (Value.int .i64 x.f1) from rfl); have c7 := (blk_cell hb5 2).trans (show _ = some (Value.string x.f2) from rfl); have c8 := (blk_cell hb5 3).trans (show _ = some (Value.string x.f3) from rfl); have HB5 := Aside0.mk (below_step HB.out hB5); clear hg5 hb5 hB5 hS hB hBW hSW n0 n1 n2 n3)
 all_goals (go_ret; refine ⟨?_, HB5.out⟩; clear c0 c1 c2 c3 c4 c5 c6 c7 c8; unfold countsB; first | (simp_all; done) | (simp_all [bne]; done) | (simp_all [bne]; omega) | (simp_all [bne]; intros; omega))
end Go.Proofs.YtbfimjncophcaaaDoor.Pr
namespace Go.Proofs.YtbfimjncophcaaaDoor.Pr
set_option linter.unusedVariables false
set_option linter.unusedSimpArgs false
open Go.RowKit Go.Maps Go.Proofs.YtbfimjncophcaaaDoorW.PrintWords Go.Proofs.YtbfimjncophcaaaDoorW.PrintLast Go.Proofs.YtbfimjncophcaaaDoorW.PrintMore
attribute [local go_sem] max2_int
def needOf (roles : List Int) (r : Int) : Int := (roles.count r : Nat)
def haveOf (l0 : List S33) (l1 : List S25) (subject : ByteArray) (window except at_ : Int) (r : Int) : Int := ((l0.filter fun s => l1.any (countsB subject window except at_ s.f0) && s.f1 == r).length : Nat)
def missOut (f : Int → Int) (n : Nat) : List Int := (List.range n).flatMap fun j => List.replicate (f ((j + 1 : Nat) : Int)).toNat ((j + 1 : Nat) : Int)
def missF (l0 : List S33) (l1 : List S25) (a2 : ByteArray) (l3 : List Int) (a31 a32 a4 : Int) (r : Int) : Int := needOf l3 r - haveOf l0 l1 a2 a31 a32 a4 r
def missR (e : Int) (l0 : List S33) (l1 : List S25) (a2 : ByteArray) (l3 : List Int) (a31 a32 a4 : Int) : List Int × Int :=
 if e = 0 ∧ validB l3 a31 a32 = true then (if a2.size = 32 ∧ tickB a4 = true then (missOut (missF l0 l1 a2 l3 a31 a32 a4) 9, 0) else ([], 2)) else ([], 1)
def rolesOk (l0 : List S33) : Bool := l0.all fun s => decide (1 ≤ s.f1) && decide (s.f1 ≤ 9)
def approval_Missing.f (l0 : List S33) (l1 : List S25) (a2 : ByteArray) (l3 : List Int) (a31 a32 a4 : Int) : Option (List Int × Int) :=
 (approval_Check.f (l1.length + 2) l0 l1).bind fun t => if t.2 = 0 then (if l0.length ≤ 1000 ∧ rolesOk l0 = true then some (missR t.2 l0 l1 a2 l3 a31 a32 a4) else none) else some ([], 1)
theorem needOf_step (l : List Int) (k : Nat) (x : Int) (h : l[k]? = some x) : (fun j => if j = x then needOf (l.take k) x + 1 else needOf (l.take k) j) = needOf (l.take (k + 1)) := by
 funext j
 have hk : l.take (k + 1) = l.take k ++ [x] := by
  rw [List.take_add_one, h]; rfl
 unfold needOf
 rw [hk, List.count_append]
 by_cases e : j = x
 ·subst e; simp
 ·rw [if_neg e]
  have : List.count j [x] = 0 := List.count_eq_zero.2 (by simpa using e)
  simp [this]
theorem needOf_bounds (l : List Int) (j : Int) : 0 ≤ needOf l j ∧ needOf l j ≤ l.length := by
 unfold needOf
 have := List.count_le_length (a := j) (l := l)
 omega
theorem have_step (l0 : List S33) (l1 : List S25) (subject : ByteArray) (window except at_ : Int) (k : Nat) (s : S33) (c : Int → Int) (h : l0[k]? = some s) :
  (l1.any (countsB subject window except at_ s.f0) = true → (fun j => if j = s.f1 then (c s.f1 - haveOf (l0.take k) l1 subject window except at_ s.f1) - 1 else c j - haveOf (l0.take k) l1 subject window except at_ j) = fun j => c j - haveOf (l0.take (k + 1)) l1 subject window except at_ j) ∧
  (l1.any (countsB subject window except at_ s.f0) = false → haveOf (l0.take (k + 1)) l1 subject window except at_ = haveOf (l0.take k) l1 subject window except at_) := by
 have hk : l0.take (k + 1) = l0.take k ++ [s] := by
  rw [List.take_add_one, h]; rfl
 constructor
 ·intro ha
  funext j
  unfold haveOf
  rw [hk, List.filter_append, List.length_append]
  by_cases e : j = s.f1
  ·subst e
   rw [if_pos rfl]
   simp [ha]
   omega
  ·rw [if_neg e]
   have h2 : (s.f1 == j) = false := by simpa using fun h => e h.symm
   simp [ha, h2]
 ·intro ha
  funext j
  unfold haveOf
  rw [hk, List.filter_append, List.length_append]
  simp [ha]
theorem have_bounds (l0 : List S33) (l1 : List S25) (subject : ByteArray) (window except at_ : Int) (j : Int) : 0 ≤ haveOf l0 l1 subject window except at_ j ∧ haveOf l0 l1 subject window except at_ j ≤ l0.length := by
 unfold haveOf
 have := List.length_filter_le (fun s : S33 => l1.any (countsB subject window except at_ s.f0) && s.f1 == j) l0
 omega
theorem valid_len {l : List Int} {a b : Int} (h : validB l a b = true) : l.length ≤ 9 := by
 unfold validB at h
 simp only [Bool.and_eq_true, decide_eq_true_eq] at h
 exact h.2.1
theorem valid_role {l : List Int} {a b : Int} (h : validB l a b = true) {k : Nat} {x : Int} (hk : l[k]? = some x) : 1 ≤ x ∧ x ≤ 9 := by
 unfold validB at h
 simp only [Bool.and_eq_true, Bool.not_eq_true', List.any_eq_false] at h
 have h2 := h.2.2.1 x (List.mem_of_getElem? hk)
 unfold roleBad at h2
 simp at h2
 omega
theorem valid_window {l : List Int} {a b : Int} (h : validB l a b = true) : 0 ≤ a ∧ a ≤ 1073741824 := by
 unfold validB tickB at h
 simp only [Bool.and_eq_true, decide_eq_true_eq] at h
 exact h.2.2.2.1
theorem tick_of {a : Int} (h : (decide (0 ≤ a) && decide (a ≤ 1073741824)) = true) : 0 ≤ a ∧ a ≤ 1073741824 := by
 simpa only [Bool.and_eq_true, decide_eq_true_eq] using h
theorem roles_at {l0 : List S33} (h : rolesOk l0 = true) {k : Nat} {s : S33} (hk : l0[k]? = some s) : 1 ≤ s.f1 ∧ s.f1 ≤ 9 := by
 unfold rolesOk at h
 rw [List.all_eq_true] at h
 have h2 := h s (List.mem_of_getElem? hk)
 simpa using h2
theorem MapF.more {W : World} {b n : Nat} {f : Int → Int} (h : MapF W b n f) : MapF W b (n + 1) f := by
 obtain ⟨D, ⟨es, clock, h1, h2, h3, h4⟩, hD⟩ := h
 exact ⟨D, ⟨es, clock, h1, h2, by omega, h4⟩, hD⟩
theorem MapF.up {W : World} {b n m : Nat} {f : Int → Int} (h : MapF W b n f) (hm : n ≤ m) : MapF W b m f := by
 obtain ⟨D, ⟨es, clock, h1, h2, h3, h4⟩, hD⟩ := h
 exact ⟨D, ⟨es, clock, h1, h2, by omega, h4⟩, hD⟩
theorem missOut_step (F : Int → Int) (j : Nat) (z : Int) (hz : z = (j : Int) + 1) : missOut F j ++ List.replicate (F z).toNat z = missOut F (j + 1) := by
 subst hz
 unfold missOut
 rw [List.range_succ, List.flatMap_append]
 simp
theorem missOut_len (F : Int → Int) (hF : ∀ r, F r ≤ 9) (j : Nat) : (missOut F j).length ≤ 9 * j := by
 induction j with
 | zero => simp [missOut]
 | succ j ih =>
  rw [← missOut_step F j _ rfl, List.length_append, List.length_replicate]
  have := hF ((j : Int) + 1)
  omega
theorem wf_of (x : Int) (h0 : -9223372036854775808 ≤ x) (h1 : x ≤ 9223372036854775807) : (Lit.int .i64 x).wf = true := by
 show (decide (IntKind.i64.min ≤ x) && decide (x ≤ IntKind.i64.max)) = true
 rw [Bool.and_eq_true, decide_eq_true_eq, decide_eq_true_eq]
 exact ⟨h0, h1⟩
set_option maxHeartbeats 4000000 in
set_option maxRecDepth 100000 in
theorem approval_Missing.calls (A0 : Option Addr) (c0 : Nat) (l0 : List S33) (A1 : Option Addr) (c1 : Nat) (l1 : List S25) (a2 : ByteArray) (A3 : Option Addr) (c3 : Nat) (l3 : List Int) (a31 a32 a4 : Int) (r1 : List Int) (r2 : Int) (w : World)
  (hr0 : Kd.C k33 w A0 l0.length l0) (hc0 : l0.length ≤ c0) (hr1 : Kd.C k25 w A1 l1.length l1) (hc1 : l1.length ≤ c1) (hr3 : Kd.C (Kd.int .i64) w A3 l3.length l3) (hc3 : l3.length ≤ c3) (hL : LaidW w)
  (h : approval_Missing.f l0 l1 a2 l3 a31 a32 a4 = some (r1, r2)) :
  Calls Tryd.prog 19 #[.slice A0 l0.length c0, .slice A1 l1.length c1, .string a2, .agg #[.slice A3 l3.length c3, .int .i64 a31, .int .i64 a32], .int .i64 a4] w
   fun e w' => ∃ v0_ : Value, e = .returned (.tuple #[v0_, .int .i64 r2]) ∧ Kd.R (Kd.int .i64) 3 w' w.heap.size (fun _ => True) v0_ r1 ∧ Below w.heap.size w w' := by
 unfold approval_Missing.f at h
 cases hck : approval_Check.f (l1.length + 2) l0 l1 with
 | none => rw [hck] at h; simp at h
 | some t =>
 obtain ⟨t1, t2⟩ := t
 rw [hck] at h
 simp only [Option.bind_some] at h
 have HCK := Aside0.mk (fun W (hW : Below w.heap.size w W) => approval_Check.calls (l1.length + 2) A0 c0 l0 A1 c1 l1 t1 t2 W (Kd.C_below hr0 hW) hc0 (Kd.C_below hr1 hW) hc1 (hL.below hW) hck)
 have HV43 := Aside0.mk (fun W (hW : Below w.heap.size w W) => valid43 A3 c3 l3 a31 a32 W (Kd.C_below hr3 hW))
 have HT44 := Aside0.mk tick44
 have HR0 := Aside0.mk hr0
 have HR1 := Aside0.mk hr1
 have HR3 := Aside0.mk hr3
 have hm0 := hr0.2.1
 have hm1 := hr1.2.1
 have hm3 := hr3.2.1
 have eg45 : ∀ args w, (callFunc 45 args).run Tryd.prog w = .ok (.enter 45 args) w := enters_of Tryd.func45 (by kernel_rfl) rfl
 clear hr0 hr1 hr3 hL hck hc0 hc1 hc3
 have HH := Aside0.mk h
 clear h
 go_enter Tryd.func19, Tryd.ntmps19
 go_wp2_with fail
 have hB3 : Below w.heap.size w (((w.alloc (.cells #[.string a2] 9)).alloc (.cells #[.slice A3 l3.length c3, .int .i64 a31, .int .i64 a32] 41)).alloc (.cells #[.int .i64 a4] 3)) := below_alloc (below_alloc (below_alloc (Below.refl _ _) _) _) _
 refine (HCK.out _ hB3).mono ?_
 rintro e w1 ⟨rfl, hb1⟩
 have M7 := Aside0.mk (blk_below (blk_alloc (blk_alloc (blk_new w (.cells #[.string a2] 9)) (.cells #[.slice A3 l3.length c3, .int .i64 a31, .int .i64 a32] 41)) (.cells #[.int .i64 a4] 3)) hb1)
 have M8 := Aside0.mk (show w1.heap[w.heap.size + 1]? = some (.cells #[.slice A3 l3.length c3, .int .i64 a31, .int .i64 a32] 41 (0, 0)) from by
  have h0 := blk_new (w.alloc (.cells #[.string a2] 9)) (.cells #[.slice A3 l3.length c3, .int .i64 a31, .int .i64 a32] 41)
  rw [show (w.alloc (.cells #[.string a2] 9)).heap.size = w.heap.size + 1 from by simp] at h0
  exact blk_below (blk_alloc h0 _) hb1)
 have M9 := Aside0.mk (show w1.heap[w.heap.size + 2]? = some (.cells #[.int .i64 a4] 3 (0, 0)) from by
  have h0 := blk_new ((w.alloc (.cells #[.string a2] 9)).alloc (.cells #[.slice A3 l3.length c3, .int .i64 a31, .int .i64 a32] 41)) (.cells #[.int .i64 a4] 3)
  rw [show ((w.alloc (.cells #[.string a2] 9)).alloc (.cells #[.slice A3 l3.length c3, .int .i64 a31, .int .i64 a32] 41)).heap.size = w.heap.size + 2 from by simp] at h0
  exact blk_below h0 hb1)
 have HB := Aside0.mk (below_step hB3 hb1)
 clear hB3 hb1 HCK
 by_cases ht2 : t2 = 0
 case neg =>
  go_wp2_with fail
  go_ret2
  have h := HH.out
  rw [if_neg ht2] at h
  injection h with h
  injection h with h1 h2
  subst h1 h2
  exact ⟨_, rfl, Kd.R_nil _ _ _ _ _, HB.out⟩
 subst ht2
 have hh := HH.out
 rw [if_pos rfl] at hh
 clear HH
 by_cases hg : l0.length ≤ 1000 ∧ rolesOk l0 = true
 case neg => rw [if_neg hg] at hh; cases hh
 rw [if_pos hg] at hh
 injection hh with hh
 have HH := Aside0.mk hh
 have hl0 := hg.1
 have HRO := Aside0.mk hg.2
 clear hh hg
 have k0 : w1.cell? ⟨w.heap.size + 1, 0, none⟩ = some (.slice A3 l3.length c3) := blk_cell M8.out 0
 have k1 : w1.cell? ⟨w.heap.size + 1, 1, none⟩ = some (.int .i64 a31) := blk_cell M8.out 1
 have k2 : w1.cell? ⟨w.heap.size + 1, 2, none⟩ = some (.int .i64 a32) := blk_cell M8.out 2
 go_wp2_with fail
 refine (HV43.out _ HB.out).mono ?_
 rintro e w2 ⟨rfl, hb2⟩
 replace M7 := Aside0.mk (blk_below M7.out hb2)
 replace M8 := Aside0.mk (blk_below M8.out hb2)
 replace M9 := Aside0.mk (blk_below M9.out hb2)
 replace HB := Aside0.mk (below_step HB.out hb2)
 clear hb2 HV43 k0 k1 k2
 cases hv : validB l3 a31 a32 with
 | false =>
  have HV := Aside0.mk hv
  clear hv
  go_wp2_with fail
  go_ret2
  have h := HH.out
  unfold missR at h
  rw [if_neg (by rw [HV.out]; simp)] at h
  injection h with h1 h2
  subst h1 h2
  exact ⟨_, rfl, Kd.R_nil _ _ _ _ _, HB.out⟩
 | true =>
  have HV := Aside0.mk hv
  clear hv
  have k0 : w2.cell? ⟨w.heap.size, 0, none⟩ = some (.string a2) := blk_cell M7.out 0
  have k1 : w2.cell? ⟨w.heap.size + 2, 0, none⟩ = some (.int .i64 a4) := blk_cell M9.out 0
  by_cases h32 : a2.size = 32
  case neg =>
   have h32z : ¬ (a2.size : Int) = 32 := by omega
   go_wp2_with fail
   go_ret2
   have h := HH.out
   unfold missR at h
   rw [if_pos ⟨rfl, HV.out⟩, if_neg (fun hx => h32 hx.1)] at h
   injection h with h1 h2
   subst h1 h2
   exact ⟨_, rfl, Kd.R_nil _ _ _ _ _, HB.out⟩
  have h32z : (a2.size : Int) = 32 := by omega
  go_wp2_with fail
  refine (HT44.out _ _).mono ?_
  rintro e w3 ⟨rfl, hw⟩
  subst hw
  clear k0 k1
  cases ht : (decide (0 ≤ a4) && decide (a4 ≤ 1073741824)) with
  | false =>
   have HTT := Aside0.mk ht
   clear ht
   go_wp2_with fail
   go_ret2
   have h := HH.out
   unfold missR at h
   rw [if_pos ⟨rfl, HV.out⟩, if_neg (fun hx => by have h5 := hx.2; unfold tickB at h5; rw [HTT.out] at h5; cases h5)] at h
   injection h with h1 h2
   subst h1 h2
   exact ⟨_, rfl, Kd.R_nil _ _ _ _ _, HB.out⟩
  | true =>
   have HTT := Aside0.mk ht
   clear ht
   go_wp2_with (first | ((with_reducible refine gate_dst (N := 43) rfl ?_); refine makeMap_event rfl rfl ?_; intro Mb hMb w5 hM5 hB5; replace M7 := Aside0.mk (blk_below M7.out hB5); have hMlt : w.heap.size + 2 < Mb := (by rw [hMb]; exact blk_lt M9.out); replace M8 := Aside0.mk (blk_below M8.out hB5); replace M9 := Aside0.mk (blk_below M9.out hB5); replace HB := Aside0.mk (below_step HB.out hB5); have HM := Aside0.mk hM5; have k0 : w5.cell? ⟨w.heap.size + 1, 0, none⟩ = some (.slice A3 l3.length c3) := blk_cell M8.out 0; clear hMb hM5 hB5))
   clear k0
   go_loopg [16, 47] l3.length (fun gg s16 s47 wr => ∃ kk : Nat, kk ≤ l3.length ∧ l3.length - kk ≤ gg ∧ s47 = .int .i64 kk ∧ Aside0 (MapF wr Mb kk (needOf (l3.take kk))) ∧ Aside0 (wr.heap[w.heap.size]? = some (.cells #[.string a2] 9 (0, 0))) ∧ Aside0 (wr.heap[w.heap.size + 1]? = some (.cells #[.slice A3 l3.length c3, .int .i64 a31, .int .i64 a32] 41 (0, 0))) ∧ Aside0 (wr.heap[w.heap.size + 2]? = some (.cells #[.int .i64 a4] 3 (0, 0))) ∧ Aside0 (Below w.heap.size w wr))
   case atStart => exact ⟨0, Nat.zero_le _, by omega, rfl, ⟨by rw [show needOf (l3.take 0) = fun _ => 0 from by funext j; simp [needOf]]; exact HM.out⟩, M7, M8, M9, HB⟩
   case round =>
    clear HM M7 M8 M9 HB
    obtain ⟨kk, hkk, hg, rfl, HM, M7, M8, M9, HB⟩ := hrel
    have h9 := valid_len HV.out
    by_cases hlt : kk < l3.length
    ·have hltz : (kk : Int) < (l3.length : Int) := by omega
     obtain ⟨ad, e, h0⟩ := (Kd.reads_of_C (enc := Value.int .i64) (d := (0 : Int)) (h1 := fun _ => rfl) (Kd.C_below HR3.out HB.out)).at_ kk (by omega) hltz
     cases e
     simp only [Int.toNat_natCast] at h0
     have hget : l3[kk]? = some (rdOf 0 l3 kk) := by
      show l3[kk]? = some (l3.getD (kk : Int).toNat 0)
      rw [List.getD_eq_getElem?_getD, Int.toNat_natCast, List.getElem?_eq_getElem hlt]
      rfl
     have hro := valid_role HV.out hget
     have HG := Aside0.mk hget
     clear hget
     generalize rdOf 0 l3 (kk : Int) = x at h0 HG hro
     have hx0 := hro.1
     have hx1 := hro.2
     have hn0 := (needOf_bounds (l3.take kk) x).1
     have hn1 : needOf (l3.take kk) x ≤ 9 := by have := (needOf_bounds (l3.take kk) x).2; rw [List.length_take] at this; omega
     clear hro
     go_wp2_with (first
      | (at_lookup; refine MapF.lookup HM.out rfl _ _ rfl rfl x rfl (wf_of x (by omega) (by omega)) ?_; intro hwf)
      | (at_mapUpdate; refine MapF.update HM.out rfl _ _ _ rfl rfl (by omega) x (needOf (l3.take kk) x + 1) rfl rfl (wf_of x (by omega) (by omega)) (wf_of _ (by omega) (by omega)) ?_; intro w6 hM6 hG6))
     go_roundg (l3.length - (kk + 1))
     case measure => omega
     case rel =>
      exact ⟨kk + 1, by omega, by omega, by go_num, ⟨by have h7 := hM6; rw [needOf_step l3 kk x HG.out] at h7; exact h7⟩, ⟨blk_grown M7.out hG6 (fun h => by injection h with h; omega)⟩, ⟨blk_grown M8.out hG6 (fun h => by injection h with h; omega)⟩, ⟨blk_grown M9.out hG6 (fun h => by injection h with h; omega)⟩, ⟨pw_below_grown HB.out _ HB.out.size hG6 (fun k hk => by injection hk with hk; omega)⟩⟩
    ·obtain rfl : kk = l3.length := by omega
     rw [List.take_length] at HM
     have hltz : ¬ (l3.length : Int) < (l3.length : Int) := by omega
     have HM0 : Aside0 (MapF wr Mb (9 + 0) (fun r => needOf l3 r - haveOf (l0.take 0) l1 a2 a31 a32 a4 r)) := ⟨by
      have h7 := HM.out.up (m := 9 + 0) (by omega)
      have e : (fun r => needOf l3 r - haveOf (l0.take 0) l1 a2 a31 a32 a4 r) = needOf l3 := by funext j; simp [haveOf]
      rw [e]
      exact h7⟩
     go_wp2_with fail
     clear HM
     go_loopg [18, 19, 58] l0.length (fun gg s18 s19 s58 wr => ∃ kk : Nat, kk ≤ l0.length ∧ l0.length - kk ≤ gg ∧ s58 = .int .i64 kk ∧ Aside0 (MapF wr Mb (9 + kk) (fun r => needOf l3 r - haveOf (l0.take kk) l1 a2 a31 a32 a4 r)) ∧ Aside0 (wr.heap[w.heap.size]? = some (.cells #[.string a2] 9 (0, 0))) ∧ Aside0 (wr.heap[w.heap.size + 1]? = some (.cells #[.slice A3 l3.length c3, .int .i64 a31, .int .i64 a32] 41 (0, 0))) ∧ Aside0 (wr.heap[w.heap.size + 2]? = some (.cells #[.int .i64 a4] 3 (0, 0))) ∧ Aside0 (Below w.heap.size w wr))
     case atStart => exact ⟨0, Nat.zero_le _, by omega, rfl, HM0, M7, M8, M9, HB⟩
     case round =>
      clear HM0 M7 M8 M9 HB
      obtain ⟨kk, hkk, hg, rfl, HM, M7, M8, M9, HB⟩ := hrel
      by_cases hlt : kk < l0.length
      ·have hltz : (kk : Int) < (l0.length : Int) := by omega
       obtain ⟨ad, e, h0, h1, h2, h3⟩ := at_T33 (Kd.C_below HR0.out HB.out) kk (by omega) hltz
       cases e
       simp only [Int.toNat_natCast] at h0 h1 h2 h3
       have hget : l0[kk]? = some (rd_T33 l0 kk) := by
        unfold rd_T33
        rw [List.getD_eq_getElem?_getD, Int.toNat_natCast, List.getElem?_eq_getElem hlt]
        rfl
       have hro := roles_at HRO.out hget
       have HG := Aside0.mk hget
       clear hget
       generalize rd_T33 l0 (kk : Int) = s at h0 h1 h2 h3 HG hro
       obtain ⟨s0, s1, s2, s3⟩ := s
       simp only at h0 h1 h2 h3 hro
       have hx0 := hro.1
       have hx1 := hro.2
       clear hro
       go_wp2_with (first
        | ((with_reducible refine gate_dst (N := 18) rfl ?_); refine box_event rfl (N := 18) rfl (cs := #[.int .i64 0, .int .i64 0, .string ⟨#[]⟩, .string ⟨#[]⟩]) (t := 33) (by first | (go_simp; done) | (go_simp; rfl)) ?_; intro S hS w5 hb5 hB5; have hSlt : wr.heap.size ≤ S := (by rw [hS]; exact Nat.le_refl _); clear hS)
        | ((with_reducible refine gate_store (t := 33) (p := 18) (v := .tmp 61) rfl ?_); refine store_event rfl 33 (.tmp 18) (.tmp 61) rfl rfl S #[.int .i64 s0, .int .i64 s1, .string s2, .string s3] rfl rfl 33 _ hb5 (by kernel_rfl) (by rfl) (by simp [Value.oneCell']) ?_; intro w6 hb6 hG6))
       have hBl : Below wr.heap.size wr w6 := pw_below_grown hB5 _ hB5.size hG6 (fun k hk => by injection hk with hk; omega)
       have HS := Aside0.mk hb6
       have hMlt2 := HM.out.lt
       replace HM := Aside0.mk (HM.out.below hBl)
       replace M7 := Aside0.mk (blk_below M7.out hBl)
       replace M8 := Aside0.mk (blk_below M8.out hBl)
       replace M9 := Aside0.mk (blk_below M9.out hBl)
       replace HB := Aside0.mk (below_step HB.out hBl)
       have hSM : S ≠ Mb := by omega
       clear hb5 hB5 hG6 hb6 hBl h0 h1 h2 h3
       have htk := tick_of HTT.out
       have hwi := valid_window HV.out
       refine (containsFunc46 (countsB a2 a31 a32 a4 s0) 45 #[.pointer (some ⟨S, 0, none⟩), .pointer (some ⟨w.heap.size, 0, none⟩), .pointer (some ⟨w.heap.size + 2, 0, none⟩), .pointer (some ⟨w.heap.size + 1, 0, none⟩)] eg45 A1 c1 l1 w6 (Kd.C_below HR1.out HB.out) (pred45 a2 A3 l3.length c3 a31 a32 a4 s0 s1 s2 s3 S w.heap.size w6 (blk_lt HS.out) (blk_lt M9.out) hwi.1 hwi.2 htk.1 htk.2 HS.out M7.out M8.out M9.out)).mono ?_
       rintro e w7 ⟨rfl, hb7⟩
       replace HM := Aside0.mk (HM.out.below hb7)
       replace M7 := Aside0.mk (blk_below M7.out hb7)
       replace M8 := Aside0.mk (blk_below M8.out hb7)
       replace M9 := Aside0.mk (blk_below M9.out hb7)
       replace HB := Aside0.mk (below_step HB.out hb7)
       replace HS := Aside0.mk (blk_below HS.out hb7)
       clear hb7 htk hwi
       have hst := have_step l0 l1 a2 a31 a32 a4 kk ⟨s0, s1, s2, s3⟩ (needOf l3) HG.out
       have HST := Aside0.mk hst
       clear hst
       cases hany : l1.any (countsB a2 a31 a32 a4 s0) with
       | true =>
        have HA := Aside0.mk hany
        clear hany
        have k1 : w7.cell? ⟨S, 1, none⟩ = some (.int .i64 s1) := blk_cell HS.out 1
        have hn0 := (needOf_bounds l3 s1).1
        have hn1 : needOf l3 s1 ≤ 9 := by have := (needOf_bounds l3 s1).2; omega
        have hv0 := (have_bounds (l0.take kk) l1 a2 a31 a32 a4 s1).1
        have hv1 : haveOf (l0.take kk) l1 a2 a31 a32 a4 s1 ≤ 1000 := by have := (have_bounds (l0.take kk) l1 a2 a31 a32 a4 s1).2; rw [List.length_take] at this; omega
        go_wp2_with (first
         | (at_lookup; refine MapF.lookup HM.out rfl _ _ rfl rfl s1 rfl (wf_of s1 (by omega) (by omega)) ?_; intro hwf)
         | (at_mapUpdate; refine MapF.update HM.out rfl _ _ _ rfl rfl (by omega) s1 (needOf l3 s1 - haveOf (l0.take kk) l1 a2 a31 a32 a4 s1 - 1) rfl rfl (wf_of s1 (by omega) (by omega)) (wf_of _ (by omega) (by omega)) ?_; intro w8 hM8 hG8))
        go_roundg (l0.length - (kk + 1))
        case measure => omega
        case rel =>
         exact ⟨kk + 1, by omega, by omega, by go_num, ⟨by have h7 := hM8; rw [HST.out.1 HA.out] at h7; exact h7⟩, ⟨blk_grown M7.out hG8 (fun h => by injection h with h; omega)⟩, ⟨blk_grown M8.out hG8 (fun h => by injection h with h; omega)⟩, ⟨blk_grown M9.out hG8 (fun h => by injection h with h; omega)⟩, ⟨pw_below_grown HB.out _ HB.out.size hG8 (fun k hk => by injection hk with hk; omega)⟩⟩
       | false =>
        have HA := Aside0.mk hany
        clear hany
        go_wp2_with fail
        go_roundg (l0.length - (kk + 1))
        case measure => omega
        case rel =>
         exact ⟨kk + 1, by omega, by omega, by go_num, ⟨by rw [HST.out.2 HA.out, show 9 + (kk + 1) = (9 + kk) + 1 from by omega]; exact HM.out.more⟩, M7, M8, M9, HB⟩
      ·obtain rfl : kk = l0.length := by omega
       rw [List.take_length] at HM
       have hltz : ¬ (l0.length : Int) < (l0.length : Int) := by omega
       go_wp2_with fail
       have hR : missOut (missF l0 l1 a2 l3 a31 a32 a4) 9 = r1 ∧ (0 : Int) = r2 := by
        have h := HH.out
        unfold missR at h
        rw [if_pos ⟨rfl, HV.out⟩, if_pos ⟨h32, HTT.out⟩] at h
        injection h with h1 h2
        exact ⟨h1, h2⟩
       have hF : ∀ r, -1000 ≤ missF l0 l1 a2 l3 a31 a32 a4 r ∧ missF l0 l1 a2 l3 a31 a32 a4 r ≤ 9 := fun r => by
        have h1 := needOf_bounds l3 r
        have h2 := have_bounds l0 l1 a2 a31 a32 a4 r
        unfold missF
        omega
       have HM2 : Aside0 (MapF wr Mb (9 + l0.length) (missF l0 l1 a2 l3 a31 a32 a4)) := ⟨HM.out⟩
       generalize missF l0 l1 a2 l3 a31 a32 a4 = F at hR hF HM2
       have HRR := Aside0.mk hR
       have HF := Aside0.mk hF
       clear HM hR hF HH M7 M8 M9 HRO HR0 HR1 HR3 HV HTT
       have HO := Aside0.mk (Kd.R_nil (Kd.int .i64) 3 wr w.heap.size (fun k => k ≠ Mb))
       go_loopg [20, 21] 10 (fun gg s20 s21 wr => ∃ (j : Nat) (z : Int), j ≤ 9 ∧ 10 ≤ gg + j ∧ s21 = .int .i64 z ∧ Aside0 (z = (j : Int) + 1) ∧ Aside0 (MapF wr Mb (9 + l0.length) F)
        ∧ Aside0 (Kd.R (Kd.int .i64) 3 wr w.heap.size (fun k => k ≠ Mb) s20 (missOut F j)) ∧ Aside0 (Below w.heap.size w wr))
       case atStart => exact ⟨0, 1, by omega, by omega, rfl, ⟨rfl⟩, HM2, HO, HB⟩
       case round =>
        clear HM2 HO HB
        obtain ⟨j, z, hj, hg, rfl, HZ, HM, HO, HB⟩ := hrel
        by_cases hlt : j < 9
        ·have hz0 : 1 ≤ z := by have := HZ.out; omega
         have hz1 : z ≤ 9 := by have := HZ.out; omega
         have hFz := HF.out z
         obtain ⟨m, hm⟩ : ∃ m : Nat, m = (F z).toNat := ⟨_, rfl⟩
         have hm9 : m ≤ 9 := by omega
         have hmx : max (F z) 0 = (m : Int) := by omega
         have HMM := Aside0.mk hm
         clear hm hFz
         go_wp2_with (first
          | (at_lookup; refine MapF.lookup HM.out rfl _ _ rfl rfl z rfl (wf_of z (by omega) (by omega)) ?_; intro hwf))
         clear hmx hwf
         have HO0 : Aside0 (Kd.R (Kd.int .i64) 3 wr w.heap.size (fun k => k ≠ Mb) u20 (missOut F j ++ List.replicate 0 z)) := ⟨by simpa using HO.out⟩
         clear HO
         go_loopg [20, 80] m (fun gg s20 s80 wr => ∃ i : Nat, i ≤ m ∧ m - i ≤ gg ∧ s80 = .int .i64 i ∧ Aside0 (MapF wr Mb (9 + l0.length) F)
          ∧ Aside0 (Kd.R (Kd.int .i64) 3 wr w.heap.size (fun k => k ≠ Mb) s20 (missOut F j ++ List.replicate i z)) ∧ Aside0 (Below w.heap.size w wr))
         case atStart => exact ⟨0, Nat.zero_le _, by omega, rfl, HM, HO0, HB⟩
         case round =>
          clear HM HO0 HB
          obtain ⟨i, hi, hg, rfl, HM, HO, HB⟩ := hrel
          by_cases hlt2 : i < m
          ·have hltz : (i : Int) < (m : Int) := by omega
           have hx1 : (missOut F j ++ List.replicate i z).length ≤ 1000 := by
            have := missOut_len F (fun r => (HF.out r).2) j
            rw [List.length_append, List.length_replicate]
            omega
           obtain ⟨A, c, hv⟩ := Kd.R_slice HO.out
           subst hv
           go_wp2_with (first | ((with_reducible refine gate_builtin (b := .append) (xs := #[.tmp 82, .tmp 84]) rfl ?_); at_builtin; refine Kd.R_append (Kd.int .i64) (w0 := w) w.heap.size rfl (.tmp 82) (.tmp 84) 39 3 (.int .i64 0) 8 rfl Tryd.underlying39 info3 rfl (by decide) (by omega) (.slice A (missOut F j ++ List.replicate i z).length c) (missOut F j ++ List.replicate i z) (z) [.int .i64 (z)] (fun k => k ≠ Mb) (fun _ => False) rfl rfl ?aP (fun _ hk => hk.elim) ?aF ?aO ?aB ?aS ?aL ?_; (case aP => exact rfl); (case aB => exact (by repeat (first | (with_reducible first | exact HB.out | apply below_alloc | apply pw_below_drewN | apply below_drew1) | exact HB.out))); (case aF => exact (fun k hk => by have h7 := HM.out.lt; omega)); (case aO => exact HO.out); (case aS => exact (below_size (by repeat (first | (with_reducible first | exact HB.out | apply below_alloc | apply pw_below_drewN | apply below_drew1) | exact HB.out)))); (case aL => have := hx1; omega); intro v2 w2 ho hb hg_ hat; have HM2 := Aside0.mk (HM.out.grown hg_ (Kd.R_away HO.out (fun _ hk => hk))); have HO2 := Aside0.mk ho; have HB2 := Aside0.mk hb; clear HB HO HM; have HB := HB2; have HO := HO2; have HM := HM2; clear HO2 HB2 HM2 ho hb hg_ hat))
           go_roundg (m - (i + 1))
           case measure => omega
           case rel => exact ⟨i + 1, by omega, by omega, by go_num, HM, ⟨by have h7 := HO.out; rw [List.append_assoc, ← List.replicate_succ'] at h7; exact h7⟩, HB⟩
          ·obtain rfl : i = m := by omega
           have hltz : ¬ (i : Int) < (i : Int) := by omega
           go_wp2_with fail
           go_roundg (10 - (j + 1))
           case measure => omega
           case rel =>
            exact ⟨j + 1, z + 1, by omega, by omega, by go_num, ⟨by have := HZ.out; omega⟩, HM, ⟨by have h7 := HO.out; rw [HMM.out, missOut_step F j z HZ.out] at h7; exact h7⟩, HB⟩
        ·obtain rfl : j = 9 := by omega
         have hz1 : ¬ z ≤ 9 := by have := HZ.out; omega
         go_wp2_with fail
         go_ret2
         obtain ⟨h1, h2⟩ := HRR.out
         subst h1 h2
         exact ⟨_, rfl, Kd.R_mono HO.out (fun _ _ => trivial), HB.out⟩
end Go.Proofs.YtbfimjncophcaaaDoor.Pr
namespace Go.Proofs.YtbfimjncophcaaaDoor.Pr
open Go.RowKit Go.Proofs.YtbfimjncophcaaaDoorW.PrintWords Go.Proofs.YtbfimjncophcaaaDoorW.PrintLast Go.Proofs.YtbfimjncophcaaaDoorW.PrintMore
attribute [local go_sem] max2_int min2_int max_two min_two max_three min_three max_four min_four
set_option linter.unusedVariables false
set_option linter.unusedSimpArgs false
def approval_Granted.f (l0 : List (S33)) (l1 : List (S25)) (a2 : ByteArray) (l3_0 : List Int) (a3_1 : Int) (a3_2 : Int) (a4 : Int) : Option (Bool) := (approval_Missing.f l0 l1 a2 l3_0 a3_1 a3_2 a4).bind fun bt158 => (if bt158.2 = 0 then (some ((bt158.1.length : Int) == 0)) else (some false))
set_option maxHeartbeats 8000000 in
set_option maxRecDepth 100000 in
theorem approval_Granted.calls (A0 : Option Addr) (c0 : Nat) (l0 : List (S33)) (A1 : Option Addr) (c1 : Nat) (l1 : List (S25)) (a2 : ByteArray) (A3_0 : Option Addr) (c3_0 : Nat) (l3_0 : List Int) (a3_1 : Int) (a3_2 : Int) (a4 : Int) (r : Bool) (w : World) (hr0 : Kd.C k33 w A0 l0.length l0) (hc0 : l0.length ≤ c0) (hr1 : Kd.C k25 w A1 l1.length l1) (hc1 : l1.length ≤ c1) (hr3_0 : Kd.C (Kd.int .i64) w A3_0 l3_0.length l3_0) (hc3_0 : l3_0.length ≤ c3_0) (hL : LaidW w) (h : approval_Granted.f l0 l1 a2 l3_0 a3_1 a3_2 a4 = some r) :
  Calls Tryd.prog 22 #[.slice A0 l0.length c0, .slice A1 l1.length c1, .string a2, .agg #[.slice A3_0 l3_0.length c3_0, .int .i64 a3_1, .int .i64 a3_2], .int .i64 a4] w fun e w' => e = .returned (.bool r) ∧ Below w.heap.size w w' := by
 have hu41 := Tryd.underlying41
 have HR0 := Aside0.mk hr0
 have HC0 := Aside0.mk hc0
 clear hr0 hc0
 have HR1 := Aside0.mk hr1
 have HC1 := Aside0.mk hc1
 clear hr1 hc1
 have HR3_0 := Aside0.mk hr3_0
 have HC3_0 := Aside0.mk hc3_0
 clear hr3_0 hc3_0
 have HB := Aside0.mk (Below.refl w.heap.size w)
 have HLW := Aside0.mk hL
 clear hL
 have H : ((approval_Missing.f l0 l1 a2 l3_0 a3_1 a3_2 a4).bind fun bt158 => (if bt158.2 = 0 then (some ((bt158.1.length : Int) == 0)) else (some false))) = some r := h
 clear h
 replace H := Option.bind_eq_some_iff.mp H
 obtain ⟨⟨t158, t161⟩, A60, H⟩ := H
 replace H : (if t161 = 0 then (some ((t158.length : Int) == 0)) else (some false)) = some r := H
 have A6 := Aside0.mk A60
 clear A60
 by_cases c7 : t161 = 0
 ·rw [if_pos c7] at H
  have c7b0 : (t161 == 0) = true := beq_iff_eq.mpr c7
  have c7b1 : (t161 != 0) = false := bne_eq_false_iff_eq.mpr c7
  clear c7
  obtain rfl := Option.some.inj H
  go_enter Tryd.func22, Tryd.ntmps22
  go_wp2_with (first | ((with_reducible refine gate_dst (N := 8) rfl ?_); (try (refine gate_guard (by rfl) ?_; dsimp only)); refine box_event ?hg (N := 8) ?hd (cs := #[.slice A3_0 l3_0.length c3_0, .int .i64 a3_1, .int .i64 a3_2]) (t := 41) ?hr ?_; (case hd => rfl); (case hg => rfl); (case hr => first | (go_simp; done) | (go_simp; rfl)); intro gb157 hg w8 hbox hb; have n0_ := Aside0.mk (below_step (by repeat (first | (with_reducible first | exact HB.out | apply below_alloc | apply pw_below_drewN | apply below_drew1) | exact HB.out)) hb); have n1_ := Aside0.mk (hbox); have n2_ := Aside0.mk ((by rw [hg]; exact (below_size (by repeat (first | (with_reducible first | exact HB.out | apply below_alloc | apply pw_below_drewN | apply below_drew1) | exact HB.out))) : w.heap.size ≤ gb157)); have n3_ := Aside0.mk ((by rw [hg]; exact (below_size (by repeat (first | (with_reducible first | exact HB.out | apply below_alloc | apply pw_below_drewN | apply below_drew1) | exact HB.out))) : w.heap.size ≤ gb157)); clear HB; have HB := n0_; have BK157 := n1_; have GW157 := n2_; have GE157 := n3_; clear n0_ n1_ n2_ n3_; clear hb hbox hg; have hcz9_0 : w8.cell? ⟨gb157, 0, none⟩ = some (.slice A3_0 l3_0.length c3_0) := (blk_cell BK157.out 0).trans rfl; have hcz9_1 : w8.cell? ⟨gb157, 1, none⟩ = some (.int .i64 a3_1) := (blk_cell BK157.out 1).trans rfl; have hcz9_2 : w8.cell? ⟨gb157, 2, none⟩ = some (.int .i64 a3_2) := (blk_cell BK157.out 2).trans rfl; have hfz9_0 := blk_frozen BK157.out 0; have hfz9_1 := blk_frozen BK157.out 1; have hfz9_2 := blk_frozen BK157.out 2) | ((with_reducible refine gate_callee (f := 19) rfl ?_); refine goesL_ (some 19) rfl rfl Tryd.func19 (by kernel_rfl) rfl #[.slice A0 l0.length c0, .slice A1 l1.length c1, .string a2, .agg #[.slice A3_0 l3_0.length c3_0, .int .i64 a3_1, .int .i64 a3_2], .int .i64 a4] rfl (by (try simp only [List.map_toArray, List.map_cons, List.map_nil]); first | done | rfl | (simp only [List.length_drop, List.length_take]; rfl)) ?_; (with_reducible refine (approval_Missing.calls _ _ l0 _ _ l1 a2 _ _ l3_0 a3_1 a3_2 a4 t158 t161 _ ?side1 ?side2 ?side3 ?side4 ?side5 ?side6 ?side7 A6.out).mono ?_); (case side1 => repeat (first | exact (Kd.C_below HR0.out HB.out) | (with_reducible refine Kd.C_alloc ?_ _) | (with_reducible refine Kd.C_drewN ?_ _) | (with_reducible refine Kd.C_drew ?_))); (case side2 => exact HC0.out); (case side3 => repeat (first | exact (Kd.C_below HR1.out HB.out) | (with_reducible refine Kd.C_alloc ?_ _) | (with_reducible refine Kd.C_drewN ?_ _) | (with_reducible refine Kd.C_drew ?_))); (case side4 => exact HC1.out); (case side5 => repeat (first | exact (Kd.C_below HR3_0.out HB.out) | (with_reducible refine Kd.C_alloc ?_ _) | (with_reducible refine Kd.C_drewN ?_ _) | (with_reducible refine Kd.C_drew ?_))); (case side6 => exact HC3_0.out); (case side7 => exact HLW.out.below (by repeat (first | (with_reducible first | exact HB.out | apply below_alloc | apply pw_below_drewN | apply below_drew1 | refine below_set ?_ GE157.out) | exact HB.out))); rintro e w10 ⟨v159, rfl, ho0, hb⟩; refine ⟨_, rfl, ?_⟩; have n0_ := Aside0.mk (Kd.R_lower ho0 (below_size (by repeat (first | (with_reducible first | exact HB.out | apply below_alloc | apply pw_below_drewN | apply below_drew1 | refine below_set ?_ GE157.out) | exact HB.out)))); have n1_ := Aside0.mk (blk_below (g := gb157) (o := .cells #[.slice A3_0 l3_0.length c3_0, .int .i64 a3_1, .int .i64 a3_2] 41 (0, 0)) (by (with_reducible repeat (first | refine blk_drewN ?_ _ | refine blk_drew ?_ | refine blk_alloc ?_ _)); exact BK157.out) hb); have n2_ := Aside0.mk (below_step (by repeat (first | (with_reducible first | exact HB.out | apply below_alloc | apply pw_below_drewN | apply below_drew1 | refine below_set ?_ GE157.out) | exact HB.out)) hb); clear BK157; clear HB; have HO160 := n0_; have BK157 := n1_; have HB := n2_; clear n0_ n1_ n2_; (try clear hb); (try clear hb2); (try clear hk); (try clear hi); (try clear ho0); obtain ⟨Ao11, co11, eo11⟩ := Kd.R_slice HO160.out; subst eo11))
  go_ret
  exact ⟨by first | rfl | (simp [errW_none, errW_some] <;> rfl) | (simp [*, errW_none, errW_some] <;> rfl), by repeat (first | (with_reducible first | exact HB.out | apply below_alloc | apply pw_below_drewN | apply below_drew1 | refine below_set ?_ GE157.out) | exact HB.out)⟩
 ·rw [if_neg c7] at H
  have c7b0 : (t161 == 0) = false := beq_eq_false_iff_ne.mpr c7
  have c7b1 : (t161 != 0) = true := bne_iff_ne.mpr c7
  obtain rfl := Option.some.inj H
  go_enter Tryd.func22, Tryd.ntmps22
  go_wp2_with (first | ((with_reducible refine gate_dst (N := 8) rfl ?_); (try (refine gate_guard (by rfl) ?_; dsimp only)); refine box_event ?hg (N := 8) ?hd (cs := #[.slice A3_0 l3_0.length c3_0, .int .i64 a3_1, .int .i64 a3_2]) (t := 41) ?hr ?_; (case hd => rfl); (case hg => rfl); (case hr => first | (go_simp; done) | (go_simp; rfl)); intro gb157 hg w12 hbox hb; have n0_ := Aside0.mk (below_step (by repeat (first | (with_reducible first | exact HB.out | apply below_alloc | apply pw_below_drewN | apply below_drew1) | exact HB.out)) hb); have n1_ := Aside0.mk (hbox); have n2_ := Aside0.mk ((by rw [hg]; exact (below_size (by repeat (first | (with_reducible first | exact HB.out | apply below_alloc | apply pw_below_drewN | apply below_drew1) | exact HB.out))) : w.heap.size ≤ gb157)); have n3_ := Aside0.mk ((by rw [hg]; exact (below_size (by repeat (first | (with_reducible first | exact HB.out | apply below_alloc | apply pw_below_drewN | apply below_drew1) | exact HB.out))) : w.heap.size ≤ gb157)); clear HB; have HB := n0_; have BK157 := n1_; have GW157 := n2_; have GE157 := n3_; clear n0_ n1_ n2_ n3_; clear hb hbox hg; have hcz13_0 : w12.cell? ⟨gb157, 0, none⟩ = some (.slice A3_0 l3_0.length c3_0) := (blk_cell BK157.out 0).trans rfl; have hcz13_1 : w12.cell? ⟨gb157, 1, none⟩ = some (.int .i64 a3_1) := (blk_cell BK157.out 1).trans rfl; have hcz13_2 : w12.cell? ⟨gb157, 2, none⟩ = some (.int .i64 a3_2) := (blk_cell BK157.out 2).trans rfl; have hfz13_0 := blk_frozen BK157.out 0; have hfz13_1 := blk_frozen BK157.out 1; have hfz13_2 := blk_frozen BK157.out 2) | ((with_reducible refine gate_callee (f := 19) rfl ?_); refine goesL_ (some 19) rfl rfl Tryd.func19 (by kernel_rfl) rfl #[.slice A0 l0.length c0, .slice A1 l1.length c1, .string a2, .agg #[.slice A3_0 l3_0.length c3_0, .int .i64 a3_1, .int .i64 a3_2], .int .i64 a4] rfl (by (try simp only [List.map_toArray, List.map_cons, List.map_nil]); first | done | rfl | (simp only [List.length_drop, List.length_take]; rfl)) ?_; (with_reducible refine (approval_Missing.calls _ _ l0 _ _ l1 a2 _ _ l3_0 a3_1 a3_2 a4 t158 t161 _ ?side1 ?side2 ?side3 ?side4 ?side5 ?side6 ?side7 A6.out).mono ?_); (case side1 => repeat (first | exact (Kd.C_below HR0.out HB.out) | (with_reducible refine Kd.C_alloc ?_ _) | (with_reducible refine Kd.C_drewN ?_ _) | (with_reducible refine Kd.C_drew ?_))); (case side2 => exact HC0.out); (case side3 => repeat (first | exact (Kd.C_below HR1.out HB.out) | (with_reducible refine Kd.C_alloc ?_ _) | (with_reducible refine Kd.C_drewN ?_ _) | (with_reducible refine Kd.C_drew ?_))); (case side4 => exact HC1.out); (case side5 => repeat (first | exact (Kd.C_below HR3_0.out HB.out) | (with_reducible refine Kd.C_alloc ?_ _) | (with_reducible refine Kd.C_drewN ?_ _) | (with_reducible refine Kd.C_drew ?_))); (case side6 => exact HC3_0.out); (case side7 => exact HLW.out.below (by repeat (first | (with_reducible first | exact HB.out | apply below_alloc | apply pw_below_drewN | apply below_drew1 | refine below_set ?_ GE157.out) | exact HB.out))); rintro e w14 ⟨v159, rfl, ho0, hb⟩; refine ⟨_, rfl, ?_⟩; have n0_ := Aside0.mk (Kd.R_lower ho0 (below_size (by repeat (first | (with_reducible first | exact HB.out | apply below_alloc | apply pw_below_drewN | apply below_drew1 | refine below_set ?_ GE157.out) | exact HB.out)))); have n1_ := Aside0.mk (blk_below (g := gb157) (o := .cells #[.slice A3_0 l3_0.length c3_0, .int .i64 a3_1, .int .i64 a3_2] 41 (0, 0)) (by (with_reducible repeat (first | refine blk_drewN ?_ _ | refine blk_drew ?_ | refine blk_alloc ?_ _)); exact BK157.out) hb); have n2_ := Aside0.mk (below_step (by repeat (first | (with_reducible first | exact HB.out | apply below_alloc | apply pw_below_drewN | apply below_drew1 | refine below_set ?_ GE157.out) | exact HB.out)) hb); clear BK157; clear HB; have HO160 := n0_; have BK157 := n1_; have HB := n2_; clear n0_ n1_ n2_; (try clear hb); (try clear hb2); (try clear hk); (try clear hi); (try clear ho0)))
  go_ret
  exact ⟨by first | rfl | (simp [errW_none, errW_some] <;> rfl) | (simp [*, errW_none, errW_some] <;> rfl), by repeat (first | (with_reducible first | exact HB.out | apply below_alloc | apply pw_below_drewN | apply below_drew1 | refine below_set ?_ GE157.out) | exact HB.out)⟩
end Go.Proofs.YtbfimjncophcaaaDoor.Pr
namespace Go.Proofs.YtbfimjncophcaaaDoor.Pr
open Go.RowKit Go.Proofs.YtbfimjncophcaaaDoorW.PrintWords Go.Proofs.YtbfimjncophcaaaDoorW.PrintLast Go.Proofs.YtbfimjncophcaaaDoorW.PrintMore
attribute [local go_sem] max2_int min2_int max_two min_two max_three min_three max_four min_four
set_option linter.unusedVariables false
set_option linter.unusedSimpArgs false
def approval_Code.f (a0 : ByteArray) (a1_0 : Int) (a1_1 : Int) (a1_2 : ByteArray) (a1_3 : ByteArray) : Option (ByteArray × Int) := if (a0.size : Int) < 1 then (some ((⟨#[]⟩ : ByteArray), 1)) else (if (a0.size : Int) > 64 then (some ((⟨#[]⟩ : ByteArray), 1)) else ((approval_code.f a0 a1_0 a1_1 a1_2 a1_3).bind fun t163 => (some (t163, 0))))
set_option maxHeartbeats 8000000 in
set_option maxRecDepth 100000 in
theorem approval_Code.calls (a0 : ByteArray) (a1_0 : Int) (a1_1 : Int) (a1_2 : ByteArray) (a1_3 : ByteArray) (r1 : ByteArray) (r2 : Int) (w : World) (hL : LaidW w) (h : approval_Code.f a0 a1_0 a1_1 a1_2 a1_3 = some (r1, r2)) :
  Calls Tryd.prog 26 #[.string a0, .agg #[.int .i64 a1_0, .int .i64 a1_1, .string a1_2, .string a1_3]] w fun e w' => e = .returned (.tuple #[.string r1, .int .i64 r2]) ∧ Below w.heap.size w w' := by
 have hu25 := Tryd.underlying25
 have HB := Aside0.mk (Below.refl w.heap.size w)
 have HLW := Aside0.mk hL
 clear hL
 have H : (if (a0.size : Int) < 1 then (some ((⟨#[]⟩ : ByteArray), 1)) else (if (a0.size : Int) > 64 then (some ((⟨#[]⟩ : ByteArray), 1)) else ((approval_code.f a0 a1_0 a1_1 a1_2 a1_3).bind fun t163 => (some (t163, 0))))) = some (r1, r2) := h
 clear h
 by_cases c3 : (a0.size : Int) < 1
 ·rw [if_pos c3] at H
  have c3b0 : decide ((a0.size : Int) < 1) = true := decide_eq_true c3
  have c3b1 : decide (a0.size < 1) = true := decide_eq_true (by omega)
  clear c3
  simp only [Option.some.injEq, Prod.mk.injEq] at H
  obtain ⟨rfl, rfl⟩ := H
  go_enter Tryd.func26, Tryd.ntmps26
  go_wp2_with (first | ((with_reducible refine gate_dst (N := 3) rfl ?_); (try (refine gate_guard (by rfl) ?_; dsimp only)); refine box_event ?hg (N := 3) ?hd (cs := #[.int .i64 a1_0, .int .i64 a1_1, .string a1_2, .string a1_3]) (t := 25) ?hr ?_; (case hd => rfl); (case hg => rfl); (case hr => first | (go_simp; done) | (go_simp; rfl)); intro gb162 hg w4 hbox hb; have n0_ := Aside0.mk (below_step (by repeat (first | (with_reducible first | exact HB.out | apply below_alloc | apply pw_below_drewN | apply below_drew1) | exact HB.out)) hb); have n1_ := Aside0.mk (hbox); have n2_ := Aside0.mk ((by rw [hg]; exact (below_size (by repeat (first | (with_reducible first | exact HB.out | apply below_alloc | apply pw_below_drewN | apply below_drew1) | exact HB.out))) : w.heap.size ≤ gb162)); have n3_ := Aside0.mk ((by rw [hg]; exact (below_size (by repeat (first | (with_reducible first | exact HB.out | apply below_alloc | apply pw_below_drewN | apply below_drew1) | exact HB.out))) : w.heap.size ≤ gb162)); clear HB; have HB := n0_; have BK162 := n1_; have GW162 := n2_; have GE162 := n3_; clear n0_ n1_ n2_ n3_; clear hb hbox hg))
  go_ret2
  exact ⟨by first | rfl | (simp [errW_none, errW_some] <;> rfl) | (simp [*, errW_none, errW_some] <;> rfl), by repeat (first | (with_reducible first | exact HB.out | apply below_alloc | apply pw_below_drewN | apply below_drew1 | refine below_set ?_ GE162.out) | exact HB.out)⟩
 ·rw [if_neg c3] at H
  have c3b0 : decide ((a0.size : Int) < 1) = false := decide_eq_false c3
  have c3b1 : decide (a0.size < 1) = false := decide_eq_false (by omega)
  clear c3
  by_cases c5 : (a0.size : Int) > 64
  ·rw [if_pos c5] at H
   have c5b0 : decide (64 < (a0.size : Int)) = true := decide_eq_true c5
   have c5b1 : decide (64 < a0.size) = true := decide_eq_true (by omega)
   clear c5
   simp only [Option.some.injEq, Prod.mk.injEq] at H
   obtain ⟨rfl, rfl⟩ := H
   go_enter Tryd.func26, Tryd.ntmps26
   go_wp2_with (first | ((with_reducible refine gate_dst (N := 3) rfl ?_); (try (refine gate_guard (by rfl) ?_; dsimp only)); refine box_event ?hg (N := 3) ?hd (cs := #[.int .i64 a1_0, .int .i64 a1_1, .string a1_2, .string a1_3]) (t := 25) ?hr ?_; (case hd => rfl); (case hg => rfl); (case hr => first | (go_simp; done) | (go_simp; rfl)); intro gb162 hg w6 hbox hb; have n0_ := Aside0.mk (below_step (by repeat (first | (with_reducible first | exact HB.out | apply below_alloc | apply pw_below_drewN | apply below_drew1) | exact HB.out)) hb); have n1_ := Aside0.mk (hbox); have n2_ := Aside0.mk ((by rw [hg]; exact (below_size (by repeat (first | (with_reducible first | exact HB.out | apply below_alloc | apply pw_below_drewN | apply below_drew1) | exact HB.out))) : w.heap.size ≤ gb162)); have n3_ := Aside0.mk ((by rw [hg]; exact (below_size (by repeat (first | (with_reducible first | exact HB.out | apply below_alloc | apply pw_below_drewN | apply below_drew1) | exact HB.out))) : w.heap.size ≤ gb162)); clear HB; have HB := n0_; have BK162 := n1_; have GW162 := n2_; have GE162 := n3_; clear n0_ n1_ n2_ n3_; clear hb hbox hg))
   go_ret2
   exact ⟨by first | rfl | (simp [errW_none, errW_some] <;> rfl) | (simp [*, errW_none, errW_some] <;> rfl), by repeat (first | (with_reducible first | exact HB.out | apply below_alloc | apply pw_below_drewN | apply below_drew1 | refine below_set ?_ GE162.out) | exact HB.out)⟩
  ·rw [if_neg c5] at H
   have c5b0 : decide (64 < (a0.size : Int)) = false := decide_eq_false c5
   have c5b1 : decide (64 < a0.size) = false := decide_eq_false (by omega)
   clear c5
   replace H := Option.bind_eq_some_iff.mp H
   obtain ⟨t163, A70, H⟩ := H
   replace H : (some (t163, 0)) = some (r1, r2) := H
   have A7 := Aside0.mk A70
   clear A70
   simp only [Option.some.injEq, Prod.mk.injEq] at H
   obtain ⟨rfl, rfl⟩ := H
   go_enter Tryd.func26, Tryd.ntmps26
   go_wp2_with (first | ((with_reducible refine gate_dst (N := 3) rfl ?_); (try (refine gate_guard (by rfl) ?_; dsimp only)); refine box_event ?hg (N := 3) ?hd (cs := #[.int .i64 a1_0, .int .i64 a1_1, .string a1_2, .string a1_3]) (t := 25) ?hr ?_; (case hd => rfl); (case hg => rfl); (case hr => first | (go_simp; done) | (go_simp; rfl)); intro gb162 hg w8 hbox hb; have n0_ := Aside0.mk (below_step (by repeat (first | (with_reducible first | exact HB.out | apply below_alloc | apply pw_below_drewN | apply below_drew1) | exact HB.out)) hb); have n1_ := Aside0.mk (hbox); have n2_ := Aside0.mk ((by rw [hg]; exact (below_size (by repeat (first | (with_reducible first | exact HB.out | apply below_alloc | apply pw_below_drewN | apply below_drew1) | exact HB.out))) : w.heap.size ≤ gb162)); have n3_ := Aside0.mk ((by rw [hg]; exact (below_size (by repeat (first | (with_reducible first | exact HB.out | apply below_alloc | apply pw_below_drewN | apply below_drew1) | exact HB.out))) : w.heap.size ≤ gb162)); clear HB; have HB := n0_; have BK162 := n1_; have GW162 := n2_; have GE162 := n3_; clear n0_ n1_ n2_ n3_; clear hb hbox hg; have hcz9_0 : w8.cell? ⟨gb162, 0, none⟩ = some (.int .i64 a1_0) := (blk_cell BK162.out 0).trans rfl; have hcz9_1 : w8.cell? ⟨gb162, 1, none⟩ = some (.int .i64 a1_1) := (blk_cell BK162.out 1).trans rfl; have hcz9_2 : w8.cell? ⟨gb162, 2, none⟩ = some (.string a1_2) := (blk_cell BK162.out 2).trans rfl; have hcz9_3 : w8.cell? ⟨gb162, 3, none⟩ = some (.string a1_3) := (blk_cell BK162.out 3).trans rfl; have hfz9_0 := blk_frozen BK162.out 0; have hfz9_1 := blk_frozen BK162.out 1; have hfz9_2 := blk_frozen BK162.out 2; have hfz9_3 := blk_frozen BK162.out 3) | ((with_reducible refine gate_callee (f := 37) rfl ?_); refine goesL_ (some 16) rfl rfl Tryd.func37 (by kernel_rfl) rfl #[.string a0, .agg #[.int .i64 a1_0, .int .i64 a1_1, .string a1_2, .string a1_3]] rfl (by (try simp only [List.map_toArray, List.map_cons, List.map_nil]); first | done | rfl | (simp only [List.length_drop, List.length_take]; rfl)) ?_; (with_reducible refine (approval_code.calls a0 a1_0 a1_1 a1_2 a1_3 t163 _ ?side1 A7.out).mono ?_); (case side1 => exact HLW.out.below (by repeat (first | (with_reducible first | exact HB.out | apply below_alloc | apply pw_below_drewN | apply below_drew1 | refine below_set ?_ GE162.out) | exact HB.out))); rintro e w10 ⟨rfl, hb⟩; refine ⟨_, rfl, ?_⟩; have n0_ := Aside0.mk (blk_below (g := gb162) (o := .cells #[.int .i64 a1_0, .int .i64 a1_1, .string a1_2, .string a1_3] 25 (0, 0)) (by (with_reducible repeat (first | refine blk_drewN ?_ _ | refine blk_drew ?_ | refine blk_alloc ?_ _)); exact BK162.out) hb); have n1_ := Aside0.mk (below_step (by repeat (first | (with_reducible first | exact HB.out | apply below_alloc | apply pw_below_drewN | apply below_drew1 | refine below_set ?_ GE162.out) | exact HB.out)) hb); clear BK162; clear HB; have BK162 := n0_; have HB := n1_; clear n0_ n1_; (try clear hb); (try clear hb2); (try clear hk); (try clear hi)))
   go_ret2
   exact ⟨by first | rfl | (simp [errW_none, errW_some] <;> rfl) | (simp [*, errW_none, errW_some] <;> rfl), by repeat (first | (with_reducible first | exact HB.out | apply below_alloc | apply pw_below_drewN | apply below_drew1 | refine below_set ?_ GE162.out) | exact HB.out)⟩
end Go.Proofs.YtbfimjncophcaaaDoor.Pr
namespace Go.Proofs.YtbfimjncophcaaaDoor.Pr
open Go.RowKit Go.Proofs.YtbfimjncophcaaaDoorW.PrintWords Go.Proofs.YtbfimjncophcaaaDoorW.PrintLast Go.Proofs.YtbfimjncophcaaaDoorW.PrintMore
attribute [local go_sem] max2_int min2_int max_two min_two max_three min_three max_four min_four
set_option linter.unusedVariables false
set_option linter.unusedSimpArgs false
def garboardlaw58_Two.f  : Option ((List (S33))) := some (([(⟨1, 2, (⟨#[65, 110, 110, 97]⟩ : ByteArray), (⟨#[107]⟩ : ByteArray)⟩ : S33), (⟨2, 3, (⟨#[66, 111, 98]⟩ : ByteArray), (⟨#[113]⟩ : ByteArray)⟩ : S33)] : List (S33)))
set_option maxHeartbeats 8000000 in
set_option maxRecDepth 100000 in
theorem garboardlaw58_Two.calls  (r : List (S33)) (w : World) (h : garboardlaw58_Two.f  = some r) :
  Calls Tryd.prog 32 #[] w fun e w' => ∃ v0_ : Value, e = .returned (v0_) ∧ Kd.R k33 33 w' w.heap.size (fun _ => True) v0_ r ∧ Below w.heap.size w w' := by
 have hu33 := Tryd.underlying33
 have HB := Aside0.mk (Below.refl w.heap.size w)
 have H : (some (([(⟨1, 2, (⟨#[65, 110, 110, 97]⟩ : ByteArray), (⟨#[107]⟩ : ByteArray)⟩ : S33), (⟨2, 3, (⟨#[66, 111, 98]⟩ : ByteArray), (⟨#[113]⟩ : ByteArray)⟩ : S33)] : List (S33)))) = some r := h
 clear h
 obtain ⟨y167, hy167⟩ : ∃ y_ : List (S33), y_ = (([(⟨1, 2, (⟨#[65, 110, 110, 97]⟩ : ByteArray), (⟨#[107]⟩ : ByteArray)⟩ : S33), (⟨2, 3, (⟨#[66, 111, 98]⟩ : ByteArray), (⟨#[113]⟩ : ByteArray)⟩ : S33)] : List (S33))) := ⟨_, rfl⟩
 replace H : (some y167) = some r := by first | (rw [hy167]; with_reducible exact H) | (have H2_ := (Option.bind_some _ _).symm.trans H; rw [hy167]; with_reducible exact H2_) | (have H2_ := (Option.bind_some _ _).symm.trans H; with_reducible exact H2_) | with_reducible exact H | (rw [hy167]; exact H) | exact H
 have Ny167 := Aside0.mk hy167
 clear hy167
 obtain rfl := Option.some.inj H
 go_enter Tryd.func32, Tryd.ntmps32
 go_wp2_with (first | ((with_reducible refine gate_dst (N := 3) rfl ?_); refine Kd.R_lit k33 _ 33 ?hg (N := 3) ?hd (xs := ([(⟨1, 2, (⟨#[65, 110, 110, 97]⟩ : ByteArray), (⟨#[107]⟩ : ByteArray)⟩ : S33), (⟨2, 3, (⟨#[66, 111, 98]⟩ : ByteArray), (⟨#[113]⟩ : ByteArray)⟩ : S33)] : List (S33))) (inner := [.int .i64 1, .int .i64 2, .string (⟨#[65, 110, 110, 97]⟩ : ByteArray), .string (⟨#[107]⟩ : ByteArray), .int .i64 2, .int .i64 3, .string (⟨#[66, 111, 98]⟩ : ByteArray), .string (⟨#[113]⟩ : ByteArray)]) (ok := fun _ => True) (okp := fun _ => True) ?hr ?hp (fun _ hk => hk) trivial (Below.refl _ _) (Nat.le_refl _) (by simp) ?_; (case hd => rfl); (case hg => rfl); (case hr => first | (go_simp; done) | (go_simp; rfl)); (case hp => exact (Reps.c4 (show Kd.M k33 _ _ _ (⟨1, 2, (⟨#[65, 110, 110, 97]⟩ : ByteArray), (⟨#[107]⟩ : ByteArray)⟩ : S33) [.int .i64 1, .int .i64 2, .string (⟨#[65, 110, 110, 97]⟩ : ByteArray), .string (⟨#[107]⟩ : ByteArray)] from (k33_mkM _ _ _ (⟨1, 2, (⟨#[65, 110, 110, 97]⟩ : ByteArray), (⟨#[107]⟩ : ByteArray)⟩ : S33) )) (Reps.c4 (show Kd.M k33 _ _ _ (⟨2, 3, (⟨#[66, 111, 98]⟩ : ByteArray), (⟨#[113]⟩ : ByteArray)⟩ : S33) [.int .i64 2, .int .i64 3, .string (⟨#[66, 111, 98]⟩ : ByteArray), .string (⟨#[113]⟩ : ByteArray)] from (k33_mkM _ _ _ (⟨2, 3, (⟨#[66, 111, 98]⟩ : ByteArray), (⟨#[113]⟩ : ByteArray)⟩ : S33) )) (Reps.none _ _)))); intro v168 w1 ho2 hb hg_ hnew_; clear hg_ hnew_; (first | rw [← Ny167.out] at ho2 | (simp only [Int.reduceToNat] at ho2; rw [← Ny167.out] at ho2)); have n0_ := Aside0.mk (Kd.R_lower ho2 (below_size (by repeat (first | (with_reducible first | exact HB.out | apply below_alloc | apply pw_below_drewN | apply below_drew1) | exact HB.out)))); have n1_ := Aside0.mk (below_step (by repeat (first | (with_reducible first | exact HB.out | apply below_alloc | apply pw_below_drewN | apply below_drew1) | exact HB.out)) hb); clear HB; have HO169 := n0_; have HB := n1_; clear n0_ n1_; clear hb ho2))
 go_ret
 exact ⟨_, by first | rfl | (simp [errW_none, errW_some] <;> rfl) | (simp [*, errW_none, errW_some] <;> rfl), by (with_reducible repeat (first | apply Kd.R_alloc | apply Kd.R_drewN | apply Kd.R_drew)); exact HO169.out, by repeat (first | (with_reducible first | exact HB.out | apply below_alloc | apply pw_below_drewN | apply below_drew1) | exact HB.out)⟩
end Go.Proofs.YtbfimjncophcaaaDoor.Pr
namespace Go.Proofs.YtbfimjncophcaaaDoor.Pr
open Go.RowKit Go.Proofs.YtbfimjncophcaaaDoorW.PrintWords Go.Proofs.YtbfimjncophcaaaDoorW.PrintLast Go.Proofs.YtbfimjncophcaaaDoorW.PrintMore
attribute [local go_sem] max2_int min2_int max_two min_two max_three min_three max_four min_four
set_option linter.unusedVariables false
set_option linter.unusedSimpArgs false
def approval_Subject.f (a0 : ByteArray) : Option (ByteArray) := (record_Sum.f a0).bind fun t170 => (some t170)
set_option maxHeartbeats 8000000 in
set_option maxRecDepth 100000 in
theorem approval_Subject.calls (a0 : ByteArray) (r : ByteArray) (w : World) (h : approval_Subject.f a0 = some r) :
  Calls Tryd.prog 33 #[.string a0] w fun e w' => e = .returned (.string r) ∧ Below w.heap.size w w' := by
 have HB := Aside0.mk (Below.refl w.heap.size w)
 have H : ((record_Sum.f a0).bind fun t170 => (some t170)) = some r := h
 clear h
 replace H := Option.bind_eq_some_iff.mp H
 obtain ⟨t170, A20, H⟩ := H
 replace H : (some t170) = some r := H
 have A2 := Aside0.mk A20
 clear A20
 obtain rfl := Option.some.inj H
 go_enter Tryd.func33, Tryd.ntmps33
 go_wp2_with (first | ((with_reducible refine gate_callee (f := 34) rfl ?_); refine goesL_ (some 4) rfl rfl Tryd.func34 (by kernel_rfl) rfl #[.string a0] rfl (by (try simp only [List.map_toArray, List.map_cons, List.map_nil]); first | done | rfl | (simp only [List.length_drop, List.length_take]; rfl)) ?_; (with_reducible refine (record_Sum.calls a0 t170 _ A2.out).mono ?_); rintro e w3 ⟨rfl, hb⟩; refine ⟨_, rfl, ?_⟩; have n0_ := Aside0.mk (below_step (by repeat (first | (with_reducible first | exact HB.out | apply below_alloc | apply pw_below_drewN | apply below_drew1) | exact HB.out)) hb); clear HB; have HB := n0_; clear n0_; (try clear hb); (try clear hb2); (try clear hk); (try clear hi)))
 go_ret
 exact ⟨by first | rfl | (simp [errW_none, errW_some] <;> rfl) | (simp [*, errW_none, errW_some] <;> rfl), by repeat (first | (with_reducible first | exact HB.out | apply below_alloc | apply pw_below_drewN | apply below_drew1) | exact HB.out)⟩
end Go.Proofs.YtbfimjncophcaaaDoor.Pr
namespace Go.Proofs.YtbfimjncophcaaaDoor.Pr
open Go.RowKit Go.Proofs.YtbfimjncophcaaaDoorW.PrintWords Go.Proofs.YtbfimjncophcaaaDoorW.PrintLast Go.Proofs.YtbfimjncophcaaaDoorW.PrintMore
attribute [local go_sem] max2_int min2_int max_two min_two max_three min_three max_four min_four
set_option linter.unusedVariables false
set_option linter.unusedSimpArgs false
def slices_Equal_int_int.l0 : Nat → List Int → List Int → Int → Int → Option (Bool)
 | 0, _, _, _, _ => none
 | k + 1, x0, x1, x12, x13 => if x13 < x12 then (if 0 ≤ x13 then (if x13 < (x0.length : Int) then (if x13 < (x1.length : Int) then (if (rd x0 x13) = (rd x1 x13) then (slices_Equal_int_int.l0 k x0 x1 x12 (wrap64 (x13 + 1))) else (some false)) else (none)) else (none)) else (none)) else (some true)
def slices_Equal_int_int.f (k : Nat) (l0 : List Int) (l1 : List Int) : Option (Bool) := if (l0.length : Int) = (l1.length : Int) then (slices_Equal_int_int.l0 k l0 l1 (l0.length : Int) 0) else (some false)
set_option maxHeartbeats 8000000 in
set_option maxRecDepth 100000 in
theorem slices_Equal_int_int.calls (k : Nat) (A0 : Option Addr) (c0 : Nat) (l0 : List Int) (A1 : Option Addr) (c1 : Nat) (l1 : List Int) (r : Bool) (w : World) (hr0 : Kd.C (Kd.int .i64) w A0 l0.length l0) (hc0 : l0.length ≤ c0) (hr1 : Kd.C (Kd.int .i64) w A1 l1.length l1) (hc1 : l1.length ≤ c1) (h : slices_Equal_int_int.f k l0 l1 = some r) :
  Calls Tryd.prog 21 #[.slice A0 l0.length c0, .slice A1 l1.length c1] w fun e w' => e = .returned (.bool r) ∧ Drawn0 w w' := by
 have HR0 := Aside0.mk hr0
 have HC0 := Aside0.mk hc0
 clear hr0 hc0
 have HR1 := Aside0.mk hr1
 have HC1 := Aside0.mk hc1
 clear hr1 hc1
 have H : (if (l0.length : Int) = (l1.length : Int) then (slices_Equal_int_int.l0 k l0 l1 (l0.length : Int) 0) else (some false)) = some r := h
 clear h
 by_cases c3 : (l0.length : Int) = (l1.length : Int)
 ·rw [if_pos c3] at H
  have c3b0 : ((l0.length : Int) == (l1.length : Int)) = true := beq_iff_eq.mpr c3
  have c3b1 : ((l0.length : Int) != (l1.length : Int)) = false := bne_eq_false_iff_eq.mpr c3
  have c3b2 : (l0.length == l1.length) = true := by first | simpa using c3 | (simp at c3 ⊢; omega)
  clear c3
  have H' := Aside0.mk H
  clear H
  go_enter Tryd.func21, Tryd.ntmps21
  go_wp2
  repeat (go_quiet (fail); try go_wp2)
  go_loopg [13] k (fun kq v13 w' => ∃ (x13_1 : Int), v13 = .int .i64 x13_1 ∧ Aside0 (slices_Equal_int_int.l0 kq l0 l1 (l0.length : Int) x13_1 = some r) ∧ Aside0 (kq ≤ k) ∧ Drawn0 w w')
  case atStart => exact ⟨(0), (by first | rfl | (simp; done) | (simp [*]; done)), H', ⟨Nat.le_refl _⟩, by repeat (first | exact Drawn0.refl _ | apply Drawn0.step)⟩
  case round =>
   clear H'
   try clear c1
   try clear c2
   try clear p2
   try clear c3
   try clear c3b0
   try clear c3b1
   try clear c3b2
   obtain ⟨x13_1, rfl, HA, HK1, ⟨m1, rfl⟩⟩ := hrel
   cases gk with
   | zero => exact absurd HA.out (by simp [slices_Equal_int_int.l0])
   | succ k1 =>
    have H := HA.out
    clear HA
    simp only [slices_Equal_int_int.l0] at H
    by_cases c4 : x13_1 < (l0.length : Int)
    ·rw [if_pos c4] at H
     have c4b0 : decide (x13_1 < (l0.length : Int)) = true := decide_eq_true c4
     clear c4
     by_cases c5 : 0 ≤ x13_1
     ·rw [if_pos c5] at H
      have c5b0 : decide (0 ≤ x13_1) = true := decide_eq_true c5
      clear c5
      by_cases c6 : x13_1 < (l0.length : Int)
      ·rw [if_pos c6] at H
       have c6b0 : decide (x13_1 < (l0.length : Int)) = true := decide_eq_true c6
       clear c6
       by_cases c7 : x13_1 < (l1.length : Int)
       ·rw [if_pos c7] at H
        have c7b0 : decide (x13_1 < (l1.length : Int)) = true := decide_eq_true c7
        clear c7
        by_cases c8 : (rd l0 x13_1) = (rd l1 x13_1)
        ·rw [if_pos c8] at H
         have c8b0 : ((rd l0 x13_1) == (rd l1 x13_1)) = true := beq_iff_eq.mpr c8
         have c8b1 : ((rd l0 x13_1) != (rd l1 x13_1)) = false := bne_eq_false_iff_eq.mpr c8
         clear c8
         have H' := Aside0.mk H
         clear H
         have p155 : 0 ≤ (x13_1 : Int) := of_decide_eq_true (by first | (with_reducible assumption) | assumption)
         have q155 : x13_1 < (l0.length : Int) := of_decide_eq_true (by first | (with_reducible assumption) | assumption)
         obtain ⟨ad155, e155, hx155_0⟩ := Kd.at_int HR0.out x13_1 p155 q155
         cases e155
         replace p155 := eq_true p155
         replace q155 := eq_true q155
         have p156 : 0 ≤ (x13_1 : Int) := of_decide_eq_true (by first | (with_reducible assumption) | assumption)
         have q156 : x13_1 < (l1.length : Int) := of_decide_eq_true (by first | (with_reducible assumption) | assumption)
         obtain ⟨ad156, e156, hx156_0⟩ := Kd.at_int HR1.out x13_1 p156 q156
         cases e156
         replace p156 := eq_true p156
         replace q156 := eq_true q156
         go_wp2
         repeat (go_quiet (fail); try go_wp2)
         go_roundg k1
         case measure => have := HK1.out; omega
         case rel => exact ⟨(wrap64 (x13_1 + 1)), (by first | rfl | (simp; done) | (simp [*]; done)), H', ⟨by have := HK1.out; omega⟩, by repeat (first | exact Drawn0.refl _ | apply Drawn0.step)⟩
        ·rw [if_neg c8] at H
         have c8b0 : ((rd l0 x13_1) == (rd l1 x13_1)) = false := beq_eq_false_iff_ne.mpr c8
         have c8b1 : ((rd l0 x13_1) != (rd l1 x13_1)) = true := bne_iff_ne.mpr c8
         obtain rfl := Option.some.inj H
         have p155 : 0 ≤ (x13_1 : Int) := of_decide_eq_true (by first | (with_reducible assumption) | assumption)
         have q155 : x13_1 < (l0.length : Int) := of_decide_eq_true (by first | (with_reducible assumption) | assumption)
         obtain ⟨ad155, e155, hx155_0⟩ := Kd.at_int HR0.out x13_1 p155 q155
         cases e155
         replace p155 := eq_true p155
         replace q155 := eq_true q155
         have p156 : 0 ≤ (x13_1 : Int) := of_decide_eq_true (by first | (with_reducible assumption) | assumption)
         have q156 : x13_1 < (l1.length : Int) := of_decide_eq_true (by first | (with_reducible assumption) | assumption)
         obtain ⟨ad156, e156, hx156_0⟩ := Kd.at_int HR1.out x13_1 p156 q156
         cases e156
         replace p156 := eq_true p156
         replace q156 := eq_true q156
         go_wp2
         repeat (go_quiet (fail); try go_wp2)
         go_ret
         exact ⟨by first | rfl | (simp; done) | (simp [*]; done), by repeat (first | exact Drawn0.refl _ | apply Drawn0.step)⟩
       ·rw [if_neg c7] at H
        exact absurd H (by simp)
      ·rw [if_neg c6] at H
       exact absurd H (by simp)
     ·rw [if_neg c5] at H
      exact absurd H (by simp)
    ·rw [if_neg c4] at H
     have c4b0 : decide (x13_1 < (l0.length : Int)) = false := decide_eq_false c4
     clear c4
     obtain rfl := Option.some.inj H
     go_wp2
     repeat (go_quiet (fail); try go_wp2)
     go_ret
     exact ⟨by first | rfl | (simp; done) | (simp [*]; done), by repeat (first | exact Drawn0.refl _ | apply Drawn0.step)⟩
 ·rw [if_neg c3] at H
  have c3b0 : ((l0.length : Int) == (l1.length : Int)) = false := beq_eq_false_iff_ne.mpr c3
  have c3b1 : ((l0.length : Int) != (l1.length : Int)) = true := bne_iff_ne.mpr c3
  have c3b2 : (l0.length == l1.length) = false := by first | simpa using c3 | (simp at c3 ⊢; omega)
  obtain rfl := Option.some.inj H
  go_enter Tryd.func21, Tryd.ntmps21
  go_wp2
  repeat (go_quiet (fail); try go_wp2)
  go_ret
  exact ⟨by first | rfl | (simp; done) | (simp [*]; done), by repeat (first | exact Drawn0.refl _ | apply Drawn0.step)⟩
end Go.Proofs.YtbfimjncophcaaaDoor.Pr
namespace Go.Proofs.YtbfimjncophcaaaDoor.Pr
set_option linter.unusedVariables false
set_option linter.unusedSimpArgs false
open Go.RowKit Go.Proofs.YtbfimjncophcaaaDoorW.PrintWords
def TW : List S33 := [⟨1, 2, ⟨#[65, 110, 110, 97]⟩, ⟨#[107]⟩⟩, ⟨2, 3, ⟨#[66, 111, 98]⟩, ⟨#[113]⟩⟩]
def SA : ByteArray := ⟨(Lib.repeatL [97] 32).toArray⟩
def CA : ByteArray := codeOf ⟨#[107]⟩ 1 10 SA
def LA : List S25 := [⟨1, 10, SA, CA⟩]
theorem SA_size : SA.size = 32 := by decide
theorem rep_SA : strings_Repeat.f ⟨#[97]⟩ 32 = some SA := by
 unfold strings_Repeat.f
 rw [if_pos (by decide)]
 rfl
theorem code_CA (c : ByteArray) : approval_code.f ⟨#[107]⟩ 1 10 SA c = some CA := code_f _ _ _ _ _ (by decide) (by unfold i64B; decide) (by unfold i64B; decide) (by rw [SA_size]; omega)
theorem right_TW : approval_right.f TW = some true := by kernel_rfl
theorem check_nil (k : Nat) : approval_Check.f (k + 1) TW [] = some (-1, 0) := by
 unfold approval_Check.f
 rw [right_TW]
 simp only [Option.bind_some]
 rw [if_pos trivial, if_neg (by decide)]
 unfold approval_Check.l0
 rw [if_neg (by decide)]
theorem check_LA (k : Nat) : approval_Check.f (k + 2) TW LA = some (-1, 0) := by
 unfold approval_Check.f
 rw [right_TW]
 simp only [Option.bind_some]
 rw [if_pos trivial, if_neg (by show ¬ ((1 : Nat) : Int) > 1024; decide)]
 unfold approval_Check.l0
 rw [if_pos (by show (0 : Int) < ((1 : Nat) : Int); decide), if_pos (by decide), if_pos (by show (0 : Int) < ((1 : Nat) : Int); decide), if_pos (by show (0 : Int) ≤ ((1 : Nat) : Int); decide)]
 rw [show approval_fault.f TW (LA.take (0 : Int).toNat) ((rd_T25 LA 0).f0) ((rd_T25 LA 0).f1) ((rd_T25 LA 0).f2) ((rd_T25 LA 0).f3) = some 0 from by kernel_rfl]
 simp only [Option.bind_some]
 rw [if_pos trivial, show approval_signer.f TW ((rd_T25 LA 0).f0) = some 0 from by kernel_rfl]
 simp only [Option.bind_some]
 rw [if_pos (by decide), if_pos (by decide), show approval_code.f ((rd_T33 TW 0).f3) ((rd_T25 LA 0).f0) ((rd_T25 LA 0).f1) ((rd_T25 LA 0).f2) ((rd_T25 LA 0).f3) = some CA from code_CA _]
 simp only [Option.bind_some]
 rw [if_pos (show (rd_T25 LA 0).f3.toList = CA.toList from rfl)]
 unfold approval_Check.l0
 have hw : wrap64 (0 + 1) = 1 := by first | kernel_rfl | (simp [wrap64]; done) | (unfold wrap64; decide)
 rw [if_neg (by show ¬ wrap64 (0 + 1) < ((1 : Nat) : Int); rw [hw]; decide)]
theorem sign_A : approval_Sign.f 1 TW [] 1 10 SA ⟨#[]⟩ = some (LA, 0) := by
 unfold approval_Sign.f
 rw [check_nil 0]
 simp only [Option.bind_some]
 rw [if_pos trivial, if_neg (by decide), show approval_fault.f TW [] 1 10 SA ⟨#[]⟩ = some 0 from by kernel_rfl]
 simp only [Option.bind_some]
 rw [if_pos trivial, show approval_signer.f TW 1 = some 0 from by kernel_rfl]
 simp only [Option.bind_some]
 rw [if_pos (by decide), if_pos (by decide), show approval_code.f ((rd_T33 TW 0).f3) 1 10 SA ⟨#[]⟩ = some CA from code_CA _]
 rfl
theorem miss_of (k : Nat) (l3 : List Int) (a b at_ : Int) (r : List Int × Int) (hk : k = LA.length) (h : missR 0 TW LA SA l3 a b at_ = r) : approval_Missing.f TW LA SA l3 a b at_ = some r := by
 unfold approval_Missing.f
 rw [show LA.length + 2 = 1 + 2 from rfl, check_LA 1]
 simp only [Option.bind_some]
 rw [if_pos trivial, if_pos (by decide), h]
theorem miss_12 : approval_Missing.f TW LA SA [2, 3] 5 0 12 = some ([3], 0) := miss_of 1 _ _ _ _ _ rfl (by kernel_rfl)
theorem miss_16 : approval_Missing.f TW LA SA [2, 3] 5 0 16 = some ([2, 3], 0) := miss_of 1 _ _ _ _ _ rfl (by kernel_rfl)
theorem miss_10 : approval_Missing.f TW LA SA [2] 0 0 10 = some ([], 0) := miss_of 1 _ _ _ _ _ rfl (by kernel_rfl)
theorem granted_A : approval_Granted.f TW LA SA [2] 0 0 10 = some true := by
 unfold approval_Granted.f
 rw [miss_10]
 rfl
theorem Code_A : approval_Code.f ⟨#[107]⟩ 1 10 SA ⟨#[]⟩ = some (CA, 0) := by
 unfold approval_Code.f
 rw [if_neg (by decide), if_neg (by decide), code_CA]
 rfl
def ABC : ByteArray := ⟨#[97, 98, 99]⟩
theorem sum_A : record_Sum.f ⟨#[97, 98, 99]⟩ = some (shaSum ABC) := sum_f ABC (by decide)
theorem subject_A : approval_Subject.f ⟨#[97, 98, 99]⟩ = some (shaSum ABC) := by
 unfold approval_Subject.f
 rw [sum_A]
 rfl
theorem rd_LA : rd_T25 LA 0 = ⟨1, 10, SA, CA⟩ := rfl
theorem CA_size : CA.size = 32 := code_size _ _ _ _
theorem two_A : garboardlaw58_Two.f = some TW := rfl
theorem eq_3 : slices_Equal_int_int.f 4 [3] [3] = some true := by kernel_rfl
theorem eq_23 : slices_Equal_int_int.f 4 [2, 3] [2, 3] = some true := by kernel_rfl
end Go.Proofs.YtbfimjncophcaaaDoor.Pr
namespace Go.Proofs.YtbfimjncophcaaaDoor.Pr
set_option linter.unusedVariables false
set_option linter.unusedSimpArgs false
open Go.RowKit Go.Proofs.YtbfimjncophcaaaDoorW.PrintWords Go.Proofs.YtbfimjncophcaaaDoorW.PrintLast Go.Proofs.YtbfimjncophcaaaDoorW.PrintMore
def garboardlaw58_awake.f : Option Bool := some true
set_option maxHeartbeats 4000000 in
set_option maxRecDepth 100000 in
theorem garboardlaw58_awake.calls (r : Bool) (w : World) (hL : LaidW w) (h : garboardlaw58_awake.f = some r) :
  Calls Tryd.prog 9 #[] w fun e w' => e = .returned (.bool r) ∧ Below w.heap.size w w' := by
 obtain rfl : true = r := by injection h
 clear h
 have HL := Aside0.mk hL
 have HB := Aside0.mk (Below.refl w.heap.size w)
 clear hL
 go_enter Tryd.func9, Tryd.ntmps9
 go_wp2_with fail
 refine (strings_Repeat.calls _ _ SA _ rep_SA).mono ?_
 rintro e w1 ⟨rfl, hb1⟩
 replace HB := Aside0.mk (below_step HB.out hb1)
 clear hb1
 go_wp2_with fail
 refine (garboardlaw58_Two.calls TW _ two_A).mono ?_
 rintro e w2 ⟨v2, rfl, ho2, hb2⟩
 replace HB := Aside0.mk (below_step HB.out hb2)
 clear hb2
 obtain ⟨A2, c2, hv2⟩ := Kd.R_slice ho2
 subst hv2
 have hc2 := (Kd.R_reads' ho2).2.1
 have HC2 := Aside0.mk (Kd.R_reads' ho2).2.2
 clear ho2
 go_wp2_with fail
 refine (approval_Sign.calls 1 A2 c2 TW none 0 [] 1 10 SA ⟨#[]⟩ LA 0 _ HC2.out hc2 (Kd.C_nil _ _) (Nat.le_refl _) (HL.out.below HB.out) sign_A).mono ?_
 rintro e w3 ⟨v3, rfl, ho3, hb3⟩
 replace HB := Aside0.mk (below_step HB.out hb3)
 clear hb3 HC2
 obtain ⟨A3, c3, hv3⟩ := Kd.R_slice ho3
 subst hv3
 have hc3 := (Kd.R_reads' ho3).2.1
 have HC3 := Aside0.mk (Kd.R_reads' ho3).2.2
 clear ho3
 go_wp2_with (first
  | ((with_reducible refine gate_dst (N := 19) rfl ?_); go_loud (refine Kd.R_lit (Kd.int .i64) (w0 := w) w.heap.size 3 ?hg (N := 19) ?hd (xs := [2, 3]) (inner := [.int .i64 2, .int .i64 3]) (ok := fun _ => True) (okp := fun _ => True) ?hr ?hp (fun _ hk => hk) trivial ?hB ?hS (by simp) ?_); (case hd => rfl); (case hg => rfl); (case hr => first | (go_simp; done) | (go_simp; rfl)); (case hp => exact ⟨rfl, fun j p hj => by rcases j with _ | _ | j <;> simp at hj <;> subst hj <;> first | exact rfl | exact ⟨rfl, rfl⟩⟩); (case hB => exact HB.out); (case hS => exact HB.out.size); intro v4 w4 ho4 hb4 hg4 hn4; (obtain ⟨A4, c4, hv4⟩ := Kd.R_slice ho4); subst hv4; have HC4 := Aside0.mk (Kd.R_reads' ho4).2.2; have hc4 := (Kd.R_reads' ho4).2.1; replace HC3 := Aside0.mk (Kd.C_below HC3.out (pw_below_grown (Below.refl _ _) _ (Nat.le_refl _) hg4 (fun k hk => by cases hk))); clear HB; have HB := Aside0.mk hb4; clear ho4 hb4 hg4 hn4)
  | ((with_reducible refine gate_dst (N := 4) rfl ?_); refine box_event rfl (N := 4) rfl (cs := #[.slice none 0 0, .int .i64 0, .int .i64 0]) (t := 41) (by first | (go_simp; done) | (go_simp; rfl)) ?_; intro G hG w5 hb5 hB5)
  | ((with_reducible refine gate_store (t := 41) (p := 4) (v := .tmp 20) rfl ?_); refine store_event rfl 41 (.tmp 4) (.tmp 20) rfl rfl G #[.slice A4 2 c4, .int .i64 5, .int .i64 0] rfl rfl 41 _ hb5 (by kernel_rfl) (by rfl) (by simp [Value.oneCell']) ?_; intro w6 hb6 hG6))
 have hB56 := pw_below_grown hB5 (some G) hB5.size hG6 (fun k hk => by injection hk with hk; omega)
 replace HB := Aside0.mk (below_step HB.out hB56)
 replace HC3 := Aside0.mk (Kd.C_below HC3.out hB56)
 replace HC4 := Aside0.mk (Kd.C_below HC4.out hB56)
 have BS := Aside0.mk hb6
 clear hG hb5 hB5 hG6 hb6 hB56
 have k0 : w6.cell? ⟨G, 0, none⟩ = some (.slice A4 2 c4) := blk_cell BS.out 0
 have k1 : w6.cell? ⟨G, 1, none⟩ = some (.int .i64 5) := blk_cell BS.out 1
 have k2 : w6.cell? ⟨G, 2, none⟩ = some (.int .i64 0) := blk_cell BS.out 2
 have GL : G < w6.heap.size := blk_lt BS.out
 go_region_held3 (fun w' => w'.cell? ⟨G, 0, none⟩ = some (.slice A4 2 c4) ∧ w'.cell? ⟨G, 1, none⟩ = some (.int .i64 5) ∧ w'.cell? ⟨G, 2, none⟩ = some (.int .i64 0))
  (first | exact ⟨k0, k1, k2⟩ | exact ⟨q0, q1, q2⟩ | exact ⟨p0, p1, p2⟩)
  (first
   | (go_at_call 32; refine (garboardlaw58_Two.calls TW _ two_A).mono ?_; rintro e wa ⟨va, rfl, hoa, hba⟩; (obtain ⟨Aa, ca, hva⟩ := Kd.R_slice hoa); subst hva; have hca := (Kd.R_reads' hoa).2.1; have HCa := Aside0.mk (Kd.R_reads' hoa).2.2; have HBa := Aside0.mk (below_step (below_drew1 HB.out) hba); have q0 := (hba.cell (p := ⟨G, 0, none⟩) GL).trans k0; have q1 := (hba.cell (p := ⟨G, 1, none⟩) GL).trans k1; have q2 := (hba.cell (p := ⟨G, 2, none⟩) GL).trans k2; have HCb := Aside0.mk (Kd.C_below (Kd.C_drew HC3.out) hba); have HCc := Aside0.mk (Kd.C_below (Kd.C_drew HC4.out) hba); have GLa := Nat.lt_of_lt_of_le GL hba.size; have BSa := Aside0.mk (blk_below (blk_drew BS.out) hba); clear hoa hba)
   | (go_at_call 19; refine (approval_Missing.calls Aa ca TW A3 c3 LA SA A4 c4 [2, 3] 5 0 12 [3] 0 _ HCa.out hca HCb.out hc3 HCc.out hc4 (HL.out.below HBa.out) miss_12).mono ?_; rintro e wb ⟨vb, rfl, hob, hbb⟩; have HBb := Aside0.mk (below_step HBa.out hbb); have p0 := (hbb.cell (p := ⟨G, 0, none⟩) GLa).trans q0; have p1 := (hbb.cell (p := ⟨G, 1, none⟩) GLa).trans q1; have p2 := (hbb.cell (p := ⟨G, 2, none⟩) GLa).trans q2; have HCd := Aside0.mk (Kd.C_below HCb.out hbb); have HCe := Aside0.mk (Kd.C_below HCc.out hbb); have GLb := Nat.lt_of_lt_of_le GLa hbb.size; have BSb := Aside0.mk (blk_below BSa.out hbb); have HO1 := Aside0.mk hob; clear hob hbb))
 replace HB := HBb
 replace HC3 := HCd
 replace HC4 := HCe
 replace BS := BSb
 have GL := GLb
 have k0 := p0
 have k1 := p1
 have k2 := p2
 obtain ⟨A5, c5, hvb1⟩ := Kd.R_slice HO1.out
 subst hvb1
 have hc5 := (Kd.R_reads' HO1.out).2.1
 have HD5 := Aside0.mk (Kd.R_reads' HO1.out).2.2
 clear HBb HCd HCe BSb GLb p0 p1 p2 q0 q1 q2 HCa HBa HCb HCc GLa BSa hca HO1
 go_wp2_with fail
 go_region_held3 (fun w' => w'.cell? ⟨G, 0, none⟩ = some (.slice A4 2 c4) ∧ w'.cell? ⟨G, 1, none⟩ = some (.int .i64 5) ∧ w'.cell? ⟨G, 2, none⟩ = some (.int .i64 0))
  (first | exact ⟨k0, k1, k2⟩ | exact ⟨q0, q1, q2⟩ | exact ⟨p0, p1, p2⟩)
  (first
   | (go_at_call 32; refine (garboardlaw58_Two.calls TW _ two_A).mono ?_; rintro e wa ⟨va, rfl, hoa, hba⟩; (obtain ⟨Aa, ca, hva⟩ := Kd.R_slice hoa); subst hva; have hca := (Kd.R_reads' hoa).2.1; have HCa := Aside0.mk (Kd.R_reads' hoa).2.2; have HBa := Aside0.mk (below_step (below_drew1 HB.out) hba); have q0 := (hba.cell (p := ⟨G, 0, none⟩) GL).trans k0; have q1 := (hba.cell (p := ⟨G, 1, none⟩) GL).trans k1; have q2 := (hba.cell (p := ⟨G, 2, none⟩) GL).trans k2; have HCb := Aside0.mk (Kd.C_below (Kd.C_drew HC3.out) hba); have HCc := Aside0.mk (Kd.C_below (Kd.C_drew HC4.out) hba); have HCx := Aside0.mk (Kd.C_below (Kd.C_drew HD5.out) hba); have GLa := Nat.lt_of_lt_of_le GL hba.size; have BSa := Aside0.mk (blk_below (blk_drew BS.out) hba); clear hoa hba)
   | (go_at_call 19; refine (approval_Missing.calls Aa ca TW A3 c3 LA SA A4 c4 [2, 3] 5 0 16 [2, 3] 0 _ HCa.out hca HCb.out hc3 HCc.out hc4 (HL.out.below HBa.out) miss_16).mono ?_; rintro e wb ⟨vb, rfl, hob, hbb⟩; have HBb := Aside0.mk (below_step HBa.out hbb); have p0 := (hbb.cell (p := ⟨G, 0, none⟩) GLa).trans q0; have p1 := (hbb.cell (p := ⟨G, 1, none⟩) GLa).trans q1; have p2 := (hbb.cell (p := ⟨G, 2, none⟩) GLa).trans q2; have HCd := Aside0.mk (Kd.C_below HCb.out hbb); have HCe := Aside0.mk (Kd.C_below HCc.out hbb); have HCy := Aside0.mk (Kd.C_below HCx.out hbb); have GLb := Nat.lt_of_lt_of_le GLa hbb.size; have BSb := Aside0.mk (blk_below BSa.out hbb); have HO2 := Aside0.mk hob; clear hob hbb))
 replace HB := HBb
 replace HC3 := HCd
 replace HC4 := HCe
 replace BS := BSb
 have GL := GLb
 have k0 := p0
 have k1 := p1
 have k2 := p2
 obtain ⟨A6, c6, hvb2⟩ := Kd.R_slice HO2.out
 subst hvb2
 have hc6 := (Kd.R_reads' HO2.out).2.1
 have HD6 := Aside0.mk (Kd.R_reads' HO2.out).2.2
 clear HBb HCd HCe BSb GLb p0 p1 p2 q0 q1 q2 HCa HBa HCb HCc GLa BSa hca HO2
 replace HD5 := HCy
 clear HCx HCy k0 k1 k2 GL BS HC4
 go_wp2_with fail
 refine (approval_Code.calls ⟨#[107]⟩ 1 10 SA ⟨#[]⟩ CA 0 _ (HL.out.below HB.out) Code_A).mono ?_
 rintro e w7 ⟨rfl, hb7⟩
 replace HB := Aside0.mk (below_step HB.out hb7)
 replace HC3 := Aside0.mk (Kd.C_below HC3.out hb7)
 replace HD5 := Aside0.mk (Kd.C_below HD5.out hb7)
 replace HD6 := Aside0.mk (Kd.C_below HD6.out hb7)
 clear hb7
 obtain ⟨C, hC⟩ : ∃ C, C = CA := ⟨_, rfl⟩
 rw [← hC]
 have hCA : (C.size : Int) = 32 := by rw [hC, CA_size]; rfl
 have HCC := Aside0.mk hC
 clear hC
 go_wp2_with (first | ((with_reducible refine gate_dst (N := 59) rfl ?_); (try (refine gate_guard (by rfl) ?_; dsimp only)); go_loud (refine Kd.R_lit (Kd.int .i64) (w0 := w) w.heap.size 3 ?hg (N := 59) ?hd (xs := [3]) (inner := [.int .i64 3]) (ok := fun _ => True) (okp := fun _ => True) ?hr ?hp (fun _ hk => hk) trivial ?hB ?hS (by simp) ?_); (case hd => rfl); (case hg => rfl); (case hr => first | (go_simp; done) | (go_simp; rfl)); (case hp => exact ⟨rfl, fun j p hj => by rcases j with _ | _ | j <;> simp at hj <;> subst hj <;> first | exact rfl | exact ⟨rfl, rfl⟩⟩); (case hB => exact HB.out); (case hS => exact HB.out.size); intro v4 w59 ho4 hb4 hg4 hn4; (obtain ⟨A59, c59, hv4⟩ := Kd.R_slice ho4); subst hv4; have HL59 := Aside0.mk (Kd.R_reads' ho4).2.2; have hc59 := (Kd.R_reads' ho4).2.1; replace HC3 := Aside0.mk (Kd.C_below HC3.out (pw_below_grown (Below.refl _ _) _ (Nat.le_refl _) hg4 (fun k hk => by cases hk))); replace HD5 := Aside0.mk (Kd.C_below HD5.out (pw_below_grown (Below.refl _ _) _ (Nat.le_refl _) hg4 (fun k hk => by cases hk))); replace HD6 := Aside0.mk (Kd.C_below HD6.out (pw_below_grown (Below.refl _ _) _ (Nat.le_refl _) hg4 (fun k hk => by cases hk))); clear HB; have HB := Aside0.mk hb4; clear ho4 hb4 hg4 hn4))
 refine (slices_Equal_int_int.calls 4 A5 c5 [3] A59 c59 [3] true _ HD5.out hc5 HL59.out hc59 eq_3).mono ?_
 rintro e w8 ⟨rfl, ⟨n8, rfl⟩⟩
 replace HB := Aside0.mk (pw_below_drewN HB.out n8)
 replace HC3 := Aside0.mk (Kd.C_drewN HC3.out n8)
 replace HD6 := Aside0.mk (Kd.C_drewN HD6.out n8)
 generalize w59.drewN n8 = w8 at HB HC3 HD6 ⊢
 go_wp2_with (first | ((with_reducible refine gate_dst (N := 64) rfl ?_); (try (refine gate_guard (by rfl) ?_; dsimp only)); go_loud (refine Kd.R_lit (Kd.int .i64) (w0 := w) w.heap.size 3 ?hg (N := 64) ?hd (xs := [2, 3]) (inner := [.int .i64 2, .int .i64 3]) (ok := fun _ => True) (okp := fun _ => True) ?hr ?hp (fun _ hk => hk) trivial ?hB ?hS (by simp) ?_); (case hd => rfl); (case hg => rfl); (case hr => first | (go_simp; done) | (go_simp; rfl)); (case hp => exact ⟨rfl, fun j p hj => by rcases j with _ | _ | j <;> simp at hj <;> subst hj <;> first | exact rfl | exact ⟨rfl, rfl⟩⟩); (case hB => exact HB.out); (case hS => exact HB.out.size); intro v4 w64 ho4 hb4 hg4 hn4; (obtain ⟨A64, c64, hv4⟩ := Kd.R_slice ho4); subst hv4; have HL64 := Aside0.mk (Kd.R_reads' ho4).2.2; have hc64 := (Kd.R_reads' ho4).2.1; replace HC3 := Aside0.mk (Kd.C_below HC3.out (pw_below_grown (Below.refl _ _) _ (Nat.le_refl _) hg4 (fun k hk => by cases hk))); replace HD6 := Aside0.mk (Kd.C_below HD6.out (pw_below_grown (Below.refl _ _) _ (Nat.le_refl _) hg4 (fun k hk => by cases hk))); clear HB; have HB := Aside0.mk hb4; clear ho4 hb4 hg4 hn4))
 refine (slices_Equal_int_int.calls 4 A6 c6 [2, 3] A64 c64 [2, 3] true _ HD6.out hc6 HL64.out hc64 eq_23).mono ?_
 rintro e w9 ⟨rfl, ⟨n9, rfl⟩⟩
 replace HB := Aside0.mk (pw_below_drewN HB.out n9)
 replace HC3 := Aside0.mk (Kd.C_drewN HC3.out n9)
 generalize w64.drewN n9 = w9 at HB HC3 ⊢
 obtain ⟨ad, e, h0, h1, h2, h3⟩ := at_T25 HC3.out 0 (by omega) (by decide)
 rw [rd_LA, ← HCC.out] at h3
 clear h0 h1 h2
 rw [show (0 : Int).toNat * 4 = 0 from rfl] at h3
 have ea : ad.add 0 = ad := by cases ad; simp [Addr.add]
 rw [ea] at h3
 clear ea
 have h4 : (LA.length : Int) = 1 := rfl
 cases e
 go_wp2_with fail
 refine (garboardlaw58_Two.calls TW _ two_A).mono ?_
 rintro e w10 ⟨v10, rfl, ho10, hb10⟩
 obtain ⟨A10, c10, hv10⟩ := Kd.R_slice ho10
 subst hv10
 have hc10 := (Kd.R_reads' ho10).2.1
 have HC10 := Aside0.mk (Kd.R_reads' ho10).2.2
 replace HB := Aside0.mk (below_step HB.out hb10)
 replace HC3 := Aside0.mk (Kd.C_below HC3.out hb10)
 clear ho10 hb10 h3 h4
 go_wp2_with (first | ((with_reducible refine gate_dst (N := 89) rfl ?_); (try (refine gate_guard (by rfl) ?_; dsimp only)); go_loud (refine Kd.R_lit (Kd.int .i64) (w0 := w) w.heap.size 3 ?hg (N := 89) ?hd (xs := [2]) (inner := [.int .i64 2]) (ok := fun _ => True) (okp := fun _ => True) ?hr ?hp (fun _ hk => hk) trivial ?hB ?hS (by simp) ?_); (case hd => rfl); (case hg => rfl); (case hr => first | (go_simp; done) | (go_simp; rfl)); (case hp => exact ⟨rfl, fun j p hj => by rcases j with _ | _ | j <;> simp at hj <;> subst hj <;> first | exact rfl | exact ⟨rfl, rfl⟩⟩); (case hB => exact HB.out); (case hS => exact HB.out.size); intro v4 w89 ho4 hb4 hg4 hn4; (obtain ⟨A89, c89, hv4⟩ := Kd.R_slice ho4); subst hv4; have HL89 := Aside0.mk (Kd.R_reads' ho4).2.2; have hc89 := (Kd.R_reads' ho4).2.1; replace HC3 := Aside0.mk (Kd.C_below HC3.out (pw_below_grown (Below.refl _ _) _ (Nat.le_refl _) hg4 (fun k hk => by cases hk))); replace HC10 := Aside0.mk (Kd.C_below HC10.out (pw_below_grown (Below.refl _ _) _ (Nat.le_refl _) hg4 (fun k hk => by cases hk))); clear HB; have HB := Aside0.mk hb4; clear ho4 hb4 hg4 hn4))
 refine (approval_Granted.calls A10 c10 TW (some ad) c3 LA SA A89 c89 [2] 0 0 10 true _ HC10.out hc10 HC3.out hc3 HL89.out hc89 (HL.out.below HB.out) granted_A).mono ?_
 rintro e w11 ⟨rfl, hb11⟩
 replace HB := Aside0.mk (below_step HB.out hb11)
 clear hb11 HC3 HC10 HL89
 go_wp2_with fail
 refine (approval_Subject.calls _ (shaSum ABC) _ subject_A).mono ?_
 rintro e w12 ⟨rfl, hb12⟩
 replace HB := Aside0.mk (below_step HB.out hb12)
 clear hb12
 generalize hD : shaSum ABC = D
 have HD := Aside0.mk hD
 clear hD
 go_wp2_with fail
 refine (record_Sum.calls _ D _ (by rw [← HD.out]; exact sum_A)).mono ?_
 rintro e w13 ⟨rfl, hb13⟩
 replace HB := Aside0.mk (below_step HB.out hb13)
 clear hb13
 go_wp2_with fail
 go_ret
 exact ⟨rfl, HB.out⟩
end Go.Proofs.YtbfimjncophcaaaDoor.Pr
namespace Go.Proofs.YtbfimjncophcaaaDoor.Pr
open Go.RowKit Go.Proofs.YtbfimjncophcaaaDoorW.PrintWords Go.Proofs.YtbfimjncophcaaaDoorW.PrintLast Go.Proofs.YtbfimjncophcaaaDoorW.PrintMore
attribute [local go_sem] max2_int min2_int max_two min_two max_three min_three max_four min_four
set_option linter.unusedVariables false
set_option linter.unusedSimpArgs false
def garboardref58_valid.l0 : Nat → Int → List Int → Int → Int → Option (Bool)
 | 0, _, _, _, _ => none
 | k + 1, x3, x269000, x269001, x269002 => if x3 < (x269000.length : Int) then (if 0 ≤ x3 then (if (rd x269000 x3) < 1 then (some false) else (if (rd x269000 x3) > 9 then (some false) else (garboardref58_valid.l0 k (wrap64 (x3 + 1)) x269000 x269001 x269002))) else (none)) else (if (x269000.length : Int) ≥ 1 then (if (x269000.length : Int) ≤ 9 then (if x269001 ≥ 0 then (if x269001 ≤ 1073741824 then (if x269002 ≥ 0 then (some (decide (x269002 ≤ 1073741824))) else (some false)) else (some false)) else (some false)) else (some false)) else (some false))
def garboardref58_valid.f (k : Nat) (l0_0 : List Int) (a0_1 : Int) (a0_2 : Int) : Option (Bool) := garboardref58_valid.l0 k 0 l0_0 a0_1 a0_2
end Go.Proofs.YtbfimjncophcaaaDoor.Pr
namespace Go.Proofs.YtbfimjncophcaaaDoor.Pr
set_option linter.unusedVariables false
set_option linter.unusedSimpArgs false
open Go.RowKit Go.Proofs.YtbfimjncophcaaaDoorW.PrintWords
theorem wrap_id (n : Int) (h0 : -9223372036854775808 ≤ n) (h1 : n ≤ 9223372036854775807) : wrap64 n = n := by unfold wrap64; omega
theorem rd_get (l : List Int) (i : Nat) (h : i < l.length) : rd l (i : Int) = l[i] := by
 unfold rd
 simp [List.getD, h]
theorem rvalid_l0 (l : List Int) (a b : Int) (hl : l.length < 1000000) : ∀ (m i k : Nat), i + m = l.length → m < k → ((l.take i).any roleBad = false) → garboardref58_valid.l0 k (i : Int) l a b = some (validB l a b)
 | 0, i, k, hi, hk, hb => by
  obtain ⟨k, rfl⟩ : ∃ k', k = k' + 1 := ⟨k - 1, by omega⟩
  simp only [garboardref58_valid.l0]
  rw [if_neg (by omega)]
  rw [List.take_of_length_le (by omega)] at hb
  unfold validB tickB
  rw [hb]
  by_cases c1 : (l.length : Int) ≥ 1
  ·by_cases c2 : (l.length : Int) ≤ 9
   ·have d1 : 1 ≤ l.length := by omega
    have d2 : l.length ≤ 9 := by omega
    by_cases c3 : a ≥ 0
    ·by_cases c4 : a ≤ 1073741824
     ·by_cases c5 : b ≥ 0
      ·have d3 : 0 ≤ a := c3
       have d5 : 0 ≤ b := c5
       simp [c1, c2, c3, c4, c5, d1, d2, d3, d5]
      ·have d5 : ¬ 0 ≤ b := c5
       simp [c1, c2, c3, c4, c5, d1, d2, d5]
     ·simp [c1, c2, c3, c4]
    ·have d3 : ¬ 0 ≤ a := c3
     simp [c1, c2, c3, d3]
   ·have d2 : ¬ l.length ≤ 9 := by omega
    simp [c1, c2, d2]
  ·have d1 : ¬ 1 ≤ l.length := by omega
   rw [if_neg c1]
   simp [d1]
 | m + 1, i, k, hi, hk, hb => by
  obtain ⟨k, rfl⟩ : ∃ k', k = k' + 1 := ⟨k - 1, by omega⟩
  have hlt : i < l.length := by omega
  have bad : ∀ x, l[i] = x → roleBad x = true → validB l a b = false := fun x hx h => by
   unfold validB
   rw [show l.any roleBad = true from List.any_eq_true.2 ⟨l[i], List.getElem_mem hlt, by rw [hx]; exact h⟩]
   simp
  simp only [garboardref58_valid.l0]
  rw [if_pos (by omega), if_pos (by omega), rd_get l i hlt]
  by_cases c1 : l[i] < 1
  ·rw [if_pos c1, bad _ rfl (by unfold roleBad; simp [c1])]
  rw [if_neg c1]
  by_cases c2 : l[i] > 9
  ·rw [if_pos c2, bad _ rfl (by unfold roleBad; simp; omega)]
  rw [if_neg c2, wrap_succ i (by omega)]
  refine rvalid_l0 l a b hl m (i + 1) k (by omega) (by omega) ?_
  rw [List.take_add_one, List.getElem?_eq_getElem hlt, List.any_append, hb]
  simp only [Option.toList_some, List.any_cons, List.any_nil, Bool.or_false, Bool.false_or]
  unfold roleBad
  simp
  omega
theorem rvalid_f (l : List Int) (a b : Int) (k : Nat) (hl : l.length < 1000000) (hk : l.length < k) : garboardref58_valid.f k l a b = some (validB l a b) := by
 unfold garboardref58_valid.f
 exact rvalid_l0 l a b hl l.length 0 k (by omega) hk rfl
theorem have_cons (s : S33) (l0 : List S33) (l1 : List S25) (sub : ByteArray) (win exc at_ r : Int) :
  haveOf (s :: l0) l1 sub win exc at_ r = (if (l1.any (countsB sub win exc at_ s.f0) && s.f1 == r) = true then 1 else 0) + haveOf l0 l1 sub win exc at_ r := by
 unfold haveOf
 rw [List.filter_cons]
 split
 ·rw [List.length_cons]
  omega
 ·omega
theorem missOut_succ (f : Int → Int) (n : Nat) : missOut f (n + 1) = missOut f n ++ List.replicate (f ((n + 1 : Nat) : Int)).toNat ((n + 1 : Nat) : Int) := by
 unfold missOut
 rw [List.range_succ, List.flatMap_append]
 simp
theorem haveOf_bounds (l0 : List S33) (l1 : List S25) (sub : ByteArray) (win exc at_ r : Int) : 0 ≤ haveOf l0 l1 sub win exc at_ r ∧ haveOf l0 l1 sub win exc at_ r ≤ l0.length := by
 unfold haveOf
 have := List.length_filter_le (fun s : S33 => l1.any (countsB sub win exc at_ s.f0) && s.f1 == r) l0
 omega
theorem rolesOk_of (l0 : List S33) (h : rightB l0 = true) : l0.length ≤ 1000 ∧ rolesOk l0 = true := by
 unfold rightB at h
 rw [Bool.and_eq_true, decide_eq_true_eq] at h
 refine ⟨by omega, ?_⟩
 unfold rolesOk
 rw [List.all_eq_true]
 intro s hs
 obtain ⟨i, hi, rfl⟩ := List.getElem_of_mem hs
 have := List.all_eq_true.1 h.1 i (List.mem_range.2 hi)
 unfold okAt at this
 rw [rd33_get l0 i hi] at this
 simp only [Bool.not_eq_true', Bool.or_eq_false_iff, Bool.not_eq_false', Bool.and_eq_true, decide_eq_true_eq, decide_eq_false_iff_not] at this ⊢
 omega
theorem amiss_f (l0 : List S33) (l1 : List S25) (sub : ByteArray) (l3 : List Int) (win exc at_ : Int) (hl : l1.length < 1000000) (hw : ∀ a ∈ l1, Wf25 a) :
  approval_Missing.f l0 l1 sub l3 win exc at_ = some (missR (checkR l0 l1).2 l0 l1 sub l3 win exc at_) := by
 unfold approval_Missing.f
 rw [acheck_f l0 l1 (l1.length + 2) hl hw (by omega)]
 simp only [Option.bind_some]
 by_cases hc : (checkR l0 l1).2 = 0
 ·rw [if_pos hc, if_pos (rolesOk_of l0 (checkR_right l0 l1 hc))]
 ·rw [if_neg hc]
  unfold missR
  rw [if_neg (by rintro ⟨h, _⟩; exact hc h)]
theorem equal_l0 (l : List Int) (hl : l.length < 9223372036854775807) : ∀ (m i k : Nat), i + m = l.length → m < k → slices_Equal_int_int.l0 k l l (l.length : Int) (i : Int) = some true
 | 0, i, k, hi, hk => by
  obtain ⟨k, rfl⟩ : ∃ k', k = k' + 1 := ⟨k - 1, by omega⟩
  simp only [slices_Equal_int_int.l0]
  rw [if_neg (by omega)]
 | m + 1, i, k, hi, hk => by
  obtain ⟨k, rfl⟩ : ∃ k', k = k' + 1 := ⟨k - 1, by omega⟩
  have ih := equal_l0 l hl m (i + 1) k (by omega) (by omega)
  simp only [slices_Equal_int_int.l0]
  rw [if_pos (by omega), if_pos (by omega), if_pos (by omega), if_pos (by omega), if_pos trivial, wrap_succ i (by omega), ih]
theorem equal_f (l : List Int) (k : Nat) (hl : l.length < 9223372036854775807) (hk : l.length < k) : slices_Equal_int_int.f k l l = some true := by
 unfold slices_Equal_int_int.f
 rw [if_pos rfl]
 exact equal_l0 l hl l.length 0 k (by omega) hk
theorem missOut_lenb (f : Int → Int) (b : Nat) (hf : ∀ r, f r ≤ b) : ∀ n, (missOut f n).length ≤ n * b
 | 0 => by simp [missOut]
 | n + 1 => by
  have := missOut_lenb f b hf n
  have h := hf ((n + 1 : Nat) : Int)
  rw [missOut_succ, List.length_append, List.length_replicate, Nat.succ_mul]
  omega
end Go.Proofs.YtbfimjncophcaaaDoor.Pr
