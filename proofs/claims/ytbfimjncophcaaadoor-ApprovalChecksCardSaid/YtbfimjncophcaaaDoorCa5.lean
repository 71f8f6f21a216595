/- Part 5 of 6: garboardlaw58.ApprovalChecks (Check returns the first fault of any lists, and Sign the list with one more approval, or the specified error; at most 17 signers, 12 approvals) answers true for every input, and each argument reads behind the call as before. The library's table of powers of ten is tied to the program's text by the card. -/
import Derived.Test.YtbfimjncophcaaaDoorCa4
namespace Go.Proofs.YtbfimjncophcaaaDoor.Pr
open Go.RowKit Go.Proofs.YtbfimjncophcaaaDoorW.PrintWords Go.Proofs.YtbfimjncophcaaaDoorW.PrintLast Go.Proofs.YtbfimjncophcaaaDoorW.PrintMore
attribute [local go_sem] max2_int min2_int max_two min_two max_three min_three max_four min_four
set_option linter.unusedVariables false
set_option linter.unusedSimpArgs false
mutual
def garboardref58_right.l0 : Nat → List (S33) → Int → Option (Bool)
 | 0, _, _ => none
 | k + 1, x0, x3 => if x3 < (x0.length : Int) then (if 0 ≤ x3 then (if ((rd_T33 x0 x3).f0) < 1 then (garboardref58_right.j1 k x0 x3 true ((rd_T33 x0 x3).f0) ((rd_T33 x0 x3).f1) ((rd_T33 x0 x3).f2) ((rd_T33 x0 x3).f3)) else (if ((rd_T33 x0 x3).f0) > 1073741824 then (garboardref58_right.j1 k x0 x3 true ((rd_T33 x0 x3).f0) ((rd_T33 x0 x3).f1) ((rd_T33 x0 x3).f2) ((rd_T33 x0 x3).f3)) else (if x3 > 0 then (if 0 ≤ (wrap64 (x3 - 1)) then (if (wrap64 (x3 - 1)) < (x0.length : Int) then (if ((rd_T33 x0 (wrap64 (x3 - 1))).f0) ≥ ((rd_T33 x0 x3).f0) then (garboardref58_right.j1 k x0 x3 true ((rd_T33 x0 x3).f0) ((rd_T33 x0 x3).f1) ((rd_T33 x0 x3).f2) ((rd_T33 x0 x3).f3)) else (if ((rd_T33 x0 x3).f1) < 1 then (garboardref58_right.j1 k x0 x3 true ((rd_T33 x0 x3).f0) ((rd_T33 x0 x3).f1) ((rd_T33 x0 x3).f2) ((rd_T33 x0 x3).f3)) else (garboardref58_right.j1 k x0 x3 (decide (((rd_T33 x0 x3).f1) > 9)) ((rd_T33 x0 x3).f0) ((rd_T33 x0 x3).f1) ((rd_T33 x0 x3).f2) ((rd_T33 x0 x3).f3)))) else (none)) else (none)) else (if ((rd_T33 x0 x3).f1) < 1 then (garboardref58_right.j1 k x0 x3 true ((rd_T33 x0 x3).f0) ((rd_T33 x0 x3).f1) ((rd_T33 x0 x3).f2) ((rd_T33 x0 x3).f3)) else (garboardref58_right.j1 k x0 x3 (decide (((rd_T33 x0 x3).f1) > 9)) ((rd_T33 x0 x3).f0) ((rd_T33 x0 x3).f1) ((rd_T33 x0 x3).f2) ((rd_T33 x0 x3).f3)))))) else (none)) else (some (decide ((x0.length : Int) ≤ 16)))
def garboardref58_right.j1 : Nat → List (S33) → Int → Bool → Int → Int → ByteArray → ByteArray → Option (Bool)
 | 0, _, _, _, _, _, _, _ => none
 | k + 1, x0, x3, x47, x177000, x177001, x177002, x177003 => if x47 = true then (some false) else (if (x177002.size : Int) < 1 then (some false) else (if (x177002.size : Int) > 64 then (some false) else (if (x177003.size : Int) < 1 then (some false) else (if (x177003.size : Int) > 64 then (some false) else (garboardref58_right.l0 k x0 (wrap64 (x3 + 1)))))))
end
def garboardref58_right.f (k : Nat) (l0 : List (S33)) : Option (Bool) := garboardref58_right.l0 k l0 0
theorem garboardref58_right.mono_l : ∀ k, (∀ y0 y1, LeO (garboardref58_right.l0 k y0 y1) (garboardref58_right.l0 (k + 1) y0 y1)) ∧ (∀ y0 y1 y2 y3 y4 y5 y6, LeO (garboardref58_right.j1 k y0 y1 y2 y3 y4 y5 y6) (garboardref58_right.j1 (k + 1) y0 y1 y2 y3 y4 y5 y6))
 | 0 => ⟨fun _ _ r h => by simp [garboardref58_right.l0] at h, fun _ _ _ _ _ _ _ r h => by simp [garboardref58_right.j1] at h⟩
 | k + 1 => by
  obtain ⟨ih0, ih1⟩ := garboardref58_right.mono_l k
  refine ⟨?_, ?_⟩
  ·intro y0 y1
   unfold garboardref58_right.l0
   repeat' first
   | (with_reducible exact ih0 _ _)
   | (with_reducible exact ih1 _ _ _ _ _ _ _)
   | (with_reducible exact LeO.refl _)
   | (with_reducible exact LeO.none _)
   | (with_reducible refine LeO.ite ?_ ?_)
   | (with_reducible refine LeO.bind ?_ (fun _ => ?_))
   | exact ih0 _ _
   | exact ih1 _ _ _ _ _ _ _
   | exact LeO.none _
   | refine LeO.ite ?_ ?_
   | refine LeO.bind ?_ (fun _ => ?_)
  ·intro y0 y1 y2 y3 y4 y5 y6
   unfold garboardref58_right.j1
   repeat' first
   | (with_reducible exact ih0 _ _)
   | (with_reducible exact ih1 _ _ _ _ _ _ _)
   | (with_reducible exact LeO.refl _)
   | (with_reducible exact LeO.none _)
   | (with_reducible refine LeO.ite ?_ ?_)
   | (with_reducible refine LeO.bind ?_ (fun _ => ?_))
   | exact ih0 _ _
   | exact ih1 _ _ _ _ _ _ _
   | exact LeO.none _
   | refine LeO.ite ?_ ?_
   | refine LeO.bind ?_ (fun _ => ?_)
theorem garboardref58_right.mono : ∀ a0 k, LeO (garboardref58_right.f k a0) (garboardref58_right.f (k + 1) a0) := by
 intro a0 k
 obtain ⟨ih0, ih1⟩ := garboardref58_right.mono_l k
 unfold garboardref58_right.f
 repeat' first
   | (with_reducible exact ih0 _ _)
   | (with_reducible exact ih1 _ _ _ _ _ _ _)
   | (with_reducible exact LeO.refl _)
   | (with_reducible exact LeO.none _)
   | (with_reducible refine LeO.ite ?_ ?_)
   | (with_reducible refine LeO.bind ?_ (fun _ => ?_))
   | exact ih0 _ _
   | exact ih1 _ _ _ _ _ _ _
   | exact LeO.none _
   | refine LeO.ite ?_ ?_
   | refine LeO.bind ?_ (fun _ => ?_)
set_option maxHeartbeats 8000000 in
set_option maxRecDepth 100000 in
theorem garboardref58_right.calls (k : Nat) (A0 : Option Addr) (c0 : Nat) (l0 : List (S33)) (r : Bool) (w : World) (hr0 : Kd.C k33 w A0 l0.length l0) (hc0 : l0.length ≤ c0) (h : garboardref58_right.f k l0 = some r) :
  Calls Tryd.prog 39 #[.slice A0 l0.length c0] w fun e w' => e = .returned (.bool r) ∧ Below w.heap.size w w' := by
 have hu33 := Tryd.underlying33
 have HR0 := Aside0.mk hr0
 have HC0 := Aside0.mk hc0
 clear hr0 hc0
 have HB := Aside0.mk (Below.refl w.heap.size w)
 have H : (garboardref58_right.l0 k l0 0) = some r := h
 clear h
 have H' := Aside0.mk H
 clear H
 go_enter Tryd.func39, Tryd.ntmps39
 go_wp2
 repeat (go_quiet (fail); try go_wp2)
 go_loopg [3] k (fun kq v3 w' => ∃ (x3_1 : Int), v3 = .int .i64 x3_1 ∧ Aside0 (garboardref58_right.l0 kq l0 x3_1 = some r) ∧ Aside0 (kq ≤ k) ∧ Aside0 (Below w.heap.size w w'))
 case atStart => exact ⟨(0), (by first | rfl | (simp; done) | (simp [*]; done)), H', ⟨Nat.le_refl _⟩, ⟨by repeat (first | (with_reducible first | exact HB.out | apply below_alloc | apply pw_below_drewN | apply below_drew1) | exact HB.out)⟩⟩
 case round =>
  clear H'
  obtain ⟨x3_1, rfl, HA, HK1, HB⟩ := hrel
  cases gk with
  | zero => exact absurd HA.out (by simp [garboardref58_right.l0])
  | succ k1 =>
   have H := HA.out
   clear HA
   simp only [garboardref58_right.l0] at H
   by_cases c2 : x3_1 < (l0.length : Int)
   ·rw [if_pos c2] at H
    have c2b0 : decide (x3_1 < (l0.length : Int)) = true := decide_eq_true c2
    clear c2
    by_cases c3 : 0 ≤ x3_1
    ·rw [if_pos c3] at H
     have c3b0 : decide (0 ≤ x3_1) = true := decide_eq_true c3
     clear c3
     have HC4 := Aside0.mk H
     clear H
     have p175 : 0 ≤ (x3_1 : Int) := of_decide_eq_true (by first | (with_reducible assumption) | assumption)
     have q175 : x3_1 < (l0.length : Int) := of_decide_eq_true (by first | (with_reducible assumption) | assumption)
     obtain ⟨ad175, e175, hx175_0, hx175_1, hx175_2, hx175_3⟩ := at_T33 HR0.out x3_1 p175 q175
     cases e175
     replace hx175_0 := (HB.out.cell (World.block_lt_of_cell? w _ hx175_0)).trans hx175_0
     replace hx175_1 := (HB.out.cell (World.block_lt_of_cell? w _ hx175_1)).trans hx175_1
     replace hx175_2 := (HB.out.cell (World.block_lt_of_cell? w _ hx175_2)).trans hx175_2
     replace hx175_3 := (HB.out.cell (World.block_lt_of_cell? w _ hx175_3)).trans hx175_3
     replace p175 := eq_true p175
     replace q175 := eq_true q175
     go_upto_region 5 with (first | ((with_reducible refine gate_dst (N := 4) rfl ?_); (try (refine gate_guard (by rfl) ?_; dsimp only)); refine box_event ?hg (N := 4) ?hd (cs := #[.int .i64 0, .int .i64 0, .string (⟨#[]⟩ : ByteArray), .string (⟨#[]⟩ : ByteArray)]) (t := 33) ?hr ?_; (case hd => rfl); (case hg => rfl); (case hr => first | (go_simp; done) | (go_simp; rfl)); intro gb176 hg w5 hbox hb; have n0_ := Aside0.mk (below_step (by repeat (first | (with_reducible first | exact HB.out | apply below_alloc | apply pw_below_drewN | apply below_drew1) | exact HB.out)) hb); have n1_ := Aside0.mk (hbox); have n2_ := Aside0.mk ((by rw [hg]; exact (below_size (by repeat (first | (with_reducible first | exact HB.out | apply below_alloc | apply pw_below_drewN | apply below_drew1) | exact HB.out))) : w.heap.size ≤ gb176)); have n3_ := Aside0.mk ((by rw [hg]; exact (below_size (by repeat (first | (with_reducible first | exact HB.out | apply below_alloc | apply pw_below_drewN | apply below_drew1) | exact HB.out))) : w.heap.size ≤ gb176)); clear HB; have HB := n0_; have BK176 := n1_; have GW176 := n2_; have GE176 := n3_; clear n0_ n1_ n2_ n3_; clear hb hbox hg; have hcz6_0 : w5.cell? ⟨gb176, 0, none⟩ = some (.int .i64 0) := (blk_cell BK176.out 0).trans rfl; have hcz6_1 : w5.cell? ⟨gb176, 1, none⟩ = some (.int .i64 0) := (blk_cell BK176.out 1).trans rfl; have hcz6_2 : w5.cell? ⟨gb176, 2, none⟩ = some (.string (⟨#[]⟩ : ByteArray)) := (blk_cell BK176.out 2).trans rfl; have hcz6_3 : w5.cell? ⟨gb176, 3, none⟩ = some (.string (⟨#[]⟩ : ByteArray)) := (blk_cell BK176.out 3).trans rfl; have hfz6_0 := blk_frozen BK176.out 0; have hfz6_1 := blk_frozen BK176.out 1; have hfz6_2 := blk_frozen BK176.out 2; have hfz6_3 := blk_frozen BK176.out 3))
     repeat (go_quiet (first | ((with_reducible refine gate_dst (N := 4) rfl ?_); (try (refine gate_guard (by rfl) ?_; dsimp only)); refine box_event ?hg (N := 4) ?hd (cs := #[.int .i64 0, .int .i64 0, .string (⟨#[]⟩ : ByteArray), .string (⟨#[]⟩ : ByteArray)]) (t := 33) ?hr ?_; (case hd => rfl); (case hg => rfl); (case hr => first | (go_simp; done) | (go_simp; rfl)); intro gb176 hg w5 hbox hb; have n0_ := Aside0.mk (below_step (by repeat (first | (with_reducible first | exact HB.out | apply below_alloc | apply pw_below_drewN | apply below_drew1) | exact HB.out)) hb); have n1_ := Aside0.mk (hbox); have n2_ := Aside0.mk ((by rw [hg]; exact (below_size (by repeat (first | (with_reducible first | exact HB.out | apply below_alloc | apply pw_below_drewN | apply below_drew1) | exact HB.out))) : w.heap.size ≤ gb176)); have n3_ := Aside0.mk ((by rw [hg]; exact (below_size (by repeat (first | (with_reducible first | exact HB.out | apply below_alloc | apply pw_below_drewN | apply below_drew1) | exact HB.out))) : w.heap.size ≤ gb176)); clear HB; have HB := n0_; have BK176 := n1_; have GW176 := n2_; have GE176 := n3_; clear n0_ n1_ n2_ n3_; clear hb hbox hg; have hcz6_0 : w5.cell? ⟨gb176, 0, none⟩ = some (.int .i64 0) := (blk_cell BK176.out 0).trans rfl; have hcz6_1 : w5.cell? ⟨gb176, 1, none⟩ = some (.int .i64 0) := (blk_cell BK176.out 1).trans rfl; have hcz6_2 : w5.cell? ⟨gb176, 2, none⟩ = some (.string (⟨#[]⟩ : ByteArray)) := (blk_cell BK176.out 2).trans rfl; have hcz6_3 : w5.cell? ⟨gb176, 3, none⟩ = some (.string (⟨#[]⟩ : ByteArray)) := (blk_cell BK176.out 3).trans rfl; have hfz6_0 := blk_frozen BK176.out 0; have hfz6_1 := blk_frozen BK176.out 1; have hfz6_2 := blk_frozen BK176.out 2; have hfz6_3 := blk_frozen BK176.out 3)); go_upto_region 5 with (first | ((with_reducible refine gate_dst (N := 4) rfl ?_); (try (refine gate_guard (by rfl) ?_; dsimp only)); refine box_event ?hg (N := 4) ?hd (cs := #[.int .i64 0, .int .i64 0, .string (⟨#[]⟩ : ByteArray), .string (⟨#[]⟩ : ByteArray)]) (t := 33) ?hr ?_; (case hd => rfl); (case hg => rfl); (case hr => first | (go_simp; done) | (go_simp; rfl)); intro gb176 hg w5 hbox hb; have n0_ := Aside0.mk (below_step (by repeat (first | (with_reducible first | exact HB.out | apply below_alloc | apply pw_below_drewN | apply below_drew1) | exact HB.out)) hb); have n1_ := Aside0.mk (hbox); have n2_ := Aside0.mk ((by rw [hg]; exact (below_size (by repeat (first | (with_reducible first | exact HB.out | apply below_alloc | apply pw_below_drewN | apply below_drew1) | exact HB.out))) : w.heap.size ≤ gb176)); have n3_ := Aside0.mk ((by rw [hg]; exact (below_size (by repeat (first | (with_reducible first | exact HB.out | apply below_alloc | apply pw_below_drewN | apply below_drew1) | exact HB.out))) : w.heap.size ≤ gb176)); clear HB; have HB := n0_; have BK176 := n1_; have GW176 := n2_; have GE176 := n3_; clear n0_ n1_ n2_ n3_; clear hb hbox hg; have hcz6_0 : w5.cell? ⟨gb176, 0, none⟩ = some (.int .i64 0) := (blk_cell BK176.out 0).trans rfl; have hcz6_1 : w5.cell? ⟨gb176, 1, none⟩ = some (.int .i64 0) := (blk_cell BK176.out 1).trans rfl; have hcz6_2 : w5.cell? ⟨gb176, 2, none⟩ = some (.string (⟨#[]⟩ : ByteArray)) := (blk_cell BK176.out 2).trans rfl; have hcz6_3 : w5.cell? ⟨gb176, 3, none⟩ = some (.string (⟨#[]⟩ : ByteArray)) := (blk_cell BK176.out 3).trans rfl; have hfz6_0 := blk_frozen BK176.out 0; have hfz6_1 := blk_frozen BK176.out 1; have hfz6_2 := blk_frozen BK176.out 2; have hfz6_3 := blk_frozen BK176.out 3)))
     (try simp only [Act.put, List.setIfInBounds_toArray, List.set_cons_zero, List.set_cons_succ])
     go_cut [47] (fun v47 wc => ∃ (kq : Nat) (x47_3 : Bool), v47 = .bool x47_3 ∧ Aside0 (garboardref58_right.j1 kq l0 x3_1 x47_3 ((rd_T33 l0 x3_1).f0) ((rd_T33 l0 x3_1).f1) ((rd_T33 l0 x3_1).f2) ((rd_T33 l0 x3_1).f3) = some r) ∧ Aside0 (kq ≤ k1) ∧ Aside0 (wc.heap[gb176]? = some (.cells #[.int .i64 ((rd_T33 l0 x3_1).f0), .int .i64 ((rd_T33 l0 x3_1).f1), .string ((rd_T33 l0 x3_1).f2), .string ((rd_T33 l0 x3_1).f3)] 33 (0, 0))) ∧ Aside0 (Below w.heap.size w wc))
     case first =>
      have H := HC4.out
      clear HC4
      by_cases c7 : ((rd_T33 l0 x3_1).f0) < 1
      ·rw [if_pos c7] at H
       have c7b0 : decide (((rd_T33 l0 x3_1).f0) < 1) = true := decide_eq_true c7
       clear c7
       (first | rw [c7b0] | (simp only [i64_w, i32_w]; rw [c7b0]) | skip)
       have H' := Aside0.mk H
       clear H
       have hcz8_0 : w5.cell? ⟨gb176, 0, none⟩ = some (.int .i64 0) := (blk_cell BK176.out 0).trans rfl
       have hcz8_1 : w5.cell? ⟨gb176, 1, none⟩ = some (.int .i64 0) := (blk_cell BK176.out 1).trans rfl
       have hcz8_2 : w5.cell? ⟨gb176, 2, none⟩ = some (.string (⟨#[]⟩ : ByteArray)) := (blk_cell BK176.out 2).trans rfl
       have hcz8_3 : w5.cell? ⟨gb176, 3, none⟩ = some (.string (⟨#[]⟩ : ByteArray)) := (blk_cell BK176.out 3).trans rfl
       have hfz8_0 := blk_frozen BK176.out 0
       have hfz8_1 := blk_frozen BK176.out 1
       have hfz8_2 := blk_frozen BK176.out 2
       have hfz8_3 := blk_frozen BK176.out 3
       go_wp2
       repeat (go_quiet (fail); try go_wp2)
       go_meet
       case rel => exact ⟨_, (true), (by first | rfl | (simp; done) | (simp [*]; done)), H', ⟨by have := HK1.out; first | omega | exact Nat.le_refl _⟩, ⟨by (with_reducible repeat (first | refine blk_drewN ?_ _ | refine blk_drew ?_ | refine blk_alloc ?_ _)); refine blk_put (cs := #[.int .i64 ((rd_T33 l0 x3_1).f0), .int .i64 ((rd_T33 l0 x3_1).f1), .string ((rd_T33 l0 x3_1).f2), .string (⟨#[]⟩ : ByteArray)]) ?_ 3 _ rfl; (with_reducible repeat (first | refine blk_drewN ?_ _ | refine blk_drew ?_ | refine blk_alloc ?_ _)); refine blk_put (cs := #[.int .i64 ((rd_T33 l0 x3_1).f0), .int .i64 ((rd_T33 l0 x3_1).f1), .string (⟨#[]⟩ : ByteArray), .string (⟨#[]⟩ : ByteArray)]) ?_ 2 _ rfl; (with_reducible repeat (first | refine blk_drewN ?_ _ | refine blk_drew ?_ | refine blk_alloc ?_ _)); refine blk_put (cs := #[.int .i64 ((rd_T33 l0 x3_1).f0), .int .i64 0, .string (⟨#[]⟩ : ByteArray), .string (⟨#[]⟩ : ByteArray)]) ?_ 1 _ rfl; (with_reducible repeat (first | refine blk_drewN ?_ _ | refine blk_drew ?_ | refine blk_alloc ?_ _)); refine blk_put (cs := #[.int .i64 0, .int .i64 0, .string (⟨#[]⟩ : ByteArray), .string (⟨#[]⟩ : ByteArray)]) ?_ 0 _ rfl; (with_reducible repeat (first | refine blk_drewN ?_ _ | refine blk_drew ?_ | refine blk_alloc ?_ _)); exact BK176.out⟩, ⟨by repeat (first | (with_reducible first | exact HB.out | apply below_alloc | apply pw_below_drewN | apply below_drew1 | refine below_set ?_ GE176.out) | exact HB.out)⟩⟩
      ·rw [if_neg c7] at H
       have c7b0 : decide (((rd_T33 l0 x3_1).f0) < 1) = false := decide_eq_false c7
       clear c7
       (first | rw [c7b0] | (simp only [i64_w, i32_w]; rw [c7b0]) | skip)
       by_cases c9 : ((rd_T33 l0 x3_1).f0) > 1073741824
       ·rw [if_pos c9] at H
        have c9b0 : decide (1073741824 < ((rd_T33 l0 x3_1).f0)) = true := decide_eq_true c9
        clear c9
        have H' := Aside0.mk H
        clear H
        have hcz10_0 : w5.cell? ⟨gb176, 0, none⟩ = some (.int .i64 0) := (blk_cell BK176.out 0).trans rfl
        have hcz10_1 : w5.cell? ⟨gb176, 1, none⟩ = some (.int .i64 0) := (blk_cell BK176.out 1).trans rfl
        have hcz10_2 : w5.cell? ⟨gb176, 2, none⟩ = some (.string (⟨#[]⟩ : ByteArray)) := (blk_cell BK176.out 2).trans rfl
        have hcz10_3 : w5.cell? ⟨gb176, 3, none⟩ = some (.string (⟨#[]⟩ : ByteArray)) := (blk_cell BK176.out 3).trans rfl
        have hfz10_0 := blk_frozen BK176.out 0
        have hfz10_1 := blk_frozen BK176.out 1
        have hfz10_2 := blk_frozen BK176.out 2
        have hfz10_3 := blk_frozen BK176.out 3
        go_wp2
        repeat (go_quiet (fail); try go_wp2)
        go_meet
        case rel => exact ⟨_, (true), (by first | rfl | (simp; done) | (simp [*]; done)), H', ⟨by have := HK1.out; first | omega | exact Nat.le_refl _⟩, ⟨by (with_reducible repeat (first | refine blk_drewN ?_ _ | refine blk_drew ?_ | refine blk_alloc ?_ _)); refine blk_put (cs := #[.int .i64 ((rd_T33 l0 x3_1).f0), .int .i64 ((rd_T33 l0 x3_1).f1), .string ((rd_T33 l0 x3_1).f2), .string (⟨#[]⟩ : ByteArray)]) ?_ 3 _ rfl; (with_reducible repeat (first | refine blk_drewN ?_ _ | refine blk_drew ?_ | refine blk_alloc ?_ _)); refine blk_put (cs := #[.int .i64 ((rd_T33 l0 x3_1).f0), .int .i64 ((rd_T33 l0 x3_1).f1), .string (⟨#[]⟩ : ByteArray), .string (⟨#[]⟩ : ByteArray)]) ?_ 2 _ rfl; (with_reducible repeat (first | refine blk_drewN ?_ _ | refine blk_drew ?_ | refine blk_alloc ?_ _)); refine blk_put (cs := #[.int .i64 ((rd_T33 l0 x3_1).f0), .int .i64 0, .string (⟨#[]⟩ : ByteArray), .string (⟨#[]⟩ : ByteArray)]) ?_ 1 _ rfl; (with_reducible repeat (first | refine blk_drewN ?_ _ | refine blk_drew ?_ | refine blk_alloc ?_ _)); refine blk_put (cs := #[.int .i64 0, .int .i64 0, .string (⟨#[]⟩ : ByteArray), .string (⟨#[]⟩ : ByteArray)]) ?_ 0 _ rfl; (with_reducible repeat (first | refine blk_drewN ?_ _ | refine blk_drew ?_ | refine blk_alloc ?_ _)); exact BK176.out⟩, ⟨by repeat (first | (with_reducible first | exact HB.out | apply below_alloc | apply pw_below_drewN | apply below_drew1 | refine below_set ?_ GE176.out) | exact HB.out)⟩⟩
       ·rw [if_neg c9] at H
        have c9b0 : decide (1073741824 < ((rd_T33 l0 x3_1).f0)) = false := decide_eq_false c9
        clear c9
        by_cases c11 : x3_1 > 0
        ·rw [if_pos c11] at H
         have c11b0 : decide (0 < x3_1) = true := decide_eq_true c11
         clear c11
         obtain ⟨ji12, hji12⟩ : ∃ j_ : Int, (wrap64 (x3_1 - 1)) = j_ := ⟨_, rfl⟩
         replace H : (if 0 ≤ (ji12) then (if (ji12) < (l0.length : Int) then (if ((rd_T33 l0 (ji12)).f0) ≥ ((rd_T33 l0 x3_1).f0) then (garboardref58_right.j1 k1 l0 x3_1 true ((rd_T33 l0 x3_1).f0) ((rd_T33 l0 x3_1).f1) ((rd_T33 l0 x3_1).f2) ((rd_T33 l0 x3_1).f3)) else (if ((rd_T33 l0 x3_1).f1) < 1 then (garboardref58_right.j1 k1 l0 x3_1 true ((rd_T33 l0 x3_1).f0) ((rd_T33 l0 x3_1).f1) ((rd_T33 l0 x3_1).f2) ((rd_T33 l0 x3_1).f3)) else (garboardref58_right.j1 k1 l0 x3_1 (decide (((rd_T33 l0 x3_1).f1) > 9)) ((rd_T33 l0 x3_1).f0) ((rd_T33 l0 x3_1).f1) ((rd_T33 l0 x3_1).f2) ((rd_T33 l0 x3_1).f3)))) else (none)) else (none)) = some r := by first | (rw [hji12] at H; exact H) | (simp only [hji12] at H ⊢; exact H)
         have hji12w : (IntKind.i64.wrap (x3_1 - 1)) = ji12 := (i64_w _).trans hji12
         by_cases c13 : 0 ≤ (ji12)
         ·rw [if_pos c13] at H
          have c13b0 : decide (0 ≤ (ji12)) = true := decide_eq_true c13
          clear c13
          by_cases c14 : (ji12) < (l0.length : Int)
          ·rw [if_pos c14] at H
           have c14b0 : decide ((ji12) < (l0.length : Int)) = true := decide_eq_true c14
           clear c14
           by_cases c15 : ((rd_T33 l0 (ji12)).f0) ≥ ((rd_T33 l0 x3_1).f0)
           ·rw [if_pos c15] at H
            have c15b0 : decide (((rd_T33 l0 x3_1).f0) ≤ ((rd_T33 l0 (ji12)).f0)) = true := decide_eq_true c15
            clear c15
            have H' := Aside0.mk H
            clear H
            have hcz16_0 : w5.cell? ⟨gb176, 0, none⟩ = some (.int .i64 0) := (blk_cell BK176.out 0).trans rfl
            have hcz16_1 : w5.cell? ⟨gb176, 1, none⟩ = some (.int .i64 0) := (blk_cell BK176.out 1).trans rfl
            have hcz16_2 : w5.cell? ⟨gb176, 2, none⟩ = some (.string (⟨#[]⟩ : ByteArray)) := (blk_cell BK176.out 2).trans rfl
            have hcz16_3 : w5.cell? ⟨gb176, 3, none⟩ = some (.string (⟨#[]⟩ : ByteArray)) := (blk_cell BK176.out 3).trans rfl
            have hfz16_0 := blk_frozen BK176.out 0
            have hfz16_1 := blk_frozen BK176.out 1
            have hfz16_2 := blk_frozen BK176.out 2
            have hfz16_3 := blk_frozen BK176.out 3
            have p177 : 0 ≤ ((ji12) : Int) := of_decide_eq_true (by first | (with_reducible assumption) | assumption)
            have q177 : (ji12) < (l0.length : Int) := of_decide_eq_true (by first | (with_reducible assumption) | assumption)
            obtain ⟨ad177, e177, hx177_0, hx177_1, hx177_2, hx177_3⟩ := at_T33 HR0.out (ji12) p177 q177
            obtain rfl : ad175 = ad177 := (by injection e177)
            have hn177_0 : ad175.block ≠ gb176 := Nat.ne_of_lt (Nat.lt_of_lt_of_le (by have := World.block_lt_of_cell? _ _ hx177_0; first | rwa [add_block] at this | exact this) GW176.out)
            have hn177_1 : ad175.block ≠ gb176 := Nat.ne_of_lt (Nat.lt_of_lt_of_le (by have := World.block_lt_of_cell? _ _ hx177_0; first | rwa [add_block] at this | exact this) GW176.out)
            have hn177_2 : ad175.block ≠ gb176 := Nat.ne_of_lt (Nat.lt_of_lt_of_le (by have := World.block_lt_of_cell? _ _ hx177_0; first | rwa [add_block] at this | exact this) GW176.out)
            have hn177_3 : ad175.block ≠ gb176 := Nat.ne_of_lt (Nat.lt_of_lt_of_le (by have := World.block_lt_of_cell? _ _ hx177_0; first | rwa [add_block] at this | exact this) GW176.out)
            replace hx177_0 := (HB.out.cell (World.block_lt_of_cell? w _ hx177_0)).trans hx177_0
            replace hx177_1 := (HB.out.cell (World.block_lt_of_cell? w _ hx177_1)).trans hx177_1
            replace hx177_2 := (HB.out.cell (World.block_lt_of_cell? w _ hx177_2)).trans hx177_2
            replace hx177_3 := (HB.out.cell (World.block_lt_of_cell? w _ hx177_3)).trans hx177_3
            replace hx177_0 := (cell_far (p := ⟨gb176, 0, none⟩) (by first | (rw [add_block]; exact hn177_0) | (show (Addr.add _ _).block ≠ _; rw [add_block]; exact hn177_0) | exact hn177_0) (.int .i64 ((rd_T33 l0 x3_1).f0))).trans hx177_0
            replace hx177_1 := (cell_far (p := ⟨gb176, 0, none⟩) (by first | (rw [add_block]; exact hn177_0) | (show (Addr.add _ _).block ≠ _; rw [add_block]; exact hn177_0) | exact hn177_0) (.int .i64 ((rd_T33 l0 x3_1).f0))).trans hx177_1
            replace hx177_2 := (cell_far (p := ⟨gb176, 0, none⟩) (by first | (rw [add_block]; exact hn177_0) | (show (Addr.add _ _).block ≠ _; rw [add_block]; exact hn177_0) | exact hn177_0) (.int .i64 ((rd_T33 l0 x3_1).f0))).trans hx177_2
            replace hx177_3 := (cell_far (p := ⟨gb176, 0, none⟩) (by first | (rw [add_block]; exact hn177_0) | (show (Addr.add _ _).block ≠ _; rw [add_block]; exact hn177_0) | exact hn177_0) (.int .i64 ((rd_T33 l0 x3_1).f0))).trans hx177_3
            replace hx177_0 := (cell_far (p := ⟨gb176, 1, none⟩) (by first | (rw [add_block]; exact hn177_1) | (show (Addr.add _ _).block ≠ _; rw [add_block]; exact hn177_1) | exact hn177_1) (.int .i64 ((rd_T33 l0 x3_1).f1))).trans hx177_0
            replace hx177_1 := (cell_far (p := ⟨gb176, 1, none⟩) (by first | (rw [add_block]; exact hn177_1) | (show (Addr.add _ _).block ≠ _; rw [add_block]; exact hn177_1) | exact hn177_1) (.int .i64 ((rd_T33 l0 x3_1).f1))).trans hx177_1
            replace hx177_2 := (cell_far (p := ⟨gb176, 1, none⟩) (by first | (rw [add_block]; exact hn177_1) | (show (Addr.add _ _).block ≠ _; rw [add_block]; exact hn177_1) | exact hn177_1) (.int .i64 ((rd_T33 l0 x3_1).f1))).trans hx177_2
            replace hx177_3 := (cell_far (p := ⟨gb176, 1, none⟩) (by first | (rw [add_block]; exact hn177_1) | (show (Addr.add _ _).block ≠ _; rw [add_block]; exact hn177_1) | exact hn177_1) (.int .i64 ((rd_T33 l0 x3_1).f1))).trans hx177_3
            replace hx177_0 := (cell_far (p := ⟨gb176, 2, none⟩) (by first | (rw [add_block]; exact hn177_2) | (show (Addr.add _ _).block ≠ _; rw [add_block]; exact hn177_2) | exact hn177_2) (.string ((rd_T33 l0 x3_1).f2))).trans hx177_0
            replace hx177_1 := (cell_far (p := ⟨gb176, 2, none⟩) (by first | (rw [add_block]; exact hn177_2) | (show (Addr.add _ _).block ≠ _; rw [add_block]; exact hn177_2) | exact hn177_2) (.string ((rd_T33 l0 x3_1).f2))).trans hx177_1
            replace hx177_2 := (cell_far (p := ⟨gb176, 2, none⟩) (by first | (rw [add_block]; exact hn177_2) | (show (Addr.add _ _).block ≠ _; rw [add_block]; exact hn177_2) | exact hn177_2) (.string ((rd_T33 l0 x3_1).f2))).trans hx177_2
            replace hx177_3 := (cell_far (p := ⟨gb176, 2, none⟩) (by first | (rw [add_block]; exact hn177_2) | (show (Addr.add _ _).block ≠ _; rw [add_block]; exact hn177_2) | exact hn177_2) (.string ((rd_T33 l0 x3_1).f2))).trans hx177_3
            replace hx177_0 := (cell_far (p := ⟨gb176, 3, none⟩) (by first | (rw [add_block]; exact hn177_3) | (show (Addr.add _ _).block ≠ _; rw [add_block]; exact hn177_3) | exact hn177_3) (.string ((rd_T33 l0 x3_1).f3))).trans hx177_0
            replace hx177_1 := (cell_far (p := ⟨gb176, 3, none⟩) (by first | (rw [add_block]; exact hn177_3) | (show (Addr.add _ _).block ≠ _; rw [add_block]; exact hn177_3) | exact hn177_3) (.string ((rd_T33 l0 x3_1).f3))).trans hx177_1
            replace hx177_2 := (cell_far (p := ⟨gb176, 3, none⟩) (by first | (rw [add_block]; exact hn177_3) | (show (Addr.add _ _).block ≠ _; rw [add_block]; exact hn177_3) | exact hn177_3) (.string ((rd_T33 l0 x3_1).f3))).trans hx177_2
            replace hx177_3 := (cell_far (p := ⟨gb176, 3, none⟩) (by first | (rw [add_block]; exact hn177_3) | (show (Addr.add _ _).block ≠ _; rw [add_block]; exact hn177_3) | exact hn177_3) (.string ((rd_T33 l0 x3_1).f3))).trans hx177_3
            (try have hy177_0 := fun (n_ : Nat) => (show ((((((w5.drewN n_).setCell ⟨gb176, 0, none⟩ (.int .i64 ((rd_T33 l0 x3_1).f0))).setCell ⟨gb176, 1, none⟩ (.int .i64 ((rd_T33 l0 x3_1).f1))).setCell ⟨gb176, 2, none⟩ (.string ((rd_T33 l0 x3_1).f2))).setCell ⟨gb176, 3, none⟩ (.string ((rd_T33 l0 x3_1).f3)))).cell? _ = some _ from hx177_0))
            (try have hy177_1 := fun (n_ : Nat) => (show ((((((w5.drewN n_).setCell ⟨gb176, 0, none⟩ (.int .i64 ((rd_T33 l0 x3_1).f0))).setCell ⟨gb176, 1, none⟩ (.int .i64 ((rd_T33 l0 x3_1).f1))).setCell ⟨gb176, 2, none⟩ (.string ((rd_T33 l0 x3_1).f2))).setCell ⟨gb176, 3, none⟩ (.string ((rd_T33 l0 x3_1).f3)))).cell? _ = some _ from hx177_1))
            (try have hy177_2 := fun (n_ : Nat) => (show ((((((w5.drewN n_).setCell ⟨gb176, 0, none⟩ (.int .i64 ((rd_T33 l0 x3_1).f0))).setCell ⟨gb176, 1, none⟩ (.int .i64 ((rd_T33 l0 x3_1).f1))).setCell ⟨gb176, 2, none⟩ (.string ((rd_T33 l0 x3_1).f2))).setCell ⟨gb176, 3, none⟩ (.string ((rd_T33 l0 x3_1).f3)))).cell? _ = some _ from hx177_2))
            (try have hy177_3 := fun (n_ : Nat) => (show ((((((w5.drewN n_).setCell ⟨gb176, 0, none⟩ (.int .i64 ((rd_T33 l0 x3_1).f0))).setCell ⟨gb176, 1, none⟩ (.int .i64 ((rd_T33 l0 x3_1).f1))).setCell ⟨gb176, 2, none⟩ (.string ((rd_T33 l0 x3_1).f2))).setCell ⟨gb176, 3, none⟩ (.string ((rd_T33 l0 x3_1).f3)))).cell? _ = some _ from hx177_3))
            clear hn177_0
            clear hn177_1
            clear hn177_2
            clear hn177_3
            replace p177 := eq_true p177
            replace q177 := eq_true q177
            go_wp2
            repeat (go_quiet (fail); try go_wp2)
            go_meet
            case rel => exact ⟨_, (true), (by first | rfl | (simp; done) | (simp [*]; done)), H', ⟨by have := HK1.out; first | omega | exact Nat.le_refl _⟩, ⟨by (with_reducible repeat (first | refine blk_drewN ?_ _ | refine blk_drew ?_ | refine blk_alloc ?_ _)); refine blk_put (cs := #[.int .i64 ((rd_T33 l0 x3_1).f0), .int .i64 ((rd_T33 l0 x3_1).f1), .string ((rd_T33 l0 x3_1).f2), .string (⟨#[]⟩ : ByteArray)]) ?_ 3 _ rfl; (with_reducible repeat (first | refine blk_drewN ?_ _ | refine blk_drew ?_ | refine blk_alloc ?_ _)); refine blk_put (cs := #[.int .i64 ((rd_T33 l0 x3_1).f0), .int .i64 ((rd_T33 l0 x3_1).f1), .string (⟨#[]⟩ : ByteArray), .string (⟨#[]⟩ : ByteArray)]) ?_ 2 _ rfl; (with_reducible repeat (first | refine blk_drewN ?_ _ | refine blk_drew ?_ | refine blk_alloc ?_ _)); refine blk_put (cs := #[.int .i64 ((rd_T33 l0 x3_1).f0), .int .i64 0, .string (⟨#[]⟩ : ByteArray), .string (⟨#[]⟩ : ByteArray)]) ?_ 1 _ rfl; (with_reducible repeat (first | refine blk_drewN ?_ _ | refine blk_drew ?_ | refine blk_alloc ?_ _)); refine blk_put (cs := #[.int .i64 0, .int .i64 0, .string (⟨#[]⟩ : ByteArray), .string (⟨#[]⟩ : ByteArray)]) ?_ 0 _ rfl; (with_reducible repeat (first | refine blk_drewN ?_ _ | refine blk_drew ?_ | refine blk_alloc ?_ _)); exact BK176.out⟩, ⟨by repeat (first | (with_reducible first | exact HB.out | apply below_alloc | apply pw_below_drewN | apply below_drew1 | refine below_set ?_ GE176.out) | exact HB.out)⟩⟩
           ·rw [if_neg c15] at H
            have c15b0 : decide (((rd_T33 l0 x3_1).f0) ≤ ((rd_T33 l0 (ji12)).f0)) = false := decide_eq_false c15
            clear c15
            by_cases c17 : ((rd_T33 l0 x3_1).f1) < 1
            ·rw [if_pos c17] at H
             have c17b0 : decide (((rd_T33 l0 x3_1).f1) < 1) = true := decide_eq_true c17
             clear c17
             have H' := Aside0.mk H
             clear H
             have hcz18_0 : w5.cell? ⟨gb176, 0, none⟩ = some (.int .i64 0) := (blk_cell BK176.out 0).trans rfl
             have hcz18_1 : w5.cell? ⟨gb176, 1, none⟩ = some (.int .i64 0) := (blk_cell BK176.out 1).trans rfl
             have hcz18_2 : w5.cell? ⟨gb176, 2, none⟩ = some (.string (⟨#[]⟩ : ByteArray)) := (blk_cell BK176.out 2).trans rfl
             have hcz18_3 : w5.cell? ⟨gb176, 3, none⟩ = some (.string (⟨#[]⟩ : ByteArray)) := (blk_cell BK176.out 3).trans rfl
             have hfz18_0 := blk_frozen BK176.out 0
             have hfz18_1 := blk_frozen BK176.out 1
             have hfz18_2 := blk_frozen BK176.out 2
             have hfz18_3 := blk_frozen BK176.out 3
             have p177 : 0 ≤ ((ji12) : Int) := of_decide_eq_true (by first | (with_reducible assumption) | assumption)
             have q177 : (ji12) < (l0.length : Int) := of_decide_eq_true (by first | (with_reducible assumption) | assumption)
             obtain ⟨ad177, e177, hx177_0, hx177_1, hx177_2, hx177_3⟩ := at_T33 HR0.out (ji12) p177 q177
             obtain rfl : ad175 = ad177 := (by injection e177)
             have hn177_0 : ad175.block ≠ gb176 := Nat.ne_of_lt (Nat.lt_of_lt_of_le (by have := World.block_lt_of_cell? _ _ hx177_0; first | rwa [add_block] at this | exact this) GW176.out)
             have hn177_1 : ad175.block ≠ gb176 := Nat.ne_of_lt (Nat.lt_of_lt_of_le (by have := World.block_lt_of_cell? _ _ hx177_0; first | rwa [add_block] at this | exact this) GW176.out)
             have hn177_2 : ad175.block ≠ gb176 := Nat.ne_of_lt (Nat.lt_of_lt_of_le (by have := World.block_lt_of_cell? _ _ hx177_0; first | rwa [add_block] at this | exact this) GW176.out)
             have hn177_3 : ad175.block ≠ gb176 := Nat.ne_of_lt (Nat.lt_of_lt_of_le (by have := World.block_lt_of_cell? _ _ hx177_0; first | rwa [add_block] at this | exact this) GW176.out)
             replace hx177_0 := (HB.out.cell (World.block_lt_of_cell? w _ hx177_0)).trans hx177_0
             replace hx177_1 := (HB.out.cell (World.block_lt_of_cell? w _ hx177_1)).trans hx177_1
             replace hx177_2 := (HB.out.cell (World.block_lt_of_cell? w _ hx177_2)).trans hx177_2
             replace hx177_3 := (HB.out.cell (World.block_lt_of_cell? w _ hx177_3)).trans hx177_3
             replace hx177_0 := (cell_far (p := ⟨gb176, 0, none⟩) (by first | (rw [add_block]; exact hn177_0) | (show (Addr.add _ _).block ≠ _; rw [add_block]; exact hn177_0) | exact hn177_0) (.int .i64 ((rd_T33 l0 x3_1).f0))).trans hx177_0
             replace hx177_1 := (cell_far (p := ⟨gb176, 0, none⟩) (by first | (rw [add_block]; exact hn177_0) | (show (Addr.add _ _).block ≠ _; rw [add_block]; exact hn177_0) | exact hn177_0) (.int .i64 ((rd_T33 l0 x3_1).f0))).trans hx177_1
             replace hx177_2 := (cell_far (p := ⟨gb176, 0, none⟩) (by first | (rw [add_block]; exact hn177_0) | (show (Addr.add _ _).block ≠ _; rw [add_block]; exact hn177_0) | exact hn177_0) (.int .i64 ((rd_T33 l0 x3_1).f0))).trans hx177_2
             replace hx177_3 := (cell_far (p := ⟨gb176, 0, none⟩) (by first | (rw [add_block]; exact hn177_0) | (show (Addr.add _ _).block ≠ _; rw [add_block]; exact hn177_0) | exact hn177_0) (.int .i64 ((rd_T33 l0 x3_1).f0))).trans hx177_3
             replace hx177_0 := (cell_far (p := ⟨gb176, 1, none⟩) (by first | (rw [add_block]; exact hn177_1) | (show (Addr.add _ _).block ≠ _; rw [add_block]; exact hn177_1) | exact hn177_1) (.int .i64 ((rd_T33 l0 x3_1).f1))).trans hx177_0
             replace hx177_1 := (cell_far (p := ⟨gb176, 1, none⟩) (by first | (rw [add_block]; exact hn177_1) | (show (Addr.add _ _).block ≠ _; rw [add_block]; exact hn177_1) | exact hn177_1) (.int .i64 ((rd_T33 l0 x3_1).f1))).trans hx177_1
             replace hx177_2 := (cell_far (p := ⟨gb176, 1, none⟩) (by first | (rw [add_block]; exact hn177_1) | (show (Addr.add _ _).block ≠ _; rw [add_block]; exact hn177_1) | exact hn177_1) (.int .i64 ((rd_T33 l0 x3_1).f1))).trans hx177_2
             replace hx177_3 := (cell_far (p := ⟨gb176, 1, none⟩) (by first | (rw [add_block]; exact hn177_1) | (show (Addr.add _ _).block ≠ _; rw [add_block]; exact hn177_1) | exact hn177_1) (.int .i64 ((rd_T33 l0 x3_1).f1))).trans hx177_3
             replace hx177_0 := (cell_far (p := ⟨gb176, 2, none⟩) (by first | (rw [add_block]; exact hn177_2) | (show (Addr.add _ _).block ≠ _; rw [add_block]; exact hn177_2) | exact hn177_2) (.string ((rd_T33 l0 x3_1).f2))).trans hx177_0
             replace hx177_1 := (cell_far (p := ⟨gb176, 2, none⟩) (by first | (rw [add_block]; exact hn177_2) | (show (Addr.add _ _).block ≠ _; rw [add_block]; exact hn177_2) | exact hn177_2) (.string ((rd_T33 l0 x3_1).f2))).trans hx177_1
             replace hx177_2 := (cell_far (p := ⟨gb176, 2, none⟩) (by first | (rw [add_block]; exact hn177_2) | (show (Addr.add _ _).block ≠ _; rw [add_block]; exact hn177_2) | exact hn177_2) (.string ((rd_T33 l0 x3_1).f2))).trans hx177_2
             replace hx177_3 := (cell_far (p := ⟨gb176, 2, none⟩) (by first | (rw [add_block]; exact hn177_2) | (show (Addr.add _ _).block ≠ _; rw [add_block]; exact hn177_2) | exact hn177_2) (.string ((rd_T33 l0 x3_1).f2))).trans hx177_3
             replace hx177_0 := (cell_far (p := ⟨gb176, 3, none⟩) (by first | (rw [add_block]; exact hn177_3) | (show (Addr.add _ _).block ≠ _; rw [add_block]; exact hn177_3) | exact hn177_3) (.string ((rd_T33 l0 x3_1).f3))).trans hx177_0
             replace hx177_1 := (cell_far (p := ⟨gb176, 3, none⟩) (by first | (rw [add_block]; exact hn177_3) | (show (Addr.add _ _).block ≠ _; rw [add_block]; exact hn177_3) | exact hn177_3) (.string ((rd_T33 l0 x3_1).f3))).trans hx177_1
             replace hx177_2 := (cell_far (p := ⟨gb176, 3, none⟩) (by first | (rw [add_block]; exact hn177_3) | (show (Addr.add _ _).block ≠ _; rw [add_block]; exact hn177_3) | exact hn177_3) (.string ((rd_T33 l0 x3_1).f3))).trans hx177_2
             replace hx177_3 := (cell_far (p := ⟨gb176, 3, none⟩) (by first | (rw [add_block]; exact hn177_3) | (show (Addr.add _ _).block ≠ _; rw [add_block]; exact hn177_3) | exact hn177_3) (.string ((rd_T33 l0 x3_1).f3))).trans hx177_3
             (try have hy177_0 := fun (n_ : Nat) => (show ((((((w5.drewN n_).setCell ⟨gb176, 0, none⟩ (.int .i64 ((rd_T33 l0 x3_1).f0))).setCell ⟨gb176, 1, none⟩ (.int .i64 ((rd_T33 l0 x3_1).f1))).setCell ⟨gb176, 2, none⟩ (.string ((rd_T33 l0 x3_1).f2))).setCell ⟨gb176, 3, none⟩ (.string ((rd_T33 l0 x3_1).f3)))).cell? _ = some _ from hx177_0))
             (try have hy177_1 := fun (n_ : Nat) => (show ((((((w5.drewN n_).setCell ⟨gb176, 0, none⟩ (.int .i64 ((rd_T33 l0 x3_1).f0))).setCell ⟨gb176, 1, none⟩ (.int .i64 ((rd_T33 l0 x3_1).f1))).setCell ⟨gb176, 2, none⟩ (.string ((rd_T33 l0 x3_1).f2))).setCell ⟨gb176, 3, none⟩ (.string ((rd_T33 l0 x3_1).f3)))).cell? _ = some _ from hx177_1))
             (try have hy177_2 := fun (n_ : Nat) => (show ((((((w5.drewN n_).setCell ⟨gb176, 0, none⟩ (.int .i64 ((rd_T33 l0 x3_1).f0))).setCell ⟨gb176, 1, none⟩ (.int .i64 ((rd_T33 l0 x3_1).f1))).setCell ⟨gb176, 2, none⟩ (.string ((rd_T33 l0 x3_1).f2))).setCell ⟨gb176, 3, none⟩ (.string ((rd_T33 l0 x3_1).f3)))).cell? _ = some _ from hx177_2))
             (try have hy177_3 := fun (n_ : Nat) => (show ((((((w5.drewN n_).setCell ⟨gb176, 0, none⟩ (.int .i64 ((rd_T33 l0 x3_1).f0))).setCell ⟨gb176, 1, none⟩ (.int .i64 ((rd_T33 l0 x3_1).f1))).setCell ⟨gb176, 2, none⟩ (.string ((rd_T33 l0 x3_1).f2))).setCell ⟨gb176, 3, none⟩ (.string ((rd_T33 l0 x3_1).f3)))).cell? _ = some _ from hx177_3))
             clear hn177_0
             clear hn177_1
             clear hn177_2
             clear hn177_3
             replace p177 := eq_true p177
             replace q177 := eq_true q177
             go_wp2
             repeat (go_quiet (fail); try go_wp2)
             go_meet
             case rel => exact ⟨_, (true), (by first | rfl | (simp; done) | (simp [*]; done)), H', ⟨by have := HK1.out; first | omega | exact Nat.le_refl _⟩, ⟨by (with_reducible repeat (first | refine blk_drewN ?_ _ | refine blk_drew ?_ | refine blk_alloc ?_ _)); refine blk_put (cs := #[.int .i64 ((rd_T33 l0 x3_1).f0), .int .i64 ((rd_T33 l0 x3_1).f1), .string ((rd_T33 l0 x3_1).f2), .string (⟨#[]⟩ : ByteArray)]) ?_ 3 _ rfl; (with_reducible repeat (first | refine blk_drewN ?_ _ | refine blk_drew ?_ | refine blk_alloc ?_ _)); refine blk_put (cs := #[.int .i64 ((rd_T33 l0 x3_1).f0), .int .i64 ((rd_T33 l0 x3_1).f1), .string (⟨#[]⟩ : ByteArray), .string (⟨#[]⟩ : ByteArray)]) ?_ 2 _ rfl; (with_reducible repeat (first | refine blk_drewN ?_ _ | refine blk_drew ?_ | refine blk_alloc ?_ _)); refine blk_put (cs := #[.int .i64 ((rd_T33 l0 x3_1).f0), .int .i64 0, .string (⟨#[]⟩ : ByteArray), .string (⟨#[]⟩ : ByteArray)]) ?_ 1 _ rfl; (with_reducible repeat (first | refine blk_drewN ?_ _ | refine blk_drew ?_ | refine blk_alloc ?_ _)); refine blk_put (cs := #[.int .i64 0, .int .i64 0, .string (⟨#[]⟩ : ByteArray), .string (⟨#[]⟩ : ByteArray)]) ?_ 0 _ rfl; (with_reducible repeat (first | refine blk_drewN ?_ _ | refine blk_drew ?_ | refine blk_alloc ?_ _)); exact BK176.out⟩, ⟨by repeat (first | (with_reducible first | exact HB.out | apply below_alloc | apply pw_below_drewN | apply below_drew1 | refine below_set ?_ GE176.out) | exact HB.out)⟩⟩
            ·rw [if_neg c17] at H
             have c17b0 : decide (((rd_T33 l0 x3_1).f1) < 1) = false := decide_eq_false c17
             clear c17
             have H' := Aside0.mk H
             clear H
             have hcz19_0 : w5.cell? ⟨gb176, 0, none⟩ = some (.int .i64 0) := (blk_cell BK176.out 0).trans rfl
             have hcz19_1 : w5.cell? ⟨gb176, 1, none⟩ = some (.int .i64 0) := (blk_cell BK176.out 1).trans rfl
             have hcz19_2 : w5.cell? ⟨gb176, 2, none⟩ = some (.string (⟨#[]⟩ : ByteArray)) := (blk_cell BK176.out 2).trans rfl
             have hcz19_3 : w5.cell? ⟨gb176, 3, none⟩ = some (.string (⟨#[]⟩ : ByteArray)) := (blk_cell BK176.out 3).trans rfl
             have hfz19_0 := blk_frozen BK176.out 0
             have hfz19_1 := blk_frozen BK176.out 1
             have hfz19_2 := blk_frozen BK176.out 2
             have hfz19_3 := blk_frozen BK176.out 3
             have p177 : 0 ≤ ((ji12) : Int) := of_decide_eq_true (by first | (with_reducible assumption) | assumption)
             have q177 : (ji12) < (l0.length : Int) := of_decide_eq_true (by first | (with_reducible assumption) | assumption)
             obtain ⟨ad177, e177, hx177_0, hx177_1, hx177_2, hx177_3⟩ := at_T33 HR0.out (ji12) p177 q177
             obtain rfl : ad175 = ad177 := (by injection e177)
             have hn177_0 : ad175.block ≠ gb176 := Nat.ne_of_lt (Nat.lt_of_lt_of_le (by have := World.block_lt_of_cell? _ _ hx177_0; first | rwa [add_block] at this | exact this) GW176.out)
             have hn177_1 : ad175.block ≠ gb176 := Nat.ne_of_lt (Nat.lt_of_lt_of_le (by have := World.block_lt_of_cell? _ _ hx177_0; first | rwa [add_block] at this | exact this) GW176.out)
             have hn177_2 : ad175.block ≠ gb176 := Nat.ne_of_lt (Nat.lt_of_lt_of_le (by have := World.block_lt_of_cell? _ _ hx177_0; first | rwa [add_block] at this | exact this) GW176.out)
             have hn177_3 : ad175.block ≠ gb176 := Nat.ne_of_lt (Nat.lt_of_lt_of_le (by have := World.block_lt_of_cell? _ _ hx177_0; first | rwa [add_block] at this | exact this) GW176.out)
             replace hx177_0 := (HB.out.cell (World.block_lt_of_cell? w _ hx177_0)).trans hx177_0
             replace hx177_1 := (HB.out.cell (World.block_lt_of_cell? w _ hx177_1)).trans hx177_1
             replace hx177_2 := (HB.out.cell (World.block_lt_of_cell? w _ hx177_2)).trans hx177_2
             replace hx177_3 := (HB.out.cell (World.block_lt_of_cell? w _ hx177_3)).trans hx177_3
             replace hx177_0 := (cell_far (p := ⟨gb176, 0, none⟩) (by first | (rw [add_block]; exact hn177_0) | (show (Addr.add _ _).block ≠ _; rw [add_block]; exact hn177_0) | exact hn177_0) (.int .i64 ((rd_T33 l0 x3_1).f0))).trans hx177_0
             replace hx177_1 := (cell_far (p := ⟨gb176, 0, none⟩) (by first | (rw [add_block]; exact hn177_0) | (show (Addr.add _ _).block ≠ _; rw [add_block]; exact hn177_0) | exact hn177_0) (.int .i64 ((rd_T33 l0 x3_1).f0))).trans hx177_1
             replace hx177_2 := (cell_far (p := ⟨gb176, 0, none⟩) (by first | (rw [add_block]; exact hn177_0) | (show (Addr.add _ _).block ≠ _; rw [add_block]; exact hn177_0) | exact hn177_0) (.int .i64 ((rd_T33 l0 x3_1).f0))).trans hx177_2
             replace hx177_3 := (cell_far (p := ⟨gb176, 0, none⟩) (by first | (rw [add_block]; exact hn177_0) | (show (Addr.add _ _).block ≠ _; rw [add_block]; exact hn177_0) | exact hn177_0) (.int .i64 ((rd_T33 l0 x3_1).f0))).trans hx177_3
             replace hx177_0 := (cell_far (p := ⟨gb176, 1, none⟩) (by first | (rw [add_block]; exact hn177_1) | (show (Addr.add _ _).block ≠ _; rw [add_block]; exact hn177_1) | exact hn177_1) (.int .i64 ((rd_T33 l0 x3_1).f1))).trans hx177_0
             replace hx177_1 := (cell_far (p := ⟨gb176, 1, none⟩) (by first | (rw [add_block]; exact hn177_1) | (show (Addr.add _ _).block ≠ _; rw [add_block]; exact hn177_1) | exact hn177_1) (.int .i64 ((rd_T33 l0 x3_1).f1))).trans hx177_1
             replace hx177_2 := (cell_far (p := ⟨gb176, 1, none⟩) (by first | (rw [add_block]; exact hn177_1) | (show (Addr.add _ _).block ≠ _; rw [add_block]; exact hn177_1) | exact hn177_1) (.int .i64 ((rd_T33 l0 x3_1).f1))).trans hx177_2
             replace hx177_3 := (cell_far (p := ⟨gb176, 1, none⟩) (by first | (rw [add_block]; exact hn177_1) | (show (Addr.add _ _).block ≠ _; rw [add_block]; exact hn177_1) | exact hn177_1) (.int .i64 ((rd_T33 l0 x3_1).f1))).trans hx177_3
             replace hx177_0 := (cell_far (p := ⟨gb176, 2, none⟩) (by first | (rw [add_block]; exact hn177_2) | (show (Addr.add _ _).block ≠ _; rw [add_block]; exact hn177_2) | exact hn177_2) (.string ((rd_T33 l0 x3_1).f2))).trans hx177_0
             replace hx177_1 := (cell_far (p := ⟨gb176, 2, none⟩) (by first | (rw [add_block]; exact hn177_2) | (show (Addr.add _ _).block ≠ _; rw [add_block]; exact hn177_2) | exact hn177_2) (.string ((rd_T33 l0 x3_1).f2))).trans hx177_1
             replace hx177_2 := (cell_far (p := ⟨gb176, 2, none⟩) (by first | (rw [add_block]; exact hn177_2) | (show (Addr.add _ _).block ≠ _; rw [add_block]; exact hn177_2) | exact hn177_2) (.string ((rd_T33 l0 x3_1).f2))).trans hx177_2
             replace hx177_3 := (cell_far (p := ⟨gb176, 2, none⟩) (by first | (rw [add_block]; exact hn177_2) | (show (Addr.add _ _).block ≠ _; rw [add_block]; exact hn177_2) | exact hn177_2) (.string ((rd_T33 l0 x3_1).f2))).trans hx177_3
             replace hx177_0 := (cell_far (p := ⟨gb176, 3, none⟩) (by first | (rw [add_block]; exact hn177_3) | (show (Addr.add _ _).block ≠ _; rw [add_block]; exact hn177_3) | exact hn177_3) (.string ((rd_T33 l0 x3_1).f3))).trans hx177_0
             replace hx177_1 := (cell_far (p := ⟨gb176, 3, none⟩) (by first | (rw [add_block]; exact hn177_3) | (show (Addr.add _ _).block ≠ _; rw [add_block]; exact hn177_3) | exact hn177_3) (.string ((rd_T33 l0 x3_1).f3))).trans hx177_1
             replace hx177_2 := (cell_far (p := ⟨gb176, 3, none⟩) (by first | (rw [add_block]; exact hn177_3) | (show (Addr.add _ _).block ≠ _; rw [add_block]; exact hn177_3) | exact hn177_3) (.string ((rd_T33 l0 x3_1).f3))).trans hx177_2
             replace hx177_3 := (cell_far (p := ⟨gb176, 3, none⟩) (by first | (rw [add_block]; exact hn177_3) | (show (Addr.add _ _).block ≠ _; rw [add_block]; exact hn177_3) | exact hn177_3) (.string ((rd_T33 l0 x3_1).f3))).trans hx177_3
             (try have hy177_0 := fun (n_ : Nat) => (show ((((((w5.drewN n_).setCell ⟨gb176, 0, none⟩ (.int .i64 ((rd_T33 l0 x3_1).f0))).setCell ⟨gb176, 1, none⟩ (.int .i64 ((rd_T33 l0 x3_1).f1))).setCell ⟨gb176, 2, none⟩ (.string ((rd_T33 l0 x3_1).f2))).setCell ⟨gb176, 3, none⟩ (.string ((rd_T33 l0 x3_1).f3)))).cell? _ = some _ from hx177_0))
             (try have hy177_1 := fun (n_ : Nat) => (show ((((((w5.drewN n_).setCell ⟨gb176, 0, none⟩ (.int .i64 ((rd_T33 l0 x3_1).f0))).setCell ⟨gb176, 1, none⟩ (.int .i64 ((rd_T33 l0 x3_1).f1))).setCell ⟨gb176, 2, none⟩ (.string ((rd_T33 l0 x3_1).f2))).setCell ⟨gb176, 3, none⟩ (.string ((rd_T33 l0 x3_1).f3)))).cell? _ = some _ from hx177_1))
             (try have hy177_2 := fun (n_ : Nat) => (show ((((((w5.drewN n_).setCell ⟨gb176, 0, none⟩ (.int .i64 ((rd_T33 l0 x3_1).f0))).setCell ⟨gb176, 1, none⟩ (.int .i64 ((rd_T33 l0 x3_1).f1))).setCell ⟨gb176, 2, none⟩ (.string ((rd_T33 l0 x3_1).f2))).setCell ⟨gb176, 3, none⟩ (.string ((rd_T33 l0 x3_1).f3)))).cell? _ = some _ from hx177_2))
             (try have hy177_3 := fun (n_ : Nat) => (show ((((((w5.drewN n_).setCell ⟨gb176, 0, none⟩ (.int .i64 ((rd_T33 l0 x3_1).f0))).setCell ⟨gb176, 1, none⟩ (.int .i64 ((rd_T33 l0 x3_1).f1))).setCell ⟨gb176, 2, none⟩ (.string ((rd_T33 l0 x3_1).f2))).setCell ⟨gb176, 3, none⟩ (.string ((rd_T33 l0 x3_1).f3)))).cell? _ = some _ from hx177_3))
             clear hn177_0
             clear hn177_1
             clear hn177_2
             clear hn177_3
             replace p177 := eq_true p177
             replace q177 := eq_true q177
             go_wp2
             repeat (go_quiet (fail); try go_wp2)
             go_meet
             case rel => exact ⟨_, (decide (((rd_T33 l0 x3_1).f1) > 9)), (by first | rfl | (simp; done) | (simp [*]; done)), H', ⟨by have := HK1.out; first | omega | exact Nat.le_refl _⟩, ⟨by (with_reducible repeat (first | refine blk_drewN ?_ _ | refine blk_drew ?_ | refine blk_alloc ?_ _)); refine blk_put (cs := #[.int .i64 ((rd_T33 l0 x3_1).f0), .int .i64 ((rd_T33 l0 x3_1).f1), .string ((rd_T33 l0 x3_1).f2), .string (⟨#[]⟩ : ByteArray)]) ?_ 3 _ rfl; (with_reducible repeat (first | refine blk_drewN ?_ _ | refine blk_drew ?_ | refine blk_alloc ?_ _)); refine blk_put (cs := #[.int .i64 ((rd_T33 l0 x3_1).f0), .int .i64 ((rd_T33 l0 x3_1).f1), .string (⟨#[]⟩ : ByteArray), .string (⟨#[]⟩ : ByteArray)]) ?_ 2 _ rfl; (with_reducible repeat (first | refine blk_drewN ?_ _ | refine blk_drew ?_ | refine blk_alloc ?_ _)); refine blk_put (cs := #[.int .i64 ((rd_T33 l0 x3_1).f0), .int .i64 0, .string (⟨#[]⟩ : ByteArray), .string (⟨#[]⟩ : ByteArray)]) ?_ 1 _ rfl; (with_reducible repeat (first | refine blk_drewN ?_ _ | refine blk_drew ?_ | refine blk_alloc ?_ _)); refine blk_put (cs := #[.int .i64 0, .int .i64 0, .string (⟨#[]⟩ : ByteArray), .string (⟨#[]⟩ : ByteArray)]) ?_ 0 _ rfl; (with_reducible repeat (first | refine blk_drewN ?_ _ | refine blk_drew ?_ | refine blk_alloc ?_ _)); exact BK176.out⟩, ⟨by repeat (first | (with_reducible first | exact HB.out | apply below_alloc | apply pw_below_drewN | apply below_drew1 | refine below_set ?_ GE176.out) | exact HB.out)⟩⟩
          ·rw [if_neg c14] at H
           exact absurd H (by simp)
         ·rw [if_neg c13] at H
          exact absurd H (by simp)
        ·rw [if_neg c11] at H
         have c11b0 : decide (0 < x3_1) = false := decide_eq_false c11
         clear c11
         by_cases c20 : ((rd_T33 l0 x3_1).f1) < 1
         ·rw [if_pos c20] at H
          have c20b0 : decide (((rd_T33 l0 x3_1).f1) < 1) = true := decide_eq_true c20
          clear c20
          have H' := Aside0.mk H
          clear H
          have hcz21_0 : w5.cell? ⟨gb176, 0, none⟩ = some (.int .i64 0) := (blk_cell BK176.out 0).trans rfl
          have hcz21_1 : w5.cell? ⟨gb176, 1, none⟩ = some (.int .i64 0) := (blk_cell BK176.out 1).trans rfl
          have hcz21_2 : w5.cell? ⟨gb176, 2, none⟩ = some (.string (⟨#[]⟩ : ByteArray)) := (blk_cell BK176.out 2).trans rfl
          have hcz21_3 : w5.cell? ⟨gb176, 3, none⟩ = some (.string (⟨#[]⟩ : ByteArray)) := (blk_cell BK176.out 3).trans rfl
          have hfz21_0 := blk_frozen BK176.out 0
          have hfz21_1 := blk_frozen BK176.out 1
          have hfz21_2 := blk_frozen BK176.out 2
          have hfz21_3 := blk_frozen BK176.out 3
          go_wp2
          repeat (go_quiet (fail); try go_wp2)
          go_meet
          case rel => exact ⟨_, (true), (by first | rfl | (simp; done) | (simp [*]; done)), H', ⟨by have := HK1.out; first | omega | exact Nat.le_refl _⟩, ⟨by (with_reducible repeat (first | refine blk_drewN ?_ _ | refine blk_drew ?_ | refine blk_alloc ?_ _)); refine blk_put (cs := #[.int .i64 ((rd_T33 l0 x3_1).f0), .int .i64 ((rd_T33 l0 x3_1).f1), .string ((rd_T33 l0 x3_1).f2), .string (⟨#[]⟩ : ByteArray)]) ?_ 3 _ rfl; (with_reducible repeat (first | refine blk_drewN ?_ _ | refine blk_drew ?_ | refine blk_alloc ?_ _)); refine blk_put (cs := #[.int .i64 ((rd_T33 l0 x3_1).f0), .int .i64 ((rd_T33 l0 x3_1).f1), .string (⟨#[]⟩ : ByteArray), .string (⟨#[]⟩ : ByteArray)]) ?_ 2 _ rfl; (with_reducible repeat (first | refine blk_drewN ?_ _ | refine blk_drew ?_ | refine blk_alloc ?_ _)); refine blk_put (cs := #[.int .i64 ((rd_T33 l0 x3_1).f0), .int .i64 0, .string (⟨#[]⟩ : ByteArray), .string (⟨#[]⟩ : ByteArray)]) ?_ 1 _ rfl; (with_reducible repeat (first | refine blk_drewN ?_ _ | refine blk_drew ?_ | refine blk_alloc ?_ _)); refine blk_put (cs := #[.int .i64 0, .int .i64 0, .string (⟨#[]⟩ : ByteArray), .string (⟨#[]⟩ : ByteArray)]) ?_ 0 _ rfl; (with_reducible repeat (first | refine blk_drewN ?_ _ | refine blk_drew ?_ | refine blk_alloc ?_ _)); exact BK176.out⟩, ⟨by repeat (first | (with_reducible first | exact HB.out | apply below_alloc | apply pw_below_drewN | apply below_drew1 | refine below_set ?_ GE176.out) | exact HB.out)⟩⟩
         ·rw [if_neg c20] at H
          have c20b0 : decide (((rd_T33 l0 x3_1).f1) < 1) = false := decide_eq_false c20
          clear c20
          have H' := Aside0.mk H
          clear H
          have hcz22_0 : w5.cell? ⟨gb176, 0, none⟩ = some (.int .i64 0) := (blk_cell BK176.out 0).trans rfl
          have hcz22_1 : w5.cell? ⟨gb176, 1, none⟩ = some (.int .i64 0) := (blk_cell BK176.out 1).trans rfl
          have hcz22_2 : w5.cell? ⟨gb176, 2, none⟩ = some (.string (⟨#[]⟩ : ByteArray)) := (blk_cell BK176.out 2).trans rfl
          have hcz22_3 : w5.cell? ⟨gb176, 3, none⟩ = some (.string (⟨#[]⟩ : ByteArray)) := (blk_cell BK176.out 3).trans rfl
          have hfz22_0 := blk_frozen BK176.out 0
          have hfz22_1 := blk_frozen BK176.out 1
          have hfz22_2 := blk_frozen BK176.out 2
          have hfz22_3 := blk_frozen BK176.out 3
          go_wp2
          repeat (go_quiet (fail); try go_wp2)
          go_meet
          case rel => exact ⟨_, (decide (((rd_T33 l0 x3_1).f1) > 9)), (by first | rfl | (simp; done) | (simp [*]; done)), H', ⟨by have := HK1.out; first | omega | exact Nat.le_refl _⟩, ⟨by (with_reducible repeat (first | refine blk_drewN ?_ _ | refine blk_drew ?_ | refine blk_alloc ?_ _)); refine blk_put (cs := #[.int .i64 ((rd_T33 l0 x3_1).f0), .int .i64 ((rd_T33 l0 x3_1).f1), .string ((rd_T33 l0 x3_1).f2), .string (⟨#[]⟩ : ByteArray)]) ?_ 3 _ rfl; (with_reducible repeat (first | refine blk_drewN ?_ _ | refine blk_drew ?_ | refine blk_alloc ?_ _)); refine blk_put (cs := #[.int .i64 ((rd_T33 l0 x3_1).f0), .int .i64 ((rd_T33 l0 x3_1).f1), .string (⟨#[]⟩ : ByteArray), .string (⟨#[]⟩ : ByteArray)]) ?_ 2 _ rfl; (with_reducible repeat (first | refine blk_drewN ?_ _ | refine blk_drew ?_ | refine blk_alloc ?_ _)); refine blk_put (cs := #[.int .i64 ((rd_T33 l0 x3_1).f0), .int .i64 0, .string (⟨#[]⟩ : ByteArray), .string (⟨#[]⟩ : ByteArray)]) ?_ 1 _ rfl; (with_reducible repeat (first | refine blk_drewN ?_ _ | refine blk_drew ?_ | refine blk_alloc ?_ _)); refine blk_put (cs := #[.int .i64 0, .int .i64 0, .string (⟨#[]⟩ : ByteArray), .string (⟨#[]⟩ : ByteArray)]) ?_ 0 _ rfl; (with_reducible repeat (first | refine blk_drewN ?_ _ | refine blk_drew ?_ | refine blk_alloc ?_ _)); exact BK176.out⟩, ⟨by repeat (first | (with_reducible first | exact HB.out | apply below_alloc | apply pw_below_drewN | apply below_drew1 | refine below_set ?_ GE176.out) | exact HB.out)⟩⟩
     case rest =>
      clear HC4
      try clear c1
      try clear p1
      try clear q1
      try clear hx1
      try clear c2
      try clear c2b0
      try clear p2
      try clear c3
      try clear c3b0
      try clear p6
      try clear c7
      try clear c7b0
      try clear c9
      try clear c9b0
      try clear c11
      try clear c11b0
      try clear c13
      try clear c13b0
      try clear c14
      try clear c14b0
      try clear c15
      try clear c15b0
      try clear c17
      try clear c17b0
      try clear p17
      try clear q17
      try clear hx17
      try clear c20
      try clear c20b0
      try clear hcz10_0
      try clear hcz10_1
      try clear hcz10_2
      try clear hcz10_3
      try clear hcz16_0
      try clear hcz16_1
      try clear hcz16_2
      try clear hcz16_3
      try clear hcz18_0
      try clear hcz18_1
      try clear hcz18_2
      try clear hcz18_3
      try clear hcz19_0
      try clear hcz19_1
      try clear hcz19_2
      try clear hcz19_3
      try clear hcz21_0
      try clear hcz21_1
      try clear hcz21_2
      try clear hcz21_3
      try clear hcz22_0
      try clear hcz22_1
      try clear hcz22_2
      try clear hcz22_3
      try clear hcz6_0
      try clear hcz6_1
      try clear hcz6_2
      try clear hcz6_3
      try clear hcz8_0
      try clear hcz8_1
      try clear hcz8_2
      try clear hcz8_3
      try clear hfz10_0
      try clear hfz10_1
      try clear hfz10_2
      try clear hfz10_3
      try clear hfz16_0
      try clear hfz16_1
      try clear hfz16_2
      try clear hfz16_3
      try clear hfz18_0
      try clear hfz18_1
      try clear hfz18_2
      try clear hfz18_3
      try clear hfz19_0
      try clear hfz19_1
      try clear hfz19_2
      try clear hfz19_3
      try clear hfz21_0
      try clear hfz21_1
      try clear hfz21_2
      try clear hfz21_3
      try clear hfz22_0
      try clear hfz22_1
      try clear hfz22_2
      try clear hfz22_3
      try clear hfz6_0
      try clear hfz6_1
      try clear hfz6_2
      try clear hfz6_3
      try clear hfz8_0
      try clear hfz8_1
      try clear hfz8_2
      try clear hfz8_3
      try clear hx175_0
      try clear hx175_1
      try clear hx175_2
      try clear hx175_3
      try clear hx177_0
      try clear hx177_1
      try clear hx177_2
      try clear hx177_3
      try clear p175
      try clear p177
      try clear q175
      try clear q177
      obtain ⟨kq, x47_3, rfl, HA, HJ3, BK176, HB⟩ := hcut
      cases kq with
      | zero => exact absurd HA.out (by simp [garboardref58_right.j1])
      | succ kj3 =>
       have H := HA.out
       clear HA
       simp only [garboardref58_right.j1] at H
       by_cases c23 : x47_3 = true
       ·subst c23
        have H1 : (some false) = some r := by rw [if_pos rfl] at H; exact H
        clear H
        have H := H1
        clear H1
        obtain rfl := Option.some.inj H
        go_wp2
        repeat (go_quiet (fail); try go_wp2)
        go_ret
        exact ⟨by first | rfl | (simp [errW_none, errW_some] <;> rfl) | (simp [*, errW_none, errW_some] <;> rfl), by repeat (first | (with_reducible first | exact HB.out | apply below_alloc | apply pw_below_drewN | apply below_drew1 | refine below_set ?_ GE176.out) | exact HB.out)⟩
       ·replace c23 := Bool.eq_false_iff.mpr c23
        subst c23
        have H1 : (if (((rd_T33 l0 x3_1).f2).size : Int) < 1 then (some false) else (if (((rd_T33 l0 x3_1).f2).size : Int) > 64 then (some false) else (if (((rd_T33 l0 x3_1).f3).size : Int) < 1 then (some false) else (if (((rd_T33 l0 x3_1).f3).size : Int) > 64 then (some false) else (garboardref58_right.l0 kj3 l0 (wrap64 (x3_1 + 1))))))) = some r := by rw [if_neg (show ¬ (false = true) by decide)] at H; exact H
        clear H
        have H := H1
        clear H1
        by_cases c24 : (((rd_T33 l0 x3_1).f2).size : Int) < 1
        ·rw [if_pos c24] at H
         have c24b0 : decide ((((rd_T33 l0 x3_1).f2).size : Int) < 1) = true := decide_eq_true c24
         have c24b1 : decide (((rd_T33 l0 x3_1).f2).size < 1) = true := decide_eq_true (by omega)
         clear c24
         obtain rfl := Option.some.inj H
         have hcz25_0 : wc.cell? ⟨gb176, 0, none⟩ = some (.int .i64 ((rd_T33 l0 x3_1).f0)) := (blk_cell BK176.out 0).trans rfl
         have hcz25_1 : wc.cell? ⟨gb176, 1, none⟩ = some (.int .i64 ((rd_T33 l0 x3_1).f1)) := (blk_cell BK176.out 1).trans rfl
         have hcz25_2 : wc.cell? ⟨gb176, 2, none⟩ = some (.string ((rd_T33 l0 x3_1).f2)) := (blk_cell BK176.out 2).trans rfl
         have hcz25_3 : wc.cell? ⟨gb176, 3, none⟩ = some (.string ((rd_T33 l0 x3_1).f3)) := (blk_cell BK176.out 3).trans rfl
         have hfz25_0 := blk_frozen BK176.out 0
         have hfz25_1 := blk_frozen BK176.out 1
         have hfz25_2 := blk_frozen BK176.out 2
         have hfz25_3 := blk_frozen BK176.out 3
         go_wp2
         repeat (go_quiet (fail); try go_wp2)
         go_ret
         exact ⟨by first | rfl | (simp [errW_none, errW_some] <;> rfl) | (simp [*, errW_none, errW_some] <;> rfl), by repeat (first | (with_reducible first | exact HB.out | apply below_alloc | apply pw_below_drewN | apply below_drew1 | refine below_set ?_ GE176.out) | exact HB.out)⟩
        ·rw [if_neg c24] at H
         have c24b0 : decide ((((rd_T33 l0 x3_1).f2).size : Int) < 1) = false := decide_eq_false c24
         have c24b1 : decide (((rd_T33 l0 x3_1).f2).size < 1) = false := decide_eq_false (by omega)
         clear c24
         by_cases c26 : (((rd_T33 l0 x3_1).f2).size : Int) > 64
         ·rw [if_pos c26] at H
          have c26b0 : decide (64 < (((rd_T33 l0 x3_1).f2).size : Int)) = true := decide_eq_true c26
          have c26b1 : decide (64 < ((rd_T33 l0 x3_1).f2).size) = true := decide_eq_true (by omega)
          clear c26
          obtain rfl := Option.some.inj H
          have hcz27_0 : wc.cell? ⟨gb176, 0, none⟩ = some (.int .i64 ((rd_T33 l0 x3_1).f0)) := (blk_cell BK176.out 0).trans rfl
          have hcz27_1 : wc.cell? ⟨gb176, 1, none⟩ = some (.int .i64 ((rd_T33 l0 x3_1).f1)) := (blk_cell BK176.out 1).trans rfl
          have hcz27_2 : wc.cell? ⟨gb176, 2, none⟩ = some (.string ((rd_T33 l0 x3_1).f2)) := (blk_cell BK176.out 2).trans rfl
          have hcz27_3 : wc.cell? ⟨gb176, 3, none⟩ = some (.string ((rd_T33 l0 x3_1).f3)) := (blk_cell BK176.out 3).trans rfl
          have hfz27_0 := blk_frozen BK176.out 0
          have hfz27_1 := blk_frozen BK176.out 1
          have hfz27_2 := blk_frozen BK176.out 2
          have hfz27_3 := blk_frozen BK176.out 3
          go_wp2
          repeat (go_quiet (fail); try go_wp2)
          go_ret
          exact ⟨by first | rfl | (simp [errW_none, errW_some] <;> rfl) | (simp [*, errW_none, errW_some] <;> rfl), by repeat (first | (with_reducible first | exact HB.out | apply below_alloc | apply pw_below_drewN | apply below_drew1 | refine below_set ?_ GE176.out) | exact HB.out)⟩
         ·rw [if_neg c26] at H
          have c26b0 : decide (64 < (((rd_T33 l0 x3_1).f2).size : Int)) = false := decide_eq_false c26
          have c26b1 : decide (64 < ((rd_T33 l0 x3_1).f2).size) = false := decide_eq_false (by omega)
          clear c26
          by_cases c28 : (((rd_T33 l0 x3_1).f3).size : Int) < 1
          ·rw [if_pos c28] at H
           have c28b0 : decide ((((rd_T33 l0 x3_1).f3).size : Int) < 1) = true := decide_eq_true c28
           have c28b1 : decide (((rd_T33 l0 x3_1).f3).size < 1) = true := decide_eq_true (by omega)
           clear c28
           obtain rfl := Option.some.inj H
           have hcz29_0 : wc.cell? ⟨gb176, 0, none⟩ = some (.int .i64 ((rd_T33 l0 x3_1).f0)) := (blk_cell BK176.out 0).trans rfl
           have hcz29_1 : wc.cell? ⟨gb176, 1, none⟩ = some (.int .i64 ((rd_T33 l0 x3_1).f1)) := (blk_cell BK176.out 1).trans rfl
           have hcz29_2 : wc.cell? ⟨gb176, 2, none⟩ = some (.string ((rd_T33 l0 x3_1).f2)) := (blk_cell BK176.out 2).trans rfl
           have hcz29_3 : wc.cell? ⟨gb176, 3, none⟩ = some (.string ((rd_T33 l0 x3_1).f3)) := (blk_cell BK176.out 3).trans rfl
           have hfz29_0 := blk_frozen BK176.out 0
           have hfz29_1 := blk_frozen BK176.out 1
           have hfz29_2 := blk_frozen BK176.out 2
           have hfz29_3 := blk_frozen BK176.out 3
           go_wp2
           repeat (go_quiet (fail); try go_wp2)
           go_ret
           exact ⟨by first | rfl | (simp [errW_none, errW_some] <;> rfl) | (simp [*, errW_none, errW_some] <;> rfl), by repeat (first | (with_reducible first | exact HB.out | apply below_alloc | apply pw_below_drewN | apply below_drew1 | refine below_set ?_ GE176.out) | exact HB.out)⟩
          ·rw [if_neg c28] at H
           have c28b0 : decide ((((rd_T33 l0 x3_1).f3).size : Int) < 1) = false := decide_eq_false c28
           have c28b1 : decide (((rd_T33 l0 x3_1).f3).size < 1) = false := decide_eq_false (by omega)
           clear c28
           by_cases c30 : (((rd_T33 l0 x3_1).f3).size : Int) > 64
           ·rw [if_pos c30] at H
            have c30b0 : decide (64 < (((rd_T33 l0 x3_1).f3).size : Int)) = true := decide_eq_true c30
            have c30b1 : decide (64 < ((rd_T33 l0 x3_1).f3).size) = true := decide_eq_true (by omega)
            clear c30
            obtain rfl := Option.some.inj H
            have hcz31_0 : wc.cell? ⟨gb176, 0, none⟩ = some (.int .i64 ((rd_T33 l0 x3_1).f0)) := (blk_cell BK176.out 0).trans rfl
            have hcz31_1 : wc.cell? ⟨gb176, 1, none⟩ = some (.int .i64 ((rd_T33 l0 x3_1).f1)) := (blk_cell BK176.out 1).trans rfl
            have hcz31_2 : wc.cell? ⟨gb176, 2, none⟩ = some (.string ((rd_T33 l0 x3_1).f2)) := (blk_cell BK176.out 2).trans rfl
            have hcz31_3 : wc.cell? ⟨gb176, 3, none⟩ = some (.string ((rd_T33 l0 x3_1).f3)) := (blk_cell BK176.out 3).trans rfl
            have hfz31_0 := blk_frozen BK176.out 0
            have hfz31_1 := blk_frozen BK176.out 1
            have hfz31_2 := blk_frozen BK176.out 2
            have hfz31_3 := blk_frozen BK176.out 3
            go_wp2
            repeat (go_quiet (fail); try go_wp2)
            go_ret
            exact ⟨by first | rfl | (simp [errW_none, errW_some] <;> rfl) | (simp [*, errW_none, errW_some] <;> rfl), by repeat (first | (with_reducible first | exact HB.out | apply below_alloc | apply pw_below_drewN | apply below_drew1 | refine below_set ?_ GE176.out) | exact HB.out)⟩
           ·rw [if_neg c30] at H
            have c30b0 : decide (64 < (((rd_T33 l0 x3_1).f3).size : Int)) = false := decide_eq_false c30
            have c30b1 : decide (64 < ((rd_T33 l0 x3_1).f3).size) = false := decide_eq_false (by omega)
            clear c30
            have H' := Aside0.mk H
            clear H
            have hcz32_0 : wc.cell? ⟨gb176, 0, none⟩ = some (.int .i64 ((rd_T33 l0 x3_1).f0)) := (blk_cell BK176.out 0).trans rfl
            have hcz32_1 : wc.cell? ⟨gb176, 1, none⟩ = some (.int .i64 ((rd_T33 l0 x3_1).f1)) := (blk_cell BK176.out 1).trans rfl
            have hcz32_2 : wc.cell? ⟨gb176, 2, none⟩ = some (.string ((rd_T33 l0 x3_1).f2)) := (blk_cell BK176.out 2).trans rfl
            have hcz32_3 : wc.cell? ⟨gb176, 3, none⟩ = some (.string ((rd_T33 l0 x3_1).f3)) := (blk_cell BK176.out 3).trans rfl
            have hfz32_0 := blk_frozen BK176.out 0
            have hfz32_1 := blk_frozen BK176.out 1
            have hfz32_2 := blk_frozen BK176.out 2
            have hfz32_3 := blk_frozen BK176.out 3
            go_wp2
            repeat (go_quiet (fail); try go_wp2)
            go_roundg kj3
            case measure => have := HK1.out; have := HJ3.out; omega
            case rel => exact ⟨(wrap64 (x3_1 + 1)), (by first | rfl | (simp; done) | (simp [*]; done)), H', ⟨by have := HK1.out; have := HJ3.out; omega⟩, ⟨by repeat (first | (with_reducible first | exact HB.out | apply below_alloc | apply pw_below_drewN | apply below_drew1 | refine below_set ?_ GE176.out) | exact HB.out)⟩⟩
    ·rw [if_neg c3] at H
     exact absurd H (by simp)
   ·rw [if_neg c2] at H
    have c2b0 : decide (x3_1 < (l0.length : Int)) = false := decide_eq_false c2
    clear c2
    obtain rfl := Option.some.inj H
    go_wp2
    repeat (go_quiet (fail); try go_wp2)
    go_ret
    exact ⟨by first | rfl | (simp [errW_none, errW_some] <;> rfl) | (simp [*, errW_none, errW_some] <;> rfl), by repeat (first | (with_reducible first | exact HB.out | apply below_alloc | apply pw_below_drewN | apply below_drew1) | exact HB.out)⟩
end Go.Proofs.YtbfimjncophcaaaDoor.Pr
namespace Go.Proofs.YtbfimjncophcaaaDoor.Pr
open Go.RowKit Go.Proofs.YtbfimjncophcaaaDoorW.PrintWords Go.Proofs.YtbfimjncophcaaaDoorW.PrintLast Go.Proofs.YtbfimjncophcaaaDoorW.PrintMore
attribute [local go_sem] max2_int min2_int max_two min_two max_three min_three max_four min_four
set_option linter.unusedVariables false
set_option linter.unusedSimpArgs false
def garboardref58_Check.l0 : Nat → List (S33) → List (S25) → Int → Option (Int × Int)
 | 0, _, _, _ => none
 | k + 1, x0, x1, x6 => if x6 < (x1.length : Int) then ((garboardref58_fault.f k x0 x1 x6).bind fun t204 => (if t204 = 0 then (garboardref58_Check.l0 k x0 x1 (wrap64 (x6 + 1))) else (some (x6, t204)))) else (some ((-1), 0))
def garboardref58_Check.f (k : Nat) (l0 : List (S33)) (l1 : List (S25)) : Option (Int × Int) := (garboardref58_right.f k l0).bind fun t203 => (if t203 = true then (if (l1.length : Int) > 1024 then (some ((-1), 8)) else (garboardref58_Check.l0 k l0 l1 0)) else (some ((-1), 1)))
theorem garboardref58_Check.mono_l : ∀ k, (∀ y0 y1 y2, LeO (garboardref58_Check.l0 k y0 y1 y2) (garboardref58_Check.l0 (k + 1) y0 y1 y2))
 | 0 => fun _ _ _ r h => by simp [garboardref58_Check.l0] at h
 | k + 1 => by
  have ih0 := garboardref58_Check.mono_l k
  ·intro y0 y1 y2
   unfold garboardref58_Check.l0
   repeat' first
   | (with_reducible exact ih0 _ _ _)
   | (with_reducible exact garboardref58_fault.mono _ _ _ _)
   | (with_reducible exact garboardref58_right.mono _ _)
   | (with_reducible exact LeO.refl _)
   | (with_reducible exact LeO.none _)
   | (with_reducible refine LeO.ite ?_ ?_)
   | (with_reducible refine LeO.bind ?_ (fun _ => ?_))
   | exact ih0 _ _ _
   | exact garboardref58_fault.mono _ _ _ _
   | exact garboardref58_right.mono _ _
   | exact LeO.none _
   | refine LeO.ite ?_ ?_
   | refine LeO.bind ?_ (fun _ => ?_)
theorem garboardref58_Check.mono : ∀ a0 a1 k, LeO (garboardref58_Check.f k a0 a1) (garboardref58_Check.f (k + 1) a0 a1) := by
 intro a0 a1 k
 have ih0 := garboardref58_Check.mono_l k
 unfold garboardref58_Check.f
 repeat' first
   | (with_reducible exact ih0 _ _ _)
   | (with_reducible exact garboardref58_fault.mono _ _ _ _)
   | (with_reducible exact garboardref58_right.mono _ _)
   | (with_reducible exact LeO.refl _)
   | (with_reducible exact LeO.none _)
   | (with_reducible refine LeO.ite ?_ ?_)
   | (with_reducible refine LeO.bind ?_ (fun _ => ?_))
   | exact ih0 _ _ _
   | exact garboardref58_fault.mono _ _ _ _
   | exact garboardref58_right.mono _ _
   | exact LeO.none _
   | refine LeO.ite ?_ ?_
   | refine LeO.bind ?_ (fun _ => ?_)
set_option maxHeartbeats 8000000 in
set_option maxRecDepth 100000 in
theorem garboardref58_Check.calls (k : Nat) (A0 : Option Addr) (c0 : Nat) (l0 : List (S33)) (A1 : Option Addr) (c1 : Nat) (l1 : List (S25)) (r1 : Int) (r2 : Int) (w : World) (hr0 : Kd.C k33 w A0 l0.length l0) (hc0 : l0.length ≤ c0) (hr1 : Kd.C k25 w A1 l1.length l1) (hc1 : l1.length ≤ c1) (hL : LaidW w) (h : garboardref58_Check.f k l0 l1 = some (r1, r2)) :
  Calls Tryd.prog 14 #[.slice A0 l0.length c0, .slice A1 l1.length c1] w fun e w' => e = .returned (.tuple #[.int .i64 r1, .int .i64 r2]) ∧ Below w.heap.size w w' := by
 have HR0 := Aside0.mk hr0
 have HC0 := Aside0.mk hc0
 clear hr0 hc0
 have HR1 := Aside0.mk hr1
 have HC1 := Aside0.mk hc1
 clear hr1 hc1
 have HB := Aside0.mk (Below.refl w.heap.size w)
 have HLW := Aside0.mk hL
 clear hL
 have H : ((garboardref58_right.f k l0).bind fun t203 => (if t203 = true then (if (l1.length : Int) > 1024 then (some ((-1), 8)) else (garboardref58_Check.l0 k l0 l1 0)) else (some ((-1), 1)))) = some (r1, r2) := h
 clear h
 replace H := Option.bind_eq_some_iff.mp H
 obtain ⟨t203, A30, H⟩ := H
 replace H : (if t203 = true then (if (l1.length : Int) > 1024 then (some ((-1), 8)) else (garboardref58_Check.l0 k l0 l1 0)) else (some ((-1), 1))) = some (r1, r2) := H
 have A3 := Aside0.mk A30
 clear A30
 by_cases c4 : t203 = true
 ·subst c4
  have H1 : (if (l1.length : Int) > 1024 then (some ((-1), 8)) else (garboardref58_Check.l0 k l0 l1 0)) = some (r1, r2) := by rw [if_pos rfl] at H; exact H
  clear H
  have H := H1
  clear H1
  by_cases c5 : (l1.length : Int) > 1024
  ·rw [if_pos c5] at H
   have c5b0 : decide (1024 < (l1.length : Int)) = true := decide_eq_true c5
   have c5b1 : decide (1024 < l1.length) = true := decide_eq_true (by omega)
   clear c5
   simp only [Option.some.injEq, Prod.mk.injEq] at H
   obtain ⟨rfl, rfl⟩ := H
   go_enter Tryd.func14, Tryd.ntmps14
   go_wp2_with (first | ((with_reducible refine gate_callee (f := 39) rfl ?_); refine goesL_ (some 9) rfl rfl Tryd.func39 (by kernel_rfl) rfl #[.slice A0 l0.length c0] rfl (by (try simp only [List.map_toArray, List.map_cons, List.map_nil]); first | done | rfl | (simp only [List.length_drop, List.length_take]; rfl)) ?_; (with_reducible refine (garboardref58_right.calls k _ _ l0 true _ ?side1 ?side2 A3.out).mono ?_); (case side1 => repeat (first | exact HR0.out | (with_reducible refine Kd.C_alloc ?_ _) | (with_reducible refine Kd.C_drewN ?_ _) | (with_reducible refine Kd.C_drew ?_))); (case side2 => exact HC0.out); rintro e w6 ⟨rfl, hb⟩; refine ⟨_, rfl, ?_⟩; have n0_ := Aside0.mk (below_step (by repeat (first | (with_reducible first | exact HB.out | apply below_alloc | apply pw_below_drewN | apply below_drew1) | exact HB.out)) hb); clear HB; have HB := n0_; clear n0_; (try clear hb); (try clear hb2); (try clear hk); (try clear hi)))
   go_ret2
   exact ⟨by first | rfl | (simp [errW_none, errW_some] <;> rfl) | (simp [*, errW_none, errW_some] <;> rfl), by repeat (first | (with_reducible first | exact HB.out | apply below_alloc | apply pw_below_drewN | apply below_drew1) | exact HB.out)⟩
  ·rw [if_neg c5] at H
   have c5b0 : decide (1024 < (l1.length : Int)) = false := decide_eq_false c5
   have c5b1 : decide (1024 < l1.length) = false := decide_eq_false (by omega)
   clear c5
   have H' := Aside0.mk H
   clear H
   go_enter Tryd.func14, Tryd.ntmps14
   go_wp2_with (first | ((with_reducible refine gate_callee (f := 39) rfl ?_); refine goesL_ (some 9) rfl rfl Tryd.func39 (by kernel_rfl) rfl #[.slice A0 l0.length c0] rfl (by (try simp only [List.map_toArray, List.map_cons, List.map_nil]); first | done | rfl | (simp only [List.length_drop, List.length_take]; rfl)) ?_; (with_reducible refine (garboardref58_right.calls k _ _ l0 true _ ?side1 ?side2 A3.out).mono ?_); (case side1 => repeat (first | exact HR0.out | (with_reducible refine Kd.C_alloc ?_ _) | (with_reducible refine Kd.C_drewN ?_ _) | (with_reducible refine Kd.C_drew ?_))); (case side2 => exact HC0.out); rintro e w7 ⟨rfl, hb⟩; refine ⟨_, rfl, ?_⟩; have n0_ := Aside0.mk (below_step (by repeat (first | (with_reducible first | exact HB.out | apply below_alloc | apply pw_below_drewN | apply below_drew1) | exact HB.out)) hb); clear HB; have HB := n0_; clear n0_; (try clear hb); (try clear hb2); (try clear hk); (try clear hi)))
   go_loopg [6] k (fun kq v6 w' => ∃ (x6_1 : Int), v6 = .int .i64 x6_1 ∧ Aside0 (garboardref58_Check.l0 kq l0 l1 x6_1 = some (r1, r2)) ∧ Aside0 (kq ≤ k) ∧ Aside0 (Below w.heap.size w w'))
   case atStart => exact ⟨(0), (by first | rfl | (simp; done) | (simp [*]; done)), H', ⟨Nat.le_refl _⟩, ⟨by repeat (first | (with_reducible first | exact HB.out | apply below_alloc | apply pw_below_drewN | apply below_drew1) | exact HB.out)⟩⟩
   case round =>
    clear H'
    try clear c1
    try clear p2
    try clear c3
    try clear c4
    try clear c5
    try clear c5b0
    try clear c5b1
    obtain ⟨x6_1, rfl, HA, HK1, HB⟩ := hrel
    cases gk with
    | zero => exact absurd HA.out (by simp [garboardref58_Check.l0])
    | succ k1 =>
     have H := HA.out
     clear HA
     simp only [garboardref58_Check.l0] at H
     by_cases c8 : x6_1 < (l1.length : Int)
     ·rw [if_pos c8] at H
      have c8b0 : decide (x6_1 < (l1.length : Int)) = true := decide_eq_true c8
      clear c8
      replace H := Option.bind_eq_some_iff.mp H
      obtain ⟨t204, A90, H⟩ := H
      replace H : (if t204 = 0 then (garboardref58_Check.l0 k1 l0 l1 (wrap64 (x6_1 + 1))) else (some (x6_1, t204))) = some (r1, r2) := H
      have A9 := Aside0.mk A90
      clear A90
      by_cases c10 : t204 = 0
      ·rw [if_pos c10] at H
       have c10b0 : (t204 == 0) = true := beq_iff_eq.mpr c10
       have c10b1 : (t204 != 0) = false := bne_eq_false_iff_eq.mpr c10
       clear c10
       have H' := Aside0.mk H
       clear H
       go_wp2_with (first | ((with_reducible refine gate_callee (f := 40) rfl ?_); refine goesL_ (some 23) rfl rfl Tryd.func40 (by kernel_rfl) rfl #[.slice A0 l0.length c0, .slice A1 l1.length c1, .int .i64 x6_1] rfl (by (try simp only [List.map_toArray, List.map_cons, List.map_nil]); first | done | rfl | (simp only [List.length_drop, List.length_take]; rfl)) ?_; (with_reducible refine (garboardref58_fault.calls k1 _ _ l0 _ _ l1 x6_1 t204 _ ?side1 ?side2 ?side3 ?side4 ?side5 A9.out).mono ?_); (case side1 => repeat (first | exact (Kd.C_below HR0.out HB.out) | (with_reducible refine Kd.C_alloc ?_ _) | (with_reducible refine Kd.C_drewN ?_ _) | (with_reducible refine Kd.C_drew ?_))); (case side2 => exact HC0.out); (case side3 => repeat (first | exact (Kd.C_below HR1.out HB.out) | (with_reducible refine Kd.C_alloc ?_ _) | (with_reducible refine Kd.C_drewN ?_ _) | (with_reducible refine Kd.C_drew ?_))); (case side4 => exact HC1.out); (case side5 => exact HLW.out.below (by repeat (first | (with_reducible first | exact HB.out | apply below_alloc | apply pw_below_drewN | apply below_drew1) | exact HB.out))); rintro e w11 ⟨rfl, hb⟩; refine ⟨_, rfl, ?_⟩; have n0_ := Aside0.mk (below_step (by repeat (first | (with_reducible first | exact HB.out | apply below_alloc | apply pw_below_drewN | apply below_drew1) | exact HB.out)) hb); clear HB; have HB := n0_; clear n0_; (try clear hb); (try clear hb2); (try clear hk); (try clear hi)))
       go_roundg k1
       case measure => have := HK1.out; omega
       case rel => exact ⟨(wrap64 (x6_1 + 1)), (by first | rfl | (simp; done) | (simp [*]; done)), H', ⟨by have := HK1.out; omega⟩, ⟨by repeat (first | (with_reducible first | exact HB.out | apply below_alloc | apply pw_below_drewN | apply below_drew1) | exact HB.out)⟩⟩
      ·rw [if_neg c10] at H
       have c10b0 : (t204 == 0) = false := beq_eq_false_iff_ne.mpr c10
       have c10b1 : (t204 != 0) = true := bne_iff_ne.mpr c10
       simp only [Option.some.injEq, Prod.mk.injEq] at H
       obtain ⟨rfl, rfl⟩ := H
       go_wp2_with (first | ((with_reducible refine gate_callee (f := 40) rfl ?_); refine goesL_ (some 23) rfl rfl Tryd.func40 (by kernel_rfl) rfl #[.slice A0 l0.length c0, .slice A1 l1.length c1, .int .i64 x6_1] rfl (by (try simp only [List.map_toArray, List.map_cons, List.map_nil]); first | done | rfl | (simp only [List.length_drop, List.length_take]; rfl)) ?_; (with_reducible refine (garboardref58_fault.calls k1 _ _ l0 _ _ l1 x6_1 t204 _ ?side1 ?side2 ?side3 ?side4 ?side5 A9.out).mono ?_); (case side1 => repeat (first | exact (Kd.C_below HR0.out HB.out) | (with_reducible refine Kd.C_alloc ?_ _) | (with_reducible refine Kd.C_drewN ?_ _) | (with_reducible refine Kd.C_drew ?_))); (case side2 => exact HC0.out); (case side3 => repeat (first | exact (Kd.C_below HR1.out HB.out) | (with_reducible refine Kd.C_alloc ?_ _) | (with_reducible refine Kd.C_drewN ?_ _) | (with_reducible refine Kd.C_drew ?_))); (case side4 => exact HC1.out); (case side5 => exact HLW.out.below (by repeat (first | (with_reducible first | exact HB.out | apply below_alloc | apply pw_below_drewN | apply below_drew1) | exact HB.out))); rintro e w12 ⟨rfl, hb⟩; refine ⟨_, rfl, ?_⟩; have n0_ := Aside0.mk (below_step (by repeat (first | (with_reducible first | exact HB.out | apply below_alloc | apply pw_below_drewN | apply below_drew1) | exact HB.out)) hb); clear HB; have HB := n0_; clear n0_; (try clear hb); (try clear hb2); (try clear hk); (try clear hi)))
       go_ret2
       exact ⟨by first | rfl | (simp [errW_none, errW_some] <;> rfl) | (simp [*, errW_none, errW_some] <;> rfl), by repeat (first | (with_reducible first | exact HB.out | apply below_alloc | apply pw_below_drewN | apply below_drew1) | exact HB.out)⟩
     ·rw [if_neg c8] at H
      have c8b0 : decide (x6_1 < (l1.length : Int)) = false := decide_eq_false c8
      clear c8
      simp only [Option.some.injEq, Prod.mk.injEq] at H
      obtain ⟨rfl, rfl⟩ := H
      go_wp2
      go_ret2
      exact ⟨by first | rfl | (simp [errW_none, errW_some] <;> rfl) | (simp [*, errW_none, errW_some] <;> rfl), by repeat (first | (with_reducible first | exact HB.out | apply below_alloc | apply pw_below_drewN | apply below_drew1) | exact HB.out)⟩
 ·replace c4 := Bool.eq_false_iff.mpr c4
  subst c4
  have H1 : (some ((-1), 1)) = some (r1, r2) := by rw [if_neg (show ¬ (false = true) by decide)] at H; exact H
  clear H
  have H := H1
  clear H1
  simp only [Option.some.injEq, Prod.mk.injEq] at H
  obtain ⟨rfl, rfl⟩ := H
  go_enter Tryd.func14, Tryd.ntmps14
  go_wp2_with (first | ((with_reducible refine gate_callee (f := 39) rfl ?_); refine goesL_ (some 9) rfl rfl Tryd.func39 (by kernel_rfl) rfl #[.slice A0 l0.length c0] rfl (by (try simp only [List.map_toArray, List.map_cons, List.map_nil]); first | done | rfl | (simp only [List.length_drop, List.length_take]; rfl)) ?_; (with_reducible refine (garboardref58_right.calls k _ _ l0 false _ ?side1 ?side2 A3.out).mono ?_); (case side1 => repeat (first | exact HR0.out | (with_reducible refine Kd.C_alloc ?_ _) | (with_reducible refine Kd.C_drewN ?_ _) | (with_reducible refine Kd.C_drew ?_))); (case side2 => exact HC0.out); rintro e w13 ⟨rfl, hb⟩; refine ⟨_, rfl, ?_⟩; have n0_ := Aside0.mk (below_step (by repeat (first | (with_reducible first | exact HB.out | apply below_alloc | apply pw_below_drewN | apply below_drew1) | exact HB.out)) hb); clear HB; have HB := n0_; clear n0_; (try clear hb); (try clear hb2); (try clear hk); (try clear hi)))
  go_ret2
  exact ⟨by first | rfl | (simp [errW_none, errW_some] <;> rfl) | (simp [*, errW_none, errW_some] <;> rfl), by repeat (first | (with_reducible first | exact HB.out | apply below_alloc | apply pw_below_drewN | apply below_drew1) | exact HB.out)⟩
end Go.Proofs.YtbfimjncophcaaaDoor.Pr
namespace Go.Proofs.YtbfimjncophcaaaDoor.Pr
open Go.RowKit Go.Proofs.YtbfimjncophcaaaDoorW.PrintWords Go.Proofs.YtbfimjncophcaaaDoorW.PrintLast Go.Proofs.YtbfimjncophcaaaDoorW.PrintMore
attribute [local go_sem] max2_int min2_int max_two min_two max_three min_three max_four min_four
set_option linter.unusedVariables false
set_option linter.unusedSimpArgs false
def garboardref58_Sign.f (k : Nat) (l0 : List (S33)) (l1 : List (S25)) (a2_0 : Int) (a2_1 : Int) (a2_2 : ByteArray) (a2_3 : ByteArray) : Option ((List (S25)) × Int) := (garboardref58_Check.f k l0 l1).bind fun bt206 => (if bt206.2 = 0 then (if (l1.length : Int) = 1024 then (some (([] : List (S25)), 12)) else ((garboardref58_find.f k l0 a2_0).bind fun t208 => (if t208 ≥ 0 then (if 0 ≤ t208 then (if t208 < (l0.length : Int) then ((garboardref58_Code.f k ((rd_T33 l0 t208).f3) a2_0 a2_1 a2_2 a2_3).bind fun bt210 => ((some (([] : List (S25)) : List (S25))).bind fun y212 => (if y212.length + l1.length < 2932031007402 then ((some (y212 ++ l1 : List (S25))).bind fun y215 => ((some (([(⟨a2_0, a2_1, a2_2, bt210.1⟩ : S25)] : List (S25)) : List (S25))).bind fun y218 => (if y215.length + y218.length < 2932031007402 then ((some (y215 ++ y218 : List (S25))).bind fun y221 => ((garboardref58_fault.f k l0 y221 (l1.length : Int)).bind fun t224 => (if t224 = 0 then (some (y221, 0)) else (some (([] : List (S25)), t224))))) else (none)))) else (none)))) else (none)) else (none)) else ((some (([] : List (S25)) : List (S25))).bind fun y225 => (if y225.length + l1.length < 2932031007402 then ((some (y225 ++ l1 : List (S25))).bind fun y228 => ((some (([(⟨a2_0, a2_1, a2_2, a2_3⟩ : S25)] : List (S25)) : List (S25))).bind fun y231 => (if y228.length + y231.length < 2932031007402 then ((some (y228 ++ y231 : List (S25))).bind fun y234 => ((garboardref58_fault.f k l0 y234 (l1.length : Int)).bind fun t237 => (if t237 = 0 then (some (y234, 0)) else (some (([] : List (S25)), t237))))) else (none)))) else (none)))))) else (some (([] : List (S25)), 1)))
theorem garboardref58_Sign.mono : ∀ a0 a1 a2 a3 a4 a5 k, LeO (garboardref58_Sign.f k a0 a1 a2 a3 a4 a5) (garboardref58_Sign.f (k + 1) a0 a1 a2 a3 a4 a5) := by
 intro a0 a1 a2 a3 a4 a5 k
 unfold garboardref58_Sign.f
 repeat' first
   | (with_reducible exact garboardref58_Check.mono _ _ _)
   | (with_reducible exact garboardref58_Code.mono _ _ _ _ _ _)
   | (with_reducible exact garboardref58_fault.mono _ _ _ _)
   | (with_reducible exact garboardref58_find.mono _ _ _)
   | (with_reducible exact LeO.refl _)
   | (with_reducible exact LeO.none _)
   | (with_reducible refine LeO.ite ?_ ?_)
   | (with_reducible refine LeO.bind ?_ (fun _ => ?_))
   | exact garboardref58_Check.mono _ _ _
   | exact garboardref58_Code.mono _ _ _ _ _ _
   | exact garboardref58_fault.mono _ _ _ _
   | exact garboardref58_find.mono _ _ _
   | exact LeO.none _
   | refine LeO.ite ?_ ?_
   | refine LeO.bind ?_ (fun _ => ?_)
def garboardref58_Sign.T8 : Bool × List (List Nat × List Nat) := (true, [([], []), ([], []), ([0, 1], [0, 1]), ([2], [2]), ([3], [3]), ([], []), ([4, 5], [4, 5]), ([6], [6]), ([7], [7]), ([7], [7]), ([0, 1, 2, 3, 4, 5, 6, 7, 8], []), ([10, 8, 6, 0, 1, 2, 3, 4, 5, 6, 7, 8], [8, 10])])
def garboardref58_Sign.B8 : List Nat := [0, 0, 3, 7, 15, 0, 63, 127, 255, 255, 511, 1535]
theorem garboardref58_Sign.tab8 : rtab .any (opsOf Tryd.f16 8) = garboardref58_Sign.T8 := by kernel_rfl
theorem garboardref58_Sign.bits8 : waitsOk garboardref58_Sign.T8.2 garboardref58_Sign.B8 = true := by kernel_rfl
set_option maxHeartbeats 8000000 in
set_option maxRecDepth 100000 in
theorem garboardref58_Sign.calls (k : Nat) (A0 : Option Addr) (c0 : Nat) (l0 : List (S33)) (A1 : Option Addr) (c1 : Nat) (l1 : List (S25)) (a2_0 : Int) (a2_1 : Int) (a2_2 : ByteArray) (a2_3 : ByteArray) (r1 : List (S25)) (r2 : Int) (w : World) (hr0 : Kd.C k33 w A0 l0.length l0) (hc0 : l0.length ≤ c0) (hr1 : Kd.C k25 w A1 l1.length l1) (hc1 : l1.length ≤ c1) (hL : LaidW w) (h : garboardref58_Sign.f k l0 l1 a2_0 a2_1 a2_2 a2_3 = some (r1, r2)) :
  Calls Tryd.prog 16 #[.slice A0 l0.length c0, .slice A1 l1.length c1, .agg #[.int .i64 a2_0, .int .i64 a2_1, .string a2_2, .string a2_3]] w fun e w' => ∃ v0_ : Value, e = .returned (.tuple #[v0_, .int .i64 r2]) ∧ Kd.R k25 25 w' w.heap.size (fun _ => True) v0_ r1 ∧ Below w.heap.size w w' := by
 have hu25 := Tryd.underlying25
 have HR0 := Aside0.mk hr0
 have HC0 := Aside0.mk hc0
 clear hr0 hc0
 have HR1 := Aside0.mk hr1
 have HC1 := Aside0.mk hc1
 clear hr1 hc1
 have HB := Aside0.mk (Below.refl w.heap.size w)
 have HLW := Aside0.mk hL
 clear hL
 have H : ((garboardref58_Check.f k l0 l1).bind fun bt206 => (if bt206.2 = 0 then (if (l1.length : Int) = 1024 then (some (([] : List (S25)), 12)) else ((garboardref58_find.f k l0 a2_0).bind fun t208 => (if t208 ≥ 0 then (if 0 ≤ t208 then (if t208 < (l0.length : Int) then ((garboardref58_Code.f k ((rd_T33 l0 t208).f3) a2_0 a2_1 a2_2 a2_3).bind fun bt210 => ((some (([] : List (S25)) : List (S25))).bind fun y212 => (if y212.length + l1.length < 2932031007402 then ((some (y212 ++ l1 : List (S25))).bind fun y215 => ((some (([(⟨a2_0, a2_1, a2_2, bt210.1⟩ : S25)] : List (S25)) : List (S25))).bind fun y218 => (if y215.length + y218.length < 2932031007402 then ((some (y215 ++ y218 : List (S25))).bind fun y221 => ((garboardref58_fault.f k l0 y221 (l1.length : Int)).bind fun t224 => (if t224 = 0 then (some (y221, 0)) else (some (([] : List (S25)), t224))))) else (none)))) else (none)))) else (none)) else (none)) else ((some (([] : List (S25)) : List (S25))).bind fun y225 => (if y225.length + l1.length < 2932031007402 then ((some (y225 ++ l1 : List (S25))).bind fun y228 => ((some (([(⟨a2_0, a2_1, a2_2, a2_3⟩ : S25)] : List (S25)) : List (S25))).bind fun y231 => (if y228.length + y231.length < 2932031007402 then ((some (y228 ++ y231 : List (S25))).bind fun y234 => ((garboardref58_fault.f k l0 y234 (l1.length : Int)).bind fun t237 => (if t237 = 0 then (some (y234, 0)) else (some (([] : List (S25)), t237))))) else (none)))) else (none)))))) else (some (([] : List (S25)), 1)))) = some (r1, r2) := h
 clear h
 replace H := Option.bind_eq_some_iff.mp H
 obtain ⟨⟨t206, t207⟩, A40, H⟩ := H
 replace H : (if t207 = 0 then (if (l1.length : Int) = 1024 then (some (([] : List (S25)), 12)) else ((garboardref58_find.f k l0 a2_0).bind fun t208 => (if t208 ≥ 0 then (if 0 ≤ t208 then (if t208 < (l0.length : Int) then ((garboardref58_Code.f k ((rd_T33 l0 t208).f3) a2_0 a2_1 a2_2 a2_3).bind fun bt210 => ((some (([] : List (S25)) : List (S25))).bind fun y212 => (if y212.length + l1.length < 2932031007402 then ((some (y212 ++ l1 : List (S25))).bind fun y215 => ((some (([(⟨a2_0, a2_1, a2_2, bt210.1⟩ : S25)] : List (S25)) : List (S25))).bind fun y218 => (if y215.length + y218.length < 2932031007402 then ((some (y215 ++ y218 : List (S25))).bind fun y221 => ((garboardref58_fault.f k l0 y221 (l1.length : Int)).bind fun t224 => (if t224 = 0 then (some (y221, 0)) else (some (([] : List (S25)), t224))))) else (none)))) else (none)))) else (none)) else (none)) else ((some (([] : List (S25)) : List (S25))).bind fun y225 => (if y225.length + l1.length < 2932031007402 then ((some (y225 ++ l1 : List (S25))).bind fun y228 => ((some (([(⟨a2_0, a2_1, a2_2, a2_3⟩ : S25)] : List (S25)) : List (S25))).bind fun y231 => (if y228.length + y231.length < 2932031007402 then ((some (y228 ++ y231 : List (S25))).bind fun y234 => ((garboardref58_fault.f k l0 y234 (l1.length : Int)).bind fun t237 => (if t237 = 0 then (some (y234, 0)) else (some (([] : List (S25)), t237))))) else (none)))) else (none)))))) else (some (([] : List (S25)), 1))) = some (r1, r2) := H
 have A4 := Aside0.mk A40
 clear A40
 by_cases c5 : t207 = 0
 ·rw [if_pos c5] at H
  have c5b0 : (t207 == 0) = true := beq_iff_eq.mpr c5
  have c5b1 : (t207 != 0) = false := bne_eq_false_iff_eq.mpr c5
  clear c5
  by_cases c6 : (l1.length : Int) = 1024
  ·rw [if_pos c6] at H
   have c6b0 : ((l1.length : Int) == 1024) = true := beq_iff_eq.mpr c6
   have c6b1 : ((l1.length : Int) != 1024) = false := bne_eq_false_iff_eq.mpr c6
   clear c6
   simp only [Option.some.injEq, Prod.mk.injEq] at H
   obtain ⟨rfl, rfl⟩ := H
   go_enter Tryd.func16, Tryd.ntmps16
   go_wp2_with (first | ((with_reducible refine gate_dst (N := 5) rfl ?_); refine box_event ?hg (N := 5) ?hd (cs := #[.int .i64 a2_0, .int .i64 a2_1, .string a2_2, .string a2_3]) (t := 25) ?hr ?_; (case hd => rfl); (case hg => rfl); (case hr => first | (go_simp; done) | (go_simp; rfl)); intro gb205 hg w7 hbox hb; have n0_ := Aside0.mk (below_step (by repeat (first | (with_reducible first | exact HB.out | apply below_alloc | apply pw_below_drewN | apply below_drew1) | exact HB.out)) hb); have n1_ := Aside0.mk (hbox); have n2_ := Aside0.mk ((by rw [hg]; exact (below_size (by repeat (first | (with_reducible first | exact HB.out | apply below_alloc | apply pw_below_drewN | apply below_drew1) | exact HB.out))) : w.heap.size ≤ gb205)); have n3_ := Aside0.mk ((by rw [hg]; exact (below_size (by repeat (first | (with_reducible first | exact HB.out | apply below_alloc | apply pw_below_drewN | apply below_drew1) | exact HB.out))) : w.heap.size ≤ gb205)); clear HB; have HB := n0_; have BK205 := n1_; have GW205 := n2_; have GE205 := n3_; clear n0_ n1_ n2_ n3_; clear hb hbox hg) | ((with_reducible refine gate_callee (f := 14) rfl ?_); refine goesL_ (some 16) rfl rfl Tryd.func14 (by kernel_rfl) rfl #[.slice A0 l0.length c0, .slice A1 l1.length c1] rfl (by (try simp only [List.map_toArray, List.map_cons, List.map_nil]); first | done | rfl | (simp only [List.length_drop, List.length_take]; rfl)) ?_; (with_reducible refine (garboardref58_Check.calls k _ _ l0 _ _ l1 t206 t207 _ ?side1 ?side2 ?side3 ?side4 ?side5 A4.out).mono ?_); (case side1 => repeat (first | exact (Kd.C_below HR0.out HB.out) | (with_reducible refine Kd.C_alloc ?_ _) | (with_reducible refine Kd.C_drewN ?_ _) | (with_reducible refine Kd.C_drew ?_))); (case side2 => exact HC0.out); (case side3 => repeat (first | exact (Kd.C_below HR1.out HB.out) | (with_reducible refine Kd.C_alloc ?_ _) | (with_reducible refine Kd.C_drewN ?_ _) | (with_reducible refine Kd.C_drew ?_))); (case side4 => exact HC1.out); (case side5 => exact HLW.out.below (by repeat (first | (with_reducible first | exact HB.out | apply below_alloc | apply pw_below_drewN | apply below_drew1 | refine below_set ?_ GE205.out) | exact HB.out))); rintro e w8 ⟨rfl, hb⟩; refine ⟨_, rfl, ?_⟩; have n0_ := Aside0.mk (blk_below (g := gb205) (o := .cells #[.int .i64 a2_0, .int .i64 a2_1, .string a2_2, .string a2_3] 25 (0, 0)) (by (with_reducible repeat (first | refine blk_drewN ?_ _ | refine blk_drew ?_ | refine blk_alloc ?_ _)); exact BK205.out) hb); have n1_ := Aside0.mk (below_step (by repeat (first | (with_reducible first | exact HB.out | apply below_alloc | apply pw_below_drewN | apply below_drew1 | refine below_set ?_ GE205.out) | exact HB.out)) hb); clear BK205; clear HB; have BK205 := n0_; have HB := n1_; clear n0_ n1_; (try clear hb); (try clear hb2); (try clear hk); (try clear hi)))
   go_ret2
   exact ⟨_, by first | rfl | (simp [errW_none, errW_some] <;> rfl) | (simp [*, errW_none, errW_some] <;> rfl), by first | exact Kd.R_nil _ _ _ _ _ | exact Kd.N_nil _ _ _ _ _ | exact Kd.V_nil _ _ _ _ _ | exact Kd.Q_nil _ _ _ _ _ | exact Kd.S_nil _ _ _ _ _, by repeat (first | (with_reducible first | exact HB.out | apply below_alloc | apply pw_below_drewN | apply below_drew1 | refine below_set ?_ GE205.out) | exact HB.out)⟩
  ·rw [if_neg c6] at H
   have c6b0 : ((l1.length : Int) == 1024) = false := beq_eq_false_iff_ne.mpr c6
   have c6b1 : ((l1.length : Int) != 1024) = true := bne_iff_ne.mpr c6
   replace H := Option.bind_eq_some_iff.mp H
   obtain ⟨t208, A90, H⟩ := H
   replace H : (if t208 ≥ 0 then (if 0 ≤ t208 then (if t208 < (l0.length : Int) then ((garboardref58_Code.f k ((rd_T33 l0 t208).f3) a2_0 a2_1 a2_2 a2_3).bind fun bt210 => ((some (([] : List (S25)) : List (S25))).bind fun y212 => (if y212.length + l1.length < 2932031007402 then ((some (y212 ++ l1 : List (S25))).bind fun y215 => ((some (([(⟨a2_0, a2_1, a2_2, bt210.1⟩ : S25)] : List (S25)) : List (S25))).bind fun y218 => (if y215.length + y218.length < 2932031007402 then ((some (y215 ++ y218 : List (S25))).bind fun y221 => ((garboardref58_fault.f k l0 y221 (l1.length : Int)).bind fun t224 => (if t224 = 0 then (some (y221, 0)) else (some (([] : List (S25)), t224))))) else (none)))) else (none)))) else (none)) else (none)) else ((some (([] : List (S25)) : List (S25))).bind fun y225 => (if y225.length + l1.length < 2932031007402 then ((some (y225 ++ l1 : List (S25))).bind fun y228 => ((some (([(⟨a2_0, a2_1, a2_2, a2_3⟩ : S25)] : List (S25)) : List (S25))).bind fun y231 => (if y228.length + y231.length < 2932031007402 then ((some (y228 ++ y231 : List (S25))).bind fun y234 => ((garboardref58_fault.f k l0 y234 (l1.length : Int)).bind fun t237 => (if t237 = 0 then (some (y234, 0)) else (some (([] : List (S25)), t237))))) else (none)))) else (none)))) = some (r1, r2) := H
   have A9 := Aside0.mk A90
   clear A90
   by_cases c10 : t208 ≥ 0
   ·rw [if_pos c10] at H
    have c10b0 : decide (0 ≤ t208) = true := decide_eq_true c10
    clear c10
    by_cases c11 : 0 ≤ t208
    ·rw [if_pos c11] at H
     have c11b0 : decide (0 ≤ t208) = true := decide_eq_true c11
     clear c11
     by_cases c12 : t208 < (l0.length : Int)
     ·rw [if_pos c12] at H
      have c12b0 : decide (t208 < (l0.length : Int)) = true := decide_eq_true c12
      clear c12
      replace H := Option.bind_eq_some_iff.mp H
      obtain ⟨⟨t210, t211⟩, A130, H⟩ := H
      replace H : ((some (([] : List (S25)) : List (S25))).bind fun y212 => (if y212.length + l1.length < 2932031007402 then ((some (y212 ++ l1 : List (S25))).bind fun y215 => ((some (([(⟨a2_0, a2_1, a2_2, t210⟩ : S25)] : List (S25)) : List (S25))).bind fun y218 => (if y215.length + y218.length < 2932031007402 then ((some (y215 ++ y218 : List (S25))).bind fun y221 => ((garboardref58_fault.f k l0 y221 (l1.length : Int)).bind fun t224 => (if t224 = 0 then (some (y221, 0)) else (some (([] : List (S25)), t224))))) else (none)))) else (none))) = some (r1, r2) := H
      have A13 := Aside0.mk A130
      clear A130
      obtain ⟨y212, hy212⟩ : ∃ y_ : List (S25), y_ = (([] : List (S25))) := ⟨_, rfl⟩
      replace H : (if y212.length + l1.length < 2932031007402 then ((some (y212 ++ l1 : List (S25))).bind fun y215 => ((some (([(⟨a2_0, a2_1, a2_2, t210⟩ : S25)] : List (S25)) : List (S25))).bind fun y218 => (if y215.length + y218.length < 2932031007402 then ((some (y215 ++ y218 : List (S25))).bind fun y221 => ((garboardref58_fault.f k l0 y221 (l1.length : Int)).bind fun t224 => (if t224 = 0 then (some (y221, 0)) else (some (([] : List (S25)), t224))))) else (none)))) else (none)) = some (r1, r2) := by first | (rw [hy212]; with_reducible exact H) | (have H2_ := (Option.bind_some _ _).symm.trans H; rw [hy212]; with_reducible exact H2_) | (have H2_ := (Option.bind_some _ _).symm.trans H; with_reducible exact H2_) | with_reducible exact H | (rw [hy212]; exact H) | exact H
      have Ny212 := Aside0.mk hy212
      clear hy212
      by_cases c14 : y212.length + l1.length < 2932031007402
      ·rw [if_pos c14] at H
       have LMc14 := Aside0.mk c14
       clear c14
       obtain ⟨y215, hy215⟩ : ∃ y_ : List (S25), y_ = (y212 ++ l1) := ⟨_, rfl⟩
       replace H : ((some (([(⟨a2_0, a2_1, a2_2, t210⟩ : S25)] : List (S25)) : List (S25))).bind fun y218 => (if y215.length + y218.length < 2932031007402 then ((some (y215 ++ y218 : List (S25))).bind fun y221 => ((garboardref58_fault.f k l0 y221 (l1.length : Int)).bind fun t224 => (if t224 = 0 then (some (y221, 0)) else (some (([] : List (S25)), t224))))) else (none))) = some (r1, r2) := by first | (rw [hy215]; with_reducible exact H) | (have H2_ := (Option.bind_some _ _).symm.trans H; rw [hy215]; with_reducible exact H2_) | (have H2_ := (Option.bind_some _ _).symm.trans H; with_reducible exact H2_) | with_reducible exact H | (rw [hy215]; exact H) | exact H
       have Ny215 := Aside0.mk hy215
       clear hy215
       obtain ⟨y218, hy218⟩ : ∃ y_ : List (S25), y_ = (([(⟨a2_0, a2_1, a2_2, t210⟩ : S25)] : List (S25))) := ⟨_, rfl⟩
       replace H : (if y215.length + y218.length < 2932031007402 then ((some (y215 ++ y218 : List (S25))).bind fun y221 => ((garboardref58_fault.f k l0 y221 (l1.length : Int)).bind fun t224 => (if t224 = 0 then (some (y221, 0)) else (some (([] : List (S25)), t224))))) else (none)) = some (r1, r2) := by first | (rw [hy218]; with_reducible exact H) | (have H2_ := (Option.bind_some _ _).symm.trans H; rw [hy218]; with_reducible exact H2_) | (have H2_ := (Option.bind_some _ _).symm.trans H; with_reducible exact H2_) | with_reducible exact H | (rw [hy218]; exact H) | exact H
       have Ny218 := Aside0.mk hy218
       clear hy218
       by_cases c15 : y215.length + y218.length < 2932031007402
       ·rw [if_pos c15] at H
        have LMc15 := Aside0.mk c15
        clear c15
        obtain ⟨y221, hy221⟩ : ∃ y_ : List (S25), y_ = (y215 ++ y218) := ⟨_, rfl⟩
        replace H : ((garboardref58_fault.f k l0 y221 (l1.length : Int)).bind fun t224 => (if t224 = 0 then (some (y221, 0)) else (some (([] : List (S25)), t224)))) = some (r1, r2) := by first | (rw [hy221]; with_reducible exact H) | (have H2_ := (Option.bind_some _ _).symm.trans H; rw [hy221]; with_reducible exact H2_) | (have H2_ := (Option.bind_some _ _).symm.trans H; with_reducible exact H2_) | with_reducible exact H | (rw [hy221]; exact H) | exact H
        have Ny221 := Aside0.mk hy221
        clear hy221
        replace H := Option.bind_eq_some_iff.mp H
        obtain ⟨t224, A160, H⟩ := H
        replace H : (if t224 = 0 then (some (y221, 0)) else (some (([] : List (S25)), t224))) = some (r1, r2) := H
        have A16 := Aside0.mk A160
        clear A160
        by_cases c17 : t224 = 0
        ·rw [if_pos c17] at H
         have c17b0 : (t224 == 0) = true := beq_iff_eq.mpr c17
         have c17b1 : (t224 != 0) = false := bne_eq_false_iff_eq.mpr c17
         clear c17
         simp only [Option.some.injEq, Prod.mk.injEq] at H
         obtain ⟨rfl, rfl⟩ := H
         go_enter Tryd.func16, Tryd.ntmps16
         try go_wp2_with (first | ((with_reducible refine gate_dst (N := 5) rfl ?_); refine box_event ?hg (N := 5) ?hd (cs := #[.int .i64 a2_0, .int .i64 a2_1, .string a2_2, .string a2_3]) (t := 25) ?hr ?_; (case hd => rfl); (case hg => rfl); (case hr => first | (go_simp; done) | (go_simp; rfl)); intro gb205 hg w18 hbox hb; have n0_ := Aside0.mk (below_step (by repeat (first | (with_reducible first | exact HB.out | apply below_alloc | apply pw_below_drewN | apply below_drew1) | exact HB.out)) hb); have n1_ := Aside0.mk (hbox); have n2_ := Aside0.mk ((by rw [hg]; exact (below_size (by repeat (first | (with_reducible first | exact HB.out | apply below_alloc | apply pw_below_drewN | apply below_drew1) | exact HB.out))) : w.heap.size ≤ gb205)); have n3_ := Aside0.mk ((by rw [hg]; exact (below_size (by repeat (first | (with_reducible first | exact HB.out | apply below_alloc | apply pw_below_drewN | apply below_drew1) | exact HB.out))) : w.heap.size ≤ gb205)); clear HB; have HB := n0_; have BK205 := n1_; have GW205 := n2_; have GE205 := n3_; clear n0_ n1_ n2_ n3_; clear hb hbox hg) | ((with_reducible refine gate_callee (f := 14) rfl ?_); refine goesL_ (some 16) rfl rfl Tryd.func14 (by kernel_rfl) rfl #[.slice A0 l0.length c0, .slice A1 l1.length c1] rfl (by (try simp only [List.map_toArray, List.map_cons, List.map_nil]); first | done | rfl | (simp only [List.length_drop, List.length_take]; rfl)) ?_; (with_reducible refine (garboardref58_Check.calls k _ _ l0 _ _ l1 t206 t207 _ ?side1 ?side2 ?side3 ?side4 ?side5 A4.out).mono ?_); (case side1 => repeat (first | exact (Kd.C_below HR0.out HB.out) | (with_reducible refine Kd.C_alloc ?_ _) | (with_reducible refine Kd.C_drewN ?_ _) | (with_reducible refine Kd.C_drew ?_))); (case side2 => exact HC0.out); (case side3 => repeat (first | exact (Kd.C_below HR1.out HB.out) | (with_reducible refine Kd.C_alloc ?_ _) | (with_reducible refine Kd.C_drewN ?_ _) | (with_reducible refine Kd.C_drew ?_))); (case side4 => exact HC1.out); (case side5 => exact HLW.out.below (by repeat (first | (with_reducible first | exact HB.out | apply below_alloc | apply pw_below_drewN | apply below_drew1 | refine below_set ?_ GE205.out) | exact HB.out))); rintro e w19 ⟨rfl, hb⟩; refine ⟨_, rfl, ?_⟩; have n0_ := Aside0.mk (blk_below (g := gb205) (o := .cells #[.int .i64 a2_0, .int .i64 a2_1, .string a2_2, .string a2_3] 25 (0, 0)) (by (with_reducible repeat (first | refine blk_drewN ?_ _ | refine blk_drew ?_ | refine blk_alloc ?_ _)); exact BK205.out) hb); have n1_ := Aside0.mk (below_step (by repeat (first | (with_reducible first | exact HB.out | apply below_alloc | apply pw_below_drewN | apply below_drew1 | refine below_set ?_ GE205.out) | exact HB.out)) hb); clear BK205; clear HB; have BK205 := n0_; have HB := n1_; clear n0_ n1_; (try clear hb); (try clear hb2); (try clear hk); (try clear hi); have hcz20_0 : w19.cell? ⟨gb205, 0, none⟩ = some (.int .i64 a2_0) := (blk_cell BK205.out 0).trans rfl; have hcz20_1 : w19.cell? ⟨gb205, 1, none⟩ = some (.int .i64 a2_1) := (blk_cell BK205.out 1).trans rfl; have hcz20_2 : w19.cell? ⟨gb205, 2, none⟩ = some (.string a2_2) := (blk_cell BK205.out 2).trans rfl; have hcz20_3 : w19.cell? ⟨gb205, 3, none⟩ = some (.string a2_3) := (blk_cell BK205.out 3).trans rfl; have hfz20_0 := blk_frozen BK205.out 0; have hfz20_1 := blk_frozen BK205.out 1; have hfz20_2 := blk_frozen BK205.out 2; have hfz20_3 := blk_frozen BK205.out 3) | ((with_reducible refine gate_callee (f := 41) rfl ?_); refine goesL_ (some 27) rfl rfl Tryd.func41 (by kernel_rfl) rfl #[.slice A0 l0.length c0, .int .i64 a2_0] rfl (by (try simp only [List.map_toArray, List.map_cons, List.map_nil]); first | done | rfl | (simp only [List.length_drop, List.length_take]; rfl)) ?_; (with_reducible refine (garboardref58_find.calls k _ _ l0 a2_0 t208 _ ?side1 ?side2 A9.out).mono ?_); (case side1 => repeat (first | exact (Kd.C_below HR0.out HB.out) | (with_reducible refine Kd.C_alloc ?_ _) | (with_reducible refine Kd.C_drewN ?_ _) | (with_reducible refine Kd.C_drew ?_))); (case side2 => exact HC0.out); rintro e w' ⟨rfl, ⟨nd, rfl⟩⟩; refine ⟨_, rfl, ?_⟩; (try (rw [drewN_self w19]; generalize hq_ : World.drewN w19 _ = w19; have n0_ : Aside0 (w19.heap[gb205]? = some (.cells #[.int .i64 a2_0, .int .i64 a2_1, .string a2_2, .string a2_3] 25 (0, 0))) := ⟨by rw [← hq_]; exact (by (with_reducible repeat (first | refine blk_drewN ?_ _ | refine blk_drew ?_ | refine blk_alloc ?_ _)); exact BK205.out)⟩; have n1_ : Aside0 (Below w.heap.size w w19) := ⟨by rw [← hq_]; exact (by repeat (first | (with_reducible first | exact HB.out | apply below_alloc | apply pw_below_drewN | apply below_drew1 | refine below_set ?_ GE205.out) | exact HB.out))⟩; clear BK205 HB hq_; have BK205 := n0_; have HB := n1_; clear n0_ n1_))))
         have n0_ := Aside0.mk (blk_drew BK205.out)
         have n1_ := Aside0.mk (below_drew1 HB.out)
         clear BK205
         clear HB
         have BK205 := n0_
         have HB := n1_
         clear n0_ n1_
         have p209 : 0 ≤ (t208 : Int) := of_decide_eq_true (by first | (with_reducible assumption) | assumption)
         have q209 : t208 < (l0.length : Int) := of_decide_eq_true (by first | (with_reducible assumption) | assumption)
         obtain ⟨ad209, e209, hx209_0, hx209_1, hx209_2, hx209_3⟩ := at_T33 HR0.out t208 p209 q209
         have hw209_3 := hx209_3
         have hw209_2 := hx209_2
         have hw209_1 := hx209_1
         have hw209_0 := hx209_0
         cases e209
         replace hx209_0 := (HB.out.cell (World.block_lt_of_cell? w _ hx209_0)).trans hx209_0
         replace hx209_1 := (HB.out.cell (World.block_lt_of_cell? w _ hx209_1)).trans hx209_1
         replace hx209_2 := (HB.out.cell (World.block_lt_of_cell? w _ hx209_2)).trans hx209_2
         replace hx209_3 := (HB.out.cell (World.block_lt_of_cell? w _ hx209_3)).trans hx209_3
         replace p209 := eq_true p209
         replace q209 := eq_true q209
         refine start_ (n := 12) (S := fun w' => w'.cell? ⟨gb205, 0, none⟩ = some (.int .i64 a2_0) ∧ w'.cell? ⟨gb205, 1, none⟩ = some (.int .i64 a2_1) ∧ w'.cell? ⟨gb205, 2, none⟩ = some (.string a2_2) ∧ w'.cell? ⟨gb205, 3, none⟩ = some (.string a2_3) ∧ w'.cell? (ad209.add ((t208).toNat * 4)) = some (.int .i64 ((rd_T33 l0 t208).f0)) ∧ w'.cell? ⟨(ad209.add ((t208).toNat * 4)).block, (ad209.add ((t208).toNat * 4)).off + 1, none⟩ = some (.int .i64 ((rd_T33 l0 t208).f1)) ∧ w'.cell? ⟨(ad209.add ((t208).toNat * 4)).block, (ad209.add ((t208).toNat * 4)).off + 2, none⟩ = some (.string ((rd_T33 l0 t208).f2)) ∧ w'.cell? ⟨(ad209.add ((t208).toNat * 4)).block, (ad209.add ((t208).toNat * 4)).off + 3, none⟩ = some (.string ((rd_T33 l0 t208).f3))) (ds := [11]) #[false, false, false, false, false, false, false, false, false, false, false, false] (by kernel_rfl) rfl rfl ⟨(blk_cell BK205.out 0).trans rfl, (blk_cell BK205.out 1).trans rfl, (blk_cell BK205.out 2).trans rfl, (blk_cell BK205.out 3).trans rfl, ((HB.out.cell (World.block_lt_of_cell? w _ hw209_0)).trans hw209_0), ((HB.out.cell (World.block_lt_of_cell? w _ hw209_1)).trans hw209_1), ((HB.out.cell (World.block_lt_of_cell? w _ hw209_2)).trans hw209_2), ((HB.out.cell (World.block_lt_of_cell? w _ hw209_3)).trans hw209_3)⟩ (fun hHeld => ?_); refine with_tabW garboardref58_Sign.tab8 garboardref58_Sign.bits8 (fun HT_ HW_ => ?_)
         generalize w19.drew = w21 at BK205 HB hx209_0 hx209_1 hx209_2 hx209_3 hHeld ⊢
         refine pure_ (i := 0) (N := some 31) (v := ?_) (a' := ?_) #[true, false, false, false, false, false, false, false, false, false, false, false] rfl rfl (any_of HT_.out (by kernel_rfl)) (fun _ _ _ h => h) (Or.inl ⟨by rfl, ?_⟩) ?_ ?_
         rotate_left
         ·intro w'
          go_simp
          with_reducible rfl
         rotate_left
         ·simp only [Act.put, List.setIfInBounds_toArray, List.set_cons_zero, List.set_cons_succ, i64_w, i32_w]
          rfl
         refine pure_ (i := 1) (N := some 32) (v := ?_) (a' := ?_) #[true, true, false, false, false, false, false, false, false, false, false, false] rfl rfl (any_of HT_.out (by kernel_rfl)) (fun _ _ _ h => h) (Or.inl ⟨by rfl, ?_⟩) ?_ ?_
         rotate_left
         ·intro w'
          go_simp
          with_reducible rfl
         rotate_left
         ·simp only [Act.put, List.setIfInBounds_toArray, List.set_cons_zero, List.set_cons_succ, i64_w, i32_w]
          rfl
         refine pure_ (i := 2) (N := some 33) (v := ?_) (a' := ?_) #[true, true, true, false, false, false, false, false, false, false, false, false] rfl rfl (any_of HT_.out (by kernel_rfl)) (fun _ _ _ h => h) (Or.inl ⟨by rfl, ?_⟩) ?_ ?_
         rotate_left
         ·intro w'
          go_simp
          with_reducible rfl
         rotate_left
         ·simp only [Act.put, List.setIfInBounds_toArray, List.set_cons_zero, List.set_cons_succ, i64_w, i32_w]
          rfl
         refine pure_ (i := 3) (N := some 34) (v := ?_) (a' := ?_) #[true, true, true, true, false, false, false, false, false, false, false, false] rfl rfl (any_of HT_.out (by kernel_rfl)) (fun _ _ _ h => h) (Or.inl ⟨by rfl, ?_⟩) ?_ ?_
         rotate_left
         ·intro w'
          go_simp
          with_reducible rfl
         rotate_left
         ·simp only [Act.put, List.setIfInBounds_toArray, List.set_cons_zero, List.set_cons_succ, i64_w, i32_w]
          rfl
         refine take_ (i := 4) (N := some 35) (v := ?_) (a' := ?_) #[true, true, true, true, true, false, false, false, false, false, false, false] rfl rfl (take_ofW HT_.out HW_.out (by kernel_rfl)) (fun _ _ _ h => h) (Or.inl ⟨by rfl, ?_⟩) hHeld ?_ ?_
         rotate_left
         ·rintro w' ⟨s0, s1, s2, s3, s4, s5, s6, s7⟩
          go_simp
          with_reducible rfl
         rotate_left
         ·simp only [Act.put, List.setIfInBounds_toArray, List.set_cons_zero, List.set_cons_succ, i64_w, i32_w]
          rfl
         refine take_ (i := 5) (N := some 36) (v := ?_) (a' := ?_) #[true, true, true, true, true, true, false, false, false, false, false, false] rfl rfl (take_ofW HT_.out HW_.out (by kernel_rfl)) (fun _ _ _ h => h) (Or.inl ⟨by rfl, ?_⟩) hHeld ?_ ?_
         rotate_left
         ·rintro w' ⟨s0, s1, s2, s3, s4, s5, s6, s7⟩
          go_simp
          with_reducible rfl
         rotate_left
         ·simp only [Act.put, List.setIfInBounds_toArray, List.set_cons_zero, List.set_cons_succ, i64_w, i32_w]
          rfl
         refine one_ (i := 6) (N := some 37) #[true, true, true, true, true, true, true, false, false, false, false, false] rfl rfl (one_of HT_.out (by kernel_rfl)) (by decide) (fun K hK => ?_)
         refine goes_ Tryd.func42 (by kernel_rfl) rfl #[.string ((rd_T33 l0 t208).f3), .agg #[.int .i64 a2_0, .int .i64 a2_1, .string a2_2, .string a2_3]] (by rfl) rfl rfl (by (try simp only [List.map_toArray, List.map_cons, List.map_nil]); first | done | rfl | (simp only [List.length_drop, List.length_take]; rfl)) ?_
         with_reducible refine (garboardref58_Code.calls k ((rd_T33 l0 t208).f3) a2_0 a2_1 a2_2 a2_3 t210 t211 _ ?side1 A13.out).mono ?_
         (case side1 => exact HLW.out.below (by repeat (first | (with_reducible first | exact HB.out | apply below_alloc | apply pw_below_drewN | apply below_drew1 | refine below_set ?_ GE205.out) | exact HB.out)))
         rintro e w22 ⟨rfl, hb⟩
         refine ⟨_, rfl, ?_⟩
         have n0_ := Aside0.mk (blk_below (g := gb205) (o := .cells #[.int .i64 a2_0, .int .i64 a2_1, .string a2_2, .string a2_3] 25 (0, 0)) (by (with_reducible repeat (first | refine blk_drewN ?_ _ | refine blk_drew ?_ | refine blk_alloc ?_ _)); exact BK205.out) hb)
         have n1_ := Aside0.mk (below_step (by repeat (first | (with_reducible first | exact HB.out | apply below_alloc | apply pw_below_drewN | apply below_drew1 | refine below_set ?_ GE205.out) | exact HB.out)) hb)
         clear BK205
         clear HB
         have BK205 := n0_
         have HB := n1_
         clear n0_ n1_
         (try clear hb)
         (try clear hb2)
         (try clear hk)
         (try clear hi)
         refine hK.out _ _ ⟨(blk_cell BK205.out 0).trans rfl, (blk_cell BK205.out 1).trans rfl, (blk_cell BK205.out 2).trans rfl, (blk_cell BK205.out 3).trans rfl, ((HB.out.cell (World.block_lt_of_cell? w _ hw209_0)).trans hw209_0), ((HB.out.cell (World.block_lt_of_cell? w _ hw209_1)).trans hw209_1), ((HB.out.cell (World.block_lt_of_cell? w _ hw209_2)).trans hw209_2), ((HB.out.cell (World.block_lt_of_cell? w _ hw209_3)).trans hw209_3)⟩ (fun hHeld => ?_)
         clear hK K
         refine norm_ (a' := ?_) ?_ ?_
         rotate_left
         ·show Act.put _ (some 37) _ = _
          simp only [Act.put, List.setIfInBounds_toArray, List.set_cons_zero, List.set_cons_succ, i64_w, i32_w]
          rfl
         refine pure_ (i := 7) (N := some 30) (v := ?_) (a' := ?_) #[true, true, true, true, true, true, true, true, false, false, false, false] rfl rfl (any_of HT_.out (by kernel_rfl)) (fun _ _ _ h => h) (Or.inl ⟨by rfl, ?_⟩) ?_ ?_
         rotate_left
         ·intro w'
          go_simp
          with_reducible rfl
         rotate_left
         ·simp only [Act.put, List.setIfInBounds_toArray, List.set_cons_zero, List.set_cons_succ, i64_w, i32_w]
          rfl
         refine pure_ (i := 8) (N := some 38) (v := ?_) (a' := ?_) #[true, true, true, true, true, true, true, true, true, false, false, false] rfl rfl (any_of HT_.out (by kernel_rfl)) (fun _ _ _ h => h) (Or.inl ⟨by rfl, ?_⟩) ?_ ?_
         rotate_left
         ·intro w'
          go_simp
          with_reducible rfl
         rotate_left
         ·simp only [Act.put, List.setIfInBounds_toArray, List.set_cons_zero, List.set_cons_succ, i64_w, i32_w]
          rfl
         refine pure_ (i := 9) (N := some 39) (v := ?_) (a' := ?_) #[true, true, true, true, true, true, true, true, true, true, false, false] rfl rfl (any_of HT_.out (by kernel_rfl)) (fun _ _ _ h => h) (Or.inl ⟨by rfl, ?_⟩) ?_ ?_
         rotate_left
         ·intro w'
          go_simp
          with_reducible rfl
         rotate_left
         ·simp only [Act.put, List.setIfInBounds_toArray, List.set_cons_zero, List.set_cons_succ, i64_w, i32_w]
          rfl
         refine pure_ (i := 10) (N := some 40) (v := ?_) (a' := ?_) #[true, true, true, true, true, true, true, true, true, true, true, false] rfl rfl (any_of HT_.out (by kernel_rfl)) (fun _ _ _ h => h) (Or.inl ⟨by rfl, ?_⟩) ?_ ?_
         rotate_left
         ·intro w'
          go_simp
          with_reducible rfl
         rotate_left
         ·simp only [Act.put, List.setIfInBounds_toArray, List.set_cons_zero, List.set_cons_succ, i64_w, i32_w]
          rfl
         refine last_ (i := 11) (N := none) #[true, true, true, true, true, true, true, true, true, true, true, true] rfl rfl (one_of HT_.out (by kernel_rfl)) (by decide) (fun K hK => ?_)
         have hs23 : w22.cell? ⟨gb205, 3, none⟩ = some (.string a2_3) := (blk_cell BK205.out 3).trans rfl
         have hfs23 := blk_frozen BK205.out 3
         refine skip_ (w1 := ?_) (by rfl) rfl ?_ ?_
         rotate_left
         ·go_simp
          rfl
         refine hK.out _ _ ?_
         clear hK K
         refine done_ (done_of HT_.out (by kernel_rfl)) ?_
         try go_wp2
         have n0_ : Aside0 ((w22.setCell ⟨gb205, 3, none⟩ (.string t210)).heap[gb205]? = some (.cells #[.int .i64 a2_0, .int .i64 a2_1, .string a2_2, .string t210] 25 (0, 0))) := ⟨by (with_reducible repeat (first | refine blk_drewN ?_ _ | refine blk_drew ?_ | refine blk_alloc ?_ _)); refine blk_put (cs := #[.int .i64 a2_0, .int .i64 a2_1, .string a2_2, .string a2_3]) ?_ 3 _ rfl; (with_reducible repeat (first | refine blk_drewN ?_ _ | refine blk_drew ?_ | refine blk_alloc ?_ _)); exact BK205.out⟩
         have n1_ : Aside0 (Below w.heap.size w (w22.setCell ⟨gb205, 3, none⟩ (.string t210))) := ⟨by repeat (first | (with_reducible first | exact HB.out | apply below_alloc | apply pw_below_drewN | apply below_drew1 | refine below_set ?_ GE205.out) | exact HB.out)⟩
         (try clear BK205)
         (try clear HB)
         generalize (w22.setCell ⟨gb205, 3, none⟩ (.string t210)) = w24 at n0_ n1_ ⊢
         have BK205 := n0_
         have HB := n1_
         clear n0_ n1_
         have n0_ := Aside0.mk (blk_drew BK205.out)
         have n1_ := Aside0.mk (below_drew1 HB.out)
         clear BK205
         clear HB
         have BK205 := n0_
         have HB := n1_
         clear n0_ n1_
         refine start_ (n := 7) (S := fun w' => w'.cell? ⟨gb205, 0, none⟩ = some (.int .i64 a2_0) ∧ w'.cell? ⟨gb205, 1, none⟩ = some (.int .i64 a2_1) ∧ w'.cell? ⟨gb205, 2, none⟩ = some (.string a2_2) ∧ w'.cell? ⟨gb205, 3, none⟩ = some (.string t210)) (ds := []) #[false, false, false, false, false, false, false] (by kernel_rfl) rfl rfl ⟨(blk_cell BK205.out 0).trans rfl, (blk_cell BK205.out 1).trans rfl, (blk_cell BK205.out 2).trans rfl, (blk_cell BK205.out 3).trans rfl⟩ (fun hHeld => ?_)
         generalize w24.drew = w25 at BK205 HB hHeld ⊢
         refine pure_ (i := 1) (N := some 42) (v := ?_) (a' := ?_) #[false, true, false, false, false, false, false] rfl rfl (by kernel_rfl) (fun _ _ _ h => h) (Or.inl ⟨by rfl, ?_⟩) ?_ ?_
         rotate_left
         ·intro w'
          go_simp
          with_reducible rfl
         rotate_left
         ·simp only [Act.put, List.setIfInBounds_toArray, List.set_cons_zero, List.set_cons_succ, i64_w, i32_w]
          rfl
         refine take_ (i := 3) (N := some 44) (v := ?_) (a' := ?_) #[false, true, false, true, false, false, false] rfl rfl (by kernel_rfl) (fun _ _ _ h => h) (Or.inl ⟨by rfl, ?_⟩) hHeld ?_ ?_
         rotate_left
         ·rintro w' ⟨s0, s1, s2, s3⟩
          go_simp
          with_reducible rfl
         rotate_left
         ·simp only [Act.put, List.setIfInBounds_toArray, List.set_cons_zero, List.set_cons_succ, i64_w, i32_w]
          rfl
         refine join_ (σ := Value × Value × Value) 2 #[true, true, true, true, true, false, false] (fun s_ => [(41, s_.1), (43, s_.2.1), (45, s_.2.2)]) (fun s_ w' => (w'.cell? ⟨gb205, 0, none⟩ = some (.int .i64 a2_0) ∧ w'.cell? ⟨gb205, 1, none⟩ = some (.int .i64 a2_1) ∧ w'.cell? ⟨gb205, 2, none⟩ = some (.string a2_2) ∧ w'.cell? ⟨gb205, 3, none⟩ = some (.string t210)) ∧ (Kd.R k25 25 w' w.heap.size (fun k_ => some k_ ≠ (s_.2.2 : Value).ownBlock ∧ k_ ≠ gb205) s_.2.1 y215) ∧ (Kd.R k25 25 w' w.heap.size (fun k_ => some k_ ≠ (s_.2.1 : Value).ownBlock ∧ k_ ≠ gb205) s_.2.2 y218) ∧ (w'.heap[gb205]? = some (.cells #[.int .i64 a2_0, .int .i64 a2_1, .string a2_2, .string t210] 25 (0, 0))) ∧ (Below w.heap.size w w')) ?_ ?_
         rotate_left
         ·intro hCont
          refine two_ (i := 0) (j := 4) (Ni := some 41) (Nj := some 45) #[true, true, false, true, false, false, false] #[false, true, false, true, true, false, false] rfl rfl rfl rfl (by kernel_rfl) (by decide) (by decide) (fun K hK => ?_) (fun K hK => ?_)
          ·skip
           refine Kd.R_lit_step k25 _ 25 ?hg (N := 41) ?hd (xs := ([] : List (S25))) (inner := []) (ok := fun _ => True) (okp := fun _ => True) ?hr ?hp (fun _ hk => hk) trivial (Below.refl _ _) (Nat.le_refl _) (by simp) ?_; (case hd => rfl); (case hg => rfl); (case hr => first | (go_simp; done) | (go_simp; rfl)); (case hp => exact (Reps.none _ _))
           intro v213 w26 ho27 hb hg_ hnew_
           clear hg_ hnew_
           (first | rw [← Ny212.out] at ho27 | (simp only [Int.reduceToNat] at ho27; rw [← Ny212.out] at ho27))
           have n0_ := Aside0.mk (Kd.R_lower (Kd.R_newB ho27 (g := gb205) (o := .cells #[.int .i64 a2_0, .int .i64 a2_1, .string a2_2, .string t210] 25 (0, 0)) (by (with_reducible repeat (first | refine blk_drewN ?_ _ | refine blk_drew ?_ | refine blk_alloc ?_ _)); exact BK205.out)) (below_size (by repeat (first | (with_reducible first | exact HB.out | apply below_alloc | apply pw_below_drewN | apply below_drew1 | refine below_set ?_ GE205.out) | exact HB.out))))
           have n1_ := Aside0.mk (blk_below (g := gb205) (o := .cells #[.int .i64 a2_0, .int .i64 a2_1, .string a2_2, .string t210] 25 (0, 0)) (by (with_reducible repeat (first | refine blk_drewN ?_ _ | refine blk_drew ?_ | refine blk_alloc ?_ _)); exact BK205.out) hb)
           have n2_ := Aside0.mk (below_step (by repeat (first | (with_reducible first | exact HB.out | apply below_alloc | apply pw_below_drewN | apply below_drew1 | refine below_set ?_ GE205.out) | exact HB.out)) hb)
           clear BK205
           clear HB
           have HO214 := n0_
           have BK205 := n1_
           have HB := n2_
           clear n0_ n1_ n2_
           clear hb ho27
           refine hK.out _ _ ⟨(blk_cell BK205.out 0).trans rfl, (blk_cell BK205.out 1).trans rfl, (blk_cell BK205.out 2).trans rfl, (blk_cell BK205.out 3).trans rfl⟩ (fun hHeld => ?_)
           clear hK K
           refine norm_ (a' := ?_) ?_ ?_
           rotate_left
           ·show Act.put _ (some 41) _ = _
            simp only [Act.put, List.setIfInBounds_toArray, List.set_cons_zero, List.set_cons_succ, i64_w, i32_w]
            rfl
           refine two_ (i := 2) (j := 4) (Ni := some 43) (Nj := some 45) #[true, true, true, true, false, false, false] #[true, true, false, true, true, false, false] rfl rfl rfl rfl (by kernel_rfl) (by decide) (by decide) (fun K hK => ?_) (fun K hK => ?_)
           ·skip
            refine Kd.R_append_rows_step k25 (w0 := w) w.heap.size (by rfl) (.tmp 41) (.tmp 42) 23 25 (.agg #[(.int .i64 0), (.int .i64 0), (.string ⟨#[]⟩), (.string ⟨#[]⟩)]) 48 rfl Tryd.underlying23 info25 rfl (by decide) (by omega) v213 y212 l1 _ _ _ (fun k_ => k_ ≠ gb205) (fun _ => False) rfl rfl ?aO ?aR (fun _ _ h => h) (fun _ h => h.elim) ?aF ?aB ?aS ?aL ?_
            (case aR => repeat (first | exact (Kd.C_below HR1.out HB.out) | (with_reducible refine Kd.C_alloc ?_ _) | (with_reducible refine Kd.C_drewN ?_ _) | (with_reducible refine Kd.C_drew ?_)))
            (case aB => exact (by repeat (first | (with_reducible first | exact HB.out | apply below_alloc | apply pw_below_drewN | apply below_drew1 | refine below_set ?_ GE205.out) | exact HB.out)))
            (case aF => exact (fun k_ hk => Kd.freshB (g := gb205) (o := .cells #[.int .i64 a2_0, .int .i64 a2_1, .string a2_2, .string t210] 25 (0, 0)) (by (with_reducible repeat (first | refine blk_drewN ?_ _ | refine blk_drew ?_ | refine blk_alloc ?_ _)); exact BK205.out) k_ hk))
            (case aO => exact (by (with_reducible repeat (first | apply Kd.R_alloc | apply Kd.R_drewN | apply Kd.R_drew)); exact Kd.R_mono HO214.out (fun _ hk => hk.2)))
            (case aS => exact (below_size (by repeat (first | (with_reducible first | exact HB.out | apply below_alloc | apply pw_below_drewN | apply below_drew1 | refine below_set ?_ GE205.out) | exact HB.out))))
            (case aL => have := LMc14.out; omega)
            intro v216 w28 ho hb hg hat
            rw [← Ny215.out] at ho
            have n0_ := Aside0.mk (blk_grown (g := gb205) (o := .cells #[.int .i64 a2_0, .int .i64 a2_1, .string a2_2, .string t210] 25 (0, 0)) (by (with_reducible repeat (first | refine blk_drewN ?_ _ | refine blk_drew ?_ | refine blk_alloc ?_ _)); exact BK205.out) hg (Kd.R_away HO214.out (fun _ hk => hk.2)))
            have n1_ := Aside0.mk (hb)
            have n2_ := Aside0.mk (ho)
            clear BK205
            clear HB
            clear HO214
            have BK205 := n0_
            have HB := n1_
            have HO217 := n2_
            clear n0_ n1_ n2_
            clear ho hb hg hat
            refine hK.out _ _ ⟨(blk_cell BK205.out 0).trans rfl, (blk_cell BK205.out 1).trans rfl, (blk_cell BK205.out 2).trans rfl, (blk_cell BK205.out 3).trans rfl⟩ (fun hHeld => ?_)
            clear hK K
            refine norm_ (a' := ?_) ?_ ?_
            rotate_left
            ·show Act.put _ (some 43) _ = _
             simp only [Act.put, List.setIfInBounds_toArray, List.set_cons_zero, List.set_cons_succ, i64_w, i32_w]
             rfl
            refine one_ (i := 4) (N := some 45) #[true, true, true, true, true, false, false] rfl rfl (by kernel_rfl) (by decide) (fun K hK => ?_)
            refine Kd.R_lit_step k25 _ 25 ?hg (N := 45) ?hd (xs := ([(⟨a2_0, a2_1, a2_2, t210⟩ : S25)] : List (S25))) (inner := [.int .i64 a2_0, .int .i64 a2_1, .string a2_2, .string t210]) (ok := fun _ => True) (okp := fun _ => True) ?hr ?hp (fun _ hk => hk) trivial (Below.refl _ _) (Nat.le_refl _) (by simp) ?_; (case hd => rfl); (case hg => rfl); (case hr => first | (go_simp; done) | (go_simp; rfl)); (case hp => exact (Reps.c4 (show Kd.M k25 _ _ _ (⟨a2_0, a2_1, a2_2, t210⟩ : S25) [.int .i64 a2_0, .int .i64 a2_1, .string a2_2, .string t210] from (k25_mkM _ _ _ (⟨a2_0, a2_1, a2_2, t210⟩ : S25) )) (Reps.none _ _)))
            intro v219 w29 ho30 hb hg_ hnew_
            clear hg_ hnew_
            (first | rw [← Ny218.out] at ho30 | (simp only [Int.reduceToNat] at ho30; rw [← Ny218.out] at ho30))
            have n0_ := Aside0.mk (Kd.R_elder' (by (with_reducible repeat (first | apply Kd.R_alloc | apply Kd.R_drewN | apply Kd.R_drew)); exact HO217.out) (Kd.R_base ho30) hb)
            have n1_ := Aside0.mk (Kd.R_lower (Kd.R_newB (Kd.R_new' ho30 (Kd.R_lt (by (with_reducible repeat (first | apply Kd.R_alloc | apply Kd.R_drewN | apply Kd.R_drew)); exact HO217.out))) (g := gb205) (o := .cells #[.int .i64 a2_0, .int .i64 a2_1, .string a2_2, .string t210] 25 (0, 0)) (by (with_reducible repeat (first | refine blk_drewN ?_ _ | refine blk_drew ?_ | refine blk_alloc ?_ _)); exact BK205.out)) (below_size (by repeat (first | (with_reducible first | exact HB.out | apply below_alloc | apply pw_below_drewN | apply below_drew1 | refine below_set ?_ GE205.out) | exact HB.out))))
            have n2_ := Aside0.mk (blk_below (g := gb205) (o := .cells #[.int .i64 a2_0, .int .i64 a2_1, .string a2_2, .string t210] 25 (0, 0)) (by (with_reducible repeat (first | refine blk_drewN ?_ _ | refine blk_drew ?_ | refine blk_alloc ?_ _)); exact BK205.out) hb)
            have n3_ := Aside0.mk (below_step (by repeat (first | (with_reducible first | exact HB.out | apply below_alloc | apply pw_below_drewN | apply below_drew1 | refine below_set ?_ GE205.out) | exact HB.out)) hb)
            clear HO217
            clear BK205
            clear HB
            have HO217 := n0_
            have HO220 := n1_
            have BK205 := n2_
            have HB := n3_
            clear n0_ n1_ n2_ n3_
            clear hb ho30
            refine hK.out _ _ ⟨(blk_cell BK205.out 0).trans rfl, (blk_cell BK205.out 1).trans rfl, (blk_cell BK205.out 2).trans rfl, (blk_cell BK205.out 3).trans rfl⟩ (fun hHeld => ?_)
            clear hK K
            refine norm_ (a' := ?_) ?_ ?_
            rotate_left
            ·show Act.put _ (some 45) _ = _
             simp only [Act.put, List.setIfInBounds_toArray, List.set_cons_zero, List.set_cons_succ, i64_w, i32_w]
             rfl
            exact norm_ (by simp only [putAll, Act.put, List.setIfInBounds_toArray, List.set_cons_zero, List.set_cons_succ]) (hCont (v213, v216, v219) _ ⟨hHeld, (by (with_reducible repeat (first | apply Kd.R_alloc | apply Kd.R_drewN | apply Kd.R_drew)); exact Kd.R_mono HO217.out (fun _ hk => ⟨hk.2, hk.1⟩)), (by (with_reducible repeat (first | apply Kd.R_alloc | apply Kd.R_drewN | apply Kd.R_drew)); exact Kd.R_mono HO220.out (fun _ hk => ⟨hk.1.2, hk.2⟩)), (by (with_reducible repeat (first | refine blk_drewN ?_ _ | refine blk_drew ?_ | refine blk_alloc ?_ _)); exact BK205.out), (by repeat (first | (with_reducible first | exact HB.out | apply below_alloc | apply pw_below_drewN | apply below_drew1 | refine below_set ?_ GE205.out) | exact HB.out))⟩)
           ·skip
            refine Kd.R_lit_step k25 _ 25 ?hg (N := 45) ?hd (xs := ([(⟨a2_0, a2_1, a2_2, t210⟩ : S25)] : List (S25))) (inner := [.int .i64 a2_0, .int .i64 a2_1, .string a2_2, .string t210]) (ok := fun _ => True) (okp := fun _ => True) ?hr ?hp (fun _ hk => hk) trivial (Below.refl _ _) (Nat.le_refl _) (by simp) ?_; (case hd => rfl); (case hg => rfl); (case hr => first | (go_simp; done) | (go_simp; rfl)); (case hp => exact (Reps.c4 (show Kd.M k25 _ _ _ (⟨a2_0, a2_1, a2_2, t210⟩ : S25) [.int .i64 a2_0, .int .i64 a2_1, .string a2_2, .string t210] from (k25_mkM _ _ _ (⟨a2_0, a2_1, a2_2, t210⟩ : S25) )) (Reps.none _ _)))
            intro v219 w28 ho29 hb hg_ hnew_
            clear hg_ hnew_
            (first | rw [← Ny218.out] at ho29 | (simp only [Int.reduceToNat] at ho29; rw [← Ny218.out] at ho29))
            have n0_ := Aside0.mk (Kd.R_elder' (by (with_reducible repeat (first | apply Kd.R_alloc | apply Kd.R_drewN | apply Kd.R_drew)); exact HO214.out) (Kd.R_base ho29) hb)
            have n1_ := Aside0.mk (Kd.R_lower (Kd.R_newB (Kd.R_new' ho29 (Kd.R_lt (by (with_reducible repeat (first | apply Kd.R_alloc | apply Kd.R_drewN | apply Kd.R_drew)); exact HO214.out))) (g := gb205) (o := .cells #[.int .i64 a2_0, .int .i64 a2_1, .string a2_2, .string t210] 25 (0, 0)) (by (with_reducible repeat (first | refine blk_drewN ?_ _ | refine blk_drew ?_ | refine blk_alloc ?_ _)); exact BK205.out)) (below_size (by repeat (first | (with_reducible first | exact HB.out | apply below_alloc | apply pw_below_drewN | apply below_drew1 | refine below_set ?_ GE205.out) | exact HB.out))))
            have n2_ := Aside0.mk (blk_below (g := gb205) (o := .cells #[.int .i64 a2_0, .int .i64 a2_1, .string a2_2, .string t210] 25 (0, 0)) (by (with_reducible repeat (first | refine blk_drewN ?_ _ | refine blk_drew ?_ | refine blk_alloc ?_ _)); exact BK205.out) hb)
            have n3_ := Aside0.mk (below_step (by repeat (first | (with_reducible first | exact HB.out | apply below_alloc | apply pw_below_drewN | apply below_drew1 | refine below_set ?_ GE205.out) | exact HB.out)) hb)
            clear HO214
            clear BK205
            clear HB
            have HO214 := n0_
            have HO220 := n1_
            have BK205 := n2_
            have HB := n3_
            clear n0_ n1_ n2_ n3_
            clear hb ho29
            refine hK.out _ _ ⟨(blk_cell BK205.out 0).trans rfl, (blk_cell BK205.out 1).trans rfl, (blk_cell BK205.out 2).trans rfl, (blk_cell BK205.out 3).trans rfl⟩ (fun hHeld => ?_)
            clear hK K
            refine norm_ (a' := ?_) ?_ ?_
            rotate_left
            ·show Act.put _ (some 45) _ = _
             simp only [Act.put, List.setIfInBounds_toArray, List.set_cons_zero, List.set_cons_succ, i64_w, i32_w]
             rfl
            refine one_ (i := 2) (N := some 43) #[true, true, true, true, true, false, false] rfl rfl (by kernel_rfl) (by decide) (fun K hK => ?_)
            refine Kd.R_append_rows_step k25 (w0 := w) w.heap.size (by rfl) (.tmp 41) (.tmp 42) 23 25 (.agg #[(.int .i64 0), (.int .i64 0), (.string ⟨#[]⟩), (.string ⟨#[]⟩)]) 48 rfl Tryd.underlying23 info25 rfl (by decide) (by omega) v213 y212 l1 _ _ _ (fun k_ => some k_ ≠ (v219 : Value).ownBlock ∧ k_ ≠ gb205) (fun _ => False) rfl rfl ?aO ?aR (fun _ _ h => h) (fun _ h => h.elim) ?aF ?aB ?aS ?aL ?_
            (case aR => repeat (first | exact (Kd.C_below HR1.out HB.out) | (with_reducible refine Kd.C_alloc ?_ _) | (with_reducible refine Kd.C_drewN ?_ _) | (with_reducible refine Kd.C_drew ?_)))
            (case aB => exact (by repeat (first | (with_reducible first | exact HB.out | apply below_alloc | apply pw_below_drewN | apply below_drew1 | refine below_set ?_ GE205.out) | exact HB.out)))
            (case aF => exact (fun k_ hk => ⟨Kd.fresh' (Kd.R_lt (by (with_reducible repeat (first | apply Kd.R_alloc | apply Kd.R_drewN | apply Kd.R_drew)); exact HO220.out)) k_ hk, Kd.freshB (g := gb205) (o := .cells #[.int .i64 a2_0, .int .i64 a2_1, .string a2_2, .string t210] 25 (0, 0)) (by (with_reducible repeat (first | refine blk_drewN ?_ _ | refine blk_drew ?_ | refine blk_alloc ?_ _)); exact BK205.out) k_ hk⟩))
            (case aO => exact (by (with_reducible repeat (first | apply Kd.R_alloc | apply Kd.R_drewN | apply Kd.R_drew)); exact Kd.R_mono HO214.out (fun _ hk => ⟨hk.2, hk.1.2⟩)))
            (case aS => exact (below_size (by repeat (first | (with_reducible first | exact HB.out | apply below_alloc | apply pw_below_drewN | apply below_drew1 | refine below_set ?_ GE205.out) | exact HB.out))))
            (case aL => have := LMc14.out; omega)
            intro v216 w30 ho hb hg hat
            rw [← Ny215.out] at ho
            have n0_ := Aside0.mk (blk_grown (g := gb205) (o := .cells #[.int .i64 a2_0, .int .i64 a2_1, .string a2_2, .string t210] 25 (0, 0)) (by (with_reducible repeat (first | refine blk_drewN ?_ _ | refine blk_drew ?_ | refine blk_alloc ?_ _)); exact BK205.out) hg (Kd.R_away HO214.out (fun _ hk => hk.1.2)))
            have n1_ := Aside0.mk (Kd.R_after (ok := (fun k_ => k_ ≠ gb205)) (by (with_reducible repeat (first | apply Kd.R_alloc | apply Kd.R_drewN | apply Kd.R_drew)); exact Kd.R_mono HO220.out (fun _ hk => ⟨hk.2, hk.1.2⟩)) hg hat)
            have n2_ := Aside0.mk (hb)
            have n3_ := Aside0.mk (ho)
            clear BK205
            clear HO220
            clear HB
            clear HO214
            have BK205 := n0_
            have HO220 := n1_
            have HB := n2_
            have HO217 := n3_
            clear n0_ n1_ n2_ n3_
            clear ho hb hg hat
            refine hK.out _ _ ⟨(blk_cell BK205.out 0).trans rfl, (blk_cell BK205.out 1).trans rfl, (blk_cell BK205.out 2).trans rfl, (blk_cell BK205.out 3).trans rfl⟩ (fun hHeld => ?_)
            clear hK K
            refine norm_ (a' := ?_) ?_ ?_
            rotate_left
            ·show Act.put _ (some 43) _ = _
             simp only [Act.put, List.setIfInBounds_toArray, List.set_cons_zero, List.set_cons_succ, i64_w, i32_w]
             rfl
            exact norm_ (by simp only [putAll, Act.put, List.setIfInBounds_toArray, List.set_cons_zero, List.set_cons_succ]) (hCont (v213, v216, v219) _ ⟨hHeld, (by (with_reducible repeat (first | apply Kd.R_alloc | apply Kd.R_drewN | apply Kd.R_drew)); exact HO217.out), (by (with_reducible repeat (first | apply Kd.R_alloc | apply Kd.R_drewN | apply Kd.R_drew)); exact Kd.R_mono HO220.out (fun _ hk => ⟨hk.2, hk.1⟩)), (by (with_reducible repeat (first | refine blk_drewN ?_ _ | refine blk_drew ?_ | refine blk_alloc ?_ _)); exact BK205.out), (by repeat (first | (with_reducible first | exact HB.out | apply below_alloc | apply pw_below_drewN | apply below_drew1 | refine below_set ?_ GE205.out) | exact HB.out))⟩)
          ·skip
           refine Kd.R_lit_step k25 _ 25 ?hg (N := 45) ?hd (xs := ([(⟨a2_0, a2_1, a2_2, t210⟩ : S25)] : List (S25))) (inner := [.int .i64 a2_0, .int .i64 a2_1, .string a2_2, .string t210]) (ok := fun _ => True) (okp := fun _ => True) ?hr ?hp (fun _ hk => hk) trivial (Below.refl _ _) (Nat.le_refl _) (by simp) ?_; (case hd => rfl); (case hg => rfl); (case hr => first | (go_simp; done) | (go_simp; rfl)); (case hp => exact (Reps.c4 (show Kd.M k25 _ _ _ (⟨a2_0, a2_1, a2_2, t210⟩ : S25) [.int .i64 a2_0, .int .i64 a2_1, .string a2_2, .string t210] from (k25_mkM _ _ _ (⟨a2_0, a2_1, a2_2, t210⟩ : S25) )) (Reps.none _ _)))
           intro v219 w26 ho27 hb hg_ hnew_
           clear hg_ hnew_
           (first | rw [← Ny218.out] at ho27 | (simp only [Int.reduceToNat] at ho27; rw [← Ny218.out] at ho27))
           have n0_ := Aside0.mk (Kd.R_lower (Kd.R_newB ho27 (g := gb205) (o := .cells #[.int .i64 a2_0, .int .i64 a2_1, .string a2_2, .string t210] 25 (0, 0)) (by (with_reducible repeat (first | refine blk_drewN ?_ _ | refine blk_drew ?_ | refine blk_alloc ?_ _)); exact BK205.out)) (below_size (by repeat (first | (with_reducible first | exact HB.out | apply below_alloc | apply pw_below_drewN | apply below_drew1 | refine below_set ?_ GE205.out) | exact HB.out))))
           have n1_ := Aside0.mk (blk_below (g := gb205) (o := .cells #[.int .i64 a2_0, .int .i64 a2_1, .string a2_2, .string t210] 25 (0, 0)) (by (with_reducible repeat (first | refine blk_drewN ?_ _ | refine blk_drew ?_ | refine blk_alloc ?_ _)); exact BK205.out) hb)
           have n2_ := Aside0.mk (below_step (by repeat (first | (with_reducible first | exact HB.out | apply below_alloc | apply pw_below_drewN | apply below_drew1 | refine below_set ?_ GE205.out) | exact HB.out)) hb)
           clear BK205
           clear HB
           have HO220 := n0_
           have BK205 := n1_
           have HB := n2_
           clear n0_ n1_ n2_
           clear hb ho27
           refine hK.out _ _ ⟨(blk_cell BK205.out 0).trans rfl, (blk_cell BK205.out 1).trans rfl, (blk_cell BK205.out 2).trans rfl, (blk_cell BK205.out 3).trans rfl⟩ (fun hHeld => ?_)
           clear hK K
           refine norm_ (a' := ?_) ?_ ?_
           rotate_left
           ·show Act.put _ (some 45) _ = _
            simp only [Act.put, List.setIfInBounds_toArray, List.set_cons_zero, List.set_cons_succ, i64_w, i32_w]
            rfl
           refine one_ (i := 0) (N := some 41) #[true, true, false, true, true, false, false] rfl rfl (by kernel_rfl) (by decide) (fun K hK => ?_)
           refine Kd.R_lit_step k25 _ 25 ?hg (N := 41) ?hd (xs := ([] : List (S25))) (inner := []) (ok := fun _ => True) (okp := fun _ => True) ?hr ?hp (fun _ hk => hk) trivial (Below.refl _ _) (Nat.le_refl _) (by simp) ?_; (case hd => rfl); (case hg => rfl); (case hr => first | (go_simp; done) | (go_simp; rfl)); (case hp => exact (Reps.none _ _))
           intro v213 w28 ho29 hb hg_ hnew_
           clear hg_ hnew_
           (first | rw [← Ny212.out] at ho29 | (simp only [Int.reduceToNat] at ho29; rw [← Ny212.out] at ho29))
           have n0_ := Aside0.mk (Kd.R_elder' (by (with_reducible repeat (first | apply Kd.R_alloc | apply Kd.R_drewN | apply Kd.R_drew)); exact HO220.out) (Kd.R_base ho29) hb)
           have n1_ := Aside0.mk (Kd.R_lower (Kd.R_newB (Kd.R_new' ho29 (Kd.R_lt (by (with_reducible repeat (first | apply Kd.R_alloc | apply Kd.R_drewN | apply Kd.R_drew)); exact HO220.out))) (g := gb205) (o := .cells #[.int .i64 a2_0, .int .i64 a2_1, .string a2_2, .string t210] 25 (0, 0)) (by (with_reducible repeat (first | refine blk_drewN ?_ _ | refine blk_drew ?_ | refine blk_alloc ?_ _)); exact BK205.out)) (below_size (by repeat (first | (with_reducible first | exact HB.out | apply below_alloc | apply pw_below_drewN | apply below_drew1 | refine below_set ?_ GE205.out) | exact HB.out))))
           have n2_ := Aside0.mk (blk_below (g := gb205) (o := .cells #[.int .i64 a2_0, .int .i64 a2_1, .string a2_2, .string t210] 25 (0, 0)) (by (with_reducible repeat (first | refine blk_drewN ?_ _ | refine blk_drew ?_ | refine blk_alloc ?_ _)); exact BK205.out) hb)
           have n3_ := Aside0.mk (below_step (by repeat (first | (with_reducible first | exact HB.out | apply below_alloc | apply pw_below_drewN | apply below_drew1 | refine below_set ?_ GE205.out) | exact HB.out)) hb)
           clear HO220
           clear BK205
           clear HB
           have HO220 := n0_
           have HO214 := n1_
           have BK205 := n2_
           have HB := n3_
           clear n0_ n1_ n2_ n3_
           clear hb ho29
           refine hK.out _ _ ⟨(blk_cell BK205.out 0).trans rfl, (blk_cell BK205.out 1).trans rfl, (blk_cell BK205.out 2).trans rfl, (blk_cell BK205.out 3).trans rfl⟩ (fun hHeld => ?_)
           clear hK K
           refine norm_ (a' := ?_) ?_ ?_
           rotate_left
           ·show Act.put _ (some 41) _ = _
            simp only [Act.put, List.setIfInBounds_toArray, List.set_cons_zero, List.set_cons_succ, i64_w, i32_w]
            rfl
           refine one_ (i := 2) (N := some 43) #[true, true, true, true, true, false, false] rfl rfl (by kernel_rfl) (by decide) (fun K hK => ?_)
           refine Kd.R_append_rows_step k25 (w0 := w) w.heap.size (by rfl) (.tmp 41) (.tmp 42) 23 25 (.agg #[(.int .i64 0), (.int .i64 0), (.string ⟨#[]⟩), (.string ⟨#[]⟩)]) 48 rfl Tryd.underlying23 info25 rfl (by decide) (by omega) v213 y212 l1 _ _ _ (fun k_ => some k_ ≠ (v219 : Value).ownBlock ∧ k_ ≠ gb205) (fun _ => False) rfl rfl ?aO ?aR (fun _ _ h => h) (fun _ h => h.elim) ?aF ?aB ?aS ?aL ?_
           (case aR => repeat (first | exact (Kd.C_below HR1.out HB.out) | (with_reducible refine Kd.C_alloc ?_ _) | (with_reducible refine Kd.C_drewN ?_ _) | (with_reducible refine Kd.C_drew ?_)))
           (case aB => exact (by repeat (first | (with_reducible first | exact HB.out | apply below_alloc | apply pw_below_drewN | apply below_drew1 | refine below_set ?_ GE205.out) | exact HB.out)))
           (case aF => exact (fun k_ hk => ⟨Kd.fresh' (Kd.R_lt (by (with_reducible repeat (first | apply Kd.R_alloc | apply Kd.R_drewN | apply Kd.R_drew)); exact HO220.out)) k_ hk, Kd.freshB (g := gb205) (o := .cells #[.int .i64 a2_0, .int .i64 a2_1, .string a2_2, .string t210] 25 (0, 0)) (by (with_reducible repeat (first | refine blk_drewN ?_ _ | refine blk_drew ?_ | refine blk_alloc ?_ _)); exact BK205.out) k_ hk⟩))
           (case aO => exact (by (with_reducible repeat (first | apply Kd.R_alloc | apply Kd.R_drewN | apply Kd.R_drew)); exact Kd.R_mono HO214.out (fun _ hk => ⟨hk.1.2, hk.2⟩)))
           (case aS => exact (below_size (by repeat (first | (with_reducible first | exact HB.out | apply below_alloc | apply pw_below_drewN | apply below_drew1 | refine below_set ?_ GE205.out) | exact HB.out))))
           (case aL => have := LMc14.out; omega)
           intro v216 w30 ho hb hg hat
           rw [← Ny215.out] at ho
           have n0_ := Aside0.mk (blk_grown (g := gb205) (o := .cells #[.int .i64 a2_0, .int .i64 a2_1, .string a2_2, .string t210] 25 (0, 0)) (by (with_reducible repeat (first | refine blk_drewN ?_ _ | refine blk_drew ?_ | refine blk_alloc ?_ _)); exact BK205.out) hg (Kd.R_away HO214.out (fun _ hk => hk.2)))
           have n1_ := Aside0.mk (Kd.R_after (ok := (fun k_ => k_ ≠ gb205)) (by (with_reducible repeat (first | apply Kd.R_alloc | apply Kd.R_drewN | apply Kd.R_drew)); exact Kd.R_mono HO220.out (fun _ hk => ⟨hk.1.2, hk.2⟩)) hg hat)
           have n2_ := Aside0.mk (hb)
           have n3_ := Aside0.mk (ho)
           clear BK205
           clear HO220
           clear HB
           clear HO214
           have BK205 := n0_
           have HO220 := n1_
           have HB := n2_
           have HO217 := n3_
           clear n0_ n1_ n2_ n3_
           clear ho hb hg hat
           refine hK.out _ _ ⟨(blk_cell BK205.out 0).trans rfl, (blk_cell BK205.out 1).trans rfl, (blk_cell BK205.out 2).trans rfl, (blk_cell BK205.out 3).trans rfl⟩ (fun hHeld => ?_)
           clear hK K
           refine norm_ (a' := ?_) ?_ ?_
           rotate_left
           ·show Act.put _ (some 43) _ = _
            simp only [Act.put, List.setIfInBounds_toArray, List.set_cons_zero, List.set_cons_succ, i64_w, i32_w]
            rfl
           exact norm_ (by simp only [putAll, Act.put, List.setIfInBounds_toArray, List.set_cons_zero, List.set_cons_succ]) (hCont (v213, v216, v219) _ ⟨hHeld, (by (with_reducible repeat (first | apply Kd.R_alloc | apply Kd.R_drewN | apply Kd.R_drew)); exact HO217.out), (by (with_reducible repeat (first | apply Kd.R_alloc | apply Kd.R_drewN | apply Kd.R_drew)); exact Kd.R_mono HO220.out (fun _ hk => ⟨hk.2, hk.1⟩)), (by (with_reducible repeat (first | refine blk_drewN ?_ _ | refine blk_drew ?_ | refine blk_alloc ?_ _)); exact BK205.out), (by repeat (first | (with_reducible first | exact HB.out | apply below_alloc | apply pw_below_drewN | apply below_drew1 | refine below_set ?_ GE205.out) | exact HB.out))⟩)
         rintro ⟨v213, v216, v219⟩ w31 ⟨hS_, h0_, h1_, h2_, h3_⟩
         have n0_ : Aside0 (Kd.R k25 25 w31 w.heap.size (fun k_ => some k_ ≠ (v219 : Value).ownBlock ∧ k_ ≠ gb205) v216 y215) := ⟨h0_⟩
         have n1_ : Aside0 (Kd.R k25 25 w31 w.heap.size (fun k_ => some k_ ≠ (v216 : Value).ownBlock ∧ k_ ≠ gb205) v219 y218) := ⟨h1_⟩
         have n2_ : Aside0 (w31.heap[gb205]? = some (.cells #[.int .i64 a2_0, .int .i64 a2_1, .string a2_2, .string t210] 25 (0, 0))) := ⟨h2_⟩
         have n3_ : Aside0 (Below w.heap.size w w31) := ⟨h3_⟩
         clear BK205
         clear HB
         clear h0_ h1_ h2_ h3_
         have HO217 := n0_
         have HO220 := n1_
         have BK205 := n2_
         have HB := n3_
         clear n0_ n1_ n2_ n3_
         have hHeld : w31.cell? ⟨gb205, 0, none⟩ = some (.int .i64 a2_0) ∧ w31.cell? ⟨gb205, 1, none⟩ = some (.int .i64 a2_1) ∧ w31.cell? ⟨gb205, 2, none⟩ = some (.string a2_2) ∧ w31.cell? ⟨gb205, 3, none⟩ = some (.string t210) := hS_
         obtain ⟨Ao33, co33, eo33⟩ := Kd.R_slice HO220.out
         (first | subst eo33 | (injection eo33 with f1_ f2_ f3_; have f4_ := f1_.symm; have f5_ := f3_.symm; clear f1_ f2_ f3_; subst f4_; subst f5_))
         refine norm_ (a' := ?_) ?_ ?_
         rotate_left
         ·simp only [putAll, Act.put, List.setIfInBounds_toArray, List.set_cons_zero, List.set_cons_succ]
          rfl
         refine one_ (i := 5) (N := some 46) #[true, true, true, true, true, true, false] rfl rfl (by kernel_rfl) (by decide) (fun K hK => ?_)
         refine Kd.R_append_rows_step k25 (w0 := w) w.heap.size (by rfl) (.tmp 43) (.tmp 45) 23 25 (.agg #[(.int .i64 0), (.int .i64 0), (.string ⟨#[]⟩), (.string ⟨#[]⟩)]) 48 rfl Tryd.underlying23 info25 rfl (by decide) (by omega) v216 y215 y218 _ _ _ (fun k_ => some k_ ≠ (.slice Ao33 y218.length co33 : Value).ownBlock ∧ k_ ≠ gb205) (fun _ => False) rfl rfl ?aO ?aR (fun _ _ h => h) (fun _ h => h.elim) ?aF ?aB ?aS ?aL ?_
         (case aR => repeat (first | exact (Kd.R_reads' HO220.out).2.2 | (with_reducible refine Kd.C_alloc ?_ _) | (with_reducible refine Kd.C_drewN ?_ _) | (with_reducible refine Kd.C_drew ?_)))
         (case aB => exact (by repeat (first | (with_reducible first | exact HB.out | apply below_alloc | apply pw_below_drewN | apply below_drew1 | refine below_set ?_ GE205.out) | exact HB.out)))
         (case aF => exact (fun k_ hk => ⟨Kd.fresh' (Kd.R_lt (by (with_reducible repeat (first | apply Kd.R_alloc | apply Kd.R_drewN | apply Kd.R_drew)); exact HO220.out)) k_ hk, Kd.freshB (g := gb205) (o := .cells #[.int .i64 a2_0, .int .i64 a2_1, .string a2_2, .string t210] 25 (0, 0)) (by (with_reducible repeat (first | refine blk_drewN ?_ _ | refine blk_drew ?_ | refine blk_alloc ?_ _)); exact BK205.out) k_ hk⟩))
         (case aO => exact (by (with_reducible repeat (first | apply Kd.R_alloc | apply Kd.R_drewN | apply Kd.R_drew)); exact HO217.out))
         (case aS => exact (below_size (by repeat (first | (with_reducible first | exact HB.out | apply below_alloc | apply pw_below_drewN | apply below_drew1 | refine below_set ?_ GE205.out) | exact HB.out))))
         (case aL => have := LMc15.out; omega)
         intro v222 w32 ho hb hg hat
         rw [← Ny221.out] at ho
         have n0_ := Aside0.mk (blk_grown (g := gb205) (o := .cells #[.int .i64 a2_0, .int .i64 a2_1, .string a2_2, .string t210] 25 (0, 0)) (by (with_reducible repeat (first | refine blk_drewN ?_ _ | refine blk_drew ?_ | refine blk_alloc ?_ _)); exact BK205.out) hg (Kd.R_away HO217.out (fun _ hk => hk.2)))
         have n1_ := Aside0.mk (Kd.R_after (ok := (fun k_ => k_ ≠ gb205)) (by (with_reducible repeat (first | apply Kd.R_alloc | apply Kd.R_drewN | apply Kd.R_drew)); exact Kd.R_mono HO220.out (fun _ hk => ⟨hk.2, hk.1⟩)) hg hat)
         have n2_ := Aside0.mk (hb)
         have n3_ := Aside0.mk (ho)
         clear BK205
         clear HO220
         clear HB
         clear HO217
         have BK205 := n0_
         have HO220 := n1_
         have HB := n2_
         have HO223 := n3_
         clear n0_ n1_ n2_ n3_
         clear ho hb hg hat
         refine hK.out _ _ ⟨(blk_cell BK205.out 0).trans rfl, (blk_cell BK205.out 1).trans rfl, (blk_cell BK205.out 2).trans rfl, (blk_cell BK205.out 3).trans rfl⟩ (fun hHeld => ?_)
         clear hK K
         refine norm_ (a' := ?_) ?_ ?_
         rotate_left
         ·show Act.put _ (some 46) _ = _
          simp only [Act.put, List.setIfInBounds_toArray, List.set_cons_zero, List.set_cons_succ, i64_w, i32_w]
          rfl
         refine pure_ (i := 6) (N := some 11) (v := ?_) (a' := ?_) #[true, true, true, true, true, true, true] rfl rfl (by kernel_rfl) (fun _ _ _ h => h) (Or.inl ⟨by rfl, ?_⟩) ?_ ?_
         rotate_left
         ·intro w'
          go_simp
          with_reducible rfl
         rotate_left
         ·simp only [Act.put, List.setIfInBounds_toArray, List.set_cons_zero, List.set_cons_succ, i64_w, i32_w]
          rfl
         refine done_ (by kernel_rfl) ?_
         obtain ⟨Ao34, co34, eo34⟩ := Kd.R_slice HO223.out
         subst eo34
         try go_wp2_with (first | ((with_reducible refine gate_callee (f := 40) rfl ?_); refine goesL_ (some 51) rfl rfl Tryd.func40 (by kernel_rfl) rfl #[.slice (some ad209) l0.length c0, .slice Ao34 y221.length co34, .int .i64 (l1.length : Int)] rfl (by (try simp only [List.map_toArray, List.map_cons, List.map_nil]); first | done | rfl | (simp only [List.length_drop, List.length_take]; rfl)) ?_; (with_reducible refine (garboardref58_fault.calls k _ _ l0 _ _ y221 (l1.length : Int) t224 _ ?side1 ?side2 ?side3 ?side4 ?side5 A16.out).mono ?_); (case side1 => repeat (first | exact (Kd.C_below HR0.out HB.out) | (with_reducible refine Kd.C_alloc ?_ _) | (with_reducible refine Kd.C_drewN ?_ _) | (with_reducible refine Kd.C_drew ?_))); (case side2 => exact HC0.out); (case side3 => repeat (first | exact (Kd.R_reads' HO223.out).2.2 | (with_reducible refine Kd.C_alloc ?_ _) | (with_reducible refine Kd.C_drewN ?_ _) | (with_reducible refine Kd.C_drew ?_))); (case side4 => exact (Kd.R_reads' HO223.out).2.1); (case side5 => exact HLW.out.below (by repeat (first | (with_reducible first | exact HB.out | apply below_alloc | apply pw_below_drewN | apply below_drew1 | refine below_set ?_ GE205.out) | exact HB.out))); rintro e w35 ⟨rfl, hb⟩; refine ⟨_, rfl, ?_⟩; have n0_ := Aside0.mk (Kd.R_below (by (with_reducible repeat (first | apply Kd.R_alloc | apply Kd.R_drewN | apply Kd.R_drew)); exact HO220.out) hb); have n1_ := Aside0.mk (Kd.R_below (by (with_reducible repeat (first | apply Kd.R_alloc | apply Kd.R_drewN | apply Kd.R_drew)); exact HO223.out) hb); have n2_ := Aside0.mk (blk_below (g := gb205) (o := .cells #[.int .i64 a2_0, .int .i64 a2_1, .string a2_2, .string t210] 25 (0, 0)) (by (with_reducible repeat (first | refine blk_drewN ?_ _ | refine blk_drew ?_ | refine blk_alloc ?_ _)); exact BK205.out) hb); have n3_ := Aside0.mk (below_step (by repeat (first | (with_reducible first | exact HB.out | apply below_alloc | apply pw_below_drewN | apply below_drew1 | refine below_set ?_ GE205.out) | exact HB.out)) hb); clear HO220; clear HO223; clear BK205; clear HB; have HO220 := n0_; have HO223 := n1_; have BK205 := n2_; have HB := n3_; clear n0_ n1_ n2_ n3_; (try clear hb); (try clear hb2); (try clear hk); (try clear hi)))
         go_ret2
         exact ⟨_, by first | rfl | (simp [errW_none, errW_some] <;> rfl) | (simp [*, errW_none, errW_some] <;> rfl), by (with_reducible repeat (first | apply Kd.R_alloc | apply Kd.R_drewN | apply Kd.R_drew)); exact Kd.R_mono HO223.out (fun _ hk => trivial), by repeat (first | (with_reducible first | exact HB.out | apply below_alloc | apply pw_below_drewN | apply below_drew1 | refine below_set ?_ GE205.out) | exact HB.out)⟩
        ·rw [if_neg c17] at H
         have c17b0 : (t224 == 0) = false := beq_eq_false_iff_ne.mpr c17
         have c17b1 : (t224 != 0) = true := bne_iff_ne.mpr c17
         simp only [Option.some.injEq, Prod.mk.injEq] at H
         obtain ⟨rfl, rfl⟩ := H
         go_enter Tryd.func16, Tryd.ntmps16
         try go_wp2_with (first | ((with_reducible refine gate_dst (N := 5) rfl ?_); refine box_event ?hg (N := 5) ?hd (cs := #[.int .i64 a2_0, .int .i64 a2_1, .string a2_2, .string a2_3]) (t := 25) ?hr ?_; (case hd => rfl); (case hg => rfl); (case hr => first | (go_simp; done) | (go_simp; rfl)); intro gb205 hg w36 hbox hb; have n0_ := Aside0.mk (below_step (by repeat (first | (with_reducible first | exact HB.out | apply below_alloc | apply pw_below_drewN | apply below_drew1) | exact HB.out)) hb); have n1_ := Aside0.mk (hbox); have n2_ := Aside0.mk ((by rw [hg]; exact (below_size (by repeat (first | (with_reducible first | exact HB.out | apply below_alloc | apply pw_below_drewN | apply below_drew1) | exact HB.out))) : w.heap.size ≤ gb205)); have n3_ := Aside0.mk ((by rw [hg]; exact (below_size (by repeat (first | (with_reducible first | exact HB.out | apply below_alloc | apply pw_below_drewN | apply below_drew1) | exact HB.out))) : w.heap.size ≤ gb205)); clear HB; have HB := n0_; have BK205 := n1_; have GW205 := n2_; have GE205 := n3_; clear n0_ n1_ n2_ n3_; clear hb hbox hg) | ((with_reducible refine gate_callee (f := 14) rfl ?_); refine goesL_ (some 16) rfl rfl Tryd.func14 (by kernel_rfl) rfl #[.slice A0 l0.length c0, .slice A1 l1.length c1] rfl (by (try simp only [List.map_toArray, List.map_cons, List.map_nil]); first | done | rfl | (simp only [List.length_drop, List.length_take]; rfl)) ?_; (with_reducible refine (garboardref58_Check.calls k _ _ l0 _ _ l1 t206 t207 _ ?side1 ?side2 ?side3 ?side4 ?side5 A4.out).mono ?_); (case side1 => repeat (first | exact (Kd.C_below HR0.out HB.out) | (with_reducible refine Kd.C_alloc ?_ _) | (with_reducible refine Kd.C_drewN ?_ _) | (with_reducible refine Kd.C_drew ?_))); (case side2 => exact HC0.out); (case side3 => repeat (first | exact (Kd.C_below HR1.out HB.out) | (with_reducible refine Kd.C_alloc ?_ _) | (with_reducible refine Kd.C_drewN ?_ _) | (with_reducible refine Kd.C_drew ?_))); (case side4 => exact HC1.out); (case side5 => exact HLW.out.below (by repeat (first | (with_reducible first | exact HB.out | apply below_alloc | apply pw_below_drewN | apply below_drew1 | refine below_set ?_ GE205.out) | exact HB.out))); rintro e w37 ⟨rfl, hb⟩; refine ⟨_, rfl, ?_⟩; have n0_ := Aside0.mk (blk_below (g := gb205) (o := .cells #[.int .i64 a2_0, .int .i64 a2_1, .string a2_2, .string a2_3] 25 (0, 0)) (by (with_reducible repeat (first | refine blk_drewN ?_ _ | refine blk_drew ?_ | refine blk_alloc ?_ _)); exact BK205.out) hb); have n1_ := Aside0.mk (below_step (by repeat (first | (with_reducible first | exact HB.out | apply below_alloc | apply pw_below_drewN | apply below_drew1 | refine below_set ?_ GE205.out) | exact HB.out)) hb); clear BK205; clear HB; have BK205 := n0_; have HB := n1_; clear n0_ n1_; (try clear hb); (try clear hb2); (try clear hk); (try clear hi); have hcz38_0 : w37.cell? ⟨gb205, 0, none⟩ = some (.int .i64 a2_0) := (blk_cell BK205.out 0).trans rfl; have hcz38_1 : w37.cell? ⟨gb205, 1, none⟩ = some (.int .i64 a2_1) := (blk_cell BK205.out 1).trans rfl; have hcz38_2 : w37.cell? ⟨gb205, 2, none⟩ = some (.string a2_2) := (blk_cell BK205.out 2).trans rfl; have hcz38_3 : w37.cell? ⟨gb205, 3, none⟩ = some (.string a2_3) := (blk_cell BK205.out 3).trans rfl; have hfz38_0 := blk_frozen BK205.out 0; have hfz38_1 := blk_frozen BK205.out 1; have hfz38_2 := blk_frozen BK205.out 2; have hfz38_3 := blk_frozen BK205.out 3) | ((with_reducible refine gate_callee (f := 41) rfl ?_); refine goesL_ (some 27) rfl rfl Tryd.func41 (by kernel_rfl) rfl #[.slice A0 l0.length c0, .int .i64 a2_0] rfl (by (try simp only [List.map_toArray, List.map_cons, List.map_nil]); first | done | rfl | (simp only [List.length_drop, List.length_take]; rfl)) ?_; (with_reducible refine (garboardref58_find.calls k _ _ l0 a2_0 t208 _ ?side1 ?side2 A9.out).mono ?_); (case side1 => repeat (first | exact (Kd.C_below HR0.out HB.out) | (with_reducible refine Kd.C_alloc ?_ _) | (with_reducible refine Kd.C_drewN ?_ _) | (with_reducible refine Kd.C_drew ?_))); (case side2 => exact HC0.out); rintro e w' ⟨rfl, ⟨nd, rfl⟩⟩; refine ⟨_, rfl, ?_⟩; (try (rw [drewN_self w37]; generalize hq_ : World.drewN w37 _ = w37; have n0_ : Aside0 (w37.heap[gb205]? = some (.cells #[.int .i64 a2_0, .int .i64 a2_1, .string a2_2, .string a2_3] 25 (0, 0))) := ⟨by rw [← hq_]; exact (by (with_reducible repeat (first | refine blk_drewN ?_ _ | refine blk_drew ?_ | refine blk_alloc ?_ _)); exact BK205.out)⟩; have n1_ : Aside0 (Below w.heap.size w w37) := ⟨by rw [← hq_]; exact (by repeat (first | (with_reducible first | exact HB.out | apply below_alloc | apply pw_below_drewN | apply below_drew1 | refine below_set ?_ GE205.out) | exact HB.out))⟩; clear BK205 HB hq_; have BK205 := n0_; have HB := n1_; clear n0_ n1_))))
         have n0_ := Aside0.mk (blk_drew BK205.out)
         have n1_ := Aside0.mk (below_drew1 HB.out)
         clear BK205
         clear HB
         have BK205 := n0_
         have HB := n1_
         clear n0_ n1_
         have p209 : 0 ≤ (t208 : Int) := of_decide_eq_true (by first | (with_reducible assumption) | assumption)
         have q209 : t208 < (l0.length : Int) := of_decide_eq_true (by first | (with_reducible assumption) | assumption)
         obtain ⟨ad209, e209, hx209_0, hx209_1, hx209_2, hx209_3⟩ := at_T33 HR0.out t208 p209 q209
         have hw209_3 := hx209_3
         have hw209_2 := hx209_2
         have hw209_1 := hx209_1
         have hw209_0 := hx209_0
         cases e209
         replace hx209_0 := (HB.out.cell (World.block_lt_of_cell? w _ hx209_0)).trans hx209_0
         replace hx209_1 := (HB.out.cell (World.block_lt_of_cell? w _ hx209_1)).trans hx209_1
         replace hx209_2 := (HB.out.cell (World.block_lt_of_cell? w _ hx209_2)).trans hx209_2
         replace hx209_3 := (HB.out.cell (World.block_lt_of_cell? w _ hx209_3)).trans hx209_3
         replace p209 := eq_true p209
         replace q209 := eq_true q209
         refine start_ (n := 12) (S := fun w' => w'.cell? ⟨gb205, 0, none⟩ = some (.int .i64 a2_0) ∧ w'.cell? ⟨gb205, 1, none⟩ = some (.int .i64 a2_1) ∧ w'.cell? ⟨gb205, 2, none⟩ = some (.string a2_2) ∧ w'.cell? ⟨gb205, 3, none⟩ = some (.string a2_3) ∧ w'.cell? (ad209.add ((t208).toNat * 4)) = some (.int .i64 ((rd_T33 l0 t208).f0)) ∧ w'.cell? ⟨(ad209.add ((t208).toNat * 4)).block, (ad209.add ((t208).toNat * 4)).off + 1, none⟩ = some (.int .i64 ((rd_T33 l0 t208).f1)) ∧ w'.cell? ⟨(ad209.add ((t208).toNat * 4)).block, (ad209.add ((t208).toNat * 4)).off + 2, none⟩ = some (.string ((rd_T33 l0 t208).f2)) ∧ w'.cell? ⟨(ad209.add ((t208).toNat * 4)).block, (ad209.add ((t208).toNat * 4)).off + 3, none⟩ = some (.string ((rd_T33 l0 t208).f3))) (ds := [11]) #[false, false, false, false, false, false, false, false, false, false, false, false] (by kernel_rfl) rfl rfl ⟨(blk_cell BK205.out 0).trans rfl, (blk_cell BK205.out 1).trans rfl, (blk_cell BK205.out 2).trans rfl, (blk_cell BK205.out 3).trans rfl, ((HB.out.cell (World.block_lt_of_cell? w _ hw209_0)).trans hw209_0), ((HB.out.cell (World.block_lt_of_cell? w _ hw209_1)).trans hw209_1), ((HB.out.cell (World.block_lt_of_cell? w _ hw209_2)).trans hw209_2), ((HB.out.cell (World.block_lt_of_cell? w _ hw209_3)).trans hw209_3)⟩ (fun hHeld => ?_); refine with_tabW garboardref58_Sign.tab8 garboardref58_Sign.bits8 (fun HT_ HW_ => ?_)
         generalize w37.drew = w39 at BK205 HB hx209_0 hx209_1 hx209_2 hx209_3 hHeld ⊢
         refine pure_ (i := 0) (N := some 31) (v := ?_) (a' := ?_) #[true, false, false, false, false, false, false, false, false, false, false, false] rfl rfl (any_of HT_.out (by kernel_rfl)) (fun _ _ _ h => h) (Or.inl ⟨by rfl, ?_⟩) ?_ ?_
         rotate_left
         ·intro w'
          go_simp
          with_reducible rfl
         rotate_left
         ·simp only [Act.put, List.setIfInBounds_toArray, List.set_cons_zero, List.set_cons_succ, i64_w, i32_w]
          rfl
         refine pure_ (i := 1) (N := some 32) (v := ?_) (a' := ?_) #[true, true, false, false, false, false, false, false, false, false, false, false] rfl rfl (any_of HT_.out (by kernel_rfl)) (fun _ _ _ h => h) (Or.inl ⟨by rfl, ?_⟩) ?_ ?_
         rotate_left
         ·intro w'
          go_simp
          with_reducible rfl
         rotate_left
         ·simp only [Act.put, List.setIfInBounds_toArray, List.set_cons_zero, List.set_cons_succ, i64_w, i32_w]
          rfl
         refine pure_ (i := 2) (N := some 33) (v := ?_) (a' := ?_) #[true, true, true, false, false, false, false, false, false, false, false, false] rfl rfl (any_of HT_.out (by kernel_rfl)) (fun _ _ _ h => h) (Or.inl ⟨by rfl, ?_⟩) ?_ ?_
         rotate_left
         ·intro w'
          go_simp
          with_reducible rfl
         rotate_left
         ·simp only [Act.put, List.setIfInBounds_toArray, List.set_cons_zero, List.set_cons_succ, i64_w, i32_w]
          rfl
         refine pure_ (i := 3) (N := some 34) (v := ?_) (a' := ?_) #[true, true, true, true, false, false, false, false, false, false, false, false] rfl rfl (any_of HT_.out (by kernel_rfl)) (fun _ _ _ h => h) (Or.inl ⟨by rfl, ?_⟩) ?_ ?_
         rotate_left
         ·intro w'
          go_simp
          with_reducible rfl
         rotate_left
         ·simp only [Act.put, List.setIfInBounds_toArray, List.set_cons_zero, List.set_cons_succ, i64_w, i32_w]
          rfl
         refine take_ (i := 4) (N := some 35) (v := ?_) (a' := ?_) #[true, true, true, true, true, false, false, false, false, false, false, false] rfl rfl (take_ofW HT_.out HW_.out (by kernel_rfl)) (fun _ _ _ h => h) (Or.inl ⟨by rfl, ?_⟩) hHeld ?_ ?_
         rotate_left
         ·rintro w' ⟨s0, s1, s2, s3, s4, s5, s6, s7⟩
          go_simp
          with_reducible rfl
         rotate_left
         ·simp only [Act.put, List.setIfInBounds_toArray, List.set_cons_zero, List.set_cons_succ, i64_w, i32_w]
          rfl
         refine take_ (i := 5) (N := some 36) (v := ?_) (a' := ?_) #[true, true, true, true, true, true, false, false, false, false, false, false] rfl rfl (take_ofW HT_.out HW_.out (by kernel_rfl)) (fun _ _ _ h => h) (Or.inl ⟨by rfl, ?_⟩) hHeld ?_ ?_
         rotate_left
         ·rintro w' ⟨s0, s1, s2, s3, s4, s5, s6, s7⟩
          go_simp
          with_reducible rfl
         rotate_left
         ·simp only [Act.put, List.setIfInBounds_toArray, List.set_cons_zero, List.set_cons_succ, i64_w, i32_w]
          rfl
         refine one_ (i := 6) (N := some 37) #[true, true, true, true, true, true, true, false, false, false, false, false] rfl rfl (one_of HT_.out (by kernel_rfl)) (by decide) (fun K hK => ?_)
         refine goes_ Tryd.func42 (by kernel_rfl) rfl #[.string ((rd_T33 l0 t208).f3), .agg #[.int .i64 a2_0, .int .i64 a2_1, .string a2_2, .string a2_3]] (by rfl) rfl rfl (by (try simp only [List.map_toArray, List.map_cons, List.map_nil]); first | done | rfl | (simp only [List.length_drop, List.length_take]; rfl)) ?_
         with_reducible refine (garboardref58_Code.calls k ((rd_T33 l0 t208).f3) a2_0 a2_1 a2_2 a2_3 t210 t211 _ ?side1 A13.out).mono ?_
         (case side1 => exact HLW.out.below (by repeat (first | (with_reducible first | exact HB.out | apply below_alloc | apply pw_below_drewN | apply below_drew1 | refine below_set ?_ GE205.out) | exact HB.out)))
         rintro e w40 ⟨rfl, hb⟩
         refine ⟨_, rfl, ?_⟩
         have n0_ := Aside0.mk (blk_below (g := gb205) (o := .cells #[.int .i64 a2_0, .int .i64 a2_1, .string a2_2, .string a2_3] 25 (0, 0)) (by (with_reducible repeat (first | refine blk_drewN ?_ _ | refine blk_drew ?_ | refine blk_alloc ?_ _)); exact BK205.out) hb)
         have n1_ := Aside0.mk (below_step (by repeat (first | (with_reducible first | exact HB.out | apply below_alloc | apply pw_below_drewN | apply below_drew1 | refine below_set ?_ GE205.out) | exact HB.out)) hb)
         clear BK205
         clear HB
         have BK205 := n0_
         have HB := n1_
         clear n0_ n1_
         (try clear hb)
         (try clear hb2)
         (try clear hk)
         (try clear hi)
         refine hK.out _ _ ⟨(blk_cell BK205.out 0).trans rfl, (blk_cell BK205.out 1).trans rfl, (blk_cell BK205.out 2).trans rfl, (blk_cell BK205.out 3).trans rfl, ((HB.out.cell (World.block_lt_of_cell? w _ hw209_0)).trans hw209_0), ((HB.out.cell (World.block_lt_of_cell? w _ hw209_1)).trans hw209_1), ((HB.out.cell (World.block_lt_of_cell? w _ hw209_2)).trans hw209_2), ((HB.out.cell (World.block_lt_of_cell? w _ hw209_3)).trans hw209_3)⟩ (fun hHeld => ?_)
         clear hK K
         refine norm_ (a' := ?_) ?_ ?_
         rotate_left
         ·show Act.put _ (some 37) _ = _
          simp only [Act.put, List.setIfInBounds_toArray, List.set_cons_zero, List.set_cons_succ, i64_w, i32_w]
          rfl
         refine pure_ (i := 7) (N := some 30) (v := ?_) (a' := ?_) #[true, true, true, true, true, true, true, true, false, false, false, false] rfl rfl (any_of HT_.out (by kernel_rfl)) (fun _ _ _ h => h) (Or.inl ⟨by rfl, ?_⟩) ?_ ?_
         rotate_left
         ·intro w'
          go_simp
          with_reducible rfl
         rotate_left
         ·simp only [Act.put, List.setIfInBounds_toArray, List.set_cons_zero, List.set_cons_succ, i64_w, i32_w]
          rfl
         refine pure_ (i := 8) (N := some 38) (v := ?_) (a' := ?_) #[true, true, true, true, true, true, true, true, true, false, false, false] rfl rfl (any_of HT_.out (by kernel_rfl)) (fun _ _ _ h => h) (Or.inl ⟨by rfl, ?_⟩) ?_ ?_
         rotate_left
         ·intro w'
          go_simp
          with_reducible rfl
         rotate_left
         ·simp only [Act.put, List.setIfInBounds_toArray, List.set_cons_zero, List.set_cons_succ, i64_w, i32_w]
          rfl
         refine pure_ (i := 9) (N := some 39) (v := ?_) (a' := ?_) #[true, true, true, true, true, true, true, true, true, true, false, false] rfl rfl (any_of HT_.out (by kernel_rfl)) (fun _ _ _ h => h) (Or.inl ⟨by rfl, ?_⟩) ?_ ?_
         rotate_left
         ·intro w'
          go_simp
          with_reducible rfl
         rotate_left
         ·simp only [Act.put, List.setIfInBounds_toArray, List.set_cons_zero, List.set_cons_succ, i64_w, i32_w]
          rfl
         refine pure_ (i := 10) (N := some 40) (v := ?_) (a' := ?_) #[true, true, true, true, true, true, true, true, true, true, true, false] rfl rfl (any_of HT_.out (by kernel_rfl)) (fun _ _ _ h => h) (Or.inl ⟨by rfl, ?_⟩) ?_ ?_
         rotate_left
         ·intro w'
          go_simp
          with_reducible rfl
         rotate_left
         ·simp only [Act.put, List.setIfInBounds_toArray, List.set_cons_zero, List.set_cons_succ, i64_w, i32_w]
          rfl
         refine last_ (i := 11) (N := none) #[true, true, true, true, true, true, true, true, true, true, true, true] rfl rfl (one_of HT_.out (by kernel_rfl)) (by decide) (fun K hK => ?_)
         have hs41 : w40.cell? ⟨gb205, 3, none⟩ = some (.string a2_3) := (blk_cell BK205.out 3).trans rfl
         have hfs41 := blk_frozen BK205.out 3
         refine skip_ (w1 := ?_) (by rfl) rfl ?_ ?_
         rotate_left
         ·go_simp
          rfl
         refine hK.out _ _ ?_
         clear hK K
         refine done_ (done_of HT_.out (by kernel_rfl)) ?_
         try go_wp2
         have n0_ : Aside0 ((w40.setCell ⟨gb205, 3, none⟩ (.string t210)).heap[gb205]? = some (.cells #[.int .i64 a2_0, .int .i64 a2_1, .string a2_2, .string t210] 25 (0, 0))) := ⟨by (with_reducible repeat (first | refine blk_drewN ?_ _ | refine blk_drew ?_ | refine blk_alloc ?_ _)); refine blk_put (cs := #[.int .i64 a2_0, .int .i64 a2_1, .string a2_2, .string a2_3]) ?_ 3 _ rfl; (with_reducible repeat (first | refine blk_drewN ?_ _ | refine blk_drew ?_ | refine blk_alloc ?_ _)); exact BK205.out⟩
         have n1_ : Aside0 (Below w.heap.size w (w40.setCell ⟨gb205, 3, none⟩ (.string t210))) := ⟨by repeat (first | (with_reducible first | exact HB.out | apply below_alloc | apply pw_below_drewN | apply below_drew1 | refine below_set ?_ GE205.out) | exact HB.out)⟩
         (try clear BK205)
         (try clear HB)
         generalize (w40.setCell ⟨gb205, 3, none⟩ (.string t210)) = w42 at n0_ n1_ ⊢
         have BK205 := n0_
         have HB := n1_
         clear n0_ n1_
         have n0_ := Aside0.mk (blk_drew BK205.out)
         have n1_ := Aside0.mk (below_drew1 HB.out)
         clear BK205
         clear HB
         have BK205 := n0_
         have HB := n1_
         clear n0_ n1_
         refine start_ (n := 7) (S := fun w' => w'.cell? ⟨gb205, 0, none⟩ = some (.int .i64 a2_0) ∧ w'.cell? ⟨gb205, 1, none⟩ = some (.int .i64 a2_1) ∧ w'.cell? ⟨gb205, 2, none⟩ = some (.string a2_2) ∧ w'.cell? ⟨gb205, 3, none⟩ = some (.string t210)) (ds := []) #[false, false, false, false, false, false, false] (by kernel_rfl) rfl rfl ⟨(blk_cell BK205.out 0).trans rfl, (blk_cell BK205.out 1).trans rfl, (blk_cell BK205.out 2).trans rfl, (blk_cell BK205.out 3).trans rfl⟩ (fun hHeld => ?_)
         generalize w42.drew = w43 at BK205 HB hHeld ⊢
         refine pure_ (i := 1) (N := some 42) (v := ?_) (a' := ?_) #[false, true, false, false, false, false, false] rfl rfl (by kernel_rfl) (fun _ _ _ h => h) (Or.inl ⟨by rfl, ?_⟩) ?_ ?_
         rotate_left
         ·intro w'
          go_simp
          with_reducible rfl
         rotate_left
         ·simp only [Act.put, List.setIfInBounds_toArray, List.set_cons_zero, List.set_cons_succ, i64_w, i32_w]
          rfl
         refine take_ (i := 3) (N := some 44) (v := ?_) (a' := ?_) #[false, true, false, true, false, false, false] rfl rfl (by kernel_rfl) (fun _ _ _ h => h) (Or.inl ⟨by rfl, ?_⟩) hHeld ?_ ?_
         rotate_left
         ·rintro w' ⟨s0, s1, s2, s3⟩
          go_simp
          with_reducible rfl
         rotate_left
         ·simp only [Act.put, List.setIfInBounds_toArray, List.set_cons_zero, List.set_cons_succ, i64_w, i32_w]
          rfl
         refine join_ (σ := Value × Value × Value) 2 #[true, true, true, true, true, false, false] (fun s_ => [(41, s_.1), (43, s_.2.1), (45, s_.2.2)]) (fun s_ w' => (w'.cell? ⟨gb205, 0, none⟩ = some (.int .i64 a2_0) ∧ w'.cell? ⟨gb205, 1, none⟩ = some (.int .i64 a2_1) ∧ w'.cell? ⟨gb205, 2, none⟩ = some (.string a2_2) ∧ w'.cell? ⟨gb205, 3, none⟩ = some (.string t210)) ∧ (Kd.R k25 25 w' w.heap.size (fun k_ => some k_ ≠ (s_.2.2 : Value).ownBlock ∧ k_ ≠ gb205) s_.2.1 y215) ∧ (Kd.R k25 25 w' w.heap.size (fun k_ => some k_ ≠ (s_.2.1 : Value).ownBlock ∧ k_ ≠ gb205) s_.2.2 y218) ∧ (w'.heap[gb205]? = some (.cells #[.int .i64 a2_0, .int .i64 a2_1, .string a2_2, .string t210] 25 (0, 0))) ∧ (Below w.heap.size w w')) ?_ ?_
         rotate_left
         ·intro hCont
          refine two_ (i := 0) (j := 4) (Ni := some 41) (Nj := some 45) #[true, true, false, true, false, false, false] #[false, true, false, true, true, false, false] rfl rfl rfl rfl (by kernel_rfl) (by decide) (by decide) (fun K hK => ?_) (fun K hK => ?_)
          ·skip
           refine Kd.R_lit_step k25 _ 25 ?hg (N := 41) ?hd (xs := ([] : List (S25))) (inner := []) (ok := fun _ => True) (okp := fun _ => True) ?hr ?hp (fun _ hk => hk) trivial (Below.refl _ _) (Nat.le_refl _) (by simp) ?_; (case hd => rfl); (case hg => rfl); (case hr => first | (go_simp; done) | (go_simp; rfl)); (case hp => exact (Reps.none _ _))
           intro v213 w44 ho45 hb hg_ hnew_
           clear hg_ hnew_
           (first | rw [← Ny212.out] at ho45 | (simp only [Int.reduceToNat] at ho45; rw [← Ny212.out] at ho45))
           have n0_ := Aside0.mk (Kd.R_lower (Kd.R_newB ho45 (g := gb205) (o := .cells #[.int .i64 a2_0, .int .i64 a2_1, .string a2_2, .string t210] 25 (0, 0)) (by (with_reducible repeat (first | refine blk_drewN ?_ _ | refine blk_drew ?_ | refine blk_alloc ?_ _)); exact BK205.out)) (below_size (by repeat (first | (with_reducible first | exact HB.out | apply below_alloc | apply pw_below_drewN | apply below_drew1 | refine below_set ?_ GE205.out) | exact HB.out))))
           have n1_ := Aside0.mk (blk_below (g := gb205) (o := .cells #[.int .i64 a2_0, .int .i64 a2_1, .string a2_2, .string t210] 25 (0, 0)) (by (with_reducible repeat (first | refine blk_drewN ?_ _ | refine blk_drew ?_ | refine blk_alloc ?_ _)); exact BK205.out) hb)
           have n2_ := Aside0.mk (below_step (by repeat (first | (with_reducible first | exact HB.out | apply below_alloc | apply pw_below_drewN | apply below_drew1 | refine below_set ?_ GE205.out) | exact HB.out)) hb)
           clear BK205
           clear HB
           have HO214 := n0_
           have BK205 := n1_
           have HB := n2_
           clear n0_ n1_ n2_
           clear hb ho45
           refine hK.out _ _ ⟨(blk_cell BK205.out 0).trans rfl, (blk_cell BK205.out 1).trans rfl, (blk_cell BK205.out 2).trans rfl, (blk_cell BK205.out 3).trans rfl⟩ (fun hHeld => ?_)
           clear hK K
           refine norm_ (a' := ?_) ?_ ?_
           rotate_left
           ·show Act.put _ (some 41) _ = _
            simp only [Act.put, List.setIfInBounds_toArray, List.set_cons_zero, List.set_cons_succ, i64_w, i32_w]
            rfl
           refine two_ (i := 2) (j := 4) (Ni := some 43) (Nj := some 45) #[true, true, true, true, false, false, false] #[true, true, false, true, true, false, false] rfl rfl rfl rfl (by kernel_rfl) (by decide) (by decide) (fun K hK => ?_) (fun K hK => ?_)
           ·skip
            refine Kd.R_append_rows_step k25 (w0 := w) w.heap.size (by rfl) (.tmp 41) (.tmp 42) 23 25 (.agg #[(.int .i64 0), (.int .i64 0), (.string ⟨#[]⟩), (.string ⟨#[]⟩)]) 48 rfl Tryd.underlying23 info25 rfl (by decide) (by omega) v213 y212 l1 _ _ _ (fun k_ => k_ ≠ gb205) (fun _ => False) rfl rfl ?aO ?aR (fun _ _ h => h) (fun _ h => h.elim) ?aF ?aB ?aS ?aL ?_
            (case aR => repeat (first | exact (Kd.C_below HR1.out HB.out) | (with_reducible refine Kd.C_alloc ?_ _) | (with_reducible refine Kd.C_drewN ?_ _) | (with_reducible refine Kd.C_drew ?_)))
            (case aB => exact (by repeat (first | (with_reducible first | exact HB.out | apply below_alloc | apply pw_below_drewN | apply below_drew1 | refine below_set ?_ GE205.out) | exact HB.out)))
            (case aF => exact (fun k_ hk => Kd.freshB (g := gb205) (o := .cells #[.int .i64 a2_0, .int .i64 a2_1, .string a2_2, .string t210] 25 (0, 0)) (by (with_reducible repeat (first | refine blk_drewN ?_ _ | refine blk_drew ?_ | refine blk_alloc ?_ _)); exact BK205.out) k_ hk))
            (case aO => exact (by (with_reducible repeat (first | apply Kd.R_alloc | apply Kd.R_drewN | apply Kd.R_drew)); exact Kd.R_mono HO214.out (fun _ hk => hk.2)))
            (case aS => exact (below_size (by repeat (first | (with_reducible first | exact HB.out | apply below_alloc | apply pw_below_drewN | apply below_drew1 | refine below_set ?_ GE205.out) | exact HB.out))))
            (case aL => have := LMc14.out; omega)
            intro v216 w46 ho hb hg hat
            rw [← Ny215.out] at ho
            have n0_ := Aside0.mk (blk_grown (g := gb205) (o := .cells #[.int .i64 a2_0, .int .i64 a2_1, .string a2_2, .string t210] 25 (0, 0)) (by (with_reducible repeat (first | refine blk_drewN ?_ _ | refine blk_drew ?_ | refine blk_alloc ?_ _)); exact BK205.out) hg (Kd.R_away HO214.out (fun _ hk => hk.2)))
            have n1_ := Aside0.mk (hb)
            have n2_ := Aside0.mk (ho)
            clear BK205
            clear HB
            clear HO214
            have BK205 := n0_
            have HB := n1_
            have HO217 := n2_
            clear n0_ n1_ n2_
            clear ho hb hg hat
            refine hK.out _ _ ⟨(blk_cell BK205.out 0).trans rfl, (blk_cell BK205.out 1).trans rfl, (blk_cell BK205.out 2).trans rfl, (blk_cell BK205.out 3).trans rfl⟩ (fun hHeld => ?_)
            clear hK K
            refine norm_ (a' := ?_) ?_ ?_
            rotate_left
            ·show Act.put _ (some 43) _ = _
             simp only [Act.put, List.setIfInBounds_toArray, List.set_cons_zero, List.set_cons_succ, i64_w, i32_w]
             rfl
            refine one_ (i := 4) (N := some 45) #[true, true, true, true, true, false, false] rfl rfl (by kernel_rfl) (by decide) (fun K hK => ?_)
            refine Kd.R_lit_step k25 _ 25 ?hg (N := 45) ?hd (xs := ([(⟨a2_0, a2_1, a2_2, t210⟩ : S25)] : List (S25))) (inner := [.int .i64 a2_0, .int .i64 a2_1, .string a2_2, .string t210]) (ok := fun _ => True) (okp := fun _ => True) ?hr ?hp (fun _ hk => hk) trivial (Below.refl _ _) (Nat.le_refl _) (by simp) ?_; (case hd => rfl); (case hg => rfl); (case hr => first | (go_simp; done) | (go_simp; rfl)); (case hp => exact (Reps.c4 (show Kd.M k25 _ _ _ (⟨a2_0, a2_1, a2_2, t210⟩ : S25) [.int .i64 a2_0, .int .i64 a2_1, .string a2_2, .string t210] from (k25_mkM _ _ _ (⟨a2_0, a2_1, a2_2, t210⟩ : S25) )) (Reps.none _ _)))
            intro v219 w47 ho48 hb hg_ hnew_
            clear hg_ hnew_
            (first | rw [← Ny218.out] at ho48 | (simp only [Int.reduceToNat] at ho48; rw [← Ny218.out] at ho48))
            have n0_ := Aside0.mk (Kd.R_elder' (by (with_reducible repeat (first | apply Kd.R_alloc | apply Kd.R_drewN | apply Kd.R_drew)); exact HO217.out) (Kd.R_base ho48) hb)
            have n1_ := Aside0.mk (Kd.R_lower (Kd.R_newB (Kd.R_new' ho48 (Kd.R_lt (by (with_reducible repeat (first | apply Kd.R_alloc | apply Kd.R_drewN | apply Kd.R_drew)); exact HO217.out))) (g := gb205) (o := .cells #[.int .i64 a2_0, .int .i64 a2_1, .string a2_2, .string t210] 25 (0, 0)) (by (with_reducible repeat (first | refine blk_drewN ?_ _ | refine blk_drew ?_ | refine blk_alloc ?_ _)); exact BK205.out)) (below_size (by repeat (first | (with_reducible first | exact HB.out | apply below_alloc | apply pw_below_drewN | apply below_drew1 | refine below_set ?_ GE205.out) | exact HB.out))))
            have n2_ := Aside0.mk (blk_below (g := gb205) (o := .cells #[.int .i64 a2_0, .int .i64 a2_1, .string a2_2, .string t210] 25 (0, 0)) (by (with_reducible repeat (first | refine blk_drewN ?_ _ | refine blk_drew ?_ | refine blk_alloc ?_ _)); exact BK205.out) hb)
            have n3_ := Aside0.mk (below_step (by repeat (first | (with_reducible first | exact HB.out | apply below_alloc | apply pw_below_drewN | apply below_drew1 | refine below_set ?_ GE205.out) | exact HB.out)) hb)
            clear HO217
            clear BK205
            clear HB
            have HO217 := n0_
            have HO220 := n1_
            have BK205 := n2_
            have HB := n3_
            clear n0_ n1_ n2_ n3_
            clear hb ho48
            refine hK.out _ _ ⟨(blk_cell BK205.out 0).trans rfl, (blk_cell BK205.out 1).trans rfl, (blk_cell BK205.out 2).trans rfl, (blk_cell BK205.out 3).trans rfl⟩ (fun hHeld => ?_)
            clear hK K
            refine norm_ (a' := ?_) ?_ ?_
            rotate_left
            ·show Act.put _ (some 45) _ = _
             simp only [Act.put, List.setIfInBounds_toArray, List.set_cons_zero, List.set_cons_succ, i64_w, i32_w]
             rfl
            exact norm_ (by simp only [putAll, Act.put, List.setIfInBounds_toArray, List.set_cons_zero, List.set_cons_succ]) (hCont (v213, v216, v219) _ ⟨hHeld, (by (with_reducible repeat (first | apply Kd.R_alloc | apply Kd.R_drewN | apply Kd.R_drew)); exact Kd.R_mono HO217.out (fun _ hk => ⟨hk.2, hk.1⟩)), (by (with_reducible repeat (first | apply Kd.R_alloc | apply Kd.R_drewN | apply Kd.R_drew)); exact Kd.R_mono HO220.out (fun _ hk => ⟨hk.1.2, hk.2⟩)), (by (with_reducible repeat (first | refine blk_drewN ?_ _ | refine blk_drew ?_ | refine blk_alloc ?_ _)); exact BK205.out), (by repeat (first | (with_reducible first | exact HB.out | apply below_alloc | apply pw_below_drewN | apply below_drew1 | refine below_set ?_ GE205.out) | exact HB.out))⟩)
           ·skip
            refine Kd.R_lit_step k25 _ 25 ?hg (N := 45) ?hd (xs := ([(⟨a2_0, a2_1, a2_2, t210⟩ : S25)] : List (S25))) (inner := [.int .i64 a2_0, .int .i64 a2_1, .string a2_2, .string t210]) (ok := fun _ => True) (okp := fun _ => True) ?hr ?hp (fun _ hk => hk) trivial (Below.refl _ _) (Nat.le_refl _) (by simp) ?_; (case hd => rfl); (case hg => rfl); (case hr => first | (go_simp; done) | (go_simp; rfl)); (case hp => exact (Reps.c4 (show Kd.M k25 _ _ _ (⟨a2_0, a2_1, a2_2, t210⟩ : S25) [.int .i64 a2_0, .int .i64 a2_1, .string a2_2, .string t210] from (k25_mkM _ _ _ (⟨a2_0, a2_1, a2_2, t210⟩ : S25) )) (Reps.none _ _)))
            intro v219 w46 ho47 hb hg_ hnew_
            clear hg_ hnew_
            (first | rw [← Ny218.out] at ho47 | (simp only [Int.reduceToNat] at ho47; rw [← Ny218.out] at ho47))
            have n0_ := Aside0.mk (Kd.R_elder' (by (with_reducible repeat (first | apply Kd.R_alloc | apply Kd.R_drewN | apply Kd.R_drew)); exact HO214.out) (Kd.R_base ho47) hb)
            have n1_ := Aside0.mk (Kd.R_lower (Kd.R_newB (Kd.R_new' ho47 (Kd.R_lt (by (with_reducible repeat (first | apply Kd.R_alloc | apply Kd.R_drewN | apply Kd.R_drew)); exact HO214.out))) (g := gb205) (o := .cells #[.int .i64 a2_0, .int .i64 a2_1, .string a2_2, .string t210] 25 (0, 0)) (by (with_reducible repeat (first | refine blk_drewN ?_ _ | refine blk_drew ?_ | refine blk_alloc ?_ _)); exact BK205.out)) (below_size (by repeat (first | (with_reducible first | exact HB.out | apply below_alloc | apply pw_below_drewN | apply below_drew1 | refine below_set ?_ GE205.out) | exact HB.out))))
            have n2_ := Aside0.mk (blk_below (g := gb205) (o := .cells #[.int .i64 a2_0, .int .i64 a2_1, .string a2_2, .string t210] 25 (0, 0)) (by (with_reducible repeat (first | refine blk_drewN ?_ _ | refine blk_drew ?_ | refine blk_alloc ?_ _)); exact BK205.out) hb)
            have n3_ := Aside0.mk (below_step (by repeat (first | (with_reducible first | exact HB.out | apply below_alloc | apply pw_below_drewN | apply below_drew1 | refine below_set ?_ GE205.out) | exact HB.out)) hb)
            clear HO214
            clear BK205
            clear HB
            have HO214 := n0_
            have HO220 := n1_
            have BK205 := n2_
            have HB := n3_
            clear n0_ n1_ n2_ n3_
            clear hb ho47
            refine hK.out _ _ ⟨(blk_cell BK205.out 0).trans rfl, (blk_cell BK205.out 1).trans rfl, (blk_cell BK205.out 2).trans rfl, (blk_cell BK205.out 3).trans rfl⟩ (fun hHeld => ?_)
            clear hK K
            refine norm_ (a' := ?_) ?_ ?_
            rotate_left
            ·show Act.put _ (some 45) _ = _
             simp only [Act.put, List.setIfInBounds_toArray, List.set_cons_zero, List.set_cons_succ, i64_w, i32_w]
             rfl
            refine one_ (i := 2) (N := some 43) #[true, true, true, true, true, false, false] rfl rfl (by kernel_rfl) (by decide) (fun K hK => ?_)
            refine Kd.R_append_rows_step k25 (w0 := w) w.heap.size (by rfl) (.tmp 41) (.tmp 42) 23 25 (.agg #[(.int .i64 0), (.int .i64 0), (.string ⟨#[]⟩), (.string ⟨#[]⟩)]) 48 rfl Tryd.underlying23 info25 rfl (by decide) (by omega) v213 y212 l1 _ _ _ (fun k_ => some k_ ≠ (v219 : Value).ownBlock ∧ k_ ≠ gb205) (fun _ => False) rfl rfl ?aO ?aR (fun _ _ h => h) (fun _ h => h.elim) ?aF ?aB ?aS ?aL ?_
            (case aR => repeat (first | exact (Kd.C_below HR1.out HB.out) | (with_reducible refine Kd.C_alloc ?_ _) | (with_reducible refine Kd.C_drewN ?_ _) | (with_reducible refine Kd.C_drew ?_)))
            (case aB => exact (by repeat (first | (with_reducible first | exact HB.out | apply below_alloc | apply pw_below_drewN | apply below_drew1 | refine below_set ?_ GE205.out) | exact HB.out)))
            (case aF => exact (fun k_ hk => ⟨Kd.fresh' (Kd.R_lt (by (with_reducible repeat (first | apply Kd.R_alloc | apply Kd.R_drewN | apply Kd.R_drew)); exact HO220.out)) k_ hk, Kd.freshB (g := gb205) (o := .cells #[.int .i64 a2_0, .int .i64 a2_1, .string a2_2, .string t210] 25 (0, 0)) (by (with_reducible repeat (first | refine blk_drewN ?_ _ | refine blk_drew ?_ | refine blk_alloc ?_ _)); exact BK205.out) k_ hk⟩))
            (case aO => exact (by (with_reducible repeat (first | apply Kd.R_alloc | apply Kd.R_drewN | apply Kd.R_drew)); exact Kd.R_mono HO214.out (fun _ hk => ⟨hk.2, hk.1.2⟩)))
            (case aS => exact (below_size (by repeat (first | (with_reducible first | exact HB.out | apply below_alloc | apply pw_below_drewN | apply below_drew1 | refine below_set ?_ GE205.out) | exact HB.out))))
            (case aL => have := LMc14.out; omega)
            intro v216 w48 ho hb hg hat
            rw [← Ny215.out] at ho
            have n0_ := Aside0.mk (blk_grown (g := gb205) (o := .cells #[.int .i64 a2_0, .int .i64 a2_1, .string a2_2, .string t210] 25 (0, 0)) (by (with_reducible repeat (first | refine blk_drewN ?_ _ | refine blk_drew ?_ | refine blk_alloc ?_ _)); exact BK205.out) hg (Kd.R_away HO214.out (fun _ hk => hk.1.2)))
            have n1_ := Aside0.mk (Kd.R_after (ok := (fun k_ => k_ ≠ gb205)) (by (with_reducible repeat (first | apply Kd.R_alloc | apply Kd.R_drewN | apply Kd.R_drew)); exact Kd.R_mono HO220.out (fun _ hk => ⟨hk.2, hk.1.2⟩)) hg hat)
            have n2_ := Aside0.mk (hb)
            have n3_ := Aside0.mk (ho)
            clear BK205
            clear HO220
            clear HB
            clear HO214
            have BK205 := n0_
            have HO220 := n1_
            have HB := n2_
            have HO217 := n3_
            clear n0_ n1_ n2_ n3_
            clear ho hb hg hat
            refine hK.out _ _ ⟨(blk_cell BK205.out 0).trans rfl, (blk_cell BK205.out 1).trans rfl, (blk_cell BK205.out 2).trans rfl, (blk_cell BK205.out 3).trans rfl⟩ (fun hHeld => ?_)
            clear hK K
            refine norm_ (a' := ?_) ?_ ?_
            rotate_left
            ·show Act.put _ (some 43) _ = _
             simp only [Act.put, List.setIfInBounds_toArray, List.set_cons_zero, List.set_cons_succ, i64_w, i32_w]
             rfl
            exact norm_ (by simp only [putAll, Act.put, List.setIfInBounds_toArray, List.set_cons_zero, List.set_cons_succ]) (hCont (v213, v216, v219) _ ⟨hHeld, (by (with_reducible repeat (first | apply Kd.R_alloc | apply Kd.R_drewN | apply Kd.R_drew)); exact HO217.out), (by (with_reducible repeat (first | apply Kd.R_alloc | apply Kd.R_drewN | apply Kd.R_drew)); exact Kd.R_mono HO220.out (fun _ hk => ⟨hk.2, hk.1⟩)), (by (with_reducible repeat (first | refine blk_drewN ?_ _ | refine blk_drew ?_ | refine blk_alloc ?_ _)); exact BK205.out), (by repeat (first | (with_reducible first | exact HB.out | apply below_alloc | apply pw_below_drewN | apply below_drew1 | refine below_set ?_ GE205.out) | exact HB.out))⟩)
          ·skip
           refine Kd.R_lit_step k25 _ 25 ?hg (N := 45) ?hd (xs := ([(⟨a2_0, a2_1, a2_2, t210⟩ : S25)] : List (S25))) (inner := [.int .i64 a2_0, .int .i64 a2_1, .string a2_2, .string t210]) (ok := fun _ => True) (okp := fun _ => True) ?hr ?hp (fun _ hk => hk) trivial (Below.refl _ _) (Nat.le_refl _) (by simp) ?_; (case hd => rfl); (case hg => rfl); (case hr => first | (go_simp; done) | (go_simp; rfl)); (case hp => exact (Reps.c4 (show Kd.M k25 _ _ _ (⟨a2_0, a2_1, a2_2, t210⟩ : S25) [.int .i64 a2_0, .int .i64 a2_1, .string a2_2, .string t210] from (k25_mkM _ _ _ (⟨a2_0, a2_1, a2_2, t210⟩ : S25) )) (Reps.none _ _)))
           intro v219 w44 ho45 hb hg_ hnew_
           clear hg_ hnew_
           (first | rw [← Ny218.out] at ho45 | (simp only [Int.reduceToNat] at ho45; rw [← Ny218.out] at ho45))
           have n0_ := Aside0.mk (Kd.R_lower (Kd.R_newB ho45 (g := gb205) (o := .cells #[.int .i64 a2_0, .int .i64 a2_1, .string a2_2, .string t210] 25 (0, 0)) (by (with_reducible repeat (first | refine blk_drewN ?_ _ | refine blk_drew ?_ | refine blk_alloc ?_ _)); exact BK205.out)) (below_size (by repeat (first | (with_reducible first | exact HB.out | apply below_alloc | apply pw_below_drewN | apply below_drew1 | refine below_set ?_ GE205.out) | exact HB.out))))
           have n1_ := Aside0.mk (blk_below (g := gb205) (o := .cells #[.int .i64 a2_0, .int .i64 a2_1, .string a2_2, .string t210] 25 (0, 0)) (by (with_reducible repeat (first | refine blk_drewN ?_ _ | refine blk_drew ?_ | refine blk_alloc ?_ _)); exact BK205.out) hb)
           have n2_ := Aside0.mk (below_step (by repeat (first | (with_reducible first | exact HB.out | apply below_alloc | apply pw_below_drewN | apply below_drew1 | refine below_set ?_ GE205.out) | exact HB.out)) hb)
           clear BK205
           clear HB
           have HO220 := n0_
           have BK205 := n1_
           have HB := n2_
           clear n0_ n1_ n2_
           clear hb ho45
           refine hK.out _ _ ⟨(blk_cell BK205.out 0).trans rfl, (blk_cell BK205.out 1).trans rfl, (blk_cell BK205.out 2).trans rfl, (blk_cell BK205.out 3).trans rfl⟩ (fun hHeld => ?_)
           clear hK K
           refine norm_ (a' := ?_) ?_ ?_
           rotate_left
           ·show Act.put _ (some 45) _ = _
            simp only [Act.put, List.setIfInBounds_toArray, List.set_cons_zero, List.set_cons_succ, i64_w, i32_w]
            rfl
           refine one_ (i := 0) (N := some 41) #[true, true, false, true, true, false, false] rfl rfl (by kernel_rfl) (by decide) (fun K hK => ?_)
           refine Kd.R_lit_step k25 _ 25 ?hg (N := 41) ?hd (xs := ([] : List (S25))) (inner := []) (ok := fun _ => True) (okp := fun _ => True) ?hr ?hp (fun _ hk => hk) trivial (Below.refl _ _) (Nat.le_refl _) (by simp) ?_; (case hd => rfl); (case hg => rfl); (case hr => first | (go_simp; done) | (go_simp; rfl)); (case hp => exact (Reps.none _ _))
           intro v213 w46 ho47 hb hg_ hnew_
           clear hg_ hnew_
           (first | rw [← Ny212.out] at ho47 | (simp only [Int.reduceToNat] at ho47; rw [← Ny212.out] at ho47))
           have n0_ := Aside0.mk (Kd.R_elder' (by (with_reducible repeat (first | apply Kd.R_alloc | apply Kd.R_drewN | apply Kd.R_drew)); exact HO220.out) (Kd.R_base ho47) hb)
           have n1_ := Aside0.mk (Kd.R_lower (Kd.R_newB (Kd.R_new' ho47 (Kd.R_lt (by (with_reducible repeat (first | apply Kd.R_alloc | apply Kd.R_drewN | apply Kd.R_drew)); exact HO220.out))) (g := gb205) (o := .cells #[.int .i64 a2_0, .int .i64 a2_1, .string a2_2, .string t210] 25 (0, 0)) (by (with_reducible repeat (first | refine blk_drewN ?_ _ | refine blk_drew ?_ | refine blk_alloc ?_ _)); exact BK205.out)) (below_size (by repeat (first | (with_reducible first | exact HB.out | apply below_alloc | apply pw_below_drewN | apply below_drew1 | refine below_set ?_ GE205.out) | exact HB.out))))
           have n2_ := Aside0.mk (blk_below (g := gb205) (o := .cells #[.int .i64 a2_0, .int .i64 a2_1, .string a2_2, .string t210] 25 (0, 0)) (by (with_reducible repeat (first | refine blk_drewN ?_ _ | refine blk_drew ?_ | refine blk_alloc ?_ _)); exact BK205.out) hb)
           have n3_ := Aside0.mk (below_step (by repeat (first | (with_reducible first | exact HB.out | apply below_alloc | apply pw_below_drewN | apply below_drew1 | refine below_set ?_ GE205.out) | exact HB.out)) hb)
           clear HO220
           clear BK205
           clear HB
           have HO220 := n0_
           have HO214 := n1_
           have BK205 := n2_
           have HB := n3_
           clear n0_ n1_ n2_ n3_
           clear hb ho47
           refine hK.out _ _ ⟨(blk_cell BK205.out 0).trans rfl, (blk_cell BK205.out 1).trans rfl, (blk_cell BK205.out 2).trans rfl, (blk_cell BK205.out 3).trans rfl⟩ (fun hHeld => ?_)
           clear hK K
           refine norm_ (a' := ?_) ?_ ?_
           rotate_left
           ·show Act.put _ (some 41) _ = _
            simp only [Act.put, List.setIfInBounds_toArray, List.set_cons_zero, List.set_cons_succ, i64_w, i32_w]
            rfl
           refine one_ (i := 2) (N := some 43) #[true, true, true, true, true, false, false] rfl rfl (by kernel_rfl) (by decide) (fun K hK => ?_)
           refine Kd.R_append_rows_step k25 (w0 := w) w.heap.size (by rfl) (.tmp 41) (.tmp 42) 23 25 (.agg #[(.int .i64 0), (.int .i64 0), (.string ⟨#[]⟩), (.string ⟨#[]⟩)]) 48 rfl Tryd.underlying23 info25 rfl (by decide) (by omega) v213 y212 l1 _ _ _ (fun k_ => some k_ ≠ (v219 : Value).ownBlock ∧ k_ ≠ gb205) (fun _ => False) rfl rfl ?aO ?aR (fun _ _ h => h) (fun _ h => h.elim) ?aF ?aB ?aS ?aL ?_
           (case aR => repeat (first | exact (Kd.C_below HR1.out HB.out) | (with_reducible refine Kd.C_alloc ?_ _) | (with_reducible refine Kd.C_drewN ?_ _) | (with_reducible refine Kd.C_drew ?_)))
           (case aB => exact (by repeat (first | (with_reducible first | exact HB.out | apply below_alloc | apply pw_below_drewN | apply below_drew1 | refine below_set ?_ GE205.out) | exact HB.out)))
           (case aF => exact (fun k_ hk => ⟨Kd.fresh' (Kd.R_lt (by (with_reducible repeat (first | apply Kd.R_alloc | apply Kd.R_drewN | apply Kd.R_drew)); exact HO220.out)) k_ hk, Kd.freshB (g := gb205) (o := .cells #[.int .i64 a2_0, .int .i64 a2_1, .string a2_2, .string t210] 25 (0, 0)) (by (with_reducible repeat (first | refine blk_drewN ?_ _ | refine blk_drew ?_ | refine blk_alloc ?_ _)); exact BK205.out) k_ hk⟩))
           (case aO => exact (by (with_reducible repeat (first | apply Kd.R_alloc | apply Kd.R_drewN | apply Kd.R_drew)); exact Kd.R_mono HO214.out (fun _ hk => ⟨hk.1.2, hk.2⟩)))
           (case aS => exact (below_size (by repeat (first | (with_reducible first | exact HB.out | apply below_alloc | apply pw_below_drewN | apply below_drew1 | refine below_set ?_ GE205.out) | exact HB.out))))
           (case aL => have := LMc14.out; omega)
           intro v216 w48 ho hb hg hat
           rw [← Ny215.out] at ho
           have n0_ := Aside0.mk (blk_grown (g := gb205) (o := .cells #[.int .i64 a2_0, .int .i64 a2_1, .string a2_2, .string t210] 25 (0, 0)) (by (with_reducible repeat (first | refine blk_drewN ?_ _ | refine blk_drew ?_ | refine blk_alloc ?_ _)); exact BK205.out) hg (Kd.R_away HO214.out (fun _ hk => hk.2)))
           have n1_ := Aside0.mk (Kd.R_after (ok := (fun k_ => k_ ≠ gb205)) (by (with_reducible repeat (first | apply Kd.R_alloc | apply Kd.R_drewN | apply Kd.R_drew)); exact Kd.R_mono HO220.out (fun _ hk => ⟨hk.1.2, hk.2⟩)) hg hat)
           have n2_ := Aside0.mk (hb)
           have n3_ := Aside0.mk (ho)
           clear BK205
           clear HO220
           clear HB
           clear HO214
           have BK205 := n0_
           have HO220 := n1_
           have HB := n2_
           have HO217 := n3_
           clear n0_ n1_ n2_ n3_
           clear ho hb hg hat
           refine hK.out _ _ ⟨(blk_cell BK205.out 0).trans rfl, (blk_cell BK205.out 1).trans rfl, (blk_cell BK205.out 2).trans rfl, (blk_cell BK205.out 3).trans rfl⟩ (fun hHeld => ?_)
           clear hK K
           refine norm_ (a' := ?_) ?_ ?_
           rotate_left
           ·show Act.put _ (some 43) _ = _
            simp only [Act.put, List.setIfInBounds_toArray, List.set_cons_zero, List.set_cons_succ, i64_w, i32_w]
            rfl
           exact norm_ (by simp only [putAll, Act.put, List.setIfInBounds_toArray, List.set_cons_zero, List.set_cons_succ]) (hCont (v213, v216, v219) _ ⟨hHeld, (by (with_reducible repeat (first | apply Kd.R_alloc | apply Kd.R_drewN | apply Kd.R_drew)); exact HO217.out), (by (with_reducible repeat (first | apply Kd.R_alloc | apply Kd.R_drewN | apply Kd.R_drew)); exact Kd.R_mono HO220.out (fun _ hk => ⟨hk.2, hk.1⟩)), (by (with_reducible repeat (first | refine blk_drewN ?_ _ | refine blk_drew ?_ | refine blk_alloc ?_ _)); exact BK205.out), (by repeat (first | (with_reducible first | exact HB.out | apply below_alloc | apply pw_below_drewN | apply below_drew1 | refine below_set ?_ GE205.out) | exact HB.out))⟩)
         rintro ⟨v213, v216, v219⟩ w49 ⟨hS_, h0_, h1_, h2_, h3_⟩
         have n0_ : Aside0 (Kd.R k25 25 w49 w.heap.size (fun k_ => some k_ ≠ (v219 : Value).ownBlock ∧ k_ ≠ gb205) v216 y215) := ⟨h0_⟩
         have n1_ : Aside0 (Kd.R k25 25 w49 w.heap.size (fun k_ => some k_ ≠ (v216 : Value).ownBlock ∧ k_ ≠ gb205) v219 y218) := ⟨h1_⟩
         have n2_ : Aside0 (w49.heap[gb205]? = some (.cells #[.int .i64 a2_0, .int .i64 a2_1, .string a2_2, .string t210] 25 (0, 0))) := ⟨h2_⟩
         have n3_ : Aside0 (Below w.heap.size w w49) := ⟨h3_⟩
         clear BK205
         clear HB
         clear h0_ h1_ h2_ h3_
         have HO217 := n0_
         have HO220 := n1_
         have BK205 := n2_
         have HB := n3_
         clear n0_ n1_ n2_ n3_
         have hHeld : w49.cell? ⟨gb205, 0, none⟩ = some (.int .i64 a2_0) ∧ w49.cell? ⟨gb205, 1, none⟩ = some (.int .i64 a2_1) ∧ w49.cell? ⟨gb205, 2, none⟩ = some (.string a2_2) ∧ w49.cell? ⟨gb205, 3, none⟩ = some (.string t210) := hS_
         obtain ⟨Ao51, co51, eo51⟩ := Kd.R_slice HO220.out
         (first | subst eo51 | (injection eo51 with f1_ f2_ f3_; have f4_ := f1_.symm; have f5_ := f3_.symm; clear f1_ f2_ f3_; subst f4_; subst f5_))
         refine norm_ (a' := ?_) ?_ ?_
         rotate_left
         ·simp only [putAll, Act.put, List.setIfInBounds_toArray, List.set_cons_zero, List.set_cons_succ]
          rfl
         refine one_ (i := 5) (N := some 46) #[true, true, true, true, true, true, false] rfl rfl (by kernel_rfl) (by decide) (fun K hK => ?_)
         refine Kd.R_append_rows_step k25 (w0 := w) w.heap.size (by rfl) (.tmp 43) (.tmp 45) 23 25 (.agg #[(.int .i64 0), (.int .i64 0), (.string ⟨#[]⟩), (.string ⟨#[]⟩)]) 48 rfl Tryd.underlying23 info25 rfl (by decide) (by omega) v216 y215 y218 _ _ _ (fun k_ => some k_ ≠ (.slice Ao51 y218.length co51 : Value).ownBlock ∧ k_ ≠ gb205) (fun _ => False) rfl rfl ?aO ?aR (fun _ _ h => h) (fun _ h => h.elim) ?aF ?aB ?aS ?aL ?_
         (case aR => repeat (first | exact (Kd.R_reads' HO220.out).2.2 | (with_reducible refine Kd.C_alloc ?_ _) | (with_reducible refine Kd.C_drewN ?_ _) | (with_reducible refine Kd.C_drew ?_)))
         (case aB => exact (by repeat (first | (with_reducible first | exact HB.out | apply below_alloc | apply pw_below_drewN | apply below_drew1 | refine below_set ?_ GE205.out) | exact HB.out)))
         (case aF => exact (fun k_ hk => ⟨Kd.fresh' (Kd.R_lt (by (with_reducible repeat (first | apply Kd.R_alloc | apply Kd.R_drewN | apply Kd.R_drew)); exact HO220.out)) k_ hk, Kd.freshB (g := gb205) (o := .cells #[.int .i64 a2_0, .int .i64 a2_1, .string a2_2, .string t210] 25 (0, 0)) (by (with_reducible repeat (first | refine blk_drewN ?_ _ | refine blk_drew ?_ | refine blk_alloc ?_ _)); exact BK205.out) k_ hk⟩))
         (case aO => exact (by (with_reducible repeat (first | apply Kd.R_alloc | apply Kd.R_drewN | apply Kd.R_drew)); exact HO217.out))
         (case aS => exact (below_size (by repeat (first | (with_reducible first | exact HB.out | apply below_alloc | apply pw_below_drewN | apply below_drew1 | refine below_set ?_ GE205.out) | exact HB.out))))
         (case aL => have := LMc15.out; omega)
         intro v222 w50 ho hb hg hat
         rw [← Ny221.out] at ho
         have n0_ := Aside0.mk (blk_grown (g := gb205) (o := .cells #[.int .i64 a2_0, .int .i64 a2_1, .string a2_2, .string t210] 25 (0, 0)) (by (with_reducible repeat (first | refine blk_drewN ?_ _ | refine blk_drew ?_ | refine blk_alloc ?_ _)); exact BK205.out) hg (Kd.R_away HO217.out (fun _ hk => hk.2)))
         have n1_ := Aside0.mk (Kd.R_after (ok := (fun k_ => k_ ≠ gb205)) (by (with_reducible repeat (first | apply Kd.R_alloc | apply Kd.R_drewN | apply Kd.R_drew)); exact Kd.R_mono HO220.out (fun _ hk => ⟨hk.2, hk.1⟩)) hg hat)
         have n2_ := Aside0.mk (hb)
         have n3_ := Aside0.mk (ho)
         clear BK205
         clear HO220
         clear HB
         clear HO217
         have BK205 := n0_
         have HO220 := n1_
         have HB := n2_
         have HO223 := n3_
         clear n0_ n1_ n2_ n3_
         clear ho hb hg hat
         refine hK.out _ _ ⟨(blk_cell BK205.out 0).trans rfl, (blk_cell BK205.out 1).trans rfl, (blk_cell BK205.out 2).trans rfl, (blk_cell BK205.out 3).trans rfl⟩ (fun hHeld => ?_)
         clear hK K
         refine norm_ (a' := ?_) ?_ ?_
         rotate_left
         ·show Act.put _ (some 46) _ = _
          simp only [Act.put, List.setIfInBounds_toArray, List.set_cons_zero, List.set_cons_succ, i64_w, i32_w]
          rfl
         refine pure_ (i := 6) (N := some 11) (v := ?_) (a' := ?_) #[true, true, true, true, true, true, true] rfl rfl (by kernel_rfl) (fun _ _ _ h => h) (Or.inl ⟨by rfl, ?_⟩) ?_ ?_
         rotate_left
         ·intro w'
          go_simp
          with_reducible rfl
         rotate_left
         ·simp only [Act.put, List.setIfInBounds_toArray, List.set_cons_zero, List.set_cons_succ, i64_w, i32_w]
          rfl
         refine done_ (by kernel_rfl) ?_
         obtain ⟨Ao52, co52, eo52⟩ := Kd.R_slice HO223.out
         subst eo52
         try go_wp2_with (first | ((with_reducible refine gate_callee (f := 40) rfl ?_); refine goesL_ (some 51) rfl rfl Tryd.func40 (by kernel_rfl) rfl #[.slice (some ad209) l0.length c0, .slice Ao52 y221.length co52, .int .i64 (l1.length : Int)] rfl (by (try simp only [List.map_toArray, List.map_cons, List.map_nil]); first | done | rfl | (simp only [List.length_drop, List.length_take]; rfl)) ?_; (with_reducible refine (garboardref58_fault.calls k _ _ l0 _ _ y221 (l1.length : Int) t224 _ ?side1 ?side2 ?side3 ?side4 ?side5 A16.out).mono ?_); (case side1 => repeat (first | exact (Kd.C_below HR0.out HB.out) | (with_reducible refine Kd.C_alloc ?_ _) | (with_reducible refine Kd.C_drewN ?_ _) | (with_reducible refine Kd.C_drew ?_))); (case side2 => exact HC0.out); (case side3 => repeat (first | exact (Kd.R_reads' HO223.out).2.2 | (with_reducible refine Kd.C_alloc ?_ _) | (with_reducible refine Kd.C_drewN ?_ _) | (with_reducible refine Kd.C_drew ?_))); (case side4 => exact (Kd.R_reads' HO223.out).2.1); (case side5 => exact HLW.out.below (by repeat (first | (with_reducible first | exact HB.out | apply below_alloc | apply pw_below_drewN | apply below_drew1 | refine below_set ?_ GE205.out) | exact HB.out))); rintro e w53 ⟨rfl, hb⟩; refine ⟨_, rfl, ?_⟩; have n0_ := Aside0.mk (Kd.R_below (by (with_reducible repeat (first | apply Kd.R_alloc | apply Kd.R_drewN | apply Kd.R_drew)); exact HO220.out) hb); have n1_ := Aside0.mk (Kd.R_below (by (with_reducible repeat (first | apply Kd.R_alloc | apply Kd.R_drewN | apply Kd.R_drew)); exact HO223.out) hb); have n2_ := Aside0.mk (blk_below (g := gb205) (o := .cells #[.int .i64 a2_0, .int .i64 a2_1, .string a2_2, .string t210] 25 (0, 0)) (by (with_reducible repeat (first | refine blk_drewN ?_ _ | refine blk_drew ?_ | refine blk_alloc ?_ _)); exact BK205.out) hb); have n3_ := Aside0.mk (below_step (by repeat (first | (with_reducible first | exact HB.out | apply below_alloc | apply pw_below_drewN | apply below_drew1 | refine below_set ?_ GE205.out) | exact HB.out)) hb); clear HO220; clear HO223; clear BK205; clear HB; have HO220 := n0_; have HO223 := n1_; have BK205 := n2_; have HB := n3_; clear n0_ n1_ n2_ n3_; (try clear hb); (try clear hb2); (try clear hk); (try clear hi)))
         go_ret2
         exact ⟨_, by first | rfl | (simp [errW_none, errW_some] <;> rfl) | (simp [*, errW_none, errW_some] <;> rfl), by first | exact Kd.R_nil _ _ _ _ _ | exact Kd.N_nil _ _ _ _ _ | exact Kd.V_nil _ _ _ _ _ | exact Kd.Q_nil _ _ _ _ _ | exact Kd.S_nil _ _ _ _ _, by repeat (first | (with_reducible first | exact HB.out | apply below_alloc | apply pw_below_drewN | apply below_drew1 | refine below_set ?_ GE205.out) | exact HB.out)⟩
       ·rw [if_neg c15] at H
        exact absurd H (by simp)
      ·rw [if_neg c14] at H
       exact absurd H (by simp)
     ·rw [if_neg c12] at H
      exact absurd H (by simp)
    ·rw [if_neg c11] at H
     exact absurd H (by simp)
   ·rw [if_neg c10] at H
    have c10b0 : decide (0 ≤ t208) = false := decide_eq_false c10
    clear c10
    obtain ⟨y225, hy225⟩ : ∃ y_ : List (S25), y_ = (([] : List (S25))) := ⟨_, rfl⟩
    replace H : (if y225.length + l1.length < 2932031007402 then ((some (y225 ++ l1 : List (S25))).bind fun y228 => ((some (([(⟨a2_0, a2_1, a2_2, a2_3⟩ : S25)] : List (S25)) : List (S25))).bind fun y231 => (if y228.length + y231.length < 2932031007402 then ((some (y228 ++ y231 : List (S25))).bind fun y234 => ((garboardref58_fault.f k l0 y234 (l1.length : Int)).bind fun t237 => (if t237 = 0 then (some (y234, 0)) else (some (([] : List (S25)), t237))))) else (none)))) else (none)) = some (r1, r2) := by first | (rw [hy225]; with_reducible exact H) | (have H2_ := (Option.bind_some _ _).symm.trans H; rw [hy225]; with_reducible exact H2_) | (have H2_ := (Option.bind_some _ _).symm.trans H; with_reducible exact H2_) | with_reducible exact H | (rw [hy225]; exact H) | exact H
    have Ny225 := Aside0.mk hy225
    clear hy225
    by_cases c54 : y225.length + l1.length < 2932031007402
    ·rw [if_pos c54] at H
     have LMc54 := Aside0.mk c54
     clear c54
     obtain ⟨y228, hy228⟩ : ∃ y_ : List (S25), y_ = (y225 ++ l1) := ⟨_, rfl⟩
     replace H : ((some (([(⟨a2_0, a2_1, a2_2, a2_3⟩ : S25)] : List (S25)) : List (S25))).bind fun y231 => (if y228.length + y231.length < 2932031007402 then ((some (y228 ++ y231 : List (S25))).bind fun y234 => ((garboardref58_fault.f k l0 y234 (l1.length : Int)).bind fun t237 => (if t237 = 0 then (some (y234, 0)) else (some (([] : List (S25)), t237))))) else (none))) = some (r1, r2) := by first | (rw [hy228]; with_reducible exact H) | (have H2_ := (Option.bind_some _ _).symm.trans H; rw [hy228]; with_reducible exact H2_) | (have H2_ := (Option.bind_some _ _).symm.trans H; with_reducible exact H2_) | with_reducible exact H | (rw [hy228]; exact H) | exact H
     have Ny228 := Aside0.mk hy228
     clear hy228
     obtain ⟨y231, hy231⟩ : ∃ y_ : List (S25), y_ = (([(⟨a2_0, a2_1, a2_2, a2_3⟩ : S25)] : List (S25))) := ⟨_, rfl⟩
     replace H : (if y228.length + y231.length < 2932031007402 then ((some (y228 ++ y231 : List (S25))).bind fun y234 => ((garboardref58_fault.f k l0 y234 (l1.length : Int)).bind fun t237 => (if t237 = 0 then (some (y234, 0)) else (some (([] : List (S25)), t237))))) else (none)) = some (r1, r2) := by first | (rw [hy231]; with_reducible exact H) | (have H2_ := (Option.bind_some _ _).symm.trans H; rw [hy231]; with_reducible exact H2_) | (have H2_ := (Option.bind_some _ _).symm.trans H; with_reducible exact H2_) | with_reducible exact H | (rw [hy231]; exact H) | exact H
     have Ny231 := Aside0.mk hy231
     clear hy231
     by_cases c55 : y228.length + y231.length < 2932031007402
     ·rw [if_pos c55] at H
      have LMc55 := Aside0.mk c55
      clear c55
      obtain ⟨y234, hy234⟩ : ∃ y_ : List (S25), y_ = (y228 ++ y231) := ⟨_, rfl⟩
      replace H : ((garboardref58_fault.f k l0 y234 (l1.length : Int)).bind fun t237 => (if t237 = 0 then (some (y234, 0)) else (some (([] : List (S25)), t237)))) = some (r1, r2) := by first | (rw [hy234]; with_reducible exact H) | (have H2_ := (Option.bind_some _ _).symm.trans H; rw [hy234]; with_reducible exact H2_) | (have H2_ := (Option.bind_some _ _).symm.trans H; with_reducible exact H2_) | with_reducible exact H | (rw [hy234]; exact H) | exact H
      have Ny234 := Aside0.mk hy234
      clear hy234
      replace H := Option.bind_eq_some_iff.mp H
      obtain ⟨t237, A560, H⟩ := H
      replace H : (if t237 = 0 then (some (y234, 0)) else (some (([] : List (S25)), t237))) = some (r1, r2) := H
      have A56 := Aside0.mk A560
      clear A560
      by_cases c57 : t237 = 0
      ·rw [if_pos c57] at H
       have c57b0 : (t237 == 0) = true := beq_iff_eq.mpr c57
       have c57b1 : (t237 != 0) = false := bne_eq_false_iff_eq.mpr c57
       clear c57
       simp only [Option.some.injEq, Prod.mk.injEq] at H
       obtain ⟨rfl, rfl⟩ := H
       go_enter Tryd.func16, Tryd.ntmps16
       try go_wp2_with (first | ((with_reducible refine gate_dst (N := 5) rfl ?_); refine box_event ?hg (N := 5) ?hd (cs := #[.int .i64 a2_0, .int .i64 a2_1, .string a2_2, .string a2_3]) (t := 25) ?hr ?_; (case hd => rfl); (case hg => rfl); (case hr => first | (go_simp; done) | (go_simp; rfl)); intro gb205 hg w58 hbox hb; have n0_ := Aside0.mk (below_step (by repeat (first | (with_reducible first | exact HB.out | apply below_alloc | apply pw_below_drewN | apply below_drew1) | exact HB.out)) hb); have n1_ := Aside0.mk (hbox); have n2_ := Aside0.mk ((by rw [hg]; exact (below_size (by repeat (first | (with_reducible first | exact HB.out | apply below_alloc | apply pw_below_drewN | apply below_drew1) | exact HB.out))) : w.heap.size ≤ gb205)); have n3_ := Aside0.mk ((by rw [hg]; exact (below_size (by repeat (first | (with_reducible first | exact HB.out | apply below_alloc | apply pw_below_drewN | apply below_drew1) | exact HB.out))) : w.heap.size ≤ gb205)); clear HB; have HB := n0_; have BK205 := n1_; have GW205 := n2_; have GE205 := n3_; clear n0_ n1_ n2_ n3_; clear hb hbox hg) | ((with_reducible refine gate_callee (f := 14) rfl ?_); refine goesL_ (some 16) rfl rfl Tryd.func14 (by kernel_rfl) rfl #[.slice A0 l0.length c0, .slice A1 l1.length c1] rfl (by (try simp only [List.map_toArray, List.map_cons, List.map_nil]); first | done | rfl | (simp only [List.length_drop, List.length_take]; rfl)) ?_; (with_reducible refine (garboardref58_Check.calls k _ _ l0 _ _ l1 t206 t207 _ ?side1 ?side2 ?side3 ?side4 ?side5 A4.out).mono ?_); (case side1 => repeat (first | exact (Kd.C_below HR0.out HB.out) | (with_reducible refine Kd.C_alloc ?_ _) | (with_reducible refine Kd.C_drewN ?_ _) | (with_reducible refine Kd.C_drew ?_))); (case side2 => exact HC0.out); (case side3 => repeat (first | exact (Kd.C_below HR1.out HB.out) | (with_reducible refine Kd.C_alloc ?_ _) | (with_reducible refine Kd.C_drewN ?_ _) | (with_reducible refine Kd.C_drew ?_))); (case side4 => exact HC1.out); (case side5 => exact HLW.out.below (by repeat (first | (with_reducible first | exact HB.out | apply below_alloc | apply pw_below_drewN | apply below_drew1 | refine below_set ?_ GE205.out) | exact HB.out))); rintro e w59 ⟨rfl, hb⟩; refine ⟨_, rfl, ?_⟩; have n0_ := Aside0.mk (blk_below (g := gb205) (o := .cells #[.int .i64 a2_0, .int .i64 a2_1, .string a2_2, .string a2_3] 25 (0, 0)) (by (with_reducible repeat (first | refine blk_drewN ?_ _ | refine blk_drew ?_ | refine blk_alloc ?_ _)); exact BK205.out) hb); have n1_ := Aside0.mk (below_step (by repeat (first | (with_reducible first | exact HB.out | apply below_alloc | apply pw_below_drewN | apply below_drew1 | refine below_set ?_ GE205.out) | exact HB.out)) hb); clear BK205; clear HB; have BK205 := n0_; have HB := n1_; clear n0_ n1_; (try clear hb); (try clear hb2); (try clear hk); (try clear hi); have hcz60_0 : w59.cell? ⟨gb205, 0, none⟩ = some (.int .i64 a2_0) := (blk_cell BK205.out 0).trans rfl; have hcz60_1 : w59.cell? ⟨gb205, 1, none⟩ = some (.int .i64 a2_1) := (blk_cell BK205.out 1).trans rfl; have hcz60_2 : w59.cell? ⟨gb205, 2, none⟩ = some (.string a2_2) := (blk_cell BK205.out 2).trans rfl; have hcz60_3 : w59.cell? ⟨gb205, 3, none⟩ = some (.string a2_3) := (blk_cell BK205.out 3).trans rfl; have hfz60_0 := blk_frozen BK205.out 0; have hfz60_1 := blk_frozen BK205.out 1; have hfz60_2 := blk_frozen BK205.out 2; have hfz60_3 := blk_frozen BK205.out 3) | ((with_reducible refine gate_callee (f := 41) rfl ?_); refine goesL_ (some 27) rfl rfl Tryd.func41 (by kernel_rfl) rfl #[.slice A0 l0.length c0, .int .i64 a2_0] rfl (by (try simp only [List.map_toArray, List.map_cons, List.map_nil]); first | done | rfl | (simp only [List.length_drop, List.length_take]; rfl)) ?_; (with_reducible refine (garboardref58_find.calls k _ _ l0 a2_0 t208 _ ?side1 ?side2 A9.out).mono ?_); (case side1 => repeat (first | exact (Kd.C_below HR0.out HB.out) | (with_reducible refine Kd.C_alloc ?_ _) | (with_reducible refine Kd.C_drewN ?_ _) | (with_reducible refine Kd.C_drew ?_))); (case side2 => exact HC0.out); rintro e w' ⟨rfl, ⟨nd, rfl⟩⟩; refine ⟨_, rfl, ?_⟩))
       (try (rw [drewN_self w59]; generalize hq_ : World.drewN w59 _ = w59; have n0_ : Aside0 (w59.heap[gb205]? = some (.cells #[.int .i64 a2_0, .int .i64 a2_1, .string a2_2, .string a2_3] 25 (0, 0))) := ⟨by rw [← hq_]; exact (by (with_reducible repeat (first | refine blk_drewN ?_ _ | refine blk_drew ?_ | refine blk_alloc ?_ _)); exact BK205.out)⟩; have n1_ : Aside0 (Below w.heap.size w w59) := ⟨by rw [← hq_]; exact (by repeat (first | (with_reducible first | exact HB.out | apply below_alloc | apply pw_below_drewN | apply below_drew1 | refine below_set ?_ GE205.out) | exact HB.out))⟩; clear BK205 HB hq_; have BK205 := n0_; have HB := n1_; clear n0_ n1_))
       have n0_ := Aside0.mk (blk_drew BK205.out)
       have n1_ := Aside0.mk (below_drew1 HB.out)
       clear BK205
       clear HB
       have BK205 := n0_
       have HB := n1_
       clear n0_ n1_
       refine start_ (n := 7) (S := fun w' => w'.cell? ⟨gb205, 0, none⟩ = some (.int .i64 a2_0) ∧ w'.cell? ⟨gb205, 1, none⟩ = some (.int .i64 a2_1) ∧ w'.cell? ⟨gb205, 2, none⟩ = some (.string a2_2) ∧ w'.cell? ⟨gb205, 3, none⟩ = some (.string a2_3)) (ds := []) #[false, false, false, false, false, false, false] (by kernel_rfl) rfl rfl ⟨(blk_cell BK205.out 0).trans rfl, (blk_cell BK205.out 1).trans rfl, (blk_cell BK205.out 2).trans rfl, (blk_cell BK205.out 3).trans rfl⟩ (fun hHeld => ?_)
       generalize w59.drew = w61 at BK205 HB hHeld ⊢
       refine pure_ (i := 1) (N := some 42) (v := ?_) (a' := ?_) #[false, true, false, false, false, false, false] rfl rfl (by kernel_rfl) (fun _ _ _ h => h) (Or.inl ⟨by rfl, ?_⟩) ?_ ?_
       rotate_left
       ·intro w'
        go_simp
        with_reducible rfl
       rotate_left
       ·simp only [Act.put, List.setIfInBounds_toArray, List.set_cons_zero, List.set_cons_succ, i64_w, i32_w]
        rfl
       refine take_ (i := 3) (N := some 44) (v := ?_) (a' := ?_) #[false, true, false, true, false, false, false] rfl rfl (by kernel_rfl) (fun _ _ _ h => h) (Or.inl ⟨by rfl, ?_⟩) hHeld ?_ ?_
       rotate_left
       ·rintro w' ⟨s0, s1, s2, s3⟩
        go_simp
        with_reducible rfl
       rotate_left
       ·simp only [Act.put, List.setIfInBounds_toArray, List.set_cons_zero, List.set_cons_succ, i64_w, i32_w]
        rfl
       refine join_ (σ := Value × Value × Value) 2 #[true, true, true, true, true, false, false] (fun s_ => [(41, s_.1), (43, s_.2.1), (45, s_.2.2)]) (fun s_ w' => (w'.cell? ⟨gb205, 0, none⟩ = some (.int .i64 a2_0) ∧ w'.cell? ⟨gb205, 1, none⟩ = some (.int .i64 a2_1) ∧ w'.cell? ⟨gb205, 2, none⟩ = some (.string a2_2) ∧ w'.cell? ⟨gb205, 3, none⟩ = some (.string a2_3)) ∧ (Kd.R k25 25 w' w.heap.size (fun k_ => some k_ ≠ (s_.2.2 : Value).ownBlock ∧ k_ ≠ gb205) s_.2.1 y228) ∧ (Kd.R k25 25 w' w.heap.size (fun k_ => some k_ ≠ (s_.2.1 : Value).ownBlock ∧ k_ ≠ gb205) s_.2.2 y231) ∧ (w'.heap[gb205]? = some (.cells #[.int .i64 a2_0, .int .i64 a2_1, .string a2_2, .string a2_3] 25 (0, 0))) ∧ (Below w.heap.size w w')) ?_ ?_
       rotate_left
       ·intro hCont
        refine two_ (i := 0) (j := 4) (Ni := some 41) (Nj := some 45) #[true, true, false, true, false, false, false] #[false, true, false, true, true, false, false] rfl rfl rfl rfl (by kernel_rfl) (by decide) (by decide) (fun K hK => ?_) (fun K hK => ?_)
        ·skip
         refine Kd.R_lit_step k25 _ 25 ?hg (N := 41) ?hd (xs := ([] : List (S25))) (inner := []) (ok := fun _ => True) (okp := fun _ => True) ?hr ?hp (fun _ hk => hk) trivial (Below.refl _ _) (Nat.le_refl _) (by simp) ?_; (case hd => rfl); (case hg => rfl); (case hr => first | (go_simp; done) | (go_simp; rfl)); (case hp => exact (Reps.none _ _))
         intro v226 w62 ho63 hb hg_ hnew_
         clear hg_ hnew_
         (first | rw [← Ny225.out] at ho63 | (simp only [Int.reduceToNat] at ho63; rw [← Ny225.out] at ho63))
         have n0_ := Aside0.mk (Kd.R_lower (Kd.R_newB ho63 (g := gb205) (o := .cells #[.int .i64 a2_0, .int .i64 a2_1, .string a2_2, .string a2_3] 25 (0, 0)) (by (with_reducible repeat (first | refine blk_drewN ?_ _ | refine blk_drew ?_ | refine blk_alloc ?_ _)); exact BK205.out)) (below_size (by repeat (first | (with_reducible first | exact HB.out | apply below_alloc | apply pw_below_drewN | apply below_drew1 | refine below_set ?_ GE205.out) | exact HB.out))))
         have n1_ := Aside0.mk (blk_below (g := gb205) (o := .cells #[.int .i64 a2_0, .int .i64 a2_1, .string a2_2, .string a2_3] 25 (0, 0)) (by (with_reducible repeat (first | refine blk_drewN ?_ _ | refine blk_drew ?_ | refine blk_alloc ?_ _)); exact BK205.out) hb)
         have n2_ := Aside0.mk (below_step (by repeat (first | (with_reducible first | exact HB.out | apply below_alloc | apply pw_below_drewN | apply below_drew1 | refine below_set ?_ GE205.out) | exact HB.out)) hb)
         clear BK205
         clear HB
         have HO227 := n0_
         have BK205 := n1_
         have HB := n2_
         clear n0_ n1_ n2_
         clear hb ho63
         refine hK.out _ _ ⟨(blk_cell BK205.out 0).trans rfl, (blk_cell BK205.out 1).trans rfl, (blk_cell BK205.out 2).trans rfl, (blk_cell BK205.out 3).trans rfl⟩ (fun hHeld => ?_)
         clear hK K
         refine norm_ (a' := ?_) ?_ ?_
         rotate_left
         ·show Act.put _ (some 41) _ = _
          simp only [Act.put, List.setIfInBounds_toArray, List.set_cons_zero, List.set_cons_succ, i64_w, i32_w]
          rfl
         refine two_ (i := 2) (j := 4) (Ni := some 43) (Nj := some 45) #[true, true, true, true, false, false, false] #[true, true, false, true, true, false, false] rfl rfl rfl rfl (by kernel_rfl) (by decide) (by decide) (fun K hK => ?_) (fun K hK => ?_)
         ·skip
          refine Kd.R_append_rows_step k25 (w0 := w) w.heap.size (by rfl) (.tmp 41) (.tmp 42) 23 25 (.agg #[(.int .i64 0), (.int .i64 0), (.string ⟨#[]⟩), (.string ⟨#[]⟩)]) 48 rfl Tryd.underlying23 info25 rfl (by decide) (by omega) v226 y225 l1 _ _ _ (fun k_ => k_ ≠ gb205) (fun _ => False) rfl rfl ?aO ?aR (fun _ _ h => h) (fun _ h => h.elim) ?aF ?aB ?aS ?aL ?_
          (case aR => repeat (first | exact (Kd.C_below HR1.out HB.out) | (with_reducible refine Kd.C_alloc ?_ _) | (with_reducible refine Kd.C_drewN ?_ _) | (with_reducible refine Kd.C_drew ?_)))
          (case aB => exact (by repeat (first | (with_reducible first | exact HB.out | apply below_alloc | apply pw_below_drewN | apply below_drew1 | refine below_set ?_ GE205.out) | exact HB.out)))
          (case aF => exact (fun k_ hk => Kd.freshB (g := gb205) (o := .cells #[.int .i64 a2_0, .int .i64 a2_1, .string a2_2, .string a2_3] 25 (0, 0)) (by (with_reducible repeat (first | refine blk_drewN ?_ _ | refine blk_drew ?_ | refine blk_alloc ?_ _)); exact BK205.out) k_ hk))
          (case aO => exact (by (with_reducible repeat (first | apply Kd.R_alloc | apply Kd.R_drewN | apply Kd.R_drew)); exact Kd.R_mono HO227.out (fun _ hk => hk.2)))
          (case aS => exact (below_size (by repeat (first | (with_reducible first | exact HB.out | apply below_alloc | apply pw_below_drewN | apply below_drew1 | refine below_set ?_ GE205.out) | exact HB.out))))
          (case aL => have := LMc54.out; omega)
          intro v229 w64 ho hb hg hat
          rw [← Ny228.out] at ho
          have n0_ := Aside0.mk (blk_grown (g := gb205) (o := .cells #[.int .i64 a2_0, .int .i64 a2_1, .string a2_2, .string a2_3] 25 (0, 0)) (by (with_reducible repeat (first | refine blk_drewN ?_ _ | refine blk_drew ?_ | refine blk_alloc ?_ _)); exact BK205.out) hg (Kd.R_away HO227.out (fun _ hk => hk.2)))
          have n1_ := Aside0.mk (hb)
          have n2_ := Aside0.mk (ho)
          clear BK205
          clear HB
          clear HO227
          have BK205 := n0_
          have HB := n1_
          have HO230 := n2_
          clear n0_ n1_ n2_
          clear ho hb hg hat
          refine hK.out _ _ ⟨(blk_cell BK205.out 0).trans rfl, (blk_cell BK205.out 1).trans rfl, (blk_cell BK205.out 2).trans rfl, (blk_cell BK205.out 3).trans rfl⟩ (fun hHeld => ?_)
          clear hK K
          refine norm_ (a' := ?_) ?_ ?_
          rotate_left
          ·show Act.put _ (some 43) _ = _
           simp only [Act.put, List.setIfInBounds_toArray, List.set_cons_zero, List.set_cons_succ, i64_w, i32_w]
           rfl
          refine one_ (i := 4) (N := some 45) #[true, true, true, true, true, false, false] rfl rfl (by kernel_rfl) (by decide) (fun K hK => ?_)
          refine Kd.R_lit_step k25 _ 25 ?hg (N := 45) ?hd (xs := ([(⟨a2_0, a2_1, a2_2, a2_3⟩ : S25)] : List (S25))) (inner := [.int .i64 a2_0, .int .i64 a2_1, .string a2_2, .string a2_3]) (ok := fun _ => True) (okp := fun _ => True) ?hr ?hp (fun _ hk => hk) trivial (Below.refl _ _) (Nat.le_refl _) (by simp) ?_; (case hd => rfl); (case hg => rfl); (case hr => first | (go_simp; done) | (go_simp; rfl)); (case hp => exact (Reps.c4 (show Kd.M k25 _ _ _ (⟨a2_0, a2_1, a2_2, a2_3⟩ : S25) [.int .i64 a2_0, .int .i64 a2_1, .string a2_2, .string a2_3] from (k25_mkM _ _ _ (⟨a2_0, a2_1, a2_2, a2_3⟩ : S25) )) (Reps.none _ _)))
          intro v232 w65 ho66 hb hg_ hnew_
          clear hg_ hnew_
          (first | rw [← Ny231.out] at ho66 | (simp only [Int.reduceToNat] at ho66; rw [← Ny231.out] at ho66))
          have n0_ := Aside0.mk (Kd.R_elder' (by (with_reducible repeat (first | apply Kd.R_alloc | apply Kd.R_drewN | apply Kd.R_drew)); exact HO230.out) (Kd.R_base ho66) hb)
          have n1_ := Aside0.mk (Kd.R_lower (Kd.R_newB (Kd.R_new' ho66 (Kd.R_lt (by (with_reducible repeat (first | apply Kd.R_alloc | apply Kd.R_drewN | apply Kd.R_drew)); exact HO230.out))) (g := gb205) (o := .cells #[.int .i64 a2_0, .int .i64 a2_1, .string a2_2, .string a2_3] 25 (0, 0)) (by (with_reducible repeat (first | refine blk_drewN ?_ _ | refine blk_drew ?_ | refine blk_alloc ?_ _)); exact BK205.out)) (below_size (by repeat (first | (with_reducible first | exact HB.out | apply below_alloc | apply pw_below_drewN | apply below_drew1 | refine below_set ?_ GE205.out) | exact HB.out))))
          have n2_ := Aside0.mk (blk_below (g := gb205) (o := .cells #[.int .i64 a2_0, .int .i64 a2_1, .string a2_2, .string a2_3] 25 (0, 0)) (by (with_reducible repeat (first | refine blk_drewN ?_ _ | refine blk_drew ?_ | refine blk_alloc ?_ _)); exact BK205.out) hb)
          have n3_ := Aside0.mk (below_step (by repeat (first | (with_reducible first | exact HB.out | apply below_alloc | apply pw_below_drewN | apply below_drew1 | refine below_set ?_ GE205.out) | exact HB.out)) hb)
          clear HO230
          clear BK205
          clear HB
          have HO230 := n0_
          have HO233 := n1_
          have BK205 := n2_
          have HB := n3_
          clear n0_ n1_ n2_ n3_
          clear hb ho66
          refine hK.out _ _ ⟨(blk_cell BK205.out 0).trans rfl, (blk_cell BK205.out 1).trans rfl, (blk_cell BK205.out 2).trans rfl, (blk_cell BK205.out 3).trans rfl⟩ (fun hHeld => ?_)
          clear hK K
          refine norm_ (a' := ?_) ?_ ?_
          rotate_left
          ·show Act.put _ (some 45) _ = _
           simp only [Act.put, List.setIfInBounds_toArray, List.set_cons_zero, List.set_cons_succ, i64_w, i32_w]
           rfl
          exact norm_ (by simp only [putAll, Act.put, List.setIfInBounds_toArray, List.set_cons_zero, List.set_cons_succ]) (hCont (v226, v229, v232) _ ⟨hHeld, (by (with_reducible repeat (first | apply Kd.R_alloc | apply Kd.R_drewN | apply Kd.R_drew)); exact Kd.R_mono HO230.out (fun _ hk => ⟨hk.2, hk.1⟩)), (by (with_reducible repeat (first | apply Kd.R_alloc | apply Kd.R_drewN | apply Kd.R_drew)); exact Kd.R_mono HO233.out (fun _ hk => ⟨hk.1.2, hk.2⟩)), (by (with_reducible repeat (first | refine blk_drewN ?_ _ | refine blk_drew ?_ | refine blk_alloc ?_ _)); exact BK205.out), (by repeat (first | (with_reducible first | exact HB.out | apply below_alloc | apply pw_below_drewN | apply below_drew1 | refine below_set ?_ GE205.out) | exact HB.out))⟩)
         ·skip
          refine Kd.R_lit_step k25 _ 25 ?hg (N := 45) ?hd (xs := ([(⟨a2_0, a2_1, a2_2, a2_3⟩ : S25)] : List (S25))) (inner := [.int .i64 a2_0, .int .i64 a2_1, .string a2_2, .string a2_3]) (ok := fun _ => True) (okp := fun _ => True) ?hr ?hp (fun _ hk => hk) trivial (Below.refl _ _) (Nat.le_refl _) (by simp) ?_; (case hd => rfl); (case hg => rfl); (case hr => first | (go_simp; done) | (go_simp; rfl)); (case hp => exact (Reps.c4 (show Kd.M k25 _ _ _ (⟨a2_0, a2_1, a2_2, a2_3⟩ : S25) [.int .i64 a2_0, .int .i64 a2_1, .string a2_2, .string a2_3] from (k25_mkM _ _ _ (⟨a2_0, a2_1, a2_2, a2_3⟩ : S25) )) (Reps.none _ _)))
          intro v232 w64 ho65 hb hg_ hnew_
          clear hg_ hnew_
          (first | rw [← Ny231.out] at ho65 | (simp only [Int.reduceToNat] at ho65; rw [← Ny231.out] at ho65))
          have n0_ := Aside0.mk (Kd.R_elder' (by (with_reducible repeat (first | apply Kd.R_alloc | apply Kd.R_drewN | apply Kd.R_drew)); exact HO227.out) (Kd.R_base ho65) hb)
          have n1_ := Aside0.mk (Kd.R_lower (Kd.R_newB (Kd.R_new' ho65 (Kd.R_lt (by (with_reducible repeat (first | apply Kd.R_alloc | apply Kd.R_drewN | apply Kd.R_drew)); exact HO227.out))) (g := gb205) (o := .cells #[.int .i64 a2_0, .int .i64 a2_1, .string a2_2, .string a2_3] 25 (0, 0)) (by (with_reducible repeat (first | refine blk_drewN ?_ _ | refine blk_drew ?_ | refine blk_alloc ?_ _)); exact BK205.out)) (below_size (by repeat (first | (with_reducible first | exact HB.out | apply below_alloc | apply pw_below_drewN | apply below_drew1 | refine below_set ?_ GE205.out) | exact HB.out))))
          have n2_ := Aside0.mk (blk_below (g := gb205) (o := .cells #[.int .i64 a2_0, .int .i64 a2_1, .string a2_2, .string a2_3] 25 (0, 0)) (by (with_reducible repeat (first | refine blk_drewN ?_ _ | refine blk_drew ?_ | refine blk_alloc ?_ _)); exact BK205.out) hb)
          have n3_ := Aside0.mk (below_step (by repeat (first | (with_reducible first | exact HB.out | apply below_alloc | apply pw_below_drewN | apply below_drew1 | refine below_set ?_ GE205.out) | exact HB.out)) hb)
          clear HO227
          clear BK205
          clear HB
          have HO227 := n0_
          have HO233 := n1_
          have BK205 := n2_
          have HB := n3_
          clear n0_ n1_ n2_ n3_
          clear hb ho65
          refine hK.out _ _ ⟨(blk_cell BK205.out 0).trans rfl, (blk_cell BK205.out 1).trans rfl, (blk_cell BK205.out 2).trans rfl, (blk_cell BK205.out 3).trans rfl⟩ (fun hHeld => ?_)
          clear hK K
          refine norm_ (a' := ?_) ?_ ?_
          rotate_left
          ·show Act.put _ (some 45) _ = _
           simp only [Act.put, List.setIfInBounds_toArray, List.set_cons_zero, List.set_cons_succ, i64_w, i32_w]
           rfl
          refine one_ (i := 2) (N := some 43) #[true, true, true, true, true, false, false] rfl rfl (by kernel_rfl) (by decide) (fun K hK => ?_)
          refine Kd.R_append_rows_step k25 (w0 := w) w.heap.size (by rfl) (.tmp 41) (.tmp 42) 23 25 (.agg #[(.int .i64 0), (.int .i64 0), (.string ⟨#[]⟩), (.string ⟨#[]⟩)]) 48 rfl Tryd.underlying23 info25 rfl (by decide) (by omega) v226 y225 l1 _ _ _ (fun k_ => some k_ ≠ (v232 : Value).ownBlock ∧ k_ ≠ gb205) (fun _ => False) rfl rfl ?aO ?aR (fun _ _ h => h) (fun _ h => h.elim) ?aF ?aB ?aS ?aL ?_
          (case aR => repeat (first | exact (Kd.C_below HR1.out HB.out) | (with_reducible refine Kd.C_alloc ?_ _) | (with_reducible refine Kd.C_drewN ?_ _) | (with_reducible refine Kd.C_drew ?_)))
          (case aB => exact (by repeat (first | (with_reducible first | exact HB.out | apply below_alloc | apply pw_below_drewN | apply below_drew1 | refine below_set ?_ GE205.out) | exact HB.out)))
          (case aF => exact (fun k_ hk => ⟨Kd.fresh' (Kd.R_lt (by (with_reducible repeat (first | apply Kd.R_alloc | apply Kd.R_drewN | apply Kd.R_drew)); exact HO233.out)) k_ hk, Kd.freshB (g := gb205) (o := .cells #[.int .i64 a2_0, .int .i64 a2_1, .string a2_2, .string a2_3] 25 (0, 0)) (by (with_reducible repeat (first | refine blk_drewN ?_ _ | refine blk_drew ?_ | refine blk_alloc ?_ _)); exact BK205.out) k_ hk⟩))
          (case aO => exact (by (with_reducible repeat (first | apply Kd.R_alloc | apply Kd.R_drewN | apply Kd.R_drew)); exact Kd.R_mono HO227.out (fun _ hk => ⟨hk.2, hk.1.2⟩)))
          (case aS => exact (below_size (by repeat (first | (with_reducible first | exact HB.out | apply below_alloc | apply pw_below_drewN | apply below_drew1 | refine below_set ?_ GE205.out) | exact HB.out))))
          (case aL => have := LMc54.out; omega)
          intro v229 w66 ho hb hg hat
          rw [← Ny228.out] at ho
          have n0_ := Aside0.mk (blk_grown (g := gb205) (o := .cells #[.int .i64 a2_0, .int .i64 a2_1, .string a2_2, .string a2_3] 25 (0, 0)) (by (with_reducible repeat (first | refine blk_drewN ?_ _ | refine blk_drew ?_ | refine blk_alloc ?_ _)); exact BK205.out) hg (Kd.R_away HO227.out (fun _ hk => hk.1.2)))
          have n1_ := Aside0.mk (Kd.R_after (ok := (fun k_ => k_ ≠ gb205)) (by (with_reducible repeat (first | apply Kd.R_alloc | apply Kd.R_drewN | apply Kd.R_drew)); exact Kd.R_mono HO233.out (fun _ hk => ⟨hk.2, hk.1.2⟩)) hg hat)
          have n2_ := Aside0.mk (hb)
          have n3_ := Aside0.mk (ho)
          clear BK205
          clear HO233
          clear HB
          clear HO227
          have BK205 := n0_
          have HO233 := n1_
          have HB := n2_
          have HO230 := n3_
          clear n0_ n1_ n2_ n3_
          clear ho hb hg hat
          refine hK.out _ _ ⟨(blk_cell BK205.out 0).trans rfl, (blk_cell BK205.out 1).trans rfl, (blk_cell BK205.out 2).trans rfl, (blk_cell BK205.out 3).trans rfl⟩ (fun hHeld => ?_)
          clear hK K
          refine norm_ (a' := ?_) ?_ ?_
          rotate_left
          ·show Act.put _ (some 43) _ = _
           simp only [Act.put, List.setIfInBounds_toArray, List.set_cons_zero, List.set_cons_succ, i64_w, i32_w]
           rfl
          exact norm_ (by simp only [putAll, Act.put, List.setIfInBounds_toArray, List.set_cons_zero, List.set_cons_succ]) (hCont (v226, v229, v232) _ ⟨hHeld, (by (with_reducible repeat (first | apply Kd.R_alloc | apply Kd.R_drewN | apply Kd.R_drew)); exact HO230.out), (by (with_reducible repeat (first | apply Kd.R_alloc | apply Kd.R_drewN | apply Kd.R_drew)); exact Kd.R_mono HO233.out (fun _ hk => ⟨hk.2, hk.1⟩)), (by (with_reducible repeat (first | refine blk_drewN ?_ _ | refine blk_drew ?_ | refine blk_alloc ?_ _)); exact BK205.out), (by repeat (first | (with_reducible first | exact HB.out | apply below_alloc | apply pw_below_drewN | apply below_drew1 | refine below_set ?_ GE205.out) | exact HB.out))⟩)
        ·skip
         refine Kd.R_lit_step k25 _ 25 ?hg (N := 45) ?hd (xs := ([(⟨a2_0, a2_1, a2_2, a2_3⟩ : S25)] : List (S25))) (inner := [.int .i64 a2_0, .int .i64 a2_1, .string a2_2, .string a2_3]) (ok := fun _ => True) (okp := fun _ => True) ?hr ?hp (fun _ hk => hk) trivial (Below.refl _ _) (Nat.le_refl _) (by simp) ?_; (case hd => rfl); (case hg => rfl); (case hr => first | (go_simp; done) | (go_simp; rfl)); (case hp => exact (Reps.c4 (show Kd.M k25 _ _ _ (⟨a2_0, a2_1, a2_2, a2_3⟩ : S25) [.int .i64 a2_0, .int .i64 a2_1, .string a2_2, .string a2_3] from (k25_mkM _ _ _ (⟨a2_0, a2_1, a2_2, a2_3⟩ : S25) )) (Reps.none _ _)))
         intro v232 w62 ho63 hb hg_ hnew_
         clear hg_ hnew_
         (first | rw [← Ny231.out] at ho63 | (simp only [Int.reduceToNat] at ho63; rw [← Ny231.out] at ho63))
         have n0_ := Aside0.mk (Kd.R_lower (Kd.R_newB ho63 (g := gb205) (o := .cells #[.int .i64 a2_0, .int .i64 a2_1, .string a2_2, .string a2_3] 25 (0, 0)) (by (with_reducible repeat (first | refine blk_drewN ?_ _ | refine blk_drew ?_ | refine blk_alloc ?_ _)); exact BK205.out)) (below_size (by repeat (first | (with_reducible first | exact HB.out | apply below_alloc | apply pw_below_drewN | apply below_drew1 | refine below_set ?_ GE205.out) | exact HB.out))))
         have n1_ := Aside0.mk (blk_below (g := gb205) (o := .cells #[.int .i64 a2_0, .int .i64 a2_1, .string a2_2, .string a2_3] 25 (0, 0)) (by (with_reducible repeat (first | refine blk_drewN ?_ _ | refine blk_drew ?_ | refine blk_alloc ?_ _)); exact BK205.out) hb)
         have n2_ := Aside0.mk (below_step (by repeat (first | (with_reducible first | exact HB.out | apply below_alloc | apply pw_below_drewN | apply below_drew1 | refine below_set ?_ GE205.out) | exact HB.out)) hb)
         clear BK205
         clear HB
         have HO233 := n0_
         have BK205 := n1_
         have HB := n2_
         clear n0_ n1_ n2_
         clear hb ho63
         refine hK.out _ _ ⟨(blk_cell BK205.out 0).trans rfl, (blk_cell BK205.out 1).trans rfl, (blk_cell BK205.out 2).trans rfl, (blk_cell BK205.out 3).trans rfl⟩ (fun hHeld => ?_)
         clear hK K
         refine norm_ (a' := ?_) ?_ ?_
         rotate_left
         ·show Act.put _ (some 45) _ = _
          simp only [Act.put, List.setIfInBounds_toArray, List.set_cons_zero, List.set_cons_succ, i64_w, i32_w]
          rfl
         refine one_ (i := 0) (N := some 41) #[true, true, false, true, true, false, false] rfl rfl (by kernel_rfl) (by decide) (fun K hK => ?_)
         refine Kd.R_lit_step k25 _ 25 ?hg (N := 41) ?hd (xs := ([] : List (S25))) (inner := []) (ok := fun _ => True) (okp := fun _ => True) ?hr ?hp (fun _ hk => hk) trivial (Below.refl _ _) (Nat.le_refl _) (by simp) ?_; (case hd => rfl); (case hg => rfl); (case hr => first | (go_simp; done) | (go_simp; rfl)); (case hp => exact (Reps.none _ _))
         intro v226 w64 ho65 hb hg_ hnew_
         clear hg_ hnew_
         (first | rw [← Ny225.out] at ho65 | (simp only [Int.reduceToNat] at ho65; rw [← Ny225.out] at ho65))
         have n0_ := Aside0.mk (Kd.R_elder' (by (with_reducible repeat (first | apply Kd.R_alloc | apply Kd.R_drewN | apply Kd.R_drew)); exact HO233.out) (Kd.R_base ho65) hb)
         have n1_ := Aside0.mk (Kd.R_lower (Kd.R_newB (Kd.R_new' ho65 (Kd.R_lt (by (with_reducible repeat (first | apply Kd.R_alloc | apply Kd.R_drewN | apply Kd.R_drew)); exact HO233.out))) (g := gb205) (o := .cells #[.int .i64 a2_0, .int .i64 a2_1, .string a2_2, .string a2_3] 25 (0, 0)) (by (with_reducible repeat (first | refine blk_drewN ?_ _ | refine blk_drew ?_ | refine blk_alloc ?_ _)); exact BK205.out)) (below_size (by repeat (first | (with_reducible first | exact HB.out | apply below_alloc | apply pw_below_drewN | apply below_drew1 | refine below_set ?_ GE205.out) | exact HB.out))))
         have n2_ := Aside0.mk (blk_below (g := gb205) (o := .cells #[.int .i64 a2_0, .int .i64 a2_1, .string a2_2, .string a2_3] 25 (0, 0)) (by (with_reducible repeat (first | refine blk_drewN ?_ _ | refine blk_drew ?_ | refine blk_alloc ?_ _)); exact BK205.out) hb)
         have n3_ := Aside0.mk (below_step (by repeat (first | (with_reducible first | exact HB.out | apply below_alloc | apply pw_below_drewN | apply below_drew1 | refine below_set ?_ GE205.out) | exact HB.out)) hb)
         clear HO233
         clear BK205
         clear HB
         have HO233 := n0_
         have HO227 := n1_
         have BK205 := n2_
         have HB := n3_
         clear n0_ n1_ n2_ n3_
         clear hb ho65
         refine hK.out _ _ ⟨(blk_cell BK205.out 0).trans rfl, (blk_cell BK205.out 1).trans rfl, (blk_cell BK205.out 2).trans rfl, (blk_cell BK205.out 3).trans rfl⟩ (fun hHeld => ?_)
         clear hK K
         refine norm_ (a' := ?_) ?_ ?_
         rotate_left
         ·show Act.put _ (some 41) _ = _
          simp only [Act.put, List.setIfInBounds_toArray, List.set_cons_zero, List.set_cons_succ, i64_w, i32_w]
          rfl
         refine one_ (i := 2) (N := some 43) #[true, true, true, true, true, false, false] rfl rfl (by kernel_rfl) (by decide) (fun K hK => ?_)
         refine Kd.R_append_rows_step k25 (w0 := w) w.heap.size (by rfl) (.tmp 41) (.tmp 42) 23 25 (.agg #[(.int .i64 0), (.int .i64 0), (.string ⟨#[]⟩), (.string ⟨#[]⟩)]) 48 rfl Tryd.underlying23 info25 rfl (by decide) (by omega) v226 y225 l1 _ _ _ (fun k_ => some k_ ≠ (v232 : Value).ownBlock ∧ k_ ≠ gb205) (fun _ => False) rfl rfl ?aO ?aR (fun _ _ h => h) (fun _ h => h.elim) ?aF ?aB ?aS ?aL ?_
         (case aR => repeat (first | exact (Kd.C_below HR1.out HB.out) | (with_reducible refine Kd.C_alloc ?_ _) | (with_reducible refine Kd.C_drewN ?_ _) | (with_reducible refine Kd.C_drew ?_)))
         (case aB => exact (by repeat (first | (with_reducible first | exact HB.out | apply below_alloc | apply pw_below_drewN | apply below_drew1 | refine below_set ?_ GE205.out) | exact HB.out)))
         (case aF => exact (fun k_ hk => ⟨Kd.fresh' (Kd.R_lt (by (with_reducible repeat (first | apply Kd.R_alloc | apply Kd.R_drewN | apply Kd.R_drew)); exact HO233.out)) k_ hk, Kd.freshB (g := gb205) (o := .cells #[.int .i64 a2_0, .int .i64 a2_1, .string a2_2, .string a2_3] 25 (0, 0)) (by (with_reducible repeat (first | refine blk_drewN ?_ _ | refine blk_drew ?_ | refine blk_alloc ?_ _)); exact BK205.out) k_ hk⟩))
         (case aO => exact (by (with_reducible repeat (first | apply Kd.R_alloc | apply Kd.R_drewN | apply Kd.R_drew)); exact Kd.R_mono HO227.out (fun _ hk => ⟨hk.1.2, hk.2⟩)))
         (case aS => exact (below_size (by repeat (first | (with_reducible first | exact HB.out | apply below_alloc | apply pw_below_drewN | apply below_drew1 | refine below_set ?_ GE205.out) | exact HB.out))))
         (case aL => have := LMc54.out; omega)
         intro v229 w66 ho hb hg hat
         rw [← Ny228.out] at ho
         have n0_ := Aside0.mk (blk_grown (g := gb205) (o := .cells #[.int .i64 a2_0, .int .i64 a2_1, .string a2_2, .string a2_3] 25 (0, 0)) (by (with_reducible repeat (first | refine blk_drewN ?_ _ | refine blk_drew ?_ | refine blk_alloc ?_ _)); exact BK205.out) hg (Kd.R_away HO227.out (fun _ hk => hk.2)))
         have n1_ := Aside0.mk (Kd.R_after (ok := (fun k_ => k_ ≠ gb205)) (by (with_reducible repeat (first | apply Kd.R_alloc | apply Kd.R_drewN | apply Kd.R_drew)); exact Kd.R_mono HO233.out (fun _ hk => ⟨hk.1.2, hk.2⟩)) hg hat)
         have n2_ := Aside0.mk (hb)
         have n3_ := Aside0.mk (ho)
         clear BK205
         clear HO233
         clear HB
         clear HO227
         have BK205 := n0_
         have HO233 := n1_
         have HB := n2_
         have HO230 := n3_
         clear n0_ n1_ n2_ n3_
         clear ho hb hg hat
         refine hK.out _ _ ⟨(blk_cell BK205.out 0).trans rfl, (blk_cell BK205.out 1).trans rfl, (blk_cell BK205.out 2).trans rfl, (blk_cell BK205.out 3).trans rfl⟩ (fun hHeld => ?_)
         clear hK K
         refine norm_ (a' := ?_) ?_ ?_
         rotate_left
         ·show Act.put _ (some 43) _ = _
          simp only [Act.put, List.setIfInBounds_toArray, List.set_cons_zero, List.set_cons_succ, i64_w, i32_w]
          rfl
         exact norm_ (by simp only [putAll, Act.put, List.setIfInBounds_toArray, List.set_cons_zero, List.set_cons_succ]) (hCont (v226, v229, v232) _ ⟨hHeld, (by (with_reducible repeat (first | apply Kd.R_alloc | apply Kd.R_drewN | apply Kd.R_drew)); exact HO230.out), (by (with_reducible repeat (first | apply Kd.R_alloc | apply Kd.R_drewN | apply Kd.R_drew)); exact Kd.R_mono HO233.out (fun _ hk => ⟨hk.2, hk.1⟩)), (by (with_reducible repeat (first | refine blk_drewN ?_ _ | refine blk_drew ?_ | refine blk_alloc ?_ _)); exact BK205.out), (by repeat (first | (with_reducible first | exact HB.out | apply below_alloc | apply pw_below_drewN | apply below_drew1 | refine below_set ?_ GE205.out) | exact HB.out))⟩)
       rintro ⟨v226, v229, v232⟩ w67 ⟨hS_, h0_, h1_, h2_, h3_⟩
       have n0_ : Aside0 (Kd.R k25 25 w67 w.heap.size (fun k_ => some k_ ≠ (v232 : Value).ownBlock ∧ k_ ≠ gb205) v229 y228) := ⟨h0_⟩
       have n1_ : Aside0 (Kd.R k25 25 w67 w.heap.size (fun k_ => some k_ ≠ (v229 : Value).ownBlock ∧ k_ ≠ gb205) v232 y231) := ⟨h1_⟩
       have n2_ : Aside0 (w67.heap[gb205]? = some (.cells #[.int .i64 a2_0, .int .i64 a2_1, .string a2_2, .string a2_3] 25 (0, 0))) := ⟨h2_⟩
       have n3_ : Aside0 (Below w.heap.size w w67) := ⟨h3_⟩
       clear BK205
       clear HB
       clear h0_ h1_ h2_ h3_
       have HO230 := n0_
       have HO233 := n1_
       have BK205 := n2_
       have HB := n3_
       clear n0_ n1_ n2_ n3_
       have hHeld : w67.cell? ⟨gb205, 0, none⟩ = some (.int .i64 a2_0) ∧ w67.cell? ⟨gb205, 1, none⟩ = some (.int .i64 a2_1) ∧ w67.cell? ⟨gb205, 2, none⟩ = some (.string a2_2) ∧ w67.cell? ⟨gb205, 3, none⟩ = some (.string a2_3) := hS_
       obtain ⟨Ao69, co69, eo69⟩ := Kd.R_slice HO233.out
       (first | subst eo69 | (injection eo69 with f1_ f2_ f3_; have f4_ := f1_.symm; have f5_ := f3_.symm; clear f1_ f2_ f3_; subst f4_; subst f5_))
       refine norm_ (a' := ?_) ?_ ?_
       rotate_left
       ·simp only [putAll, Act.put, List.setIfInBounds_toArray, List.set_cons_zero, List.set_cons_succ]
        rfl
       refine one_ (i := 5) (N := some 46) #[true, true, true, true, true, true, false] rfl rfl (by kernel_rfl) (by decide) (fun K hK => ?_)
       refine Kd.R_append_rows_step k25 (w0 := w) w.heap.size (by rfl) (.tmp 43) (.tmp 45) 23 25 (.agg #[(.int .i64 0), (.int .i64 0), (.string ⟨#[]⟩), (.string ⟨#[]⟩)]) 48 rfl Tryd.underlying23 info25 rfl (by decide) (by omega) v229 y228 y231 _ _ _ (fun k_ => some k_ ≠ (.slice Ao69 y231.length co69 : Value).ownBlock ∧ k_ ≠ gb205) (fun _ => False) rfl rfl ?aO ?aR (fun _ _ h => h) (fun _ h => h.elim) ?aF ?aB ?aS ?aL ?_
       (case aR => repeat (first | exact (Kd.R_reads' HO233.out).2.2 | (with_reducible refine Kd.C_alloc ?_ _) | (with_reducible refine Kd.C_drewN ?_ _) | (with_reducible refine Kd.C_drew ?_)))
       (case aB => exact (by repeat (first | (with_reducible first | exact HB.out | apply below_alloc | apply pw_below_drewN | apply below_drew1 | refine below_set ?_ GE205.out) | exact HB.out)))
       (case aF => exact (fun k_ hk => ⟨Kd.fresh' (Kd.R_lt (by (with_reducible repeat (first | apply Kd.R_alloc | apply Kd.R_drewN | apply Kd.R_drew)); exact HO233.out)) k_ hk, Kd.freshB (g := gb205) (o := .cells #[.int .i64 a2_0, .int .i64 a2_1, .string a2_2, .string a2_3] 25 (0, 0)) (by (with_reducible repeat (first | refine blk_drewN ?_ _ | refine blk_drew ?_ | refine blk_alloc ?_ _)); exact BK205.out) k_ hk⟩))
       (case aO => exact (by (with_reducible repeat (first | apply Kd.R_alloc | apply Kd.R_drewN | apply Kd.R_drew)); exact HO230.out))
       (case aS => exact (below_size (by repeat (first | (with_reducible first | exact HB.out | apply below_alloc | apply pw_below_drewN | apply below_drew1 | refine below_set ?_ GE205.out) | exact HB.out))))
       (case aL => have := LMc55.out; omega)
       intro v235 w68 ho hb hg hat
       rw [← Ny234.out] at ho
       have n0_ := Aside0.mk (blk_grown (g := gb205) (o := .cells #[.int .i64 a2_0, .int .i64 a2_1, .string a2_2, .string a2_3] 25 (0, 0)) (by (with_reducible repeat (first | refine blk_drewN ?_ _ | refine blk_drew ?_ | refine blk_alloc ?_ _)); exact BK205.out) hg (Kd.R_away HO230.out (fun _ hk => hk.2)))
       have n1_ := Aside0.mk (Kd.R_after (ok := (fun k_ => k_ ≠ gb205)) (by (with_reducible repeat (first | apply Kd.R_alloc | apply Kd.R_drewN | apply Kd.R_drew)); exact Kd.R_mono HO233.out (fun _ hk => ⟨hk.2, hk.1⟩)) hg hat)
       have n2_ := Aside0.mk (hb)
       have n3_ := Aside0.mk (ho)
       clear BK205
       clear HO233
       clear HB
       clear HO230
       have BK205 := n0_
       have HO233 := n1_
       have HB := n2_
       have HO236 := n3_
       clear n0_ n1_ n2_ n3_
       clear ho hb hg hat
       refine hK.out _ _ ⟨(blk_cell BK205.out 0).trans rfl, (blk_cell BK205.out 1).trans rfl, (blk_cell BK205.out 2).trans rfl, (blk_cell BK205.out 3).trans rfl⟩ (fun hHeld => ?_)
       clear hK K
       refine norm_ (a' := ?_) ?_ ?_
       rotate_left
       ·show Act.put _ (some 46) _ = _
        simp only [Act.put, List.setIfInBounds_toArray, List.set_cons_zero, List.set_cons_succ, i64_w, i32_w]
        rfl
       refine pure_ (i := 6) (N := some 11) (v := ?_) (a' := ?_) #[true, true, true, true, true, true, true] rfl rfl (by kernel_rfl) (fun _ _ _ h => h) (Or.inl ⟨by rfl, ?_⟩) ?_ ?_
       rotate_left
       ·intro w'
        go_simp
        with_reducible rfl
       rotate_left
       ·simp only [Act.put, List.setIfInBounds_toArray, List.set_cons_zero, List.set_cons_succ, i64_w, i32_w]
        rfl
       refine done_ (by kernel_rfl) ?_
       obtain ⟨Ao70, co70, eo70⟩ := Kd.R_slice HO236.out
       subst eo70
       try go_wp2_with (first | ((with_reducible refine gate_callee (f := 40) rfl ?_); refine goesL_ (some 51) rfl rfl Tryd.func40 (by kernel_rfl) rfl #[.slice A0 l0.length c0, .slice Ao70 y234.length co70, .int .i64 (l1.length : Int)] rfl (by (try simp only [List.map_toArray, List.map_cons, List.map_nil]); first | done | rfl | (simp only [List.length_drop, List.length_take]; rfl)) ?_; (with_reducible refine (garboardref58_fault.calls k _ _ l0 _ _ y234 (l1.length : Int) t237 _ ?side1 ?side2 ?side3 ?side4 ?side5 A56.out).mono ?_); (case side1 => repeat (first | exact (Kd.C_below HR0.out HB.out) | (with_reducible refine Kd.C_alloc ?_ _) | (with_reducible refine Kd.C_drewN ?_ _) | (with_reducible refine Kd.C_drew ?_))); (case side2 => exact HC0.out); (case side3 => repeat (first | exact (Kd.R_reads' HO236.out).2.2 | (with_reducible refine Kd.C_alloc ?_ _) | (with_reducible refine Kd.C_drewN ?_ _) | (with_reducible refine Kd.C_drew ?_))); (case side4 => exact (Kd.R_reads' HO236.out).2.1); (case side5 => exact HLW.out.below (by repeat (first | (with_reducible first | exact HB.out | apply below_alloc | apply pw_below_drewN | apply below_drew1 | refine below_set ?_ GE205.out) | exact HB.out))); rintro e w71 ⟨rfl, hb⟩; refine ⟨_, rfl, ?_⟩; have n0_ := Aside0.mk (Kd.R_below (by (with_reducible repeat (first | apply Kd.R_alloc | apply Kd.R_drewN | apply Kd.R_drew)); exact HO233.out) hb); have n1_ := Aside0.mk (Kd.R_below (by (with_reducible repeat (first | apply Kd.R_alloc | apply Kd.R_drewN | apply Kd.R_drew)); exact HO236.out) hb); have n2_ := Aside0.mk (blk_below (g := gb205) (o := .cells #[.int .i64 a2_0, .int .i64 a2_1, .string a2_2, .string a2_3] 25 (0, 0)) (by (with_reducible repeat (first | refine blk_drewN ?_ _ | refine blk_drew ?_ | refine blk_alloc ?_ _)); exact BK205.out) hb); have n3_ := Aside0.mk (below_step (by repeat (first | (with_reducible first | exact HB.out | apply below_alloc | apply pw_below_drewN | apply below_drew1 | refine below_set ?_ GE205.out) | exact HB.out)) hb); clear HO233; clear HO236; clear BK205; clear HB; have HO233 := n0_; have HO236 := n1_; have BK205 := n2_; have HB := n3_; clear n0_ n1_ n2_ n3_; (try clear hb); (try clear hb2); (try clear hk); (try clear hi)))
       go_ret2
       exact ⟨_, by first | rfl | (simp [errW_none, errW_some] <;> rfl) | (simp [*, errW_none, errW_some] <;> rfl), by (with_reducible repeat (first | apply Kd.R_alloc | apply Kd.R_drewN | apply Kd.R_drew)); exact Kd.R_mono HO236.out (fun _ hk => trivial), by repeat (first | (with_reducible first | exact HB.out | apply below_alloc | apply pw_below_drewN | apply below_drew1 | refine below_set ?_ GE205.out) | exact HB.out)⟩
      ·rw [if_neg c57] at H
       have c57b0 : (t237 == 0) = false := beq_eq_false_iff_ne.mpr c57
       have c57b1 : (t237 != 0) = true := bne_iff_ne.mpr c57
       simp only [Option.some.injEq, Prod.mk.injEq] at H
       obtain ⟨rfl, rfl⟩ := H
       go_enter Tryd.func16, Tryd.ntmps16
       try go_wp2_with (first | ((with_reducible refine gate_dst (N := 5) rfl ?_); refine box_event ?hg (N := 5) ?hd (cs := #[.int .i64 a2_0, .int .i64 a2_1, .string a2_2, .string a2_3]) (t := 25) ?hr ?_; (case hd => rfl); (case hg => rfl); (case hr => first | (go_simp; done) | (go_simp; rfl)); intro gb205 hg w72 hbox hb; have n0_ := Aside0.mk (below_step (by repeat (first | (with_reducible first | exact HB.out | apply below_alloc | apply pw_below_drewN | apply below_drew1) | exact HB.out)) hb); have n1_ := Aside0.mk (hbox); have n2_ := Aside0.mk ((by rw [hg]; exact (below_size (by repeat (first | (with_reducible first | exact HB.out | apply below_alloc | apply pw_below_drewN | apply below_drew1) | exact HB.out))) : w.heap.size ≤ gb205)); have n3_ := Aside0.mk ((by rw [hg]; exact (below_size (by repeat (first | (with_reducible first | exact HB.out | apply below_alloc | apply pw_below_drewN | apply below_drew1) | exact HB.out))) : w.heap.size ≤ gb205)); clear HB; have HB := n0_; have BK205 := n1_; have GW205 := n2_; have GE205 := n3_; clear n0_ n1_ n2_ n3_; clear hb hbox hg) | ((with_reducible refine gate_callee (f := 14) rfl ?_); refine goesL_ (some 16) rfl rfl Tryd.func14 (by kernel_rfl) rfl #[.slice A0 l0.length c0, .slice A1 l1.length c1] rfl (by (try simp only [List.map_toArray, List.map_cons, List.map_nil]); first | done | rfl | (simp only [List.length_drop, List.length_take]; rfl)) ?_; (with_reducible refine (garboardref58_Check.calls k _ _ l0 _ _ l1 t206 t207 _ ?side1 ?side2 ?side3 ?side4 ?side5 A4.out).mono ?_); (case side1 => repeat (first | exact (Kd.C_below HR0.out HB.out) | (with_reducible refine Kd.C_alloc ?_ _) | (with_reducible refine Kd.C_drewN ?_ _) | (with_reducible refine Kd.C_drew ?_))); (case side2 => exact HC0.out); (case side3 => repeat (first | exact (Kd.C_below HR1.out HB.out) | (with_reducible refine Kd.C_alloc ?_ _) | (with_reducible refine Kd.C_drewN ?_ _) | (with_reducible refine Kd.C_drew ?_))); (case side4 => exact HC1.out); (case side5 => exact HLW.out.below (by repeat (first | (with_reducible first | exact HB.out | apply below_alloc | apply pw_below_drewN | apply below_drew1 | refine below_set ?_ GE205.out) | exact HB.out))); rintro e w73 ⟨rfl, hb⟩; refine ⟨_, rfl, ?_⟩; have n0_ := Aside0.mk (blk_below (g := gb205) (o := .cells #[.int .i64 a2_0, .int .i64 a2_1, .string a2_2, .string a2_3] 25 (0, 0)) (by (with_reducible repeat (first | refine blk_drewN ?_ _ | refine blk_drew ?_ | refine blk_alloc ?_ _)); exact BK205.out) hb); have n1_ := Aside0.mk (below_step (by repeat (first | (with_reducible first | exact HB.out | apply below_alloc | apply pw_below_drewN | apply below_drew1 | refine below_set ?_ GE205.out) | exact HB.out)) hb); clear BK205; clear HB; have BK205 := n0_; have HB := n1_; clear n0_ n1_; (try clear hb); (try clear hb2); (try clear hk); (try clear hi); have hcz74_0 : w73.cell? ⟨gb205, 0, none⟩ = some (.int .i64 a2_0) := (blk_cell BK205.out 0).trans rfl; have hcz74_1 : w73.cell? ⟨gb205, 1, none⟩ = some (.int .i64 a2_1) := (blk_cell BK205.out 1).trans rfl; have hcz74_2 : w73.cell? ⟨gb205, 2, none⟩ = some (.string a2_2) := (blk_cell BK205.out 2).trans rfl; have hcz74_3 : w73.cell? ⟨gb205, 3, none⟩ = some (.string a2_3) := (blk_cell BK205.out 3).trans rfl; have hfz74_0 := blk_frozen BK205.out 0; have hfz74_1 := blk_frozen BK205.out 1; have hfz74_2 := blk_frozen BK205.out 2; have hfz74_3 := blk_frozen BK205.out 3) | ((with_reducible refine gate_callee (f := 41) rfl ?_); refine goesL_ (some 27) rfl rfl Tryd.func41 (by kernel_rfl) rfl #[.slice A0 l0.length c0, .int .i64 a2_0] rfl (by (try simp only [List.map_toArray, List.map_cons, List.map_nil]); first | done | rfl | (simp only [List.length_drop, List.length_take]; rfl)) ?_; (with_reducible refine (garboardref58_find.calls k _ _ l0 a2_0 t208 _ ?side1 ?side2 A9.out).mono ?_); (case side1 => repeat (first | exact (Kd.C_below HR0.out HB.out) | (with_reducible refine Kd.C_alloc ?_ _) | (with_reducible refine Kd.C_drewN ?_ _) | (with_reducible refine Kd.C_drew ?_))); (case side2 => exact HC0.out); rintro e w' ⟨rfl, ⟨nd, rfl⟩⟩; refine ⟨_, rfl, ?_⟩))
       (try (rw [drewN_self w73]; generalize hq_ : World.drewN w73 _ = w73; have n0_ : Aside0 (w73.heap[gb205]? = some (.cells #[.int .i64 a2_0, .int .i64 a2_1, .string a2_2, .string a2_3] 25 (0, 0))) := ⟨by rw [← hq_]; exact (by (with_reducible repeat (first | refine blk_drewN ?_ _ | refine blk_drew ?_ | refine blk_alloc ?_ _)); exact BK205.out)⟩; have n1_ : Aside0 (Below w.heap.size w w73) := ⟨by rw [← hq_]; exact (by repeat (first | (with_reducible first | exact HB.out | apply below_alloc | apply pw_below_drewN | apply below_drew1 | refine below_set ?_ GE205.out) | exact HB.out))⟩; clear BK205 HB hq_; have BK205 := n0_; have HB := n1_; clear n0_ n1_))
       have n0_ := Aside0.mk (blk_drew BK205.out)
       have n1_ := Aside0.mk (below_drew1 HB.out)
       clear BK205
       clear HB
       have BK205 := n0_
       have HB := n1_
       clear n0_ n1_
       refine start_ (n := 7) (S := fun w' => w'.cell? ⟨gb205, 0, none⟩ = some (.int .i64 a2_0) ∧ w'.cell? ⟨gb205, 1, none⟩ = some (.int .i64 a2_1) ∧ w'.cell? ⟨gb205, 2, none⟩ = some (.string a2_2) ∧ w'.cell? ⟨gb205, 3, none⟩ = some (.string a2_3)) (ds := []) #[false, false, false, false, false, false, false] (by kernel_rfl) rfl rfl ⟨(blk_cell BK205.out 0).trans rfl, (blk_cell BK205.out 1).trans rfl, (blk_cell BK205.out 2).trans rfl, (blk_cell BK205.out 3).trans rfl⟩ (fun hHeld => ?_)
       generalize w73.drew = w75 at BK205 HB hHeld ⊢
       refine pure_ (i := 1) (N := some 42) (v := ?_) (a' := ?_) #[false, true, false, false, false, false, false] rfl rfl (by kernel_rfl) (fun _ _ _ h => h) (Or.inl ⟨by rfl, ?_⟩) ?_ ?_
       rotate_left
       ·intro w'
        go_simp
        with_reducible rfl
       rotate_left
       ·simp only [Act.put, List.setIfInBounds_toArray, List.set_cons_zero, List.set_cons_succ, i64_w, i32_w]
        rfl
       refine take_ (i := 3) (N := some 44) (v := ?_) (a' := ?_) #[false, true, false, true, false, false, false] rfl rfl (by kernel_rfl) (fun _ _ _ h => h) (Or.inl ⟨by rfl, ?_⟩) hHeld ?_ ?_
       rotate_left
       ·rintro w' ⟨s0, s1, s2, s3⟩
        go_simp
        with_reducible rfl
       rotate_left
       ·simp only [Act.put, List.setIfInBounds_toArray, List.set_cons_zero, List.set_cons_succ, i64_w, i32_w]
        rfl
       refine join_ (σ := Value × Value × Value) 2 #[true, true, true, true, true, false, false] (fun s_ => [(41, s_.1), (43, s_.2.1), (45, s_.2.2)]) (fun s_ w' => (w'.cell? ⟨gb205, 0, none⟩ = some (.int .i64 a2_0) ∧ w'.cell? ⟨gb205, 1, none⟩ = some (.int .i64 a2_1) ∧ w'.cell? ⟨gb205, 2, none⟩ = some (.string a2_2) ∧ w'.cell? ⟨gb205, 3, none⟩ = some (.string a2_3)) ∧ (Kd.R k25 25 w' w.heap.size (fun k_ => some k_ ≠ (s_.2.2 : Value).ownBlock ∧ k_ ≠ gb205) s_.2.1 y228) ∧ (Kd.R k25 25 w' w.heap.size (fun k_ => some k_ ≠ (s_.2.1 : Value).ownBlock ∧ k_ ≠ gb205) s_.2.2 y231) ∧ (w'.heap[gb205]? = some (.cells #[.int .i64 a2_0, .int .i64 a2_1, .string a2_2, .string a2_3] 25 (0, 0))) ∧ (Below w.heap.size w w')) ?_ ?_
       rotate_left
       ·intro hCont
        refine two_ (i := 0) (j := 4) (Ni := some 41) (Nj := some 45) #[true, true, false, true, false, false, false] #[false, true, false, true, true, false, false] rfl rfl rfl rfl (by kernel_rfl) (by decide) (by decide) (fun K hK => ?_) (fun K hK => ?_)
        ·skip
         refine Kd.R_lit_step k25 _ 25 ?hg (N := 41) ?hd (xs := ([] : List (S25))) (inner := []) (ok := fun _ => True) (okp := fun _ => True) ?hr ?hp (fun _ hk => hk) trivial (Below.refl _ _) (Nat.le_refl _) (by simp) ?_; (case hd => rfl); (case hg => rfl); (case hr => first | (go_simp; done) | (go_simp; rfl)); (case hp => exact (Reps.none _ _))
         intro v226 w76 ho77 hb hg_ hnew_
         clear hg_ hnew_
         (first | rw [← Ny225.out] at ho77 | (simp only [Int.reduceToNat] at ho77; rw [← Ny225.out] at ho77))
         have n0_ := Aside0.mk (Kd.R_lower (Kd.R_newB ho77 (g := gb205) (o := .cells #[.int .i64 a2_0, .int .i64 a2_1, .string a2_2, .string a2_3] 25 (0, 0)) (by (with_reducible repeat (first | refine blk_drewN ?_ _ | refine blk_drew ?_ | refine blk_alloc ?_ _)); exact BK205.out)) (below_size (by repeat (first | (with_reducible first | exact HB.out | apply below_alloc | apply pw_below_drewN | apply below_drew1 | refine below_set ?_ GE205.out) | exact HB.out))))
         have n1_ := Aside0.mk (blk_below (g := gb205) (o := .cells #[.int .i64 a2_0, .int .i64 a2_1, .string a2_2, .string a2_3] 25 (0, 0)) (by (with_reducible repeat (first | refine blk_drewN ?_ _ | refine blk_drew ?_ | refine blk_alloc ?_ _)); exact BK205.out) hb)
         have n2_ := Aside0.mk (below_step (by repeat (first | (with_reducible first | exact HB.out | apply below_alloc | apply pw_below_drewN | apply below_drew1 | refine below_set ?_ GE205.out) | exact HB.out)) hb)
         clear BK205
         clear HB
         have HO227 := n0_
         have BK205 := n1_
         have HB := n2_
         clear n0_ n1_ n2_
         clear hb ho77
         refine hK.out _ _ ⟨(blk_cell BK205.out 0).trans rfl, (blk_cell BK205.out 1).trans rfl, (blk_cell BK205.out 2).trans rfl, (blk_cell BK205.out 3).trans rfl⟩ (fun hHeld => ?_)
         clear hK K
         refine norm_ (a' := ?_) ?_ ?_
         rotate_left
         ·show Act.put _ (some 41) _ = _
          simp only [Act.put, List.setIfInBounds_toArray, List.set_cons_zero, List.set_cons_succ, i64_w, i32_w]
          rfl
         refine two_ (i := 2) (j := 4) (Ni := some 43) (Nj := some 45) #[true, true, true, true, false, false, false] #[true, true, false, true, true, false, false] rfl rfl rfl rfl (by kernel_rfl) (by decide) (by decide) (fun K hK => ?_) (fun K hK => ?_)
         ·skip
          refine Kd.R_append_rows_step k25 (w0 := w) w.heap.size (by rfl) (.tmp 41) (.tmp 42) 23 25 (.agg #[(.int .i64 0), (.int .i64 0), (.string ⟨#[]⟩), (.string ⟨#[]⟩)]) 48 rfl Tryd.underlying23 info25 rfl (by decide) (by omega) v226 y225 l1 _ _ _ (fun k_ => k_ ≠ gb205) (fun _ => False) rfl rfl ?aO ?aR (fun _ _ h => h) (fun _ h => h.elim) ?aF ?aB ?aS ?aL ?_
          (case aR => repeat (first | exact (Kd.C_below HR1.out HB.out) | (with_reducible refine Kd.C_alloc ?_ _) | (with_reducible refine Kd.C_drewN ?_ _) | (with_reducible refine Kd.C_drew ?_)))
          (case aB => exact (by repeat (first | (with_reducible first | exact HB.out | apply below_alloc | apply pw_below_drewN | apply below_drew1 | refine below_set ?_ GE205.out) | exact HB.out)))
          (case aF => exact (fun k_ hk => Kd.freshB (g := gb205) (o := .cells #[.int .i64 a2_0, .int .i64 a2_1, .string a2_2, .string a2_3] 25 (0, 0)) (by (with_reducible repeat (first | refine blk_drewN ?_ _ | refine blk_drew ?_ | refine blk_alloc ?_ _)); exact BK205.out) k_ hk))
          (case aO => exact (by (with_reducible repeat (first | apply Kd.R_alloc | apply Kd.R_drewN | apply Kd.R_drew)); exact Kd.R_mono HO227.out (fun _ hk => hk.2)))
          (case aS => exact (below_size (by repeat (first | (with_reducible first | exact HB.out | apply below_alloc | apply pw_below_drewN | apply below_drew1 | refine below_set ?_ GE205.out) | exact HB.out))))
          (case aL => have := LMc54.out; omega)
          intro v229 w78 ho hb hg hat
          rw [← Ny228.out] at ho
          have n0_ := Aside0.mk (blk_grown (g := gb205) (o := .cells #[.int .i64 a2_0, .int .i64 a2_1, .string a2_2, .string a2_3] 25 (0, 0)) (by (with_reducible repeat (first | refine blk_drewN ?_ _ | refine blk_drew ?_ | refine blk_alloc ?_ _)); exact BK205.out) hg (Kd.R_away HO227.out (fun _ hk => hk.2)))
          have n1_ := Aside0.mk (hb)
          have n2_ := Aside0.mk (ho)
          clear BK205
          clear HB
          clear HO227
          have BK205 := n0_
          have HB := n1_
          have HO230 := n2_
          clear n0_ n1_ n2_
          clear ho hb hg hat
          refine hK.out _ _ ⟨(blk_cell BK205.out 0).trans rfl, (blk_cell BK205.out 1).trans rfl, (blk_cell BK205.out 2).trans rfl, (blk_cell BK205.out 3).trans rfl⟩ (fun hHeld => ?_)
          clear hK K
          refine norm_ (a' := ?_) ?_ ?_
          rotate_left
          ·show Act.put _ (some 43) _ = _
           simp only [Act.put, List.setIfInBounds_toArray, List.set_cons_zero, List.set_cons_succ, i64_w, i32_w]
           rfl
          refine one_ (i := 4) (N := some 45) #[true, true, true, true, true, false, false] rfl rfl (by kernel_rfl) (by decide) (fun K hK => ?_)
          refine Kd.R_lit_step k25 _ 25 ?hg (N := 45) ?hd (xs := ([(⟨a2_0, a2_1, a2_2, a2_3⟩ : S25)] : List (S25))) (inner := [.int .i64 a2_0, .int .i64 a2_1, .string a2_2, .string a2_3]) (ok := fun _ => True) (okp := fun _ => True) ?hr ?hp (fun _ hk => hk) trivial (Below.refl _ _) (Nat.le_refl _) (by simp) ?_; (case hd => rfl); (case hg => rfl); (case hr => first | (go_simp; done) | (go_simp; rfl)); (case hp => exact (Reps.c4 (show Kd.M k25 _ _ _ (⟨a2_0, a2_1, a2_2, a2_3⟩ : S25) [.int .i64 a2_0, .int .i64 a2_1, .string a2_2, .string a2_3] from (k25_mkM _ _ _ (⟨a2_0, a2_1, a2_2, a2_3⟩ : S25) )) (Reps.none _ _)))
          intro v232 w79 ho80 hb hg_ hnew_
          clear hg_ hnew_
          (first | rw [← Ny231.out] at ho80 | (simp only [Int.reduceToNat] at ho80; rw [← Ny231.out] at ho80))
          have n0_ := Aside0.mk (Kd.R_elder' (by (with_reducible repeat (first | apply Kd.R_alloc | apply Kd.R_drewN | apply Kd.R_drew)); exact HO230.out) (Kd.R_base ho80) hb)
          have n1_ := Aside0.mk (Kd.R_lower (Kd.R_newB (Kd.R_new' ho80 (Kd.R_lt (by (with_reducible repeat (first | apply Kd.R_alloc | apply Kd.R_drewN | apply Kd.R_drew)); exact HO230.out))) (g := gb205) (o := .cells #[.int .i64 a2_0, .int .i64 a2_1, .string a2_2, .string a2_3] 25 (0, 0)) (by (with_reducible repeat (first | refine blk_drewN ?_ _ | refine blk_drew ?_ | refine blk_alloc ?_ _)); exact BK205.out)) (below_size (by repeat (first | (with_reducible first | exact HB.out | apply below_alloc | apply pw_below_drewN | apply below_drew1 | refine below_set ?_ GE205.out) | exact HB.out))))
          have n2_ := Aside0.mk (blk_below (g := gb205) (o := .cells #[.int .i64 a2_0, .int .i64 a2_1, .string a2_2, .string a2_3] 25 (0, 0)) (by (with_reducible repeat (first | refine blk_drewN ?_ _ | refine blk_drew ?_ | refine blk_alloc ?_ _)); exact BK205.out) hb)
          have n3_ := Aside0.mk (below_step (by repeat (first | (with_reducible first | exact HB.out | apply below_alloc | apply pw_below_drewN | apply below_drew1 | refine below_set ?_ GE205.out) | exact HB.out)) hb)
          clear HO230
          clear BK205
          clear HB
          have HO230 := n0_
          have HO233 := n1_
          have BK205 := n2_
          have HB := n3_
          clear n0_ n1_ n2_ n3_
          clear hb ho80
          refine hK.out _ _ ⟨(blk_cell BK205.out 0).trans rfl, (blk_cell BK205.out 1).trans rfl, (blk_cell BK205.out 2).trans rfl, (blk_cell BK205.out 3).trans rfl⟩ (fun hHeld => ?_)
          clear hK K
          refine norm_ (a' := ?_) ?_ ?_
          rotate_left
          ·show Act.put _ (some 45) _ = _
           simp only [Act.put, List.setIfInBounds_toArray, List.set_cons_zero, List.set_cons_succ, i64_w, i32_w]
           rfl
          exact norm_ (by simp only [putAll, Act.put, List.setIfInBounds_toArray, List.set_cons_zero, List.set_cons_succ]) (hCont (v226, v229, v232) _ ⟨hHeld, (by (with_reducible repeat (first | apply Kd.R_alloc | apply Kd.R_drewN | apply Kd.R_drew)); exact Kd.R_mono HO230.out (fun _ hk => ⟨hk.2, hk.1⟩)), (by (with_reducible repeat (first | apply Kd.R_alloc | apply Kd.R_drewN | apply Kd.R_drew)); exact Kd.R_mono HO233.out (fun _ hk => ⟨hk.1.2, hk.2⟩)), (by (with_reducible repeat (first | refine blk_drewN ?_ _ | refine blk_drew ?_ | refine blk_alloc ?_ _)); exact BK205.out), (by repeat (first | (with_reducible first | exact HB.out | apply below_alloc | apply pw_below_drewN | apply below_drew1 | refine below_set ?_ GE205.out) | exact HB.out))⟩)
         ·skip
          refine Kd.R_lit_step k25 _ 25 ?hg (N := 45) ?hd (xs := ([(⟨a2_0, a2_1, a2_2, a2_3⟩ : S25)] : List (S25))) (inner := [.int .i64 a2_0, .int .i64 a2_1, .string a2_2, .string a2_3]) (ok := fun _ => True) (okp := fun _ => True) ?hr ?hp (fun _ hk => hk) trivial (Below.refl _ _) (Nat.le_refl _) (by simp) ?_; (case hd => rfl); (case hg => rfl); (case hr => first | (go_simp; done) | (go_simp; rfl)); (case hp => exact (Reps.c4 (show Kd.M k25 _ _ _ (⟨a2_0, a2_1, a2_2, a2_3⟩ : S25) [.int .i64 a2_0, .int .i64 a2_1, .string a2_2, .string a2_3] from (k25_mkM _ _ _ (⟨a2_0, a2_1, a2_2, a2_3⟩ : S25) )) (Reps.none _ _)))
          intro v232 w78 ho79 hb hg_ hnew_
          clear hg_ hnew_
          (first | rw [← Ny231.out] at ho79 | (simp only [Int.reduceToNat] at ho79; rw [← Ny231.out] at ho79))
          have n0_ := Aside0.mk (Kd.R_elder' (by (with_reducible repeat (first | apply Kd.R_alloc | apply Kd.R_drewN | apply Kd.R_drew)); exact HO227.out) (Kd.R_base ho79) hb)
          have n1_ := Aside0.mk (Kd.R_lower (Kd.R_newB (Kd.R_new' ho79 (Kd.R_lt (by (with_reducible repeat (first | apply Kd.R_alloc | apply Kd.R_drewN | apply Kd.R_drew)); exact HO227.out))) (g := gb205) (o := .cells #[.int .i64 a2_0, .int .i64 a2_1, .string a2_2, .string a2_3] 25 (0, 0)) (by (with_reducible repeat (first | refine blk_drewN ?_ _ | refine blk_drew ?_ | refine blk_alloc ?_ _)); exact BK205.out)) (below_size (by repeat (first | (with_reducible first | exact HB.out | apply below_alloc | apply pw_below_drewN | apply below_drew1 | refine below_set ?_ GE205.out) | exact HB.out))))
          have n2_ := Aside0.mk (blk_below (g := gb205) (o := .cells #[.int .i64 a2_0, .int .i64 a2_1, .string a2_2, .string a2_3] 25 (0, 0)) (by (with_reducible repeat (first | refine blk_drewN ?_ _ | refine blk_drew ?_ | refine blk_alloc ?_ _)); exact BK205.out) hb)
          have n3_ := Aside0.mk (below_step (by repeat (first | (with_reducible first | exact HB.out | apply below_alloc | apply pw_below_drewN | apply below_drew1 | refine below_set ?_ GE205.out) | exact HB.out)) hb)
          clear HO227
          clear BK205
          clear HB
          have HO227 := n0_
          have HO233 := n1_
          have BK205 := n2_
          have HB := n3_
          clear n0_ n1_ n2_ n3_
          clear hb ho79
          refine hK.out _ _ ⟨(blk_cell BK205.out 0).trans rfl, (blk_cell BK205.out 1).trans rfl, (blk_cell BK205.out 2).trans rfl, (blk_cell BK205.out 3).trans rfl⟩ (fun hHeld => ?_)
          clear hK K
          refine norm_ (a' := ?_) ?_ ?_
          rotate_left
          ·show Act.put _ (some 45) _ = _
           simp only [Act.put, List.setIfInBounds_toArray, List.set_cons_zero, List.set_cons_succ, i64_w, i32_w]
           rfl
          refine one_ (i := 2) (N := some 43) #[true, true, true, true, true, false, false] rfl rfl (by kernel_rfl) (by decide) (fun K hK => ?_)
          refine Kd.R_append_rows_step k25 (w0 := w) w.heap.size (by rfl) (.tmp 41) (.tmp 42) 23 25 (.agg #[(.int .i64 0), (.int .i64 0), (.string ⟨#[]⟩), (.string ⟨#[]⟩)]) 48 rfl Tryd.underlying23 info25 rfl (by decide) (by omega) v226 y225 l1 _ _ _ (fun k_ => some k_ ≠ (v232 : Value).ownBlock ∧ k_ ≠ gb205) (fun _ => False) rfl rfl ?aO ?aR (fun _ _ h => h) (fun _ h => h.elim) ?aF ?aB ?aS ?aL ?_
          (case aR => repeat (first | exact (Kd.C_below HR1.out HB.out) | (with_reducible refine Kd.C_alloc ?_ _) | (with_reducible refine Kd.C_drewN ?_ _) | (with_reducible refine Kd.C_drew ?_)))
          (case aB => exact (by repeat (first | (with_reducible first | exact HB.out | apply below_alloc | apply pw_below_drewN | apply below_drew1 | refine below_set ?_ GE205.out) | exact HB.out)))
          (case aF => exact (fun k_ hk => ⟨Kd.fresh' (Kd.R_lt (by (with_reducible repeat (first | apply Kd.R_alloc | apply Kd.R_drewN | apply Kd.R_drew)); exact HO233.out)) k_ hk, Kd.freshB (g := gb205) (o := .cells #[.int .i64 a2_0, .int .i64 a2_1, .string a2_2, .string a2_3] 25 (0, 0)) (by (with_reducible repeat (first | refine blk_drewN ?_ _ | refine blk_drew ?_ | refine blk_alloc ?_ _)); exact BK205.out) k_ hk⟩))
          (case aO => exact (by (with_reducible repeat (first | apply Kd.R_alloc | apply Kd.R_drewN | apply Kd.R_drew)); exact Kd.R_mono HO227.out (fun _ hk => ⟨hk.2, hk.1.2⟩)))
          (case aS => exact (below_size (by repeat (first | (with_reducible first | exact HB.out | apply below_alloc | apply pw_below_drewN | apply below_drew1 | refine below_set ?_ GE205.out) | exact HB.out))))
          (case aL => have := LMc54.out; omega)
          intro v229 w80 ho hb hg hat
          rw [← Ny228.out] at ho
          have n0_ := Aside0.mk (blk_grown (g := gb205) (o := .cells #[.int .i64 a2_0, .int .i64 a2_1, .string a2_2, .string a2_3] 25 (0, 0)) (by (with_reducible repeat (first | refine blk_drewN ?_ _ | refine blk_drew ?_ | refine blk_alloc ?_ _)); exact BK205.out) hg (Kd.R_away HO227.out (fun _ hk => hk.1.2)))
          have n1_ := Aside0.mk (Kd.R_after (ok := (fun k_ => k_ ≠ gb205)) (by (with_reducible repeat (first | apply Kd.R_alloc | apply Kd.R_drewN | apply Kd.R_drew)); exact Kd.R_mono HO233.out (fun _ hk => ⟨hk.2, hk.1.2⟩)) hg hat)
          have n2_ := Aside0.mk (hb)
          have n3_ := Aside0.mk (ho)
          clear BK205
          clear HO233
          clear HB
          clear HO227
          have BK205 := n0_
          have HO233 := n1_
          have HB := n2_
          have HO230 := n3_
          clear n0_ n1_ n2_ n3_
          clear ho hb hg hat
          refine hK.out _ _ ⟨(blk_cell BK205.out 0).trans rfl, (blk_cell BK205.out 1).trans rfl, (blk_cell BK205.out 2).trans rfl, (blk_cell BK205.out 3).trans rfl⟩ (fun hHeld => ?_)
          clear hK K
          refine norm_ (a' := ?_) ?_ ?_
          rotate_left
          ·show Act.put _ (some 43) _ = _
           simp only [Act.put, List.setIfInBounds_toArray, List.set_cons_zero, List.set_cons_succ, i64_w, i32_w]
           rfl
          exact norm_ (by simp only [putAll, Act.put, List.setIfInBounds_toArray, List.set_cons_zero, List.set_cons_succ]) (hCont (v226, v229, v232) _ ⟨hHeld, (by (with_reducible repeat (first | apply Kd.R_alloc | apply Kd.R_drewN | apply Kd.R_drew)); exact HO230.out), (by (with_reducible repeat (first | apply Kd.R_alloc | apply Kd.R_drewN | apply Kd.R_drew)); exact Kd.R_mono HO233.out (fun _ hk => ⟨hk.2, hk.1⟩)), (by (with_reducible repeat (first | refine blk_drewN ?_ _ | refine blk_drew ?_ | refine blk_alloc ?_ _)); exact BK205.out), (by repeat (first | (with_reducible first | exact HB.out | apply below_alloc | apply pw_below_drewN | apply below_drew1 | refine below_set ?_ GE205.out) | exact HB.out))⟩)
        ·skip
         refine Kd.R_lit_step k25 _ 25 ?hg (N := 45) ?hd (xs := ([(⟨a2_0, a2_1, a2_2, a2_3⟩ : S25)] : List (S25))) (inner := [.int .i64 a2_0, .int .i64 a2_1, .string a2_2, .string a2_3]) (ok := fun _ => True) (okp := fun _ => True) ?hr ?hp (fun _ hk => hk) trivial (Below.refl _ _) (Nat.le_refl _) (by simp) ?_; (case hd => rfl); (case hg => rfl); (case hr => first | (go_simp; done) | (go_simp; rfl)); (case hp => exact (Reps.c4 (show Kd.M k25 _ _ _ (⟨a2_0, a2_1, a2_2, a2_3⟩ : S25) [.int .i64 a2_0, .int .i64 a2_1, .string a2_2, .string a2_3] from (k25_mkM _ _ _ (⟨a2_0, a2_1, a2_2, a2_3⟩ : S25) )) (Reps.none _ _)))
         intro v232 w76 ho77 hb hg_ hnew_
         clear hg_ hnew_
         (first | rw [← Ny231.out] at ho77 | (simp only [Int.reduceToNat] at ho77; rw [← Ny231.out] at ho77))
         have n0_ := Aside0.mk (Kd.R_lower (Kd.R_newB ho77 (g := gb205) (o := .cells #[.int .i64 a2_0, .int .i64 a2_1, .string a2_2, .string a2_3] 25 (0, 0)) (by (with_reducible repeat (first | refine blk_drewN ?_ _ | refine blk_drew ?_ | refine blk_alloc ?_ _)); exact BK205.out)) (below_size (by repeat (first | (with_reducible first | exact HB.out | apply below_alloc | apply pw_below_drewN | apply below_drew1 | refine below_set ?_ GE205.out) | exact HB.out))))
         have n1_ := Aside0.mk (blk_below (g := gb205) (o := .cells #[.int .i64 a2_0, .int .i64 a2_1, .string a2_2, .string a2_3] 25 (0, 0)) (by (with_reducible repeat (first | refine blk_drewN ?_ _ | refine blk_drew ?_ | refine blk_alloc ?_ _)); exact BK205.out) hb)
         have n2_ := Aside0.mk (below_step (by repeat (first | (with_reducible first | exact HB.out | apply below_alloc | apply pw_below_drewN | apply below_drew1 | refine below_set ?_ GE205.out) | exact HB.out)) hb)
         clear BK205
         clear HB
         have HO233 := n0_
         have BK205 := n1_
         have HB := n2_
         clear n0_ n1_ n2_
         clear hb ho77
         refine hK.out _ _ ⟨(blk_cell BK205.out 0).trans rfl, (blk_cell BK205.out 1).trans rfl, (blk_cell BK205.out 2).trans rfl, (blk_cell BK205.out 3).trans rfl⟩ (fun hHeld => ?_)
         clear hK K
         refine norm_ (a' := ?_) ?_ ?_
         rotate_left
         ·show Act.put _ (some 45) _ = _
          simp only [Act.put, List.setIfInBounds_toArray, List.set_cons_zero, List.set_cons_succ, i64_w, i32_w]
          rfl
         refine one_ (i := 0) (N := some 41) #[true, true, false, true, true, false, false] rfl rfl (by kernel_rfl) (by decide) (fun K hK => ?_)
         refine Kd.R_lit_step k25 _ 25 ?hg (N := 41) ?hd (xs := ([] : List (S25))) (inner := []) (ok := fun _ => True) (okp := fun _ => True) ?hr ?hp (fun _ hk => hk) trivial (Below.refl _ _) (Nat.le_refl _) (by simp) ?_; (case hd => rfl); (case hg => rfl); (case hr => first | (go_simp; done) | (go_simp; rfl)); (case hp => exact (Reps.none _ _))
         intro v226 w78 ho79 hb hg_ hnew_
         clear hg_ hnew_
         (first | rw [← Ny225.out] at ho79 | (simp only [Int.reduceToNat] at ho79; rw [← Ny225.out] at ho79))
         have n0_ := Aside0.mk (Kd.R_elder' (by (with_reducible repeat (first | apply Kd.R_alloc | apply Kd.R_drewN | apply Kd.R_drew)); exact HO233.out) (Kd.R_base ho79) hb)
         have n1_ := Aside0.mk (Kd.R_lower (Kd.R_newB (Kd.R_new' ho79 (Kd.R_lt (by (with_reducible repeat (first | apply Kd.R_alloc | apply Kd.R_drewN | apply Kd.R_drew)); exact HO233.out))) (g := gb205) (o := .cells #[.int .i64 a2_0, .int .i64 a2_1, .string a2_2, .string a2_3] 25 (0, 0)) (by (with_reducible repeat (first | refine blk_drewN ?_ _ | refine blk_drew ?_ | refine blk_alloc ?_ _)); exact BK205.out)) (below_size (by repeat (first | (with_reducible first | exact HB.out | apply below_alloc | apply pw_below_drewN | apply below_drew1 | refine below_set ?_ GE205.out) | exact HB.out))))
         have n2_ := Aside0.mk (blk_below (g := gb205) (o := .cells #[.int .i64 a2_0, .int .i64 a2_1, .string a2_2, .string a2_3] 25 (0, 0)) (by (with_reducible repeat (first | refine blk_drewN ?_ _ | refine blk_drew ?_ | refine blk_alloc ?_ _)); exact BK205.out) hb)
         have n3_ := Aside0.mk (below_step (by repeat (first | (with_reducible first | exact HB.out | apply below_alloc | apply pw_below_drewN | apply below_drew1 | refine below_set ?_ GE205.out) | exact HB.out)) hb)
         clear HO233
         clear BK205
         clear HB
         have HO233 := n0_
         have HO227 := n1_
         have BK205 := n2_
         have HB := n3_
         clear n0_ n1_ n2_ n3_
         clear hb ho79
         refine hK.out _ _ ⟨(blk_cell BK205.out 0).trans rfl, (blk_cell BK205.out 1).trans rfl, (blk_cell BK205.out 2).trans rfl, (blk_cell BK205.out 3).trans rfl⟩ (fun hHeld => ?_)
         clear hK K
         refine norm_ (a' := ?_) ?_ ?_
         rotate_left
         ·show Act.put _ (some 41) _ = _
          simp only [Act.put, List.setIfInBounds_toArray, List.set_cons_zero, List.set_cons_succ, i64_w, i32_w]
          rfl
         refine one_ (i := 2) (N := some 43) #[true, true, true, true, true, false, false] rfl rfl (by kernel_rfl) (by decide) (fun K hK => ?_)
         refine Kd.R_append_rows_step k25 (w0 := w) w.heap.size (by rfl) (.tmp 41) (.tmp 42) 23 25 (.agg #[(.int .i64 0), (.int .i64 0), (.string ⟨#[]⟩), (.string ⟨#[]⟩)]) 48 rfl Tryd.underlying23 info25 rfl (by decide) (by omega) v226 y225 l1 _ _ _ (fun k_ => some k_ ≠ (v232 : Value).ownBlock ∧ k_ ≠ gb205) (fun _ => False) rfl rfl ?aO ?aR (fun _ _ h => h) (fun _ h => h.elim) ?aF ?aB ?aS ?aL ?_
         (case aR => repeat (first | exact (Kd.C_below HR1.out HB.out) | (with_reducible refine Kd.C_alloc ?_ _) | (with_reducible refine Kd.C_drewN ?_ _) | (with_reducible refine Kd.C_drew ?_)))
         (case aB => exact (by repeat (first | (with_reducible first | exact HB.out | apply below_alloc | apply pw_below_drewN | apply below_drew1 | refine below_set ?_ GE205.out) | exact HB.out)))
         (case aF => exact (fun k_ hk => ⟨Kd.fresh' (Kd.R_lt (by (with_reducible repeat (first | apply Kd.R_alloc | apply Kd.R_drewN | apply Kd.R_drew)); exact HO233.out)) k_ hk, Kd.freshB (g := gb205) (o := .cells #[.int .i64 a2_0, .int .i64 a2_1, .string a2_2, .string a2_3] 25 (0, 0)) (by (with_reducible repeat (first | refine blk_drewN ?_ _ | refine blk_drew ?_ | refine blk_alloc ?_ _)); exact BK205.out) k_ hk⟩))
         (case aO => exact (by (with_reducible repeat (first | apply Kd.R_alloc | apply Kd.R_drewN | apply Kd.R_drew)); exact Kd.R_mono HO227.out (fun _ hk => ⟨hk.1.2, hk.2⟩)))
         (case aS => exact (below_size (by repeat (first | (with_reducible first | exact HB.out | apply below_alloc | apply pw_below_drewN | apply below_drew1 | refine below_set ?_ GE205.out) | exact HB.out))))
         (case aL => have := LMc54.out; omega)
         intro v229 w80 ho hb hg hat
         rw [← Ny228.out] at ho
         have n0_ := Aside0.mk (blk_grown (g := gb205) (o := .cells #[.int .i64 a2_0, .int .i64 a2_1, .string a2_2, .string a2_3] 25 (0, 0)) (by (with_reducible repeat (first | refine blk_drewN ?_ _ | refine blk_drew ?_ | refine blk_alloc ?_ _)); exact BK205.out) hg (Kd.R_away HO227.out (fun _ hk => hk.2)))
         have n1_ := Aside0.mk (Kd.R_after (ok := (fun k_ => k_ ≠ gb205)) (by (with_reducible repeat (first | apply Kd.R_alloc | apply Kd.R_drewN | apply Kd.R_drew)); exact Kd.R_mono HO233.out (fun _ hk => ⟨hk.1.2, hk.2⟩)) hg hat)
         have n2_ := Aside0.mk (hb)
         have n3_ := Aside0.mk (ho)
         clear BK205
         clear HO233
         clear HB
         clear HO227
         have BK205 := n0_
         have HO233 := n1_
         have HB := n2_
         have HO230 := n3_
         clear n0_ n1_ n2_ n3_
         clear ho hb hg hat
         refine hK.out _ _ ⟨(blk_cell BK205.out 0).trans rfl, (blk_cell BK205.out 1).trans rfl, (blk_cell BK205.out 2).trans rfl, (blk_cell BK205.out 3).trans rfl⟩ (fun hHeld => ?_)
         clear hK K
         refine norm_ (a' := ?_) ?_ ?_
         rotate_left
         ·show Act.put _ (some 43) _ = _
          simp only [Act.put, List.setIfInBounds_toArray, List.set_cons_zero, List.set_cons_succ, i64_w, i32_w]
          rfl
         exact norm_ (by simp only [putAll, Act.put, List.setIfInBounds_toArray, List.set_cons_zero, List.set_cons_succ]) (hCont (v226, v229, v232) _ ⟨hHeld, (by (with_reducible repeat (first | apply Kd.R_alloc | apply Kd.R_drewN | apply Kd.R_drew)); exact HO230.out), (by (with_reducible repeat (first | apply Kd.R_alloc | apply Kd.R_drewN | apply Kd.R_drew)); exact Kd.R_mono HO233.out (fun _ hk => ⟨hk.2, hk.1⟩)), (by (with_reducible repeat (first | refine blk_drewN ?_ _ | refine blk_drew ?_ | refine blk_alloc ?_ _)); exact BK205.out), (by repeat (first | (with_reducible first | exact HB.out | apply below_alloc | apply pw_below_drewN | apply below_drew1 | refine below_set ?_ GE205.out) | exact HB.out))⟩)
       rintro ⟨v226, v229, v232⟩ w81 ⟨hS_, h0_, h1_, h2_, h3_⟩
       have n0_ : Aside0 (Kd.R k25 25 w81 w.heap.size (fun k_ => some k_ ≠ (v232 : Value).ownBlock ∧ k_ ≠ gb205) v229 y228) := ⟨h0_⟩
       have n1_ : Aside0 (Kd.R k25 25 w81 w.heap.size (fun k_ => some k_ ≠ (v229 : Value).ownBlock ∧ k_ ≠ gb205) v232 y231) := ⟨h1_⟩
       have n2_ : Aside0 (w81.heap[gb205]? = some (.cells #[.int .i64 a2_0, .int .i64 a2_1, .string a2_2, .string a2_3] 25 (0, 0))) := ⟨h2_⟩
       have n3_ : Aside0 (Below w.heap.size w w81) := ⟨h3_⟩
       clear BK205
       clear HB
       clear h0_ h1_ h2_ h3_
       have HO230 := n0_
       have HO233 := n1_
       have BK205 := n2_
       have HB := n3_
       clear n0_ n1_ n2_ n3_
       have hHeld : w81.cell? ⟨gb205, 0, none⟩ = some (.int .i64 a2_0) ∧ w81.cell? ⟨gb205, 1, none⟩ = some (.int .i64 a2_1) ∧ w81.cell? ⟨gb205, 2, none⟩ = some (.string a2_2) ∧ w81.cell? ⟨gb205, 3, none⟩ = some (.string a2_3) := hS_
       obtain ⟨Ao83, co83, eo83⟩ := Kd.R_slice HO233.out
       (first | subst eo83 | (injection eo83 with f1_ f2_ f3_; have f4_ := f1_.symm; have f5_ := f3_.symm; clear f1_ f2_ f3_; subst f4_; subst f5_))
       refine norm_ (a' := ?_) ?_ ?_
       rotate_left
       ·simp only [putAll, Act.put, List.setIfInBounds_toArray, List.set_cons_zero, List.set_cons_succ]
        rfl
       refine one_ (i := 5) (N := some 46) #[true, true, true, true, true, true, false] rfl rfl (by kernel_rfl) (by decide) (fun K hK => ?_)
       refine Kd.R_append_rows_step k25 (w0 := w) w.heap.size (by rfl) (.tmp 43) (.tmp 45) 23 25 (.agg #[(.int .i64 0), (.int .i64 0), (.string ⟨#[]⟩), (.string ⟨#[]⟩)]) 48 rfl Tryd.underlying23 info25 rfl (by decide) (by omega) v229 y228 y231 _ _ _ (fun k_ => some k_ ≠ (.slice Ao83 y231.length co83 : Value).ownBlock ∧ k_ ≠ gb205) (fun _ => False) rfl rfl ?aO ?aR (fun _ _ h => h) (fun _ h => h.elim) ?aF ?aB ?aS ?aL ?_
       (case aR => repeat (first | exact (Kd.R_reads' HO233.out).2.2 | (with_reducible refine Kd.C_alloc ?_ _) | (with_reducible refine Kd.C_drewN ?_ _) | (with_reducible refine Kd.C_drew ?_)))
       (case aB => exact (by repeat (first | (with_reducible first | exact HB.out | apply below_alloc | apply pw_below_drewN | apply below_drew1 | refine below_set ?_ GE205.out) | exact HB.out)))
       (case aF => exact (fun k_ hk => ⟨Kd.fresh' (Kd.R_lt (by (with_reducible repeat (first | apply Kd.R_alloc | apply Kd.R_drewN | apply Kd.R_drew)); exact HO233.out)) k_ hk, Kd.freshB (g := gb205) (o := .cells #[.int .i64 a2_0, .int .i64 a2_1, .string a2_2, .string a2_3] 25 (0, 0)) (by (with_reducible repeat (first | refine blk_drewN ?_ _ | refine blk_drew ?_ | refine blk_alloc ?_ _)); exact BK205.out) k_ hk⟩))
       (case aO => exact (by (with_reducible repeat (first | apply Kd.R_alloc | apply Kd.R_drewN | apply Kd.R_drew)); exact HO230.out))
       (case aS => exact (below_size (by repeat (first | (with_reducible first | exact HB.out | apply below_alloc | apply pw_below_drewN | apply below_drew1 | refine below_set ?_ GE205.out) | exact HB.out))))
       (case aL => have := LMc55.out; omega)
       intro v235 w82 ho hb hg hat
       rw [← Ny234.out] at ho
       have n0_ := Aside0.mk (blk_grown (g := gb205) (o := .cells #[.int .i64 a2_0, .int .i64 a2_1, .string a2_2, .string a2_3] 25 (0, 0)) (by (with_reducible repeat (first | refine blk_drewN ?_ _ | refine blk_drew ?_ | refine blk_alloc ?_ _)); exact BK205.out) hg (Kd.R_away HO230.out (fun _ hk => hk.2)))
       have n1_ := Aside0.mk (Kd.R_after (ok := (fun k_ => k_ ≠ gb205)) (by (with_reducible repeat (first | apply Kd.R_alloc | apply Kd.R_drewN | apply Kd.R_drew)); exact Kd.R_mono HO233.out (fun _ hk => ⟨hk.2, hk.1⟩)) hg hat)
       have n2_ := Aside0.mk (hb)
       have n3_ := Aside0.mk (ho)
       clear BK205
       clear HO233
       clear HB
       clear HO230
       have BK205 := n0_
       have HO233 := n1_
       have HB := n2_
       have HO236 := n3_
       clear n0_ n1_ n2_ n3_
       clear ho hb hg hat
       refine hK.out _ _ ⟨(blk_cell BK205.out 0).trans rfl, (blk_cell BK205.out 1).trans rfl, (blk_cell BK205.out 2).trans rfl, (blk_cell BK205.out 3).trans rfl⟩ (fun hHeld => ?_)
       clear hK K
       refine norm_ (a' := ?_) ?_ ?_
       rotate_left
       ·show Act.put _ (some 46) _ = _
        simp only [Act.put, List.setIfInBounds_toArray, List.set_cons_zero, List.set_cons_succ, i64_w, i32_w]
        rfl
       refine pure_ (i := 6) (N := some 11) (v := ?_) (a' := ?_) #[true, true, true, true, true, true, true] rfl rfl (by kernel_rfl) (fun _ _ _ h => h) (Or.inl ⟨by rfl, ?_⟩) ?_ ?_
       rotate_left
       ·intro w'
        go_simp
        with_reducible rfl
       rotate_left
       ·simp only [Act.put, List.setIfInBounds_toArray, List.set_cons_zero, List.set_cons_succ, i64_w, i32_w]
        rfl
       refine done_ (by kernel_rfl) ?_
       obtain ⟨Ao84, co84, eo84⟩ := Kd.R_slice HO236.out
       subst eo84
       try go_wp2_with (first | ((with_reducible refine gate_callee (f := 40) rfl ?_); refine goesL_ (some 51) rfl rfl Tryd.func40 (by kernel_rfl) rfl #[.slice A0 l0.length c0, .slice Ao84 y234.length co84, .int .i64 (l1.length : Int)] rfl (by (try simp only [List.map_toArray, List.map_cons, List.map_nil]); first | done | rfl | (simp only [List.length_drop, List.length_take]; rfl)) ?_; (with_reducible refine (garboardref58_fault.calls k _ _ l0 _ _ y234 (l1.length : Int) t237 _ ?side1 ?side2 ?side3 ?side4 ?side5 A56.out).mono ?_); (case side1 => repeat (first | exact (Kd.C_below HR0.out HB.out) | (with_reducible refine Kd.C_alloc ?_ _) | (with_reducible refine Kd.C_drewN ?_ _) | (with_reducible refine Kd.C_drew ?_))); (case side2 => exact HC0.out); (case side3 => repeat (first | exact (Kd.R_reads' HO236.out).2.2 | (with_reducible refine Kd.C_alloc ?_ _) | (with_reducible refine Kd.C_drewN ?_ _) | (with_reducible refine Kd.C_drew ?_))); (case side4 => exact (Kd.R_reads' HO236.out).2.1); (case side5 => exact HLW.out.below (by repeat (first | (with_reducible first | exact HB.out | apply below_alloc | apply pw_below_drewN | apply below_drew1 | refine below_set ?_ GE205.out) | exact HB.out))); rintro e w85 ⟨rfl, hb⟩; refine ⟨_, rfl, ?_⟩; have n0_ := Aside0.mk (Kd.R_below (by (with_reducible repeat (first | apply Kd.R_alloc | apply Kd.R_drewN | apply Kd.R_drew)); exact HO233.out) hb); have n1_ := Aside0.mk (Kd.R_below (by (with_reducible repeat (first | apply Kd.R_alloc | apply Kd.R_drewN | apply Kd.R_drew)); exact HO236.out) hb); have n2_ := Aside0.mk (blk_below (g := gb205) (o := .cells #[.int .i64 a2_0, .int .i64 a2_1, .string a2_2, .string a2_3] 25 (0, 0)) (by (with_reducible repeat (first | refine blk_drewN ?_ _ | refine blk_drew ?_ | refine blk_alloc ?_ _)); exact BK205.out) hb); have n3_ := Aside0.mk (below_step (by repeat (first | (with_reducible first | exact HB.out | apply below_alloc | apply pw_below_drewN | apply below_drew1 | refine below_set ?_ GE205.out) | exact HB.out)) hb); clear HO233; clear HO236; clear BK205; clear HB; have HO233 := n0_; have HO236 := n1_; have BK205 := n2_; have HB := n3_; clear n0_ n1_ n2_ n3_; (try clear hb); (try clear hb2); (try clear hk); (try clear hi)))
       go_ret2
       exact ⟨_, by first | rfl | (simp [errW_none, errW_some] <;> rfl) | (simp [*, errW_none, errW_some] <;> rfl), by first | exact Kd.R_nil _ _ _ _ _ | exact Kd.N_nil _ _ _ _ _ | exact Kd.V_nil _ _ _ _ _ | exact Kd.Q_nil _ _ _ _ _ | exact Kd.S_nil _ _ _ _ _, by repeat (first | (with_reducible first | exact HB.out | apply below_alloc | apply pw_below_drewN | apply below_drew1 | refine below_set ?_ GE205.out) | exact HB.out)⟩
     ·rw [if_neg c55] at H
      exact absurd H (by simp)
    ·rw [if_neg c54] at H
     exact absurd H (by simp)
 ·rw [if_neg c5] at H
  have c5b0 : (t207 == 0) = false := beq_eq_false_iff_ne.mpr c5
  have c5b1 : (t207 != 0) = true := bne_iff_ne.mpr c5
  simp only [Option.some.injEq, Prod.mk.injEq] at H
  obtain ⟨rfl, rfl⟩ := H
  go_enter Tryd.func16, Tryd.ntmps16
  go_wp2_with (first | ((with_reducible refine gate_dst (N := 5) rfl ?_); refine box_event ?hg (N := 5) ?hd (cs := #[.int .i64 a2_0, .int .i64 a2_1, .string a2_2, .string a2_3]) (t := 25) ?hr ?_; (case hd => rfl); (case hg => rfl); (case hr => first | (go_simp; done) | (go_simp; rfl)); intro gb205 hg w86 hbox hb; have n0_ := Aside0.mk (below_step (by repeat (first | (with_reducible first | exact HB.out | apply below_alloc | apply pw_below_drewN | apply below_drew1) | exact HB.out)) hb); have n1_ := Aside0.mk (hbox); have n2_ := Aside0.mk ((by rw [hg]; exact (below_size (by repeat (first | (with_reducible first | exact HB.out | apply below_alloc | apply pw_below_drewN | apply below_drew1) | exact HB.out))) : w.heap.size ≤ gb205)); have n3_ := Aside0.mk ((by rw [hg]; exact (below_size (by repeat (first | (with_reducible first | exact HB.out | apply below_alloc | apply pw_below_drewN | apply below_drew1) | exact HB.out))) : w.heap.size ≤ gb205)); clear HB; have HB := n0_; have BK205 := n1_; have GW205 := n2_; have GE205 := n3_; clear n0_ n1_ n2_ n3_; clear hb hbox hg) | ((with_reducible refine gate_callee (f := 14) rfl ?_); refine goesL_ (some 16) rfl rfl Tryd.func14 (by kernel_rfl) rfl #[.slice A0 l0.length c0, .slice A1 l1.length c1] rfl (by (try simp only [List.map_toArray, List.map_cons, List.map_nil]); first | done | rfl | (simp only [List.length_drop, List.length_take]; rfl)) ?_; (with_reducible refine (garboardref58_Check.calls k _ _ l0 _ _ l1 t206 t207 _ ?side1 ?side2 ?side3 ?side4 ?side5 A4.out).mono ?_); (case side1 => repeat (first | exact (Kd.C_below HR0.out HB.out) | (with_reducible refine Kd.C_alloc ?_ _) | (with_reducible refine Kd.C_drewN ?_ _) | (with_reducible refine Kd.C_drew ?_))); (case side2 => exact HC0.out); (case side3 => repeat (first | exact (Kd.C_below HR1.out HB.out) | (with_reducible refine Kd.C_alloc ?_ _) | (with_reducible refine Kd.C_drewN ?_ _) | (with_reducible refine Kd.C_drew ?_))); (case side4 => exact HC1.out); (case side5 => exact HLW.out.below (by repeat (first | (with_reducible first | exact HB.out | apply below_alloc | apply pw_below_drewN | apply below_drew1 | refine below_set ?_ GE205.out) | exact HB.out))); rintro e w87 ⟨rfl, hb⟩; refine ⟨_, rfl, ?_⟩; have n0_ := Aside0.mk (blk_below (g := gb205) (o := .cells #[.int .i64 a2_0, .int .i64 a2_1, .string a2_2, .string a2_3] 25 (0, 0)) (by (with_reducible repeat (first | refine blk_drewN ?_ _ | refine blk_drew ?_ | refine blk_alloc ?_ _)); exact BK205.out) hb); have n1_ := Aside0.mk (below_step (by repeat (first | (with_reducible first | exact HB.out | apply below_alloc | apply pw_below_drewN | apply below_drew1 | refine below_set ?_ GE205.out) | exact HB.out)) hb); clear BK205; clear HB; have BK205 := n0_; have HB := n1_; clear n0_ n1_; (try clear hb); (try clear hb2); (try clear hk); (try clear hi)))
  go_ret2
  exact ⟨_, by first | rfl | (simp [errW_none, errW_some] <;> rfl) | (simp [*, errW_none, errW_some] <;> rfl), by first | exact Kd.R_nil _ _ _ _ _ | exact Kd.N_nil _ _ _ _ _ | exact Kd.V_nil _ _ _ _ _ | exact Kd.Q_nil _ _ _ _ _ | exact Kd.S_nil _ _ _ _ _, by repeat (first | (with_reducible first | exact HB.out | apply below_alloc | apply pw_below_drewN | apply below_drew1 | refine below_set ?_ GE205.out) | exact HB.out)⟩
end Go.Proofs.YtbfimjncophcaaaDoor.Pr
