/- Part 5 of 7: garboardlaw58.ApprovalMisses (Missing returns the missing roles, or the specified error, and Granted reports whether there are none, for any lists, subject, need and tick; at most 17 signers, 12 approvals, 12 roles) answers true for every input, and each argument reads behind the call as before. The library's table of powers of ten is tied to the program's text by the card. -/
import Derived.Maps.Own
import Derived.Maps.OwnOps
import Derived.Maps.Views
import Derived.Maps.OwnSet
import Derived.Test.YtbfimjncophcaaaDoorCm4
namespace Go.Proofs.YtbfimjncophcaaaDoor.Pr
open Go.RowKit Go.Proofs.YtbfimjncophcaaaDoorW.PrintWords Go.Proofs.YtbfimjncophcaaaDoorW.PrintLast Go.Proofs.YtbfimjncophcaaaDoorW.PrintMore
attribute [local go_sem] max2_int min2_int max_two min_two max_three min_three max_four min_four
set_option linter.unusedVariables false
set_option linter.unusedSimpArgs false
mutual
def garboardref58_right.l0 : Nat → List (S33) → Int → Option (Bool)
 | 0, _, _ => none
 | k + 1, x0, x3 => if x3 < (x0.length : Int) then (if 0 ≤ x3 then (if ((rd_T33 x0 x3).f0) < 1 then (garboardref58_right.j1 k x0 x3 true ((rd_T33 x0 x3).f0) ((rd_T33 x0 x3).f1) ((rd_T33 x0 x3).f2) ((rd_T33 x0 x3).f3)) else (if ((rd_T33 x0 x3).f0) > 1073741824 then (garboardref58_right.j1 k x0 x3 true ((rd_T33 x0 x3).f0) ((rd_T33 x0 x3).f1) ((rd_T33 x0 x3).f2) ((rd_T33 x0 x3).f3)) else (if x3 > 0 then (if 0 ≤ (wrap64 (x3 - 1)) then (if (wrap64 (x3 - 1)) < (x0.length : Int) then (if ((rd_T33 x0 (wrap64 (x3 - 1))).f0) ≥ ((rd_T33 x0 x3).f0) then (garboardref58_right.j1 k x0 x3 true ((rd_T33 x0 x3).f0) ((rd_T33 x0 x3).f1) ((rd_T33 x0 x3).f2) ((rd_T33 x0 x3).f3)) else (if ((rd_T33 x0 x3).f1) < 1 then (garboardref58_right.j1 k x0 x3 true ((rd_T33 x0 x3).f0) ((rd_T33 x0 x3).f1) ((rd_T33 x0 x3).f2) ((rd_T33 x0 x3).f3)) else (garboardref58_right.j1 k x0 x3 (decide (((rd_T33 x0 x3).f1) > 9)) ((rd_T33 x0 x3).f0) ((rd_T33 x0 x3).f1) ((rd_T33 x0 x3).f2) ((rd_T33 x0 x3).f3)))) else (none)) else (none)) else (if ((rd_T33 x0 x3).f1) < 1 then (garboardref58_right.j1 k x0 x3 true ((rd_T33 x0 x3).f0) ((rd_T33 x0 x3).f1) ((rd_T33 x0 x3).f2) ((rd_T33 x0 x3).f3)) else (garboardref58_right.j1 k x0 x3 (decide (((rd_T33 x0 x3).f1) > 9)) ((rd_T33 x0 x3).f0) ((rd_T33 x0 x3).f1) ((rd_T33 x0 x3).f2) ((rd_T33 x0 x3).f3)))))) else (none)) else (some (decide ((x0.length : Int) ≤ 16)))
def garboardref58_right.j1 : Nat → List (S33) → Int → Bool → Int → Int → ByteArray → ByteArray → Option (Bool)
 | 0, _, _, _, _, _, _, _ => none
 | k + 1, x0, x3, x47, x177000, x177001, x177002, x177003 => if x47 = true then (some false) else (if (x177002.size : Int) < 1 then (some false) else (if (x177002.size : Int) > 64 then (some false) else (if (x177003.size : Int) < 1 then (some false) else (if (x177003.size : Int) > 64 then (some false) else (garboardref58_right.l0 k x0 (wrap64 (x3 + 1)))))))
end
def garboardref58_right.f (k : Nat) (l0 : List (S33)) : Option (Bool) := garboardref58_right.l0 k l0 0
set_option maxHeartbeats 8000000 in
set_option maxRecDepth 100000 in
theorem garboardref58_right.calls (k : Nat) (A0 : Option Addr) (c0 : Nat) (l0 : List (S33)) (r : Bool) (w : World) (hr0 : Kd.C k33 w A0 l0.length l0) (hc0 : l0.length ≤ c0) (h : garboardref58_right.f k l0 = some r) :
  Calls Tryd.prog 39 #[.slice A0 l0.length c0] w fun e w' => e = .returned (.bool r) ∧ Below w.heap.size w w' := by
 have hu33 := Tryd.underlying33
 have HR0 := Aside0.mk hr0
 have HC0 := Aside0.mk hc0
 clear hr0 hc0
 have HB := Aside0.mk (Below.refl w.heap.size w)
 have H : (garboardref58_right.l0 k l0 0) = some r := h
 clear h
 have H' := Aside0.mk H
 clear H
 go_enter Tryd.func39, Tryd.ntmps39
 go_wp2
 repeat (go_quiet (fail); try go_wp2)
 go_loopg [3] k (fun kq v3 w' => ∃ (x3_1 : Int), v3 = .int .i64 x3_1 ∧ Aside0 (garboardref58_right.l0 kq l0 x3_1 = some r) ∧ Aside0 (kq ≤ k) ∧ Aside0 (Below w.heap.size w w'))
 case atStart => exact ⟨(0), (by first | rfl | (simp; done) | (simp [*]; done)), H', ⟨Nat.le_refl _⟩, ⟨by repeat (first | (with_reducible first | exact HB.out | apply below_alloc | apply pw_below_drewN | apply below_drew1) | exact HB.out)⟩⟩
 case round =>
  clear H'
  obtain ⟨x3_1, rfl, HA, HK1, HB⟩ := hrel
  cases gk with
  | zero => exact absurd HA.out (by simp [garboardref58_right.l0])
  | succ k1 =>
   have H := HA.out
   clear HA
   simp only [garboardref58_right.l0] at H
   by_cases c2 : x3_1 < (l0.length : Int)
   ·rw [if_pos c2] at H
    have c2b0 : decide (x3_1 < (l0.length : Int)) = true := decide_eq_true c2
    clear c2
    by_cases c3 : 0 ≤ x3_1
    ·rw [if_pos c3] at H
     have c3b0 : decide (0 ≤ x3_1) = true := decide_eq_true c3
     clear c3
     have HC4 := Aside0.mk H
     clear H
     have p175 : 0 ≤ (x3_1 : Int) := of_decide_eq_true (by first | (with_reducible assumption) | assumption)
     have q175 : x3_1 < (l0.length : Int) := of_decide_eq_true (by first | (with_reducible assumption) | assumption)
     obtain ⟨ad175, e175, hx175_0, hx175_1, hx175_2, hx175_3⟩ := at_T33 HR0.out x3_1 p175 q175
     cases e175
     replace hx175_0 := (HB.out.cell (World.block_lt_of_cell? w _ hx175_0)).trans hx175_0
     replace hx175_1 := (HB.out.cell (World.block_lt_of_cell? w _ hx175_1)).trans hx175_1
     replace hx175_2 := (HB.out.cell (World.block_lt_of_cell? w _ hx175_2)).trans hx175_2
     replace hx175_3 := (HB.out.cell (World.block_lt_of_cell? w _ hx175_3)).trans hx175_3
     replace p175 := eq_true p175
     replace q175 := eq_true q175
     go_upto_region 5 with (first | ((with_reducible refine gate_dst (N := 4) rfl ?_); (try (refine gate_guard (by rfl) ?_; dsimp only)); refine box_event ?hg (N := 4) ?hd (cs := #[.int .i64 0, .int .i64 0, .string (⟨#[]⟩ : ByteArray), .string (⟨#[]⟩ : ByteArray)]) (t := 33) ?hr ?_; (case hd => rfl); (case hg => rfl); (case hr => first | (go_simp; done) | (go_simp; rfl)); intro gb176 hg w5 hbox hb; have n0_ := Aside0.mk (below_step (by repeat (first | (with_reducible first | exact HB.out | apply below_alloc | apply pw_below_drewN | apply below_drew1) | exact HB.out)) hb); have n1_ := Aside0.mk (hbox); have n2_ := Aside0.mk ((by rw [hg]; exact (below_size (by repeat (first | (with_reducible first | exact HB.out | apply below_alloc | apply pw_below_drewN | apply below_drew1) | exact HB.out))) : w.heap.size ≤ gb176)); have n3_ := Aside0.mk ((by rw [hg]; exact (below_size (by repeat (first | (with_reducible first | exact HB.out | apply below_alloc | apply pw_below_drewN | apply below_drew1) | exact HB.out))) : w.heap.size ≤ gb176)); clear HB; have HB := n0_; have BK176 := n1_; have GW176 := n2_; have GE176 := n3_; clear n0_ n1_ n2_ n3_; clear hb hbox hg; have hcz6_0 : w5.cell? ⟨gb176, 0, none⟩ = some (.int .i64 0) := (blk_cell BK176.out 0).trans rfl; have hcz6_1 : w5.cell? ⟨gb176, 1, none⟩ = some (.int .i64 0) := (blk_cell BK176.out 1).trans rfl; have hcz6_2 : w5.cell? ⟨gb176, 2, none⟩ = some (.string (⟨#[]⟩ : ByteArray)) := (blk_cell BK176.out 2).trans rfl; have hcz6_3 : w5.cell? ⟨gb176, 3, none⟩ = some (.string (⟨#[]⟩ : ByteArray)) := (blk_cell BK176.out 3).trans rfl; have hfz6_0 := blk_frozen BK176.out 0; have hfz6_1 := blk_frozen BK176.out 1; have hfz6_2 := blk_frozen BK176.out 2; have hfz6_3 := blk_frozen BK176.out 3))
     repeat (go_quiet (first | ((with_reducible refine gate_dst (N := 4) rfl ?_); (try (refine gate_guard (by rfl) ?_; dsimp only)); refine box_event ?hg (N := 4) ?hd (cs := #[.int .i64 0, .int .i64 0, .string (⟨#[]⟩ : ByteArray), .string (⟨#[]⟩ : ByteArray)]) (t := 33) ?hr ?_; (case hd => rfl); (case hg => rfl); (case hr => first | (go_simp; done) | (go_simp; rfl)); intro gb176 hg w5 hbox hb; have n0_ := Aside0.mk (below_step (by repeat (first | (with_reducible first | exact HB.out | apply below_alloc | apply pw_below_drewN | apply below_drew1) | exact HB.out)) hb); have n1_ := Aside0.mk (hbox); have n2_ := Aside0.mk ((by rw [hg]; exact (below_size (by repeat (first | (with_reducible first | exact HB.out | apply below_alloc | apply pw_below_drewN | apply below_drew1) | exact HB.out))) : w.heap.size ≤ gb176)); have n3_ := Aside0.mk ((by rw [hg]; exact (below_size (by repeat (first | (with_reducible first | exact HB.out | apply below_alloc | apply pw_below_drewN | apply below_drew1) | exact HB.out))) : w.heap.size ≤ gb176)); clear HB; have HB := n0_; have BK176 := n1_; have GW176 := n2_; have GE176 := n3_; clear n0_ n1_ n2_ n3_; clear hb hbox hg; have hcz6_0 : w5.cell? ⟨gb176, 0, none⟩ = some (.int .i64 0) := (blk_cell BK176.out 0).trans rfl; have hcz6_1 : w5.cell? ⟨gb176, 1, none⟩ = some (.int .i64 0) := (blk_cell BK176.out 1).trans rfl; have hcz6_2 : w5.cell? ⟨gb176, 2, none⟩ = some (.string (⟨#[]⟩ : ByteArray)) := (blk_cell BK176.out 2).trans rfl; have hcz6_3 : w5.cell? ⟨gb176, 3, none⟩ = some (.string (⟨#[]⟩ : ByteArray)) := (blk_cell BK176.out 3).trans rfl; have hfz6_0 := blk_frozen BK176.out 0; have hfz6_1 := blk_frozen BK176.out 1; have hfz6_2 := blk_frozen BK176.out 2; have hfz6_3 := blk_frozen BK176.out 3)); go_upto_region 5 with (first | ((with_reducible refine gate_dst (N := 4) rfl ?_); (try (refine gate_guard (by rfl) ?_; dsimp only)); refine box_event ?hg (N := 4) ?hd (cs := #[.int .i64 0, .int .i64 0, .string (⟨#[]⟩ : ByteArray), .string (⟨#[]⟩ : ByteArray)]) (t := 33) ?hr ?_; (case hd => rfl); (case hg => rfl); (case hr => first | (go_simp; done) | (go_simp; rfl)); intro gb176 hg w5 hbox hb; have n0_ := Aside0.mk (below_step (by repeat (first | (with_reducible first | exact HB.out | apply below_alloc | apply pw_below_drewN | apply below_drew1) | exact HB.out)) hb); have n1_ := Aside0.mk (hbox); have n2_ := Aside0.mk ((by rw [hg]; exact (below_size (by repeat (first | (with_reducible first | exact HB.out | apply below_alloc | apply pw_below_drewN | apply below_drew1) | exact HB.out))) : w.heap.size ≤ gb176)); have n3_ := Aside0.mk ((by rw [hg]; exact (below_size (by repeat (first | (with_reducible first | exact HB.out | apply below_alloc | apply pw_below_drewN | apply below_drew1) | exact HB.out))) : w.heap.size ≤ gb176)); clear HB; have HB := n0_; have BK176 := n1_; have GW176 := n2_; have GE176 := n3_; clear n0_ n1_ n2_ n3_; clear hb hbox hg; have hcz6_0 : w5.cell? ⟨gb176, 0, none⟩ = some (.int .i64 0) := (blk_cell BK176.out 0).trans rfl; have hcz6_1 : w5.cell? ⟨gb176, 1, none⟩ = some (.int .i64 0) := (blk_cell BK176.out 1).trans rfl; have hcz6_2 : w5.cell? ⟨gb176, 2, none⟩ = some (.string (⟨#[]⟩ : ByteArray)) := (blk_cell BK176.out 2).trans rfl; have hcz6_3 : w5.cell? ⟨gb176, 3, none⟩ = some (.string (⟨#[]⟩ : ByteArray)) := (blk_cell BK176.out 3).trans rfl; have hfz6_0 := blk_frozen BK176.out 0; have hfz6_1 := blk_frozen BK176.out 1; have hfz6_2 := blk_frozen BK176.out 2; have hfz6_3 := blk_frozen BK176.out 3)))
     (try simp only [Act.put, List.setIfInBounds_toArray, List.set_cons_zero, List.set_cons_succ])
     go_cut [47] (fun v47 wc => ∃ (kq : Nat) (x47_3 : Bool), v47 = .bool x47_3 ∧ Aside0 (garboardref58_right.j1 kq l0 x3_1 x47_3 ((rd_T33 l0 x3_1).f0) ((rd_T33 l0 x3_1).f1) ((rd_T33 l0 x3_1).f2) ((rd_T33 l0 x3_1).f3) = some r) ∧ Aside0 (kq ≤ k1) ∧ Aside0 (wc.heap[gb176]? = some (.cells #[.int .i64 ((rd_T33 l0 x3_1).f0), .int .i64 ((rd_T33 l0 x3_1).f1), .string ((rd_T33 l0 x3_1).f2), .string ((rd_T33 l0 x3_1).f3)] 33 (0, 0))) ∧ Aside0 (Below w.heap.size w wc))
     case first =>
      have H := HC4.out
      clear HC4
      by_cases c7 : ((rd_T33 l0 x3_1).f0) < 1
      ·rw [if_pos c7] at H
       have c7b0 : decide (((rd_T33 l0 x3_1).f0) < 1) = true := decide_eq_true c7
       clear c7
       (first | rw [c7b0] | (simp only [i64_w, i32_w]; rw [c7b0]) | skip)
       have H' := Aside0.mk H
       clear H
       have hcz8_0 : w5.cell? ⟨gb176, 0, none⟩ = some (.int .i64 0) := (blk_cell BK176.out 0).trans rfl
       have hcz8_1 : w5.cell? ⟨gb176, 1, none⟩ = some (.int .i64 0) := (blk_cell BK176.out 1).trans rfl
       have hcz8_2 : w5.cell? ⟨gb176, 2, none⟩ = some (.string (⟨#[]⟩ : ByteArray)) := (blk_cell BK176.out 2).trans rfl
       have hcz8_3 : w5.cell? ⟨gb176, 3, none⟩ = some (.string (⟨#[]⟩ : ByteArray)) := (blk_cell BK176.out 3).trans rfl
       have hfz8_0 := blk_frozen BK176.out 0
       have hfz8_1 := blk_frozen BK176.out 1
       have hfz8_2 := blk_frozen BK176.out 2
       have hfz8_3 := blk_frozen BK176.out 3
       go_wp2
       repeat (go_quiet (fail); try go_wp2)
       go_meet
       case rel => exact ⟨_, (true), (by first | rfl | (simp; done) | (simp [*]; done)), H', ⟨by have := HK1.out; first | omega | exact Nat.le_refl _⟩, ⟨by (with_reducible repeat (first | refine blk_drewN ?_ _ | refine blk_drew ?_ | refine blk_alloc ?_ _)); refine blk_put (cs := #[.int .i64 ((rd_T33 l0 x3_1).f0), .int .i64 ((rd_T33 l0 x3_1).f1), .string ((rd_T33 l0 x3_1).f2), .string (⟨#[]⟩ : ByteArray)]) ?_ 3 _ rfl; (with_reducible repeat (first | refine blk_drewN ?_ _ | refine blk_drew ?_ | refine blk_alloc ?_ _)); refine blk_put (cs := #[.int .i64 ((rd_T33 l0 x3_1).f0), .int .i64 ((rd_T33 l0 x3_1).f1), .string (⟨#[]⟩ : ByteArray), .string (⟨#[]⟩ : ByteArray)]) ?_ 2 _ rfl; (with_reducible repeat (first | refine blk_drewN ?_ _ | refine blk_drew ?_ | refine blk_alloc ?_ _)); refine blk_put (cs := #[.int .i64 ((rd_T33 l0 x3_1).f0), .int .i64 0, .string (⟨#[]⟩ : ByteArray), .string (⟨#[]⟩ : ByteArray)]) ?_ 1 _ rfl; (with_reducible repeat (first | refine blk_drewN ?_ _ | refine blk_drew ?_ | refine blk_alloc ?_ _)); refine blk_put (cs := #[.int .i64 0, .int .i64 0, .string (⟨#[]⟩ : ByteArray), .string (⟨#[]⟩ : ByteArray)]) ?_ 0 _ rfl; (with_reducible repeat (first | refine blk_drewN ?_ _ | refine blk_drew ?_ | refine blk_alloc ?_ _)); exact BK176.out⟩, ⟨by repeat (first | (with_reducible first | exact HB.out | apply below_alloc | apply pw_below_drewN | apply below_drew1 | refine below_set ?_ GE176.out) | exact HB.out)⟩⟩
      ·rw [if_neg c7] at H
       have c7b0 : decide (((rd_T33 l0 x3_1).f0) < 1) = false := decide_eq_false c7
       clear c7
       (first | rw [c7b0] | (simp only [i64_w, i32_w]; rw [c7b0]) | skip)
       by_cases c9 : ((rd_T33 l0 x3_1).f0) > 1073741824
       ·rw [if_pos c9] at H
        have c9b0 : decide (1073741824 < ((rd_T33 l0 x3_1).f0)) = true := decide_eq_true c9
        clear c9
        have H' := Aside0.mk H
        clear H
        have hcz10_0 : w5.cell? ⟨gb176, 0, none⟩ = some (.int .i64 0) := (blk_cell BK176.out 0).trans rfl
        have hcz10_1 : w5.cell? ⟨gb176, 1, none⟩ = some (.int .i64 0) := (blk_cell BK176.out 1).trans rfl
        have hcz10_2 : w5.cell? ⟨gb176, 2, none⟩ = some (.string (⟨#[]⟩ : ByteArray)) := (blk_cell BK176.out 2).trans rfl
        have hcz10_3 : w5.cell? ⟨gb176, 3, none⟩ = some (.string (⟨#[]⟩ : ByteArray)) := (blk_cell BK176.out 3).trans rfl
        have hfz10_0 := blk_frozen BK176.out 0
        have hfz10_1 := blk_frozen BK176.out 1
        have hfz10_2 := blk_frozen BK176.out 2
        have hfz10_3 := blk_frozen BK176.out 3
        go_wp2
        repeat (go_quiet (fail); try go_wp2)
        go_meet
        case rel => exact ⟨_, (true), (by first | rfl | (simp; done) | (simp [*]; done)), H', ⟨by have := HK1.out; first | omega | exact Nat.le_refl _⟩, ⟨by (with_reducible repeat (first | refine blk_drewN ?_ _ | refine blk_drew ?_ | refine blk_alloc ?_ _)); refine blk_put (cs := #[.int .i64 ((rd_T33 l0 x3_1).f0), .int .i64 ((rd_T33 l0 x3_1).f1), .string ((rd_T33 l0 x3_1).f2), .string (⟨#[]⟩ : ByteArray)]) ?_ 3 _ rfl; (with_reducible repeat (first | refine blk_drewN ?_ _ | refine blk_drew ?_ | refine blk_alloc ?_ _)); refine blk_put (cs := #[.int .i64 ((rd_T33 l0 x3_1).f0), .int .i64 ((rd_T33 l0 x3_1).f1), .string (⟨#[]⟩ : ByteArray), .string (⟨#[]⟩ : ByteArray)]) ?_ 2 _ rfl; (with_reducible repeat (first | refine blk_drewN ?_ _ | refine blk_drew ?_ | refine blk_alloc ?_ _)); refine blk_put (cs := #[.int .i64 ((rd_T33 l0 x3_1).f0), .int .i64 0, .string (⟨#[]⟩ : ByteArray), .string (⟨#[]⟩ : ByteArray)]) ?_ 1 _ rfl; (with_reducible repeat (first | refine blk_drewN ?_ _ | refine blk_drew ?_ | refine blk_alloc ?_ _)); refine blk_put (cs := #[.int .i64 0, .int .i64 0, .string (⟨#[]⟩ : ByteArray), .string (⟨#[]⟩ : ByteArray)]) ?_ 0 _ rfl; (with_reducible repeat (first | refine blk_drewN ?_ _ | refine blk_drew ?_ | refine blk_alloc ?_ _)); exact BK176.out⟩, ⟨by repeat (first | (with_reducible first | exact HB.out | apply below_alloc | apply pw_below_drewN | apply below_drew1 | refine below_set ?_ GE176.out) | exact HB.out)⟩⟩
       ·rw [if_neg c9] at H
        have c9b0 : decide (1073741824 < ((rd_T33 l0 x3_1).f0)) = false := decide_eq_false c9
        clear c9
        by_cases c11 : x3_1 > 0
        ·rw [if_pos c11] at H
         have c11b0 : decide (0 < x3_1) = true := decide_eq_true c11
         clear c11
         obtain ⟨ji12, hji12⟩ : ∃ j_ : Int, (wrap64 (x3_1 - 1)) = j_ := ⟨_, rfl⟩
         replace H : (if 0 ≤ (ji12) then (if (ji12) < (l0.length : Int) then (if ((rd_T33 l0 (ji12)).f0) ≥ ((rd_T33 l0 x3_1).f0) then (garboardref58_right.j1 k1 l0 x3_1 true ((rd_T33 l0 x3_1).f0) ((rd_T33 l0 x3_1).f1) ((rd_T33 l0 x3_1).f2) ((rd_T33 l0 x3_1).f3)) else (if ((rd_T33 l0 x3_1).f1) < 1 then (garboardref58_right.j1 k1 l0 x3_1 true ((rd_T33 l0 x3_1).f0) ((rd_T33 l0 x3_1).f1) ((rd_T33 l0 x3_1).f2) ((rd_T33 l0 x3_1).f3)) else (garboardref58_right.j1 k1 l0 x3_1 (decide (((rd_T33 l0 x3_1).f1) > 9)) ((rd_T33 l0 x3_1).f0) ((rd_T33 l0 x3_1).f1) ((rd_T33 l0 x3_1).f2) ((rd_T33 l0 x3_1).f3)))) else (none)) else (none)) = some r := by first | (rw [hji12] at H; exact H) | (simp only [hji12] at H ⊢; exact H)
         have hji12w : (IntKind.i64.wrap (x3_1 - 1)) = ji12 := (i64_w _).trans hji12
         by_cases c13 : 0 ≤ (ji12)
         ·rw [if_pos c13] at H
          have c13b0 : decide (0 ≤ (ji12)) = true := decide_eq_true c13
          clear c13
          by_cases c14 : (ji12) < (l0.length : Int)
          ·rw [if_pos c14] at H
           have c14b0 : decide ((ji12) < (l0.length : Int)) = true := decide_eq_true c14
           clear c14
           by_cases c15 : ((rd_T33 l0 (ji12)).f0) ≥ ((rd_T33 l0 x3_1).f0)
           ·rw [if_pos c15] at H
            have c15b0 : decide (((rd_T33 l0 x3_1).f0) ≤ ((rd_T33 l0 (ji12)).f0)) = true := decide_eq_true c15
            clear c15
            have H' := Aside0.mk H
            clear H
            have hcz16_0 : w5.cell? ⟨gb176, 0, none⟩ = some (.int .i64 0) := (blk_cell BK176.out 0).trans rfl
            have hcz16_1 : w5.cell? ⟨gb176, 1, none⟩ = some (.int .i64 0) := (blk_cell BK176.out 1).trans rfl
            have hcz16_2 : w5.cell? ⟨gb176, 2, none⟩ = some (.string (⟨#[]⟩ : ByteArray)) := (blk_cell BK176.out 2).trans rfl
            have hcz16_3 : w5.cell? ⟨gb176, 3, none⟩ = some (.string (⟨#[]⟩ : ByteArray)) := (blk_cell BK176.out 3).trans rfl
            have hfz16_0 := blk_frozen BK176.out 0
            have hfz16_1 := blk_frozen BK176.out 1
            have hfz16_2 := blk_frozen BK176.out 2
            have hfz16_3 := blk_frozen BK176.out 3
            have p177 : 0 ≤ ((ji12) : Int) := of_decide_eq_true (by first | (with_reducible assumption) | assumption)
            have q177 : (ji12) < (l0.length : Int) := of_decide_eq_true (by first | (with_reducible assumption) | assumption)
            obtain ⟨ad177, e177, hx177_0, hx177_1, hx177_2, hx177_3⟩ := at_T33 HR0.out (ji12) p177 q177
            obtain rfl : ad175 = ad177 := (by injection e177)
            have hn177_0 : ad175.block ≠ gb176 := Nat.ne_of_lt (Nat.lt_of_lt_of_le (by have := World.block_lt_of_cell? _ _ hx177_0; first | rwa [add_block] at this | exact this) GW176.out)
            have hn177_1 : ad175.block ≠ gb176 := Nat.ne_of_lt (Nat.lt_of_lt_of_le (by have := World.block_lt_of_cell? _ _ hx177_0; first | rwa [add_block] at this | exact this) GW176.out)
            have hn177_2 : ad175.block ≠ gb176 := Nat.ne_of_lt (Nat.lt_of_lt_of_le (by have := World.block_lt_of_cell? _ _ hx177_0; first | rwa [add_block] at this | exact this) GW176.out)
            have hn177_3 : ad175.block ≠ gb176 := Nat.ne_of_lt (Nat.lt_of_lt_of_le (by have := World.block_lt_of_cell? _ _ hx177_0; first | rwa [add_block] at this | exact this) GW176.out)
            replace hx177_0 := (HB.out.cell (World.block_lt_of_cell? w _ hx177_0)).trans hx177_0
            replace hx177_1 := (HB.out.cell (World.block_lt_of_cell? w _ hx177_1)).trans hx177_1
            replace hx177_2 := (HB.out.cell (World.block_lt_of_cell? w _ hx177_2)).trans hx177_2
            replace hx177_3 := (HB.out.cell (World.block_lt_of_cell? w _ hx177_3)).trans hx177_3
            replace hx177_0 := (cell_far (p := ⟨gb176, 0, none⟩) (by first | (rw [add_block]; exact hn177_0) | (show (Addr.add _ _).block ≠ _; rw [add_block]; exact hn177_0) | exact hn177_0) (.int .i64 ((rd_T33 l0 x3_1).f0))).trans hx177_0
            replace hx177_1 := (cell_far (p := ⟨gb176, 0, none⟩) (by first | (rw [add_block]; exact hn177_0) | (show (Addr.add _ _).block ≠ _; rw [add_block]; exact hn177_0) | exact hn177_0) (.int .i64 ((rd_T33 l0 x3_1).f0))).trans hx177_1
            replace hx177_2 := (cell_far (p := ⟨gb176, 0, none⟩) (by first | (rw [add_block]; exact hn177_0) | (show (Addr.add _ _).block ≠ _; rw [add_block]; exact hn177_0) | exact hn177_0) (.int .i64 ((rd_T33 l0 x3_1).f0))).trans hx177_2
            replace hx177_3 := (cell_far (p := ⟨gb176, 0, none⟩) (by first | (rw [add_block]; exact hn177_0) | (show (Addr.add _ _).block ≠ _; rw [add_block]; exact hn177_0) | exact hn177_0) (.int .i64 ((rd_T33 l0 x3_1).f0))).trans hx177_3
            replace hx177_0 := (cell_far (p := ⟨gb176, 1, none⟩) (by first | (rw [add_block]; exact hn177_1) | (show (Addr.add _ _).block ≠ _; rw [add_block]; exact hn177_1) | exact hn177_1) (.int .i64 ((rd_T33 l0 x3_1).f1))).trans hx177_0
            replace hx177_1 := (cell_far (p := ⟨gb176, 1, none⟩) (by first | (rw [add_block]; exact hn177_1) | (show (Addr.add _ _).block ≠ _; rw [add_block]; exact hn177_1) | exact hn177_1) (.int .i64 ((rd_T33 l0 x3_1).f1))).trans hx177_1
            replace hx177_2 := (cell_far (p := ⟨gb176, 1, none⟩) (by first | (rw [add_block]; exact hn177_1) | (show (Addr.add _ _).block ≠ _; rw [add_block]; exact hn177_1) | exact hn177_1) (.int .i64 ((rd_T33 l0 x3_1).f1))).trans hx177_2
            replace hx177_3 := (cell_far (p := ⟨gb176, 1, none⟩) (by first | (rw [add_block]; exact hn177_1) | (show (Addr.add _ _).block ≠ _; rw [add_block]; exact hn177_1) | exact hn177_1) (.int .i64 ((rd_T33 l0 x3_1).f1))).trans hx177_3
            replace hx177_0 := (cell_far (p := ⟨gb176, 2, none⟩) (by first | (rw [add_block]; exact hn177_2) | (show (Addr.add _ _).block ≠ _; rw [add_block]; exact hn177_2) | exact hn177_2) (.string ((rd_T33 l0 x3_1).f2))).trans hx177_0
            replace hx177_1 := (cell_far (p := ⟨gb176, 2, none⟩) (by first | (rw [add_block]; exact hn177_2) | (show (Addr.add _ _).block ≠ _; rw [add_block]; exact hn177_2) | exact hn177_2) (.string ((rd_T33 l0 x3_1).f2))).trans hx177_1
            replace hx177_2 := (cell_far (p := ⟨gb176, 2, none⟩) (by first | (rw [add_block]; exact hn177_2) | (show (Addr.add _ _).block ≠ _; rw [add_block]; exact hn177_2) | exact hn177_2) (.string ((rd_T33 l0 x3_1).f2))).trans hx177_2
            replace hx177_3 := (cell_far (p := ⟨gb176, 2, none⟩) (by first | (rw [add_block]; exact hn177_2) | (show (Addr.add _ _).block ≠ _; rw [add_block]; exact hn177_2) | exact hn177_2) (.string ((rd_T33 l0 x3_1).f2))).trans hx177_3
            replace hx177_0 := (cell_far (p := ⟨gb176, 3, none⟩) (by first | (rw [add_block]; exact hn177_3) | (show (Addr.add _ _).block ≠ _; rw [add_block]; exact hn177_3) | exact hn177_3) (.string ((rd_T33 l0 x3_1).f3))).trans hx177_0
            replace hx177_1 := (cell_far (p := ⟨gb176, 3, none⟩) (by first | (rw [add_block]; exact hn177_3) | (show (Addr.add _ _).block ≠ _; rw [add_block]; exact hn177_3) | exact hn177_3) (.string ((rd_T33 l0 x3_1).f3))).trans hx177_1
            replace hx177_2 := (cell_far (p := ⟨gb176, 3, none⟩) (by first | (rw [add_block]; exact hn177_3) | (show (Addr.add _ _).block ≠ _; rw [add_block]; exact hn177_3) | exact hn177_3) (.string ((rd_T33 l0 x3_1).f3))).trans hx177_2
            replace hx177_3 := (cell_far (p := ⟨gb176, 3, none⟩) (by first | (rw [add_block]; exact hn177_3) | (show (Addr.add _ _).block ≠ _; rw [add_block]; exact hn177_3) | exact hn177_3) (.string ((rd_T33 l0 x3_1).f3))).trans hx177_3
            (try have hy177_0 := fun (n_ : Nat) => (show ((((((w5.drewN n_).setCell ⟨gb176, 0, none⟩ (.int .i64 ((rd_T33 l0 x3_1).f0))).setCell ⟨gb176, 1, none⟩ (.int .i64 ((rd_T33 l0 x3_1).f1))).setCell ⟨gb176, 2, none⟩ (.string ((rd_T33 l0 x3_1).f2))).setCell ⟨gb176, 3, none⟩ (.string ((rd_T33 l0 x3_1).f3)))).cell? _ = some _ from hx177_0))
            (try have hy177_1 := fun (n_ : Nat) => (show ((((((w5.drewN n_).setCell ⟨gb176, 0, none⟩ (.int .i64 ((rd_T33 l0 x3_1).f0))).setCell ⟨gb176, 1, none⟩ (.int .i64 ((rd_T33 l0 x3_1).f1))).setCell ⟨gb176, 2, none⟩ (.string ((rd_T33 l0 x3_1).f2))).setCell ⟨gb176, 3, none⟩ (.string ((rd_T33 l0 x3_1).f3)))).cell? _ = some _ from hx177_1))
            (try have hy177_2 := fun (n_ : Nat) => (show ((((((w5.drewN n_).setCell ⟨gb176, 0, none⟩ (.int .i64 ((rd_T33 l0 x3_1).f0))).setCell ⟨gb176, 1, none⟩ (.int .i64 ((rd_T33 l0 x3_1).f1))).setCell ⟨gb176, 2, none⟩ (.string ((rd_T33 l0 x3_1).f2))).setCell ⟨gb176, 3, none⟩ (.string ((rd_T33 l0 x3_1).f3)))).cell? _ = some _ from hx177_2))
            (try have hy177_3 := fun (n_ : Nat) => (show ((((((w5.drewN n_).setCell ⟨gb176, 0, none⟩ (.int .i64 ((rd_T33 l0 x3_1).f0))).setCell ⟨gb176, 1, none⟩ (.int .i64 ((rd_T33 l0 x3_1).f1))).setCell ⟨gb176, 2, none⟩ (.string ((rd_T33 l0 x3_1).f2))).setCell ⟨gb176, 3, none⟩ (.string ((rd_T33 l0 x3_1).f3)))).cell? _ = some _ from hx177_3))
            clear hn177_0
            clear hn177_1
            clear hn177_2
            clear hn177_3
            replace p177 := eq_true p177
            replace q177 := eq_true q177
            go_wp2
            repeat (go_quiet (fail); try go_wp2)
            go_meet
            case rel => exact ⟨_, (true), (by first | rfl | (simp; done) | (simp [*]; done)), H', ⟨by have := HK1.out; first | omega | exact Nat.le_refl _⟩, ⟨by (with_reducible repeat (first | refine blk_drewN ?_ _ | refine blk_drew ?_ | refine blk_alloc ?_ _)); refine blk_put (cs := #[.int .i64 ((rd_T33 l0 x3_1).f0), .int .i64 ((rd_T33 l0 x3_1).f1), .string ((rd_T33 l0 x3_1).f2), .string (⟨#[]⟩ : ByteArray)]) ?_ 3 _ rfl; (with_reducible repeat (first | refine blk_drewN ?_ _ | refine blk_drew ?_ | refine blk_alloc ?_ _)); refine blk_put (cs := #[.int .i64 ((rd_T33 l0 x3_1).f0), .int .i64 ((rd_T33 l0 x3_1).f1), .string (⟨#[]⟩ : ByteArray), .string (⟨#[]⟩ : ByteArray)]) ?_ 2 _ rfl; (with_reducible repeat (first | refine blk_drewN ?_ _ | refine blk_drew ?_ | refine blk_alloc ?_ _)); refine blk_put (cs := #[.int .i64 ((rd_T33 l0 x3_1).f0), .int .i64 0, .string (⟨#[]⟩ : ByteArray), .string (⟨#[]⟩ : ByteArray)]) ?_ 1 _ rfl; (with_reducible repeat (first | refine blk_drewN ?_ _ | refine blk_drew ?_ | refine blk_alloc ?_ _)); refine blk_put (cs := #[.int .i64 0, .int .i64 0, .string (⟨#[]⟩ : ByteArray), .string (⟨#[]⟩ : ByteArray)]) ?_ 0 _ rfl; (with_reducible repeat (first | refine blk_drewN ?_ _ | refine blk_drew ?_ | refine blk_alloc ?_ _)); exact BK176.out⟩, ⟨by repeat (first | (with_reducible first | exact HB.out | apply below_alloc | apply pw_below_drewN | apply below_drew1 | refine below_set ?_ GE176.out) | exact HB.out)⟩⟩
           ·rw [if_neg c15] at H
            have c15b0 : decide (((rd_T33 l0 x3_1).f0) ≤ ((rd_T33 l0 (ji12)).f0)) = false := decide_eq_false c15
            clear c15
            by_cases c17 : ((rd_T33 l0 x3_1).f1) < 1
            ·rw [if_pos c17] at H
             have c17b0 : decide (((rd_T33 l0 x3_1).f1) < 1) = true := decide_eq_true c17
             clear c17
             have H' := Aside0.mk H
             clear H
             have hcz18_0 : w5.cell? ⟨gb176, 0, none⟩ = some (.int .i64 0) := (blk_cell BK176.out 0).trans rfl
             have hcz18_1 : w5.cell? ⟨gb176, 1, none⟩ = some (.int .i64 0) := (blk_cell BK176.out 1).trans rfl
             have hcz18_2 : w5.cell? ⟨gb176, 2, none⟩ = some (.string (⟨#[]⟩ : ByteArray)) := (blk_cell BK176.out 2).trans rfl
             have hcz18_3 : w5.cell? ⟨gb176, 3, none⟩ = some (.string (⟨#[]⟩ : ByteArray)) := (blk_cell BK176.out 3).trans rfl
             have hfz18_0 := blk_frozen BK176.out 0
             have hfz18_1 := blk_frozen BK176.out 1
             have hfz18_2 := blk_frozen BK176.out 2
             have hfz18_3 := blk_frozen BK176.out 3
             have p177 : 0 ≤ ((ji12) : Int) := of_decide_eq_true (by first | (with_reducible assumption) | assumption)
             have q177 : (ji12) < (l0.length : Int) := of_decide_eq_true (by first | (with_reducible assumption) | assumption)
             obtain ⟨ad177, e177, hx177_0, hx177_1, hx177_2, hx177_3⟩ := at_T33 HR0.out (ji12) p177 q177
             obtain rfl : ad175 = ad177 := (by injection e177)
             have hn177_0 : ad175.block ≠ gb176 := Nat.ne_of_lt (Nat.lt_of_lt_of_le (by have := World.block_lt_of_cell? _ _ hx177_0; first | rwa [add_block] at this | exact this) GW176.out)
             have hn177_1 : ad175.block ≠ gb176 := Nat.ne_of_lt (Nat.lt_of_lt_of_le (by have := World.block_lt_of_cell? _ _ hx177_0; first | rwa [add_block] at this | exact this) GW176.out)
             have hn177_2 : ad175.block ≠ gb176 := Nat.ne_of_lt (Nat.lt_of_lt_of_le (by have := World.block_lt_of_cell? _ _ hx177_0; first | rwa [add_block] at this | exact this) GW176.out)
             have hn177_3 : ad175.block ≠ gb176 := Nat.ne_of_lt (Nat.lt_of_lt_of_le (by have := World.block_lt_of_cell? _ _ hx177_0; first | rwa [add_block] at this | exact this) GW176.out)
             replace hx177_0 := (HB.out.cell (World.block_lt_of_cell? w _ hx177_0)).trans hx177_0
             replace hx177_1 := (HB.out.cell (World.block_lt_of_cell? w _ hx177_1)).trans hx177_1
             replace hx177_2 := (HB.out.cell (World.block_lt_of_cell? w _ hx177_2)).trans hx177_2
             replace hx177_3 := (HB.out.cell (World.block_lt_of_cell? w _ hx177_3)).trans hx177_3
             replace hx177_0 := (cell_far (p := ⟨gb176, 0, none⟩) (by first | (rw [add_block]; exact hn177_0) | (show (Addr.add _ _).block ≠ _; rw [add_block]; exact hn177_0) | exact hn177_0) (.int .i64 ((rd_T33 l0 x3_1).f0))).trans hx177_0
             replace hx177_1 := (cell_far (p := ⟨gb176, 0, none⟩) (by first | (rw [add_block]; exact hn177_0) | (show (Addr.add _ _).block ≠ _; rw [add_block]; exact hn177_0) | exact hn177_0) (.int .i64 ((rd_T33 l0 x3_1).f0))).trans hx177_1
             replace hx177_2 := (cell_far (p := ⟨gb176, 0, none⟩) (by first | (rw [add_block]; exact hn177_0) | (show (Addr.add _ _).block ≠ _; rw [add_block]; exact hn177_0) | exact hn177_0) (.int .i64 ((rd_T33 l0 x3_1).f0))).trans hx177_2
             replace hx177_3 := (cell_far (p := ⟨gb176, 0, none⟩) (by first | (rw [add_block]; exact hn177_0) | (show (Addr.add _ _).block ≠ _; rw [add_block]; exact hn177_0) | exact hn177_0) (.int .i64 ((rd_T33 l0 x3_1).f0))).trans hx177_3
             replace hx177_0 := (cell_far (p := ⟨gb176, 1, none⟩) (by first | (rw [add_block]; exact hn177_1) | (show (Addr.add _ _).block ≠ _; rw [add_block]; exact hn177_1) | exact hn177_1) (.int .i64 ((rd_T33 l0 x3_1).f1))).trans hx177_0
             replace hx177_1 := (cell_far (p := ⟨gb176, 1, none⟩) (by first | (rw [add_block]; exact hn177_1) | (show (Addr.add _ _).block ≠ _; rw [add_block]; exact hn177_1) | exact hn177_1) (.int .i64 ((rd_T33 l0 x3_1).f1))).trans hx177_1
             replace hx177_2 := (cell_far (p := ⟨gb176, 1, none⟩) (by first | (rw [add_block]; exact hn177_1) | (show (Addr.add _ _).block ≠ _; rw [add_block]; exact hn177_1) | exact hn177_1) (.int .i64 ((rd_T33 l0 x3_1).f1))).trans hx177_2
             replace hx177_3 := (cell_far (p := ⟨gb176, 1, none⟩) (by first | (rw [add_block]; exact hn177_1) | (show (Addr.add _ _).block ≠ _; rw [add_block]; exact hn177_1) | exact hn177_1) (.int .i64 ((rd_T33 l0 x3_1).f1))).trans hx177_3
             replace hx177_0 := (cell_far (p := ⟨gb176, 2, none⟩) (by first | (rw [add_block]; exact hn177_2) | (show (Addr.add _ _).block ≠ _; rw [add_block]; exact hn177_2) | exact hn177_2) (.string ((rd_T33 l0 x3_1).f2))).trans hx177_0
             replace hx177_1 := (cell_far (p := ⟨gb176, 2, none⟩) (by first | (rw [add_block]; exact hn177_2) | (show (Addr.add _ _).block ≠ _; rw [add_block]; exact hn177_2) | exact hn177_2) (.string ((rd_T33 l0 x3_1).f2))).trans hx177_1
             replace hx177_2 := (cell_far (p := ⟨gb176, 2, none⟩) (by first | (rw [add_block]; exact hn177_2) | (show (Addr.add _ _).block ≠ _; rw [add_block]; exact hn177_2) | exact hn177_2) (.string ((rd_T33 l0 x3_1).f2))).trans hx177_2
             replace hx177_3 := (cell_far (p := ⟨gb176, 2, none⟩) (by first | (rw [add_block]; exact hn177_2) | (show (Addr.add _ _).block ≠ _; rw [add_block]; exact hn177_2) | exact hn177_2) (.string ((rd_T33 l0 x3_1).f2))).trans hx177_3
             replace hx177_0 := (cell_far (p := ⟨gb176, 3, none⟩) (by first | (rw [add_block]; exact hn177_3) | (show (Addr.add _ _).block ≠ _; rw [add_block]; exact hn177_3) | exact hn177_3) (.string ((rd_T33 l0 x3_1).f3))).trans hx177_0
             replace hx177_1 := (cell_far (p := ⟨gb176, 3, none⟩) (by first | (rw [add_block]; exact hn177_3) | (show (Addr.add _ _).block ≠ _; rw [add_block]; exact hn177_3) | exact hn177_3) (.string ((rd_T33 l0 x3_1).f3))).trans hx177_1
             replace hx177_2 := (cell_far (p := ⟨gb176, 3, none⟩) (by first | (rw [add_block]; exact hn177_3) | (show (Addr.add _ _).block ≠ _; rw [add_block]; exact hn177_3) | exact hn177_3) (.string ((rd_T33 l0 x3_1).f3))).trans hx177_2
             replace hx177_3 := (cell_far (p := ⟨gb176, 3, none⟩) (by first | (rw [add_block]; exact hn177_3) | (show (Addr.add _ _).block ≠ _; rw [add_block]; exact hn177_3) | exact hn177_3) (.string ((rd_T33 l0 x3_1).f3))).trans hx177_3
             (try have hy177_0 := fun (n_ : Nat) => (show ((((((w5.drewN n_).setCell ⟨gb176, 0, none⟩ (.int .i64 ((rd_T33 l0 x3_1).f0))).setCell ⟨gb176, 1, none⟩ (.int .i64 ((rd_T33 l0 x3_1).f1))).setCell ⟨gb176, 2, none⟩ (.string ((rd_T33 l0 x3_1).f2))).setCell ⟨gb176, 3, none⟩ (.string ((rd_T33 l0 x3_1).f3)))).cell? _ = some _ from hx177_0))
             (try have hy177_1 := fun (n_ : Nat) => (show ((((((w5.drewN n_).setCell ⟨gb176, 0, none⟩ (.int .i64 ((rd_T33 l0 x3_1).f0))).setCell ⟨gb176, 1, none⟩ (.int .i64 ((rd_T33 l0 x3_1).f1))).setCell ⟨gb176, 2, none⟩ (.string ((rd_T33 l0 x3_1).f2))).setCell ⟨gb176, 3, none⟩ (.string ((rd_T33 l0 x3_1).f3)))).cell? _ = some _ from hx177_1))
             (try have hy177_2 := fun (n_ : Nat) => (show ((((((w5.drewN n_).setCell ⟨gb176, 0, none⟩ (.int .i64 ((rd_T33 l0 x3_1).f0))).setCell ⟨gb176, 1, none⟩ (.int .i64 ((rd_T33 l0 x3_1).f1))).setCell ⟨gb176, 2, none⟩ (.string ((rd_T33 l0 x3_1).f2))).setCell ⟨gb176, 3, none⟩ (.string ((rd_T33 l0 x3_1).f3)))).cell? _ = some _ from hx177_2))
             (try have hy177_3 := fun (n_ : Nat) => (show ((((((w5.drewN n_).setCell ⟨gb176, 0, none⟩ (.int .i64 ((rd_T33 l0 x3_1).f0))).setCell ⟨gb176, 1, none⟩ (.int .i64 ((rd_T33 l0 x3_1).f1))).setCell ⟨gb176, 2, none⟩ (.string ((rd_T33 l0 x3_1).f2))).setCell ⟨gb176, 3, none⟩ (.string ((rd_T33 l0 x3_1).f3)))).cell? _ = some _ from hx177_3))
             clear hn177_0
             clear hn177_1
             clear hn177_2
             clear hn177_3
             replace p177 := eq_true p177
             replace q177 := eq_true q177
             go_wp2
             repeat (go_quiet (fail); try go_wp2)
             go_meet
             case rel => exact ⟨_, (true), (by first | rfl | (simp; done) | (simp [*]; done)), H', ⟨by have := HK1.out; first | omega | exact Nat.le_refl _⟩, ⟨by (with_reducible repeat (first | refine blk_drewN ?_ _ | refine blk_drew ?_ | refine blk_alloc ?_ _)); refine blk_put (cs := #[.int .i64 ((rd_T33 l0 x3_1).f0), .int .i64 ((rd_T33 l0 x3_1).f1), .string ((rd_T33 l0 x3_1).f2), .string (⟨#[]⟩ : ByteArray)]) ?_ 3 _ rfl; (with_reducible repeat (first | refine blk_drewN ?_ _ | refine blk_drew ?_ | refine blk_alloc ?_ _)); refine blk_put (cs := #[.int .i64 ((rd_T33 l0 x3_1).f0), .int .i64 ((rd_T33 l0 x3_1).f1), .string (⟨#[]⟩ : ByteArray), .string (⟨#[]⟩ : ByteArray)]) ?_ 2 _ rfl; (with_reducible repeat (first | refine blk_drewN ?_ _ | refine blk_drew ?_ | refine blk_alloc ?_ _)); refine blk_put (cs := #[.int .i64 ((rd_T33 l0 x3_1).f0), .int .i64 0, .string (⟨#[]⟩ : ByteArray), .string (⟨#[]⟩ : ByteArray)]) ?_ 1 _ rfl; (with_reducible repeat (first | refine blk_drewN ?_ _ | refine blk_drew ?_ | refine blk_alloc ?_ _)); refine blk_put (cs := #[.int .i64 0, .int .i64 0, .string (⟨#[]⟩ : ByteArray), .string (⟨#[]⟩ : ByteArray)]) ?_ 0 _ rfl; (with_reducible repeat (first | refine blk_drewN ?_ _ | refine blk_drew ?_ | refine blk_alloc ?_ _)); exact BK176.out⟩, ⟨by repeat (first | (with_reducible first | exact HB.out | apply below_alloc | apply pw_below_drewN | apply below_drew1 | refine below_set ?_ GE176.out) | exact HB.out)⟩⟩
            ·rw [if_neg c17] at H
             have c17b0 : decide (((rd_T33 l0 x3_1).f1) < 1) = false := decide_eq_false c17
             clear c17
             have H' := Aside0.mk H
             clear H
             have hcz19_0 : w5.cell? ⟨gb176, 0, none⟩ = some (.int .i64 0) := (blk_cell BK176.out 0).trans rfl
             have hcz19_1 : w5.cell? ⟨gb176, 1, none⟩ = some (.int .i64 0) := (blk_cell BK176.out 1).trans rfl
             have hcz19_2 : w5.cell? ⟨gb176, 2, none⟩ = some (.string (⟨#[]⟩ : ByteArray)) := (blk_cell BK176.out 2).trans rfl
             have hcz19_3 : w5.cell? ⟨gb176, 3, none⟩ = some (.string (⟨#[]⟩ : ByteArray)) := (blk_cell BK176.out 3).trans rfl
             have hfz19_0 := blk_frozen BK176.out 0
             have hfz19_1 := blk_frozen BK176.out 1
             have hfz19_2 := blk_frozen BK176.out 2
             have hfz19_3 := blk_frozen BK176.out 3
             have p177 : 0 ≤ ((ji12) : Int) := of_decide_eq_true (by first | (with_reducible assumption) | assumption)
             have q177 : (ji12) < (l0.length : Int) := of_decide_eq_true (by first | (with_reducible assumption) | assumption)
             obtain ⟨ad177, e177, hx177_0, hx177_1, hx177_2, hx177_3⟩ := at_T33 HR0.out (ji12) p177 q177
             obtain rfl : ad175 = ad177 := (by injection e177)
             have hn177_0 : ad175.block ≠ gb176 := Nat.ne_of_lt (Nat.lt_of_lt_of_le (by have := World.block_lt_of_cell? _ _ hx177_0; first | rwa [add_block] at this | exact this) GW176.out)
             have hn177_1 : ad175.block ≠ gb176 := Nat.ne_of_lt (Nat.lt_of_lt_of_le (by have := World.block_lt_of_cell? _ _ hx177_0; first | rwa [add_block] at this | exact this) GW176.out)
             have hn177_2 : ad175.block ≠ gb176 := Nat.ne_of_lt (Nat.lt_of_lt_of_le (by have := World.block_lt_of_cell? _ _ hx177_0; first | rwa [add_block] at this | exact this) GW176.out)
             have hn177_3 : ad175.block ≠ gb176 := Nat.ne_of_lt (Nat.lt_of_lt_of_le (by have := World.block_lt_of_cell? _ _ hx177_0; first | rwa [add_block] at this | exact this) GW176.out)
             replace hx177_0 := (HB.out.cell (World.block_lt_of_cell? w _ hx177_0)).trans hx177_0
             replace hx177_1 := (HB.out.cell (World.block_lt_of_cell? w _ hx177_1)).trans hx177_1
             replace hx177_2 := (HB.out.cell (World.block_lt_of_cell? w _ hx177_2)).trans hx177_2
             replace hx177_3 := (HB.out.cell (World.block_lt_of_cell? w _ hx177_3)).trans hx177_3
             replace hx177_0 := (cell_far (p := ⟨gb176, 0, none⟩) (by first | (rw [add_block]; exact hn177_0) | (show (Addr.add _ _).block ≠ _; rw [add_block]; exact hn177_0) | exact hn177_0) (.int .i64 ((rd_T33 l0 x3_1).f0))).trans hx177_0
             replace hx177_1 := (cell_far (p := ⟨gb176, 0, none⟩) (by first | (rw [add_block]; exact hn177_0) | (show (Addr.add _ _).block ≠ _; rw [add_block]; exact hn177_0) | exact hn177_0) (.int .i64 ((rd_T33 l0 x3_1).f0))).trans hx177_1
             replace hx177_2 := (cell_far (p := ⟨gb176, 0, none⟩) (by first | (rw [add_block]; exact hn177_0) | (show (Addr.add _ _).block ≠ _; rw [add_block]; exact hn177_0) | exact hn177_0) (.int .i64 ((rd_T33 l0 x3_1).f0))).trans hx177_2
             replace hx177_3 := (cell_far (p := ⟨gb176, 0, none⟩) (by first | (rw [add_block]; exact hn177_0) | (show (Addr.add _ _).block ≠ _; rw [add_block]; exact hn177_0) | exact hn177_0) (.int .i64 ((rd_T33 l0 x3_1).f0))).trans hx177_3
             replace hx177_0 := (cell_far (p := ⟨gb176, 1, none⟩) (by first | (rw [add_block]; exact hn177_1) | (show (Addr.add _ _).block ≠ _; rw [add_block]; exact hn177_1) | exact hn177_1) (.int .i64 ((rd_T33 l0 x3_1).f1))).trans hx177_0
             replace hx177_1 := (cell_far (p := ⟨gb176, 1, none⟩) (by first | (rw [add_block]; exact hn177_1) | (show (Addr.add _ _).block ≠ _; rw [add_block]; exact hn177_1) | exact hn177_1) (.int .i64 ((rd_T33 l0 x3_1).f1))).trans hx177_1
             replace hx177_2 := (cell_far (p := ⟨gb176, 1, none⟩) (by first | (rw [add_block]; exact hn177_1) | (show (Addr.add _ _).block ≠ _; rw [add_block]; exact hn177_1) | exact hn177_1) (.int .i64 ((rd_T33 l0 x3_1).f1))).trans hx177_2
             replace hx177_3 := (cell_far (p := ⟨gb176, 1, none⟩) (by first | (rw [add_block]; exact hn177_1) | (show (Addr.add _ _).block ≠ _; rw [add_block]; exact hn177_1) | exact hn177_1) (.int .i64 ((rd_T33 l0 x3_1).f1))).trans hx177_3
             replace hx177_0 := (cell_far (p := ⟨gb176, 2, none⟩) (by first | (rw [add_block]; exact hn177_2) | (show (Addr.add _ _).block ≠ _; rw [add_block]; exact hn177_2) | exact hn177_2) (.string ((rd_T33 l0 x3_1).f2))).trans hx177_0
             replace hx177_1 := (cell_far (p := ⟨gb176, 2, none⟩) (by first | (rw [add_block]; exact hn177_2) | (show (Addr.add _ _).block ≠ _; rw [add_block]; exact hn177_2) | exact hn177_2) (.string ((rd_T33 l0 x3_1).f2))).trans hx177_1
             replace hx177_2 := (cell_far (p := ⟨gb176, 2, none⟩) (by first | (rw [add_block]; exact hn177_2) | (show (Addr.add _ _).block ≠ _; rw [add_block]; exact hn177_2) | exact hn177_2) (.string ((rd_T33 l0 x3_1).f2))).trans hx177_2
             replace hx177_3 := (cell_far (p := ⟨gb176, 2, none⟩) (by first | (rw [add_block]; exact hn177_2) | (show (Addr.add _ _).block ≠ _; rw [add_block]; exact hn177_2) | exact hn177_2) (.string ((rd_T33 l0 x3_1).f2))).trans hx177_3
             replace hx177_0 := (cell_far (p := ⟨gb176, 3, none⟩) (by first | (rw [add_block]; exact hn177_3) | (show (Addr.add _ _).block ≠ _; rw [add_block]; exact hn177_3) | exact hn177_3) (.string ((rd_T33 l0 x3_1).f3))).trans hx177_0
             replace hx177_1 := (cell_far (p := ⟨gb176, 3, none⟩) (by first | (rw [add_block]; exact hn177_3) | (show (Addr.add _ _).block ≠ _; rw [add_block]; exact hn177_3) | exact hn177_3) (.string ((rd_T33 l0 x3_1).f3))).trans hx177_1
             replace hx177_2 := (cell_far (p := ⟨gb176, 3, none⟩) (by first | (rw [add_block]; exact hn177_3) | (show (Addr.add _ _).block ≠ _; rw [add_block]; exact hn177_3) | exact hn177_3) (.string ((rd_T33 l0 x3_1).f3))).trans hx177_2
             replace hx177_3 := (cell_far (p := ⟨gb176, 3, none⟩) (by first | (rw [add_block]; exact hn177_3) | (show (Addr.add _ _).block ≠ _; rw [add_block]; exact hn177_3) | exact hn177_3) (.string ((rd_T33 l0 x3_1).f3))).trans hx177_3
             (try have hy177_0 := fun (n_ : Nat) => (show ((((((w5.drewN n_).setCell ⟨gb176, 0, none⟩ (.int .i64 ((rd_T33 l0 x3_1).f0))).setCell ⟨gb176, 1, none⟩ (.int .i64 ((rd_T33 l0 x3_1).f1))).setCell ⟨gb176, 2, none⟩ (.string ((rd_T33 l0 x3_1).f2))).setCell ⟨gb176, 3, none⟩ (.string ((rd_T33 l0 x3_1).f3)))).cell? _ = some _ from hx177_0))
             (try have hy177_1 := fun (n_ : Nat) => (show ((((((w5.drewN n_).setCell ⟨gb176, 0, none⟩ (.int .i64 ((rd_T33 l0 x3_1).f0))).setCell ⟨gb176, 1, none⟩ (.int .i64 ((rd_T33 l0 x3_1).f1))).setCell ⟨gb176, 2, none⟩ (.string ((rd_T33 l0 x3_1).f2))).setCell ⟨gb176, 3, none⟩ (.string ((rd_T33 l0 x3_1).f3)))).cell? _ = some _ from hx177_1))
             (try have hy177_2 := fun (n_ : Nat) => (show ((((((w5.drewN n_).setCell ⟨gb176, 0, none⟩ (.int .i64 ((rd_T33 l0 x3_1).f0))).setCell ⟨gb176, 1, none⟩ (.int .i64 ((rd_T33 l0 x3_1).f1))).setCell ⟨gb176, 2, none⟩ (.string ((rd_T33 l0 x3_1).f2))).setCell ⟨gb176, 3, none⟩ (.string ((rd_T33 l0 x3_1).f3)))).cell? _ = some _ from hx177_2))
             (try have hy177_3 := fun (n_ : Nat) => (show ((((((w5.drewN n_).setCell ⟨gb176, 0, none⟩ (.int .i64 ((rd_T33 l0 x3_1).f0))).setCell ⟨gb176, 1, none⟩ (.int .i64 ((rd_T33 l0 x3_1).f1))).setCell ⟨gb176, 2, none⟩ (.string ((rd_T33 l0 x3_1).f2))).setCell ⟨gb176, 3, none⟩ (.string ((rd_T33 l0 x3_1).f3)))).cell? _ = some _ from hx177_3))
             clear hn177_0
             clear hn177_1
             clear hn177_2
             clear hn177_3
             replace p177 := eq_true p177
             replace q177 := eq_true q177
             go_wp2
             repeat (go_quiet (fail); try go_wp2)
             go_meet
             case rel => exact ⟨_, (decide (((rd_T33 l0 x3_1).f1) > 9)), (by first | rfl | (simp; done) | (simp [*]; done)), H', ⟨by have := HK1.out; first | omega | exact Nat.le_refl _⟩, ⟨by (with_reducible repeat (first | refine blk_drewN ?_ _ | refine blk_drew ?_ | refine blk_alloc ?_ _)); refine blk_put (cs := #[.int .i64 ((rd_T33 l0 x3_1).f0), .int .i64 ((rd_T33 l0 x3_1).f1), .string ((rd_T33 l0 x3_1).f2), .string (⟨#[]⟩ : ByteArray)]) ?_ 3 _ rfl; (with_reducible repeat (first | refine blk_drewN ?_ _ | refine blk_drew ?_ | refine blk_alloc ?_ _)); refine blk_put (cs := #[.int .i64 ((rd_T33 l0 x3_1).f0), .int .i64 ((rd_T33 l0 x3_1).f1), .string (⟨#[]⟩ : ByteArray), .string (⟨#[]⟩ : ByteArray)]) ?_ 2 _ rfl; (with_reducible repeat (first | refine blk_drewN ?_ _ | refine blk_drew ?_ | refine blk_alloc ?_ _)); refine blk_put (cs := #[.int .i64 ((rd_T33 l0 x3_1).f0), .int .i64 0, .string (⟨#[]⟩ : ByteArray), .string (⟨#[]⟩ : ByteArray)]) ?_ 1 _ rfl; (with_reducible repeat (first | refine blk_drewN ?_ _ | refine blk_drew ?_ | refine blk_alloc ?_ _)); refine blk_put (cs := #[.int .i64 0, .int .i64 0, .string (⟨#[]⟩ : ByteArray), .string (⟨#[]⟩ : ByteArray)]) ?_ 0 _ rfl; (with_reducible repeat (first | refine blk_drewN ?_ _ | refine blk_drew ?_ | refine blk_alloc ?_ _)); exact BK176.out⟩, ⟨by repeat (first | (with_reducible first | exact HB.out | apply below_alloc | apply pw_below_drewN | apply below_drew1 | refine below_set ?_ GE176.out) | exact HB.out)⟩⟩
          ·rw [if_neg c14] at H
           exact absurd H (by simp)
         ·rw [if_neg c13] at H
          exact absurd H (by simp)
        ·rw [if_neg c11] at H
         have c11b0 : decide (0 < x3_1) = false := decide_eq_false c11
         clear c11
         by_cases c20 : ((rd_T33 l0 x3_1).f1) < 1
         ·rw [if_pos c20] at H
          have c20b0 : decide (((rd_T33 l0 x3_1).f1) < 1) = true := decide_eq_true c20
          clear c20
          have H' := Aside0.mk H
          clear H
          have hcz21_0 : w5.cell? ⟨gb176, 0, none⟩ = some (.int .i64 0) := (blk_cell BK176.out 0).trans rfl
          have hcz21_1 : w5.cell? ⟨gb176, 1, none⟩ = some (.int .i64 0) := (blk_cell BK176.out 1).trans rfl
          have hcz21_2 : w5.cell? ⟨gb176, 2, none⟩ = some (.string (⟨#[]⟩ : ByteArray)) := (blk_cell BK176.out 2).trans rfl
          have hcz21_3 : w5.cell? ⟨gb176, 3, none⟩ = some (.string (⟨#[]⟩ : ByteArray)) := (blk_cell BK176.out 3).trans rfl
          have hfz21_0 := blk_frozen BK176.out 0
          have hfz21_1 := blk_frozen BK176.out 1
          have hfz21_2 := blk_frozen BK176.out 2
          have hfz21_3 := blk_frozen BK176.out 3
          go_wp2
          repeat (go_quiet (fail); try go_wp2)
          go_meet
          case rel => exact ⟨_, (true), (by first | rfl | (simp; done) | (simp [*]; done)), H', ⟨by have := HK1.out; first | omega | exact Nat.le_refl _⟩, ⟨by (with_reducible repeat (first | refine blk_drewN ?_ _ | refine blk_drew ?_ | refine blk_alloc ?_ _)); refine blk_put (cs := #[.int .i64 ((rd_T33 l0 x3_1).f0), .int .i64 ((rd_T33 l0 x3_1).f1), .string ((rd_T33 l0 x3_1).f2), .string (⟨#[]⟩ : ByteArray)]) ?_ 3 _ rfl; (with_reducible repeat (first | refine blk_drewN ?_ _ | refine blk_drew ?_ | refine blk_alloc ?_ _)); refine blk_put (cs := #[.int .i64 ((rd_T33 l0 x3_1).f0), .int .i64 ((rd_T33 l0 x3_1).f1), .string (⟨#[]⟩ : ByteArray), .string (⟨#[]⟩ : ByteArray)]) ?_ 2 _ rfl; (with_reducible repeat (first | refine blk_drewN ?_ _ | refine blk_drew ?_ | refine blk_alloc ?_ _)); refine blk_put (cs := #[.int .i64 ((rd_T33 l0 x3_1).f0), .int .i64 0, .string (⟨#[]⟩ : ByteArray), .string (⟨#[]⟩ : ByteArray)]) ?_ 1 _ rfl; (with_reducible repeat (first | refine blk_drewN ?_ _ | refine blk_drew ?_ | refine blk_alloc ?_ _)); refine blk_put (cs := #[.int .i64 0, .int .i64 0, .string (⟨#[]⟩ : ByteArray), .string (⟨#[]⟩ : ByteArray)]) ?_ 0 _ rfl; (with_reducible repeat (first | refine blk_drewN ?_ _ | refine blk_drew ?_ | refine blk_alloc ?_ _)); exact BK176.out⟩, ⟨by repeat (first | (with_reducible first | exact HB.out | apply below_alloc | apply pw_below_drewN | apply below_drew1 | refine below_set ?_ GE176.out) | exact HB.out)⟩⟩
         ·rw [if_neg c20] at H
          have c20b0 : decide (((rd_T33 l0 x3_1).f1) < 1) = false := decide_eq_false c20
          clear c20
          have H' := Aside0.mk H
          clear H
          have hcz22_0 : w5.cell? ⟨gb176, 0, none⟩ = some (.int .i64 0) := (blk_cell BK176.out 0).trans rfl
          have hcz22_1 : w5.cell? ⟨gb176, 1, none⟩ = some (.int .i64 0) := (blk_cell BK176.out 1).trans rfl
          have hcz22_2 : w5.cell? ⟨gb176, 2, none⟩ = some (.string (⟨#[]⟩ : ByteArray)) := (blk_cell BK176.out 2).trans rfl
          have hcz22_3 : w5.cell? ⟨gb176, 3, none⟩ = some (.string (⟨#[]⟩ : ByteArray)) := (blk_cell BK176.out 3).trans rfl
          have hfz22_0 := blk_frozen BK176.out 0
          have hfz22_1 := blk_frozen BK176.out 1
          have hfz22_2 := blk_frozen BK176.out 2
          have hfz22_3 := blk_frozen BK176.out 3
          go_wp2
          repeat (go_quiet (fail); try go_wp2)
          go_meet
          case rel => exact ⟨_, (decide (((rd_T33 l0 x3_1).f1) > 9)), (by first | rfl | (simp; done) | (simp [*]; done)), H', ⟨by have := HK1.out; first | omega | exact Nat.le_refl _⟩, ⟨by (with_reducible repeat (first | refine blk_drewN ?_ _ | refine blk_drew ?_ | refine blk_alloc ?_ _)); refine blk_put (cs := #[.int .i64 ((rd_T33 l0 x3_1).f0), .int .i64 ((rd_T33 l0 x3_1).f1), .string ((rd_T33 l0 x3_1).f2), .string (⟨#[]⟩ : ByteArray)]) ?_ 3 _ rfl; (with_reducible repeat (first | refine blk_drewN ?_ _ | refine blk_drew ?_ | refine blk_alloc ?_ _)); refine blk_put (cs := #[.int .i64 ((rd_T33 l0 x3_1).f0), .int .i64 ((rd_T33 l0 x3_1).f1), .string (⟨#[]⟩ : ByteArray), .string (⟨#[]⟩ : ByteArray)]) ?_ 2 _ rfl; (with_reducible repeat (first | refine blk_drewN ?_ _ | refine blk_drew ?_ | refine blk_alloc ?_ _)); refine blk_put (cs := #[.int .i64 ((rd_T33 l0 x3_1).f0), .int .i64 0, .string (⟨#[]⟩ : ByteArray), .string (⟨#[]⟩ : ByteArray)]) ?_ 1 _ rfl; (with_reducible repeat (first | refine blk_drewN ?_ _ | refine blk_drew ?_ | refine blk_alloc ?_ _)); refine blk_put (cs := #[.int .i64 0, .int .i64 0, .string (⟨#[]⟩ : ByteArray), .string (⟨#[]⟩ : ByteArray)]) ?_ 0 _ rfl; (with_reducible repeat (first | refine blk_drewN ?_ _ | refine blk_drew ?_ | refine blk_alloc ?_ _)); exact BK176.out⟩, ⟨by repeat (first | (with_reducible first | exact HB.out | apply below_alloc | apply pw_below_drewN | apply below_drew1 | refine below_set ?_ GE176.out) | exact HB.out)⟩⟩
     case rest =>
      clear HC4
      try clear c1
      try clear p1
      try clear q1
      try clear hx1
      try clear c2
      try clear c2b0
      try clear p2
      try clear c3
      try clear c3b0
      try clear p6
      try clear c7
      try clear c7b0
      try clear c9
      try clear c9b0
      try clear c11
      try clear c11b0
      try clear c13
      try clear c13b0
      try clear c14
      try clear c14b0
      try clear c15
      try clear c15b0
      try clear c17
      try clear c17b0
      try clear p17
      try clear q17
      try clear hx17
      try clear c20
      try clear c20b0
      try clear hcz10_0
      try clear hcz10_1
      try clear hcz10_2
      try clear hcz10_3
      try clear hcz16_0
      try clear hcz16_1
      try clear hcz16_2
      try clear hcz16_3
      try clear hcz18_0
      try clear hcz18_1
      try clear hcz18_2
      try clear hcz18_3
      try clear hcz19_0
      try clear hcz19_1
      try clear hcz19_2
      try clear hcz19_3
      try clear hcz21_0
      try clear hcz21_1
      try clear hcz21_2
      try clear hcz21_3
      try clear hcz22_0
      try clear hcz22_1
      try clear hcz22_2
      try clear hcz22_3
      try clear hcz6_0
      try clear hcz6_1
      try clear hcz6_2
      try clear hcz6_3
      try clear hcz8_0
      try clear hcz8_1
      try clear hcz8_2
      try clear hcz8_3
      try clear hfz10_0
      try clear hfz10_1
      try clear hfz10_2
      try clear hfz10_3
      try clear hfz16_0
      try clear hfz16_1
      try clear hfz16_2
      try clear hfz16_3
      try clear hfz18_0
      try clear hfz18_1
      try clear hfz18_2
      try clear hfz18_3
      try clear hfz19_0
      try clear hfz19_1
      try clear hfz19_2
      try clear hfz19_3
      try clear hfz21_0
      try clear hfz21_1
      try clear hfz21_2
      try clear hfz21_3
      try clear hfz22_0
      try clear hfz22_1
      try clear hfz22_2
      try clear hfz22_3
      try clear hfz6_0
      try clear hfz6_1
      try clear hfz6_2
      try clear hfz6_3
      try clear hfz8_0
      try clear hfz8_1
      try clear hfz8_2
      try clear hfz8_3
      try clear hx175_0
      try clear hx175_1
      try clear hx175_2
      try clear hx175_3
      try clear hx177_0
      try clear hx177_1
      try clear hx177_2
      try clear hx177_3
      try clear p175
      try clear p177
      try clear q175
      try clear q177
      obtain ⟨kq, x47_3, rfl, HA, HJ3, BK176, HB⟩ := hcut
      cases kq with
      | zero => exact absurd HA.out (by simp [garboardref58_right.j1])
      | succ kj3 =>
       have H := HA.out
       clear HA
       simp only [garboardref58_right.j1] at H
       by_cases c23 : x47_3 = true
       ·subst c23
        have H1 : (some false) = some r := by rw [if_pos rfl] at H; exact H
        clear H
        have H := H1
        clear H1
        obtain rfl := Option.some.inj H
        go_wp2
        repeat (go_quiet (fail); try go_wp2)
        go_ret
        exact ⟨by first | rfl | (simp [errW_none, errW_some] <;> rfl) | (simp [*, errW_none, errW_some] <;> rfl), by repeat (first | (with_reducible first | exact HB.out | apply below_alloc | apply pw_below_drewN | apply below_drew1 | refine below_set ?_ GE176.out) | exact HB.out)⟩
       ·replace c23 := Bool.eq_false_iff.mpr c23
        subst c23
        have H1 : (if (((rd_T33 l0 x3_1).f2).size : Int) < 1 then (some false) else (if (((rd_T33 l0 x3_1).f2).size : Int) > 64 then (some false) else (if (((rd_T33 l0 x3_1).f3).size : Int) < 1 then (some false) else (if (((rd_T33 l0 x3_1).f3).size : Int) > 64 then (some false) else (garboardref58_right.l0 kj3 l0 (wrap64 (x3_1 + 1))))))) = some r := by rw [if_neg (show ¬ (false = true) by decide)] at H; exact H
        clear H
        have H := H1
        clear H1
        by_cases c24 : (((rd_T33 l0 x3_1).f2).size : Int) < 1
        ·rw [if_pos c24] at H
         have c24b0 : decide ((((rd_T33 l0 x3_1).f2).size : Int) < 1) = true := decide_eq_true c24
         have c24b1 : decide (((rd_T33 l0 x3_1).f2).size < 1) = true := decide_eq_true (by omega)
         clear c24
         obtain rfl := Option.some.inj H
         have hcz25_0 : wc.cell? ⟨gb176, 0, none⟩ = some (.int .i64 ((rd_T33 l0 x3_1).f0)) := (blk_cell BK176.out 0).trans rfl
         have hcz25_1 : wc.cell? ⟨gb176, 1, none⟩ = some (.int .i64 ((rd_T33 l0 x3_1).f1)) := (blk_cell BK176.out 1).trans rfl
         have hcz25_2 : wc.cell? ⟨gb176, 2, none⟩ = some (.string ((rd_T33 l0 x3_1).f2)) := (blk_cell BK176.out 2).trans rfl
         have hcz25_3 : wc.cell? ⟨gb176, 3, none⟩ = some (.string ((rd_T33 l0 x3_1).f3)) := (blk_cell BK176.out 3).trans rfl
         have hfz25_0 := blk_frozen BK176.out 0
         have hfz25_1 := blk_frozen BK176.out 1
         have hfz25_2 := blk_frozen BK176.out 2
         have hfz25_3 := blk_frozen BK176.out 3
         go_wp2
         repeat (go_quiet (fail); try go_wp2)
         go_ret
         exact ⟨by first | rfl | (simp [errW_none, errW_some] <;> rfl) | (simp [*, errW_none, errW_some] <;> rfl), by repeat (first | (with_reducible first | exact HB.out | apply below_alloc | apply pw_below_drewN | apply below_drew1 | refine below_set ?_ GE176.out) | exact HB.out)⟩
        ·rw [if_neg c24] at H
         have c24b0 : decide ((((rd_T33 l0 x3_1).f2).size : Int) < 1) = false := decide_eq_false c24
         have c24b1 : decide (((rd_T33 l0 x3_1).f2).size < 1) = false := decide_eq_false (by omega)
         clear c24
         by_cases c26 : (((rd_T33 l0 x3_1).f2).size : Int) > 64
         ·rw [if_pos c26] at H
          have c26b0 : decide (64 < (((rd_T33 l0 x3_1).f2).size : Int)) = true := decide_eq_true c26
          have c26b1 : decide (64 < ((rd_T33 l0 x3_1).f2).size) = true := decide_eq_true (by omega)
          clear c26
          obtain rfl := Option.some.inj H
          have hcz27_0 : wc.cell? ⟨gb176, 0, none⟩ = some (.int .i64 ((rd_T33 l0 x3_1).f0)) := (blk_cell BK176.out 0).trans rfl
          have hcz27_1 : wc.cell? ⟨gb176, 1, none⟩ = some (.int .i64 ((rd_T33 l0 x3_1).f1)) := (blk_cell BK176.out 1).trans rfl
          have hcz27_2 : wc.cell? ⟨gb176, 2, none⟩ = some (.string ((rd_T33 l0 x3_1).f2)) := (blk_cell BK176.out 2).trans rfl
          have hcz27_3 : wc.cell? ⟨gb176, 3, none⟩ = some (.string ((rd_T33 l0 x3_1).f3)) := (blk_cell BK176.out 3).trans rfl
          have hfz27_0 := blk_frozen BK176.out 0
          have hfz27_1 := blk_frozen BK176.out 1
          have hfz27_2 := blk_frozen BK176.out 2
          have hfz27_3 := blk_frozen BK176.out 3
          go_wp2
          repeat (go_quiet (fail); try go_wp2)
          go_ret
          exact ⟨by first | rfl | (simp [errW_none, errW_some] <;> rfl) | (simp [*, errW_none, errW_some] <;> rfl), by repeat (first | (with_reducible first | exact HB.out | apply below_alloc | apply pw_below_drewN | apply below_drew1 | refine below_set ?_ GE176.out) | exact HB.out)⟩
         ·rw [if_neg c26] at H
          have c26b0 : decide (64 < (((rd_T33 l0 x3_1).f2).size : Int)) = false := decide_eq_false c26
          have c26b1 : decide (64 < ((rd_T33 l0 x3_1).f2).size) = false := decide_eq_false (by omega)
          clear c26
          by_cases c28 : (((rd_T33 l0 x3_1).f3).size : Int) < 1
          ·rw [if_pos c28] at H
           have c28b0 : decide ((((rd_T33 l0 x3_1).f3).size : Int) < 1) = true := decide_eq_true c28
           have c28b1 : decide (((rd_T33 l0 x3_1).f3).size < 1) = true := decide_eq_true (by omega)
           clear c28
           obtain rfl := Option.some.inj H
           have hcz29_0 : wc.cell? ⟨gb176, 0, none⟩ = some (.int .i64 ((rd_T33 l0 x3_1).f0)) := (blk_cell BK176.out 0).trans rfl
           have hcz29_1 : wc.cell? ⟨gb176, 1, none⟩ = some (.int .i64 ((rd_T33 l0 x3_1).f1)) := (blk_cell BK176.out 1).trans rfl
           have hcz29_2 : wc.cell? ⟨gb176, 2, none⟩ = some (.string ((rd_T33 l0 x3_1).f2)) := (blk_cell BK176.out 2).trans rfl
           have hcz29_3 : wc.cell? ⟨gb176, 3, none⟩ = some (.string ((rd_T33 l0 x3_1).f3)) := (blk_cell BK176.out 3).trans rfl
           have hfz29_0 := blk_frozen BK176.out 0
           have hfz29_1 := blk_frozen BK176.out 1
           have hfz29_2 := blk_frozen BK176.out 2
           have hfz29_3 := blk_frozen BK176.out 3
           go_wp2
           repeat (go_quiet (fail); try go_wp2)
           go_ret
           exact ⟨by first | rfl | (simp [errW_none, errW_some] <;> rfl) | (simp [*, errW_none, errW_some] <;> rfl), by repeat (first | (with_reducible first | exact HB.out | apply below_alloc | apply pw_below_drewN | apply below_drew1 | refine below_set ?_ GE176.out) | exact HB.out)⟩
          ·rw [if_neg c28] at H
           have c28b0 : decide ((((rd_T33 l0 x3_1).f3).size : Int) < 1) = false := decide_eq_false c28
           have c28b1 : decide (((rd_T33 l0 x3_1).f3).size < 1) = false := decide_eq_false (by omega)
           clear c28
           by_cases c30 : (((rd_T33 l0 x3_1).f3).size : Int) > 64
           ·rw [if_pos c30] at H
            have c30b0 : decide (64 < (((rd_T33 l0 x3_1).f3).size : Int)) = true := decide_eq_true c30
            have c30b1 : decide (64 < ((rd_T33 l0 x3_1).f3).size) = true := decide_eq_true (by omega)
            clear c30
            obtain rfl := Option.some.inj H
            have hcz31_0 : wc.cell? ⟨gb176, 0, none⟩ = some (.int .i64 ((rd_T33 l0 x3_1).f0)) := (blk_cell BK176.out 0).trans rfl
            have hcz31_1 : wc.cell? ⟨gb176, 1, none⟩ = some (.int .i64 ((rd_T33 l0 x3_1).f1)) := (blk_cell BK176.out 1).trans rfl
            have hcz31_2 : wc.cell? ⟨gb176, 2, none⟩ = some (.string ((rd_T33 l0 x3_1).f2)) := (blk_cell BK176.out 2).trans rfl
            have hcz31_3 : wc.cell? ⟨gb176, 3, none⟩ = some (.string ((rd_T33 l0 x3_1).f3)) := (blk_cell BK176.out 3).trans rfl
            have hfz31_0 := blk_frozen BK176.out 0
            have hfz31_1 := blk_frozen BK176.out 1
            have hfz31_2 := blk_frozen BK176.out 2
            have hfz31_3 := blk_frozen BK176.out 3
            go_wp2
            repeat (go_quiet (fail); try go_wp2)
            go_ret
            exact ⟨by first | rfl | (simp [errW_none, errW_some] <;> rfl) | (simp [*, errW_none, errW_some] <;> rfl), by repeat (first | (with_reducible first | exact HB.out | apply below_alloc | apply pw_below_drewN | apply below_drew1 | refine below_set ?_ GE176.out) | exact HB.out)⟩
           ·rw [if_neg c30] at H
            have c30b0 : decide (64 < (((rd_T33 l0 x3_1).f3).size : Int)) = false := decide_eq_false c30
            have c30b1 : decide (64 < ((rd_T33 l0 x3_1).f3).size) = false := decide_eq_false (by omega)
            clear c30
            have H' := Aside0.mk H
            clear H
            have hcz32_0 : wc.cell? ⟨gb176, 0, none⟩ = some (.int .i64 ((rd_T33 l0 x3_1).f0)) := (blk_cell BK176.out 0).trans rfl
            have hcz32_1 : wc.cell? ⟨gb176, 1, none⟩ = some (.int .i64 ((rd_T33 l0 x3_1).f1)) := (blk_cell BK176.out 1).trans rfl
            have hcz32_2 : wc.cell? ⟨gb176, 2, none⟩ = some (.string ((rd_T33 l0 x3_1).f2)) := (blk_cell BK176.out 2).trans rfl
            have hcz32_3 : wc.cell? ⟨gb176, 3, none⟩ = some (.string ((rd_T33 l0 x3_1).f3)) := (blk_cell BK176.out 3).trans rfl
            have hfz32_0 := blk_frozen BK176.out 0
            have hfz32_1 := blk_frozen BK176.out 1
            have hfz32_2 := blk_frozen BK176.out 2
            have hfz32_3 := blk_frozen BK176.out 3
            go_wp2
            repeat (go_quiet (fail); try go_wp2)
            go_roundg kj3
            case measure => have := HK1.out; have := HJ3.out; omega
            case rel => exact ⟨(wrap64 (x3_1 + 1)), (by first | rfl | (simp; done) | (simp [*]; done)), H', ⟨by have := HK1.out; have := HJ3.out; omega⟩, ⟨by repeat (first | (with_reducible first | exact HB.out | apply below_alloc | apply pw_below_drewN | apply below_drew1 | refine below_set ?_ GE176.out) | exact HB.out)⟩⟩
    ·rw [if_neg c3] at H
     exact absurd H (by simp)
   ·rw [if_neg c2] at H
    have c2b0 : decide (x3_1 < (l0.length : Int)) = false := decide_eq_false c2
    clear c2
    obtain rfl := Option.some.inj H
    go_wp2
    repeat (go_quiet (fail); try go_wp2)
    go_ret
    exact ⟨by first | rfl | (simp [errW_none, errW_some] <;> rfl) | (simp [*, errW_none, errW_some] <;> rfl), by repeat (first | (with_reducible first | exact HB.out | apply below_alloc | apply pw_below_drewN | apply below_drew1) | exact HB.out)⟩
end Go.Proofs.YtbfimjncophcaaaDoor.Pr
namespace Go.Proofs.YtbfimjncophcaaaDoor.Pr
open Go.RowKit Go.Proofs.YtbfimjncophcaaaDoorW.PrintWords Go.Proofs.YtbfimjncophcaaaDoorW.PrintLast Go.Proofs.YtbfimjncophcaaaDoorW.PrintMore
attribute [local go_sem] max2_int min2_int max_two min_two max_three min_three max_four min_four
set_option linter.unusedVariables false
set_option linter.unusedSimpArgs false
def garboardref58_Check.l0 : Nat → List (S33) → List (S25) → Int → Option (Int × Int)
 | 0, _, _, _ => none
 | k + 1, x0, x1, x6 => if x6 < (x1.length : Int) then ((garboardref58_fault.f k x0 x1 x6).bind fun t204 => (if t204 = 0 then (garboardref58_Check.l0 k x0 x1 (wrap64 (x6 + 1))) else (some (x6, t204)))) else (some ((-1), 0))
def garboardref58_Check.f (k : Nat) (l0 : List (S33)) (l1 : List (S25)) : Option (Int × Int) := (garboardref58_right.f k l0).bind fun t203 => (if t203 = true then (if (l1.length : Int) > 1024 then (some ((-1), 8)) else (garboardref58_Check.l0 k l0 l1 0)) else (some ((-1), 1)))
set_option maxHeartbeats 8000000 in
set_option maxRecDepth 100000 in
theorem garboardref58_Check.calls (k : Nat) (A0 : Option Addr) (c0 : Nat) (l0 : List (S33)) (A1 : Option Addr) (c1 : Nat) (l1 : List (S25)) (r1 : Int) (r2 : Int) (w : World) (hr0 : Kd.C k33 w A0 l0.length l0) (hc0 : l0.length ≤ c0) (hr1 : Kd.C k25 w A1 l1.length l1) (hc1 : l1.length ≤ c1) (hL : LaidW w) (h : garboardref58_Check.f k l0 l1 = some (r1, r2)) :
  Calls Tryd.prog 14 #[.slice A0 l0.length c0, .slice A1 l1.length c1] w fun e w' => e = .returned (.tuple #[.int .i64 r1, .int .i64 r2]) ∧ Below w.heap.size w w' := by
 have HR0 := Aside0.mk hr0
 have HC0 := Aside0.mk hc0
 clear hr0 hc0
 have HR1 := Aside0.mk hr1
 have HC1 := Aside0.mk hc1
 clear hr1 hc1
 have HB := Aside0.mk (Below.refl w.heap.size w)
 have HLW := Aside0.mk hL
 clear hL
 have H : ((garboardref58_right.f k l0).bind fun t203 => (if t203 = true then (if (l1.length : Int) > 1024 then (some ((-1), 8)) else (garboardref58_Check.l0 k l0 l1 0)) else (some ((-1), 1)))) = some (r1, r2) := h
 clear h
 replace H := Option.bind_eq_some_iff.mp H
 obtain ⟨t203, A30, H⟩ := H
 replace H : (if t203 = true then (if (l1.length : Int) > 1024 then (some ((-1), 8)) else (garboardref58_Check.l0 k l0 l1 0)) else (some ((-1), 1))) = some (r1, r2) := H
 have A3 := Aside0.mk A30
 clear A30
 by_cases c4 : t203 = true
 ·subst c4
  have H1 : (if (l1.length : Int) > 1024 then (some ((-1), 8)) else (garboardref58_Check.l0 k l0 l1 0)) = some (r1, r2) := by rw [if_pos rfl] at H; exact H
  clear H
  have H := H1
  clear H1
  by_cases c5 : (l1.length : Int) > 1024
  ·rw [if_pos c5] at H
   have c5b0 : decide (1024 < (l1.length : Int)) = true := decide_eq_true c5
   have c5b1 : decide (1024 < l1.length) = true := decide_eq_true (by omega)
   clear c5
   simp only [Option.some.injEq, Prod.mk.injEq] at H
   obtain ⟨rfl, rfl⟩ := H
   go_enter Tryd.func14, Tryd.ntmps14
   go_wp2_with (first | ((with_reducible refine gate_callee (f := 39) rfl ?_); refine goesL_ (some 9) rfl rfl Tryd.func39 (by kernel_rfl) rfl #[.slice A0 l0.length c0] rfl (by (try simp only [List.map_toArray, List.map_cons, List.map_nil]); first | done | rfl | (simp only [List.length_drop, List.length_take]; rfl)) ?_; (with_reducible refine (garboardref58_right.calls k _ _ l0 true _ ?side1 ?side2 A3.out).mono ?_); (case side1 => repeat (first | exact HR0.out | (with_reducible refine Kd.C_alloc ?_ _) | (with_reducible refine Kd.C_drewN ?_ _) | (with_reducible refine Kd.C_drew ?_))); (case side2 => exact HC0.out); rintro e w6 ⟨rfl, hb⟩; refine ⟨_, rfl, ?_⟩; have n0_ := Aside0.mk (below_step (by repeat (first | (with_reducible first | exact HB.out | apply below_alloc | apply pw_below_drewN | apply below_drew1) | exact HB.out)) hb); clear HB; have HB := n0_; clear n0_; (try clear hb); (try clear hb2); (try clear hk); (try clear hi)))
   go_ret2
   exact ⟨by first | rfl | (simp [errW_none, errW_some] <;> rfl) | (simp [*, errW_none, errW_some] <;> rfl), by repeat (first | (with_reducible first | exact HB.out | apply below_alloc | apply pw_below_drewN | apply below_drew1) | exact HB.out)⟩
  ·rw [if_neg c5] at H
   have c5b0 : decide (1024 < (l1.length : Int)) = false := decide_eq_false c5
   have c5b1 : decide (1024 < l1.length) = false := decide_eq_false (by omega)
   clear c5
   have H' := Aside0.mk H
   clear H
   go_enter Tryd.func14, Tryd.ntmps14
   go_wp2_with (first | ((with_reducible refine gate_callee (f := 39) rfl ?_); refine goesL_ (some 9) rfl rfl Tryd.func39 (by kernel_rfl) rfl #[.slice A0 l0.length c0] rfl (by (try simp only [List.map_toArray, List.map_cons, List.map_nil]); first | done | rfl | (simp only [List.length_drop, List.length_take]; rfl)) ?_; (with_reducible refine (garboardref58_right.calls k _ _ l0 true _ ?side1 ?side2 A3.out).mono ?_); (case side1 => repeat (first | exact HR0.out | (with_reducible refine Kd.C_alloc ?_ _) | (with_reducible refine Kd.C_drewN ?_ _) | (with_reducible refine Kd.C_drew ?_))); (case side2 => exact HC0.out); rintro e w7 ⟨rfl, hb⟩; refine ⟨_, rfl, ?_⟩; have n0_ := Aside0.mk (below_step (by repeat (first | (with_reducible first | exact HB.out | apply below_alloc | apply pw_below_drewN | apply below_drew1) | exact HB.out)) hb); clear HB; have HB := n0_; clear n0_; (try clear hb); (try clear hb2); (try clear hk); (try clear hi)))
   go_loopg [6] k (fun kq v6 w' => ∃ (x6_1 : Int), v6 = .int .i64 x6_1 ∧ Aside0 (garboardref58_Check.l0 kq l0 l1 x6_1 = some (r1, r2)) ∧ Aside0 (kq ≤ k) ∧ Aside0 (Below w.heap.size w w'))
   case atStart => exact ⟨(0), (by first | rfl | (simp; done) | (simp [*]; done)), H', ⟨Nat.le_refl _⟩, ⟨by repeat (first | (with_reducible first | exact HB.out | apply below_alloc | apply pw_below_drewN | apply below_drew1) | exact HB.out)⟩⟩
   case round =>
    clear H'
    try clear c1
    try clear p2
    try clear c3
    try clear c4
    try clear c5
    try clear c5b0
    try clear c5b1
    obtain ⟨x6_1, rfl, HA, HK1, HB⟩ := hrel
    cases gk with
    | zero => exact absurd HA.out (by simp [garboardref58_Check.l0])
    | succ k1 =>
     have H := HA.out
     clear HA
     simp only [garboardref58_Check.l0] at H
     by_cases c8 : x6_1 < (l1.length : Int)
     ·rw [if_pos c8] at H
      have c8b0 : decide (x6_1 < (l1.length : Int)) = true := decide_eq_true c8
      clear c8
      replace H := Option.bind_eq_some_iff.mp H
      obtain ⟨t204, A90, H⟩ := H
      replace H : (if t204 = 0 then (garboardref58_Check.l0 k1 l0 l1 (wrap64 (x6_1 + 1))) else (some (x6_1, t204))) = some (r1, r2) := H
      have A9 := Aside0.mk A90
      clear A90
      by_cases c10 : t204 = 0
      ·rw [if_pos c10] at H
       have c10b0 : (t204 == 0) = true := beq_iff_eq.mpr c10
       have c10b1 : (t204 != 0) = false := bne_eq_false_iff_eq.mpr c10
       clear c10
       have H' := Aside0.mk H
       clear H
       go_wp2_with (first | ((with_reducible refine gate_callee (f := 40) rfl ?_); refine goesL_ (some 23) rfl rfl Tryd.func40 (by kernel_rfl) rfl #[.slice A0 l0.length c0, .slice A1 l1.length c1, .int .i64 x6_1] rfl (by (try simp only [List.map_toArray, List.map_cons, List.map_nil]); first | done | rfl | (simp only [List.length_drop, List.length_take]; rfl)) ?_; (with_reducible refine (garboardref58_fault.calls k1 _ _ l0 _ _ l1 x6_1 t204 _ ?side1 ?side2 ?side3 ?side4 ?side5 A9.out).mono ?_); (case side1 => repeat (first | exact (Kd.C_below HR0.out HB.out) | (with_reducible refine Kd.C_alloc ?_ _) | (with_reducible refine Kd.C_drewN ?_ _) | (with_reducible refine Kd.C_drew ?_))); (case side2 => exact HC0.out); (case side3 => repeat (first | exact (Kd.C_below HR1.out HB.out) | (with_reducible refine Kd.C_alloc ?_ _) | (with_reducible refine Kd.C_drewN ?_ _) | (with_reducible refine Kd.C_drew ?_))); (case side4 => exact HC1.out); (case side5 => exact HLW.out.below (by repeat (first | (with_reducible first | exact HB.out | apply below_alloc | apply pw_below_drewN | apply below_drew1) | exact HB.out))); rintro e w11 ⟨rfl, hb⟩; refine ⟨_, rfl, ?_⟩; have n0_ := Aside0.mk (below_step (by repeat (first | (with_reducible first | exact HB.out | apply below_alloc | apply pw_below_drewN | apply below_drew1) | exact HB.out)) hb); clear HB; have HB := n0_; clear n0_; (try clear hb); (try clear hb2); (try clear hk); (try clear hi)))
       go_roundg k1
       case measure => have := HK1.out; omega
       case rel => exact ⟨(wrap64 (x6_1 + 1)), (by first | rfl | (simp; done) | (simp [*]; done)), H', ⟨by have := HK1.out; omega⟩, ⟨by repeat (first | (with_reducible first | exact HB.out | apply below_alloc | apply pw_below_drewN | apply below_drew1) | exact HB.out)⟩⟩
      ·rw [if_neg c10] at H
       have c10b0 : (t204 == 0) = false := beq_eq_false_iff_ne.mpr c10
       have c10b1 : (t204 != 0) = true := bne_iff_ne.mpr c10
       simp only [Option.some.injEq, Prod.mk.injEq] at H
       obtain ⟨rfl, rfl⟩ := H
       go_wp2_with (first | ((with_reducible refine gate_callee (f := 40) rfl ?_); refine goesL_ (some 23) rfl rfl Tryd.func40 (by kernel_rfl) rfl #[.slice A0 l0.length c0, .slice A1 l1.length c1, .int .i64 x6_1] rfl (by (try simp only [List.map_toArray, List.map_cons, List.map_nil]); first | done | rfl | (simp only [List.length_drop, List.length_take]; rfl)) ?_; (with_reducible refine (garboardref58_fault.calls k1 _ _ l0 _ _ l1 x6_1 t204 _ ?side1 ?side2 ?side3 ?side4 ?side5 A9.out).mono ?_); (case side1 => repeat (first | exact (Kd.C_below HR0.out HB.out) | (with_reducible refine Kd.C_alloc ?_ _) | (with_reducible refine Kd.C_drewN ?_ _) | (with_reducible refine Kd.C_drew ?_))); (case side2 => exact HC0.out); (case side3 => repeat (first | exact (Kd.C_below HR1.out HB.out) | (with_reducible refine Kd.C_alloc ?_ _) | (with_reducible refine Kd.C_drewN ?_ _) | (with_reducible refine Kd.C_drew ?_))); (case side4 => exact HC1.out); (case side5 => exact HLW.out.below (by repeat (first | (with_reducible first | exact HB.out | apply below_alloc | apply pw_below_drewN | apply below_drew1) | exact HB.out))); rintro e w12 ⟨rfl, hb⟩; refine ⟨_, rfl, ?_⟩; have n0_ := Aside0.mk (below_step (by repeat (first | (with_reducible first | exact HB.out | apply below_alloc | apply pw_below_drewN | apply below_drew1) | exact HB.out)) hb); clear HB; have HB := n0_; clear n0_; (try clear hb); (try clear hb2); (try clear hk); (try clear hi)))
       go_ret2
       exact ⟨by first | rfl | (simp [errW_none, errW_some] <;> rfl) | (simp [*, errW_none, errW_some] <;> rfl), by repeat (first | (with_reducible first | exact HB.out | apply below_alloc | apply pw_below_drewN | apply below_drew1) | exact HB.out)⟩
     ·rw [if_neg c8] at H
      have c8b0 : decide (x6_1 < (l1.length : Int)) = false := decide_eq_false c8
      clear c8
      simp only [Option.some.injEq, Prod.mk.injEq] at H
      obtain ⟨rfl, rfl⟩ := H
      go_wp2
      go_ret2
      exact ⟨by first | rfl | (simp [errW_none, errW_some] <;> rfl) | (simp [*, errW_none, errW_some] <;> rfl), by repeat (first | (with_reducible first | exact HB.out | apply below_alloc | apply pw_below_drewN | apply below_drew1) | exact HB.out)⟩
 ·replace c4 := Bool.eq_false_iff.mpr c4
  subst c4
  have H1 : (some ((-1), 1)) = some (r1, r2) := by rw [if_neg (show ¬ (false = true) by decide)] at H; exact H
  clear H
  have H := H1
  clear H1
  simp only [Option.some.injEq, Prod.mk.injEq] at H
  obtain ⟨rfl, rfl⟩ := H
  go_enter Tryd.func14, Tryd.ntmps14
  go_wp2_with (first | ((with_reducible refine gate_callee (f := 39) rfl ?_); refine goesL_ (some 9) rfl rfl Tryd.func39 (by kernel_rfl) rfl #[.slice A0 l0.length c0] rfl (by (try simp only [List.map_toArray, List.map_cons, List.map_nil]); first | done | rfl | (simp only [List.length_drop, List.length_take]; rfl)) ?_; (with_reducible refine (garboardref58_right.calls k _ _ l0 false _ ?side1 ?side2 A3.out).mono ?_); (case side1 => repeat (first | exact HR0.out | (with_reducible refine Kd.C_alloc ?_ _) | (with_reducible refine Kd.C_drewN ?_ _) | (with_reducible refine Kd.C_drew ?_))); (case side2 => exact HC0.out); rintro e w13 ⟨rfl, hb⟩; refine ⟨_, rfl, ?_⟩; have n0_ := Aside0.mk (below_step (by repeat (first | (with_reducible first | exact HB.out | apply below_alloc | apply pw_below_drewN | apply below_drew1) | exact HB.out)) hb); clear HB; have HB := n0_; clear n0_; (try clear hb); (try clear hb2); (try clear hk); (try clear hi)))
  go_ret2
  exact ⟨by first | rfl | (simp [errW_none, errW_some] <;> rfl) | (simp [*, errW_none, errW_some] <;> rfl), by repeat (first | (with_reducible first | exact HB.out | apply below_alloc | apply pw_below_drewN | apply below_drew1) | exact HB.out)⟩
end Go.Proofs.YtbfimjncophcaaaDoor.Pr
namespace Go.Proofs.YtbfimjncophcaaaDoor.Pr
set_option linter.unusedVariables false
set_option linter.unusedSimpArgs false
open Go.RowKit Go.Proofs.YtbfimjncophcaaaDoorW.PrintWords
theorem wrap_succ (i : Nat) (h : i < 9223372036854775807) : wrap64 ((i : Int) + 1) = ((i + 1 : Nat) : Int) := by unfold wrap64; omega
theorem wrap_pred (i : Nat) (h : i < 9223372036854775807) (h0 : 0 < i) : wrap64 ((i : Int) - 1) = (i : Int) - 1 := by unfold wrap64; omega
theorem rd33_get (l : List S33) (i : Nat) (h : i < l.length) : rd_T33 l (i : Int) = l[i] := by
 unfold rd_T33
 simp [List.getD, h]
theorem rd25_get (l : List S25) (i : Nat) (h : i < l.length) : rd_T25 l (i : Int) = l[i] := by
 unfold rd_T25
 simp [List.getD, h]
theorem find_l0 (l : List S33) (id : Int) (hl : l.length < 9223372036854775807) : ∀ (k m i : Nat), i + m = l.length → m < k → garboardref58_find.l0 k l id (i : Int) = some (fidx (fun x => x.f0 == id) (l.drop i) i)
 | 0, m, i, _, hk => by omega
 | k + 1, m, i, hi, hk => by
  simp only [garboardref58_find.l0]
  by_cases h : i < l.length
  ·rw [if_pos (by omega), if_pos (by omega), rd33_get l i h, List.drop_eq_getElem_cons h]
   simp only [fidx]
   by_cases e : l[i].f0 = id
   ·rw [if_pos e, if_pos (by simp [e])]
   ·rw [if_neg e, if_neg (by simpa using e), wrap_succ i (by omega)]
    exact find_l0 l id hl k (m - 1) (i + 1) (by omega) (by omega)
  ·rw [if_neg (by omega), List.drop_of_length_le (by omega)]
   rfl
theorem find_f (l : List S33) (id : Int) (k : Nat) (hl : l.length < 9223372036854775807) (hk : l.length < k) : garboardref58_find.f k l id = some (fidx (fun x => x.f0 == id) l 0) := by
 unfold garboardref58_find.f
 have := find_l0 l id hl k l.length 0 (by omega) hk
 simpa using this
theorem right_step (l : List S33) (i k : Nat) (hl : l.length < 9223372036854775807) (h : i < l.length) :
  garboardref58_right.l0 (k + 2) l (i : Int) = if okAt l (i : Int) = true then garboardref58_right.l0 k l (wrap64 ((i : Int) + 1)) else some false := by
 simp only [garboardref58_right.l0, garboardref58_right.j1]
 rw [if_pos (show (i : Int) < (l.length : Int) by omega), if_pos (show (0 : Int) ≤ (i : Int) by omega)]
 unfold okAt namedB
 generalize garboardref58_right.l0 k l (wrap64 ((i : Int) + 1)) = R
 by_cases h0 : (i : Int) > 0
 ·rw [wrap_pred i (by omega) (by omega)]
  have q0 : (0 : Int) ≤ (i : Int) - 1 := by omega
  have q1 : (i : Int) - 1 < (l.length : Int) := by omega
  generalize rd_T33 l ((i : Int) - 1) = y
  generalize rd_T33 l (i : Int) = x
  obtain ⟨x0, x1, x2, x3⟩ := x
  simp only [if_pos h0, if_pos q0, if_pos q1]
  by_cases c1 : x0 < 1
  ·simp [c1]
  by_cases c2 : x0 > 1073741824
  ·simp [c1, c2]
  by_cases c3 : y.f0 ≥ x0
  ·simp [c1, c2, c3, h0]
   intros
   omega
  by_cases c4 : x1 < 1
  ·simp [c1, c2, c3, c4]
  by_cases c5 : x1 > 9
  ·simp [c1, c2, c3, c4, c5]
  by_cases c6 : (x2.size : Int) < 1
  ·have c6' : ¬ 1 ≤ (x2.size : Int) := by omega
   simp only [if_neg c1, if_neg c2, if_neg c3, if_neg c4, c5, decide_false, Bool.false_eq_true, if_false, if_pos c6]
   simp [c6']
  by_cases c7 : (x2.size : Int) > 64
  ·have c7' : ¬ (x2.size : Int) ≤ 64 := by omega
   simp only [if_neg c1, if_neg c2, if_neg c3, if_neg c4, c5, decide_false, Bool.false_eq_true, if_false, if_neg c6, if_pos c7]
   simp [c7']
  by_cases c8 : (x3.size : Int) < 1
  ·have c8' : ¬ 1 ≤ (x3.size : Int) := by omega
   simp only [if_neg c1, if_neg c2, if_neg c3, if_neg c4, c5, decide_false, Bool.false_eq_true, if_false, if_neg c6, if_neg c7, if_pos c8]
   simp [c8']
  by_cases c9 : (x3.size : Int) > 64
  ·have c9' : ¬ (x3.size : Int) ≤ 64 := by omega
   simp only [if_neg c1, if_neg c2, if_neg c3, if_neg c4, c5, decide_false, Bool.false_eq_true, if_false, if_neg c6, if_neg c7, if_neg c8, if_pos c9]
   simp [c9']
  have d6 : 1 ≤ (x2.size : Int) := by omega
  have d7 : (x2.size : Int) ≤ 64 := by omega
  have d8 : 1 ≤ (x3.size : Int) := by omega
  have d9 : (x3.size : Int) ≤ 64 := by omega
  have d2 : ¬ 1073741824 < x0 := c2
  have d3 : ¬ x0 ≤ y.f0 := c3
  have d5 : ¬ 9 < x1 := c5
  have d0 : 0 < (i : Int) := h0
  simp only [if_neg c1, if_neg c2, if_neg c3, if_neg c4, c5, decide_false, Bool.false_eq_true, if_false, if_neg c6, if_neg c7, if_neg c8, if_neg c9]
  rw [if_pos (by simp only [decide_eq_false c1, decide_eq_false d2, decide_eq_false d3, decide_eq_false c4, decide_eq_false d5, decide_eq_true d6, decide_eq_true d7, decide_eq_true d8, decide_eq_true d9, Bool.and_false, Bool.false_or, Bool.and_self, Bool.not_true, Bool.not_false])]
 ·have d0 : ¬ 0 < (i : Int) := h0
  generalize rd_T33 l ((i : Int) - 1) = y
  generalize rd_T33 l (i : Int) = x
  obtain ⟨x0, x1, x2, x3⟩ := x
  simp only [if_neg h0]
  by_cases c1 : x0 < 1
  ·simp [c1]
  by_cases c2 : x0 > 1073741824
  ·simp [c1, c2]
  by_cases c4 : x1 < 1
  ·simp [c1, c2, c4]
  by_cases c5 : x1 > 9
  ·simp [c1, c2, c4, c5]
  by_cases c6 : (x2.size : Int) < 1
  ·have c6' : ¬ 1 ≤ (x2.size : Int) := by omega
   simp only [if_neg c1, if_neg c2, if_neg c4, c5, decide_false, Bool.false_eq_true, if_false, if_pos c6]
   simp [c6']
  by_cases c7 : (x2.size : Int) > 64
  ·have c7' : ¬ (x2.size : Int) ≤ 64 := by omega
   simp only [if_neg c1, if_neg c2, if_neg c4, c5, decide_false, Bool.false_eq_true, if_false, if_neg c6, if_pos c7]
   simp [c7']
  by_cases c8 : (x3.size : Int) < 1
  ·have c8' : ¬ 1 ≤ (x3.size : Int) := by omega
   simp only [if_neg c1, if_neg c2, if_neg c4, c5, decide_false, Bool.false_eq_true, if_false, if_neg c6, if_neg c7, if_pos c8]
   simp [c8']
  by_cases c9 : (x3.size : Int) > 64
  ·have c9' : ¬ (x3.size : Int) ≤ 64 := by omega
   simp only [if_neg c1, if_neg c2, if_neg c4, c5, decide_false, Bool.false_eq_true, if_false, if_neg c6, if_neg c7, if_neg c8, if_pos c9]
   simp [c9']
  have d6 : 1 ≤ (x2.size : Int) := by omega
  have d7 : (x2.size : Int) ≤ 64 := by omega
  have d8 : 1 ≤ (x3.size : Int) := by omega
  have d9 : (x3.size : Int) ≤ 64 := by omega
  have d2 : ¬ 1073741824 < x0 := c2
  have d5 : ¬ 9 < x1 := c5
  simp only [if_neg c1, if_neg c2, if_neg c4, c5, decide_false, Bool.false_eq_true, if_false, if_neg c6, if_neg c7, if_neg c8, if_neg c9]
  rw [if_pos (by simp only [decide_eq_false c1, decide_eq_false d2, decide_eq_false d0, decide_eq_false c4, decide_eq_false d5, decide_eq_true d6, decide_eq_true d7, decide_eq_true d8, decide_eq_true d9, Bool.false_and, Bool.false_or, Bool.and_self, Bool.not_true, Bool.not_false])]
theorem right_l0 (l : List S33) (hl : l.length < 9223372036854775807) : ∀ (m i k : Nat), i + m = l.length → 2 * m < k → (∀ j : Nat, j < i → okAt l (j : Int) = true) → garboardref58_right.l0 k l (i : Int) = some (rightB l)
 | 0, i, k, hi, hk, hj => by
  obtain ⟨k, rfl⟩ : ∃ k', k = k' + 1 := ⟨k - 1, by omega⟩
  simp only [garboardref58_right.l0]
  rw [if_neg (by omega), rightB_good l (fun j h => hj j (by omega))]
 | m + 1, i, k, hi, hk, hj => by
  obtain ⟨k, rfl⟩ : ∃ k', k = k' + 2 := ⟨k - 2, by omega⟩
  rw [right_step l i k hl (by omega)]
  by_cases ok : okAt l (i : Int) = true
  ·rw [if_pos ok, wrap_succ i (by omega)]
   refine right_l0 l hl m (i + 1) k (by omega) (by omega) (fun j h => ?_)
   by_cases e : j = i
   ·subst e; exact ok
   ·exact hj j (by omega)
  ·rw [if_neg ok, rightB_bad l i (by omega) (by simpa using ok)]
theorem right_f (l : List S33) (k : Nat) (hl : l.length < 9223372036854775807) (hk : 2 * l.length < k) : garboardref58_right.f k l = some (rightB l) := by
 unfold garboardref58_right.f
 exact right_l0 l hl l.length 0 k (by omega) hk (fun j h => by omega)
theorem rpad_l0 (key : ByteArray) (b : Int) : ∀ (m i k : Nat), i + m = 64 → m < k → garboardref58_pad.l0 k key b (padN key b i) (i : Int) = some (padS key b)
 | 0, i, k, hi, hk => by
  obtain ⟨k, rfl⟩ : ∃ k', k = k' + 1 := ⟨k - 1, by omega⟩
  simp only [garboardref58_pad.l0]
  rw [if_neg (by omega)]
  obtain rfl : i = 64 := by omega
  rfl
 | m + 1, i, k, hi, hk => by
  obtain ⟨k, rfl⟩ : ∃ k', k = k' + 1 := ⟨k - 1, by omega⟩
  have ih := rpad_l0 key b m (i + 1) k (by omega) (by omega)
  have hz := padN_length key b i
  rw [padN_succ] at ih
  unfold padAt at ih
  simp only [garboardref58_pad.l0]
  rw [if_pos (by omega), wrap_succ i (by omega)]
  by_cases h : i < key.size
  ·rw [if_pos (by omega), if_pos (by omega), if_pos (by omega)]
   rw [if_pos h] at ih
   exact ih
  ·rw [if_neg (by omega), if_pos (by omega)]
   rw [if_neg h] at ih
   exact ih
theorem rpad_f (key : ByteArray) (b : Int) (k : Nat) (hk : 64 < k) : garboardref58_pad.f k key b = some (padS key b) := by
 unfold garboardref58_pad.f
 exact rpad_l0 key b 64 0 k (by omega) hk
theorem rsum_f (s : ByteArray) (h : s.size ≤ 1048576) : garboardref57_Sum.f s = some (shaSum s) := by
 unfold garboardref57_Sum.f
 rw [if_pos h]
theorem rcode_f (key : ByteArray) (s t : Int) (sub c : ByteArray) (k : Nat) (hk : 66 < k) (hk1 : 1 ≤ key.size) (hk2 : key.size ≤ 64) (hs : i64B s) (ht : i64B t) (hsub : sub.size ≤ 1000000) :
  garboardref58_Code.f k key s t sub c = some (codeOf key s t sub, 0) := by
 obtain ⟨k, rfl⟩ : ∃ k', k = k' + 1 := ⟨k - 1, by omega⟩
 have h1 := itoaB_size s hs
 have h2 := itoaB_size t ht
 have hsp : (⟨#[32]⟩ : ByteArray) = spB := rfl
 have hs1 : spB.size = 1 := rfl
 have hp1 := padS_size key 92
 have hp2 := padS_size key 54
 have e1 : ((itoaB s ++ spB) ++ itoaB t).size ≤ 50 := by simp only [ByteArray.size_append, hs1]; omega
 have e2 : (textOf s t sub).size ≤ 1000060 := by unfold textOf; simp only [ByteArray.size_append, hs1]; omega
 unfold garboardref58_Code.f
 rw [if_neg (by omega), show decide ((key.size : Int) > 64) = false from decide_eq_false (by omega)]
 simp only [garboardref58_Code.j0]
 rw [if_neg (by simp), itoa_f s hs, itoa_f t ht, rpad_f key 92 k (by omega), rpad_f key 54 k (by omega), hsp]
 simp only [Option.bind_some]
 rw [if_pos (by omega), if_pos (by simp only [ByteArray.size_append, hs1]; omega), if_pos (by omega), if_pos (by simp only [ByteArray.size_append, hs1]; omega)]
 rw [show (((itoaB s ++ spB) ++ itoaB t) ++ spB) ++ sub = textOf s t sub from rfl]
 rw [if_pos (by omega), rsum_f _ (by rw [ByteArray.size_append]; omega)]
 simp only [Option.bind_some]
 rw [if_pos (by rw [hp1, sha_size]; omega), rsum_f _ (by rw [ByteArray.size_append, hp1, sha_size]; omega)]
 rfl
def keyOf (l0 : List S33) (id : Int) : ByteArray := (rd_T33 l0 (fidx (fun x => x.f0 == id) l0 0)).f3
theorem fidx_lt {α : Type} (p : α → Bool) : ∀ (xs : List α) (i : Nat), fidx p xs i < ((i + xs.length : Nat) : Int) ∨ xs = []
 | [], _ => .inr rfl
 | x :: xs, i => by
  left
  simp only [fidx]
  split
  ·simp; omega
  ·rcases fidx_lt p xs (i + 1) with h | rfl
   ·simp only [List.length_cons]; omega
   ·simp only [fidx, List.length_cons]; omega
theorem fidx_bound (l0 : List S33) (p : S33 → Bool) : fidx p l0 0 < (l0.length : Int) ∨ fidx p l0 0 < 0 := by
 rcases fidx_lt p l0 0 with h | rfl
 ·left; omega
 ·right; simp only [fidx]; omega
theorem okAt_key (l : List S33) (i : Int) (h : okAt l i = true) : 1 ≤ (rd_T33 l i).f3.size ∧ (rd_T33 l i).f3.size ≤ 64 := by
 unfold okAt namedB at h
 simp only [Bool.not_eq_true', Bool.or_eq_false_iff, Bool.not_eq_false', Bool.and_eq_true, decide_eq_true_eq, Bool.not_eq_eq_eq_not, Bool.not_true, Bool.not_false] at h
 obtain ⟨_, _, _, _, _, ⟨h1, h2⟩, _⟩ := h
 omega
theorem key_size (l0 : List S33) (id : Int) (hr : rightB l0 = true) (h : 0 ≤ fidx (fun x => x.f0 == id) l0 0) : 1 ≤ (keyOf l0 id).size ∧ (keyOf l0 id).size ≤ 64 := by
 unfold rightB at hr
 rw [Bool.and_eq_true] at hr
 rcases fidx_bound l0 (fun x => x.f0 == id) with h1 | h1
 ·have := List.all_eq_true.1 hr.1 (fidx (fun x => x.f0 == id) l0 0).toNat (List.mem_range.2 (by omega))
  rw [show (((fidx (fun x => x.f0 == id) l0 0).toNat : Nat) : Int) = fidx (fun x => x.f0 == id) l0 0 by omega] at this
  exact okAt_key l0 _ this
 ·omega
def faultC (l0 : List S33) (l1 : List S25) (a : S25) : Int :=
 if faultA l0 l1 a.f0 a.f1 a.f2 = 0 then (if a.f3.toList = (codeOf (keyOf l0 a.f0) a.f0 a.f1 a.f2).toList then 0 else 14) else faultA l0 l1 a.f0 a.f1 a.f2
def Wf25 (a : S25) : Prop := i64B a.f0 ∧ i64B a.f1 ∧ a.f2.size ≤ 1000000
theorem faultA_found (l0 : List S33) (l1 : List S25) (a : S25) (h : faultA l0 l1 a.f0 a.f1 a.f2 = 0) : 0 ≤ fidx (fun x => x.f0 == a.f0) l0 0 := by
 unfold faultA at h
 by_cases c : fidx (fun x => x.f0 == a.f0) l0 0 < 0
 ·rw [if_pos c] at h
  omega
 ·omega
theorem twice_l0 (l0 : List S33) (l1 : List S25) (i : Nat) (kk : Int) (a : S25) (R : Int) (hr : ∀ k, 70 < k → (if 0 ≤ kk then (if kk < (l0.length : Int) then ((garboardref58_Code.f k ((rd_T33 l0 kk).f3) a.f0 a.f1 a.f2 a.f3).bind fun bt201 => (if bt201.1.toList = a.f3.toList then (some 0) else (some 14))) else (none)) else (none)) = some R) (hi : i ≤ l1.length) (hl : i < 1000000) :
  ∀ (m n k : Nat), n + m = i → m + 71 < k → garboardref58_fault.l0 k l0 l1 (i : Int) kk (n : Int) a.f0 a.f1 a.f2 a.f3 = some (if ((l1.take i).drop n).any (fun x => x.f0 == a.f0 && (x.f2.toList == a.f2.toList && x.f1 == a.f1)) = true then 6 else R)
 | 0, n, k, hn, hk => by
  obtain ⟨k, rfl⟩ : ∃ k', k = k' + 1 := ⟨k - 1, by omega⟩
  simp only [garboardref58_fault.l0]
  rw [if_neg (by omega), hr k (by omega), List.drop_of_length_le (by rw [List.length_take]; omega)]
  rfl
 | m + 1, n, k, hn, hk => by
  obtain ⟨k, rfl⟩ : ∃ k', k = k' + 1 := ⟨k - 1, by omega⟩
  have ih := twice_l0 l0 l1 i kk a R hr hi hl m (n + 1) k (by omega) (by omega)
  have hlt : n < (l1.take i).length := by rw [List.length_take]; omega
  simp only [garboardref58_fault.l0]
  rw [if_pos (by omega), if_pos (by omega), if_pos (by omega), wrap_succ n (by omega), ih, rd25_get l1 n (by omega), List.drop_eq_getElem_cons hlt, List.any_cons, List.getElem_take]
  by_cases c1 : l1[n].f0 = a.f0
  ·by_cases c2 : l1[n].f2.toList = a.f2.toList
   ·by_cases c3 : l1[n].f1 = a.f1
    ·simp [c1, c2, c3]
    ·simp [c1, c2, c3]
   ·simp [c1, c2]
  ·simp [c1]
theorem rfault_f (l0 : List S33) (l1 : List S25) (i k : Nat) (a : S25) (ha : rd_T25 l1 (i : Int) = a) (hr : rightB l0 = true) (hi : i < l1.length) (hl : l1.length < 1000000) (hl0 : l0.length < 1000000) (hw : Wf25 a) (hk : l0.length + i + 100 < k) :
  garboardref58_fault.f k l0 l1 (i : Int) = some (faultC l0 (l1.take i) a) := by
 obtain ⟨k, rfl⟩ : ∃ k', k = k' + 2 := ⟨k - 2, by omega⟩
 have hlen : (l1.take i).length = i := by rw [List.length_take]; omega
 unfold garboardref58_fault.f
 rw [if_pos (by omega), if_pos (by omega), ha, find_f l0 a.f0 (k + 2) (by omega) (by omega)]
 simp only [Option.bind_some]
 by_cases c0 : fidx (fun x => x.f0 == a.f0) l0 0 < 0
 ·rw [if_pos c0]
  unfold faultC faultA
  rw [if_pos c0, if_neg (by omega)]
 rw [if_neg c0]
 have hks := key_size l0 a.f0 hr (by omega)
 have hb : fidx (fun x => x.f0 == a.f0) l0 0 < (l0.length : Int) := by
  rcases fidx_bound l0 (fun x => x.f0 == a.f0) with h | h <;> omega
 have tw := twice_l0 l0 l1 i (fidx (fun x => x.f0 == a.f0) l0 0) a (if a.f3.toList = (codeOf (keyOf l0 a.f0) a.f0 a.f1 a.f2).toList then 0 else 14) (fun k hk => by
  rw [if_pos (by omega), if_pos hb, show (rd_T33 l0 (fidx (fun x => x.f0 == a.f0) l0 0)).f3 = keyOf l0 a.f0 from rfl, rcode_f _ _ _ _ _ k (by omega) hks.1 hks.2 hw.1 hw.2.1 hw.2.2]
  simp only [Option.bind_some]
  by_cases e : a.f3.toList = (codeOf (keyOf l0 a.f0) a.f0 a.f1 a.f2).toList
  ·rw [if_pos e, if_pos e.symm]
  ·rw [if_neg e, if_neg (fun h => e h.symm)]) (by omega) (by omega) i 0 k (by omega) (by omega)
 rw [List.drop_zero, show ((0 : Nat) : Int) = 0 from rfl] at tw
 generalize hR : (if a.f3.toList = (codeOf (keyOf l0 a.f0) a.f0 a.f1 a.f2).toList then (0 : Int) else 14) = R at tw
 unfold faultC
 rw [hR]
 unfold faultA
 rw [if_neg c0, hlen]
 have tail : garboardref58_fault.j0 (k + 2) l0 l1 (i : Int) (fidx (fun x => x.f0 == a.f0) l0 0) false a.f0 a.f1 a.f2 a.f3 = some (if 0 < i ∧ a.f1 < (rd_T25 (l1.take i) ((i : Int) - 1)).f1 then 5 else if (l1.take i).any (fun x => x.f0 == a.f0 && (x.f2.toList == a.f2.toList && x.f1 == a.f1)) = true then 6 else R) := by
  simp only [garboardref58_fault.j0, garboardref58_fault.j1]
  rw [if_neg (by simp)]
  by_cases p : 0 < i
  ·have hrd : rd_T25 (l1.take i) ((i : Int) - 1) = rd_T25 l1 ((i : Int) - 1) := by
    rw [show (i : Int) - 1 = ((i - 1 : Nat) : Int) by omega, rd25_get _ (i - 1) (by omega), rd25_get _ (i - 1) (by omega), List.getElem_take]
   rw [if_pos (by omega), wrap_pred i (by omega) p, if_pos (by omega), if_pos (by omega), hrd, tw]
   by_cases q : a.f1 < (rd_T25 l1 ((i : Int) - 1)).f1
   ·simp [p, q]
   ·simp [p, q]
  ·rw [if_neg (by omega), if_neg (by simp), tw, if_neg (fun h : 0 < i ∧ a.f1 < (rd_T25 (l1.take i) ((i : Int) - 1)).f1 => p h.1)]
 have fin : ∀ T : Int, T = 0 ∨ T = 14 → (if (if 0 < i ∧ a.f1 < (rd_T25 (l1.take i) ((i : Int) - 1)).f1 then (5 : Int) else if (l1.take i).any (fun x => x.f0 == a.f0 && (x.f2.toList == a.f2.toList && x.f1 == a.f1)) = true then 6 else 0) = 0 then T else (if 0 < i ∧ a.f1 < (rd_T25 (l1.take i) ((i : Int) - 1)).f1 then (5 : Int) else if (l1.take i).any (fun x => x.f0 == a.f0 && (x.f2.toList == a.f2.toList && x.f1 == a.f1)) = true then 6 else 0))
   = (if 0 < i ∧ a.f1 < (rd_T25 (l1.take i) ((i : Int) - 1)).f1 then 5 else if (l1.take i).any (fun x => x.f0 == a.f0 && (x.f2.toList == a.f2.toList && x.f1 == a.f1)) = true then 6 else T) := fun T _ => by
  by_cases h2 : 0 < i ∧ a.f1 < (rd_T25 (l1.take i) ((i : Int) - 1)).f1
  ·simp only [if_pos h2]
   rw [if_neg (by omega)]
  ·by_cases h3 : (l1.take i).any (fun x => x.f0 == a.f0 && (x.f2.toList == a.f2.toList && x.f1 == a.f1)) = true
   ·simp only [if_neg h2, if_pos h3]
    rw [if_neg (by omega)]
   ·simp only [if_neg h2, if_neg h3, if_true]
 have hR0 : R = 0 ∨ R = 14 := by
  rw [← hR]
  split <;> simp
 by_cases c1 : a.f1 < 0
 ·rw [if_pos c1, if_pos (Or.inl (by simp; omega)), if_neg (by omega)]
  simp only [garboardref58_fault.j0, if_true]
 rw [if_neg c1]
 by_cases c2 : a.f1 > 1073741824
 ·rw [if_pos c2, if_pos (Or.inl (by simp; omega)), if_neg (by omega)]
  simp only [garboardref58_fault.j0, if_true]
 rw [if_neg c2]
 by_cases c3 : a.f2.size = 32
 ·have hg : ¬ (¬ (decide (0 ≤ a.f1) && decide (a.f1 ≤ 1073741824)) = true ∨ ¬ a.f2.size = 32) := fun h => h.elim (fun h => h (by simp; omega)) (fun h => h c3)
  simp only [if_neg hg]
  rw [show ((a.f2.size : Int) != 32) = false from by rw [c3]; rfl, tail, fin R hR0]
 ·rw [show ((a.f2.size : Int) != 32) = true from by simp; omega, if_pos (Or.inr c3), if_neg (by omega)]
  simp only [garboardref58_fault.j0, if_true]
def chkV (l0 : List S33) (l1 : List S25) : Nat → Nat → Int × Int
 | 0, _ => (-1, 0)
 | m + 1, i => if faultC l0 (l1.take i) (rd_T25 l1 (i : Int)) = 0 then chkV l0 l1 m (i + 1) else ((i : Int), faultC l0 (l1.take i) (rd_T25 l1 (i : Int)))
theorem wf_rd {l1 : List S25} (hw : ∀ a ∈ l1, Wf25 a) (i : Nat) (hi : i < l1.length) : Wf25 (rd_T25 l1 (i : Int)) := by
 rw [rd25_get l1 i hi]
 exact hw _ (List.getElem_mem hi)
theorem acheck_l0 (l0 : List S33) (l1 : List S25) (hr : rightB l0 = true) (hl : l1.length < 1000000) (hw : ∀ a ∈ l1, Wf25 a) :
  ∀ (m i k : Nat), i + m = l1.length → m < k → approval_Check.l0 k l0 l1 l1 (l1.length : Int) (i : Int) = some (chkV l0 l1 m i)
 | 0, i, k, hi, hk => by
  obtain ⟨k, rfl⟩ : ∃ k', k = k' + 1 := ⟨k - 1, by omega⟩
  simp only [approval_Check.l0]
  rw [if_neg (by omega)]
  rfl
 | m + 1, i, k, hi, hk => by
  obtain ⟨k, rfl⟩ : ∃ k', k = k' + 1 := ⟨k - 1, by omega⟩
  have ih := acheck_l0 l0 l1 hr hl hw m (i + 1) k (by omega) (by omega)
  have wf := wf_rd hw i (by omega)
  simp only [approval_Check.l0, chkV]
  rw [if_pos (by omega), if_pos (by omega), if_pos (by omega), if_pos (by omega), wrap_succ i (by omega), ih]
  generalize rd_T25 l1 (i : Int) = a at *
  rw [show ((i : Int)).toNat = i from by omega]
  unfold approval_fault.f approval_signer.f
  simp only [Option.bind_some]
  by_cases e : faultA l0 (l1.take i) a.f0 a.f1 a.f2 = 0
  ·have hp := faultA_found _ _ _ e
   have hb : fidx (fun x => x.f0 == a.f0) l0 0 < (l0.length : Int) := by
    rcases fidx_bound l0 (fun x => x.f0 == a.f0) with h | h <;> omega
   have hks := key_size l0 a.f0 hr hp
   rw [if_pos e, if_pos hp, if_pos hb, show (rd_T33 l0 (fidx (fun x => x.f0 == a.f0) l0 0)).f3 = keyOf l0 a.f0 from rfl, code_f _ _ _ _ _ (by omega) wf.1 wf.2.1 wf.2.2]
   simp only [Option.bind_some]
   unfold faultC
   rw [if_pos e]
   by_cases q : a.f3.toList = (codeOf (keyOf l0 a.f0) a.f0 a.f1 a.f2).toList
   ·rw [if_pos q, if_pos (by rw [if_pos q])]
   ·rw [if_neg q, if_neg (by rw [if_neg q]; omega), if_neg q]
  ·rw [if_neg e]
   unfold faultC
   rw [if_neg e, if_neg e]
theorem rcheck_l0 (l0 : List S33) (l1 : List S25) (hr : rightB l0 = true) (hl : l1.length < 1000000) (hl0 : l0.length < 1000000) (hw : ∀ a ∈ l1, Wf25 a) :
  ∀ (m i k : Nat), i + m = l1.length → m + l0.length + l1.length + 101 < k → garboardref58_Check.l0 k l0 l1 (i : Int) = some (chkV l0 l1 m i)
 | 0, i, k, hi, hk => by
  obtain ⟨k, rfl⟩ : ∃ k', k = k' + 1 := ⟨k - 1, by omega⟩
  simp only [garboardref58_Check.l0]
  rw [if_neg (by omega)]
  rfl
 | m + 1, i, k, hi, hk => by
  obtain ⟨k, rfl⟩ : ∃ k', k = k' + 1 := ⟨k - 1, by omega⟩
  have ih := rcheck_l0 l0 l1 hr hl hl0 hw m (i + 1) k (by omega) (by omega)
  have wf := wf_rd hw i (by omega)
  simp only [garboardref58_Check.l0, chkV]
  rw [if_pos (by omega), wrap_succ i (by omega), ih, rfault_f l0 l1 i k _ rfl hr (by omega) hl hl0 wf (by omega)]
  simp only [Option.bind_some]
  split <;> rfl
def checkR (l0 : List S33) (l1 : List S25) : Int × Int :=
 if rightB l0 = true then (if (l1.length : Int) > 1024 then (-1, 8) else chkV l0 l1 l1.length 0) else (-1, 1)
theorem acheck_f (l0 : List S33) (l1 : List S25) (k : Nat) (hl : l1.length < 1000000) (hw : ∀ a ∈ l1, Wf25 a) (hk : l1.length < k) : approval_Check.f k l0 l1 = some (checkR l0 l1) := by
 unfold approval_Check.f approval_right.f checkR
 simp only [Option.bind_some]
 by_cases hr : rightB l0 = true
 ·rw [if_pos hr, if_pos hr]
  split
  ·rfl
  ·exact acheck_l0 l0 l1 hr hl hw l1.length 0 k (by omega) hk
 ·rw [if_neg hr, if_neg hr]
theorem rcheck_f (l0 : List S33) (l1 : List S25) (k : Nat) (hl : l1.length < 1000000) (hl0 : l0.length < 1000000) (hw : ∀ a ∈ l1, Wf25 a) (hk : 2 * l0.length + 2 * l1.length + 110 < k) : garboardref58_Check.f k l0 l1 = some (checkR l0 l1) := by
 unfold garboardref58_Check.f checkR
 rw [right_f l0 k (by omega) (by omega)]
 simp only [Option.bind_some]
 by_cases hr : rightB l0 = true
 ·rw [if_pos hr, if_pos hr]
  split
  ·rfl
  ·exact rcheck_l0 l0 l1 hr hl hl0 hw l1.length 0 k (by omega) (by omega)
 ·rw [if_neg hr, if_neg hr]
theorem checkR_right (l0 : List S33) (l1 : List S25) (h : (checkR l0 l1).2 = 0) : rightB l0 = true := by
 unfold checkR at h
 by_cases hr : rightB l0 = true
 ·exact hr
 ·rw [if_neg hr] at h
  exact absurd h (by decide)
def FewP (l0 : List S33) (l1 : List S25) : Prop := (∀ s ∈ l0, s.f2.size ≤ 70 ∧ s.f3.size ≤ 70) ∧ (∀ a ∈ l1, a.f2.size ≤ 40 ∧ a.f3.size ≤ 40) ∧ l0.length ≤ 17 ∧ l1.length ≤ 12
theorem few_l1 (l0 : List S33) (l1 : List S25) (hl1 : l1.length ≤ 9223372036854775807) :
  ∀ (m i k : Nat), i + m = l1.length → m < k → ∃ b, garboardref58_Few.l1 k l0 l1 (i : Int) = some b ∧ (b = true → (∀ a ∈ l1.drop i, a.f2.size ≤ 40 ∧ a.f3.size ≤ 40) ∧ l0.length ≤ 17 ∧ l1.length ≤ 12)
 | 0, i, k, hi, hk => by
  obtain ⟨k, rfl⟩ : ∃ k', k = k' + 1 := ⟨k - 1, by omega⟩
  simp only [garboardref58_Few.l1]
  rw [if_neg (by omega), List.drop_of_length_le (by omega)]
  by_cases c : (l0.length : Int) ≤ 17
  ·rw [if_pos c]
   refine ⟨_, rfl, fun h => ⟨fun a h => by simp at h, by omega, ?_⟩⟩
   have := of_decide_eq_true h
   omega
  ·rw [if_neg c]
   exact ⟨_, rfl, fun h => by cases h⟩
 | m + 1, i, k, hi, hk => by
  obtain ⟨k, rfl⟩ : ∃ k', k = k' + 1 := ⟨k - 1, by omega⟩
  obtain ⟨b, ih, ih2⟩ := few_l1 l0 l1 hl1 m (i + 1) k (by omega) (by omega)
  simp only [garboardref58_Few.l1]
  rw [if_pos (by omega), if_pos (by omega), wrap_succ i (by omega), ih, rd25_get l1 i (by omega), List.drop_eq_getElem_cons (show i < l1.length by omega)]
  by_cases c : (l1[i].f2.size : Int) > 40
  ·rw [if_pos c]
   exact ⟨_, rfl, fun h => by cases h⟩
  rw [if_neg c]
  by_cases d : (l1[i].f3.size : Int) > 40
  ·rw [if_pos d]
   exact ⟨_, rfl, fun h => by cases h⟩
  rw [if_neg d]
  refine ⟨b, rfl, fun h => ?_⟩
  obtain ⟨h1, h2⟩ := ih2 h
  refine ⟨fun a ha => ?_, h2⟩
  rcases List.mem_cons.1 ha with rfl | ha
  ·omega
  ·exact h1 a ha
theorem few_l0 (l0 : List S33) (l1 : List S25) (hl0 : l0.length ≤ 9223372036854775807) (hl1 : l1.length ≤ 9223372036854775807) :
  ∀ (m i k : Nat), i + m = l0.length → m + l1.length + 1 < k → ∃ b, garboardref58_Few.l0 k l0 l1 (i : Int) = some b ∧ (b = true → (∀ s ∈ l0.drop i, s.f2.size ≤ 70 ∧ s.f3.size ≤ 70) ∧ (∀ a ∈ l1, a.f2.size ≤ 40 ∧ a.f3.size ≤ 40) ∧ l0.length ≤ 17 ∧ l1.length ≤ 12)
 | 0, i, k, hi, hk => by
  obtain ⟨k, rfl⟩ : ∃ k', k = k' + 1 := ⟨k - 1, by omega⟩
  simp only [garboardref58_Few.l0]
  rw [if_neg (by omega), List.drop_of_length_le (by omega)]
  obtain ⟨b, h1, h2⟩ := few_l1 l0 l1 hl1 l1.length 0 k (by omega) (by omega)
  exact ⟨b, h1, fun h => ⟨fun a h => by simp at h, h2 h⟩⟩
 | m + 1, i, k, hi, hk => by
  obtain ⟨k, rfl⟩ : ∃ k', k = k' + 1 := ⟨k - 1, by omega⟩
  obtain ⟨b, ih, ih2⟩ := few_l0 l0 l1 hl0 hl1 m (i + 1) k (by omega) (by omega)
  simp only [garboardref58_Few.l0]
  rw [if_pos (by omega), if_pos (by omega), wrap_succ i (by omega), ih, rd33_get l0 i (by omega), List.drop_eq_getElem_cons (show i < l0.length by omega)]
  by_cases c : (l0[i].f2.size : Int) > 70
  ·rw [if_pos c]
   exact ⟨_, rfl, fun h => by cases h⟩
  rw [if_neg c]
  by_cases d : (l0[i].f3.size : Int) > 70
  ·rw [if_pos d]
   exact ⟨_, rfl, fun h => by cases h⟩
  rw [if_neg d]
  refine ⟨b, rfl, fun h => ?_⟩
  obtain ⟨h1, h2⟩ := ih2 h
  refine ⟨fun a ha => ?_, h2⟩
  rcases List.mem_cons.1 ha with rfl | ha
  ·omega
  ·exact h1 a ha
theorem few_f (l0 : List S33) (l1 : List S25) (k : Nat) (hl0 : l0.length ≤ 9223372036854775807) (hl1 : l1.length ≤ 9223372036854775807) (hk : l0.length + l1.length + 1 < k) :
  ∃ b, garboardref58_Few.f k l0 l1 = some b ∧ (b = true → FewP l0 l1) := by
 unfold garboardref58_Few.f
 obtain ⟨b, h1, h2⟩ := few_l0 l0 l1 hl0 hl1 l0.length 0 k (by omega) hk
 exact ⟨b, h1, h2⟩
end Go.Proofs.YtbfimjncophcaaaDoor.Pr
namespace Go.Proofs.YtbfimjncophcaaaDoor.Pr
open Go.RowKit Go.Proofs.YtbfimjncophcaaaDoorW.PrintWords Go.Proofs.YtbfimjncophcaaaDoorW.PrintLast Go.Proofs.YtbfimjncophcaaaDoorW.PrintMore
attribute [local go_sem] max2_int min2_int max_two min_two max_three min_three max_four min_four
set_option linter.unusedVariables false
set_option linter.unusedSimpArgs false
def garboardref58_valid.l0 : Nat → Int → List Int → Int → Int → Option (Bool)
 | 0, _, _, _, _ => none
 | k + 1, x3, x269000, x269001, x269002 => if x3 < (x269000.length : Int) then (if 0 ≤ x3 then (if (rd x269000 x3) < 1 then (some false) else (if (rd x269000 x3) > 9 then (some false) else (garboardref58_valid.l0 k (wrap64 (x3 + 1)) x269000 x269001 x269002))) else (none)) else (if (x269000.length : Int) ≥ 1 then (if (x269000.length : Int) ≤ 9 then (if x269001 ≥ 0 then (if x269001 ≤ 1073741824 then (if x269002 ≥ 0 then (some (decide (x269002 ≤ 1073741824))) else (some false)) else (some false)) else (some false)) else (some false)) else (some false))
def garboardref58_valid.f (k : Nat) (l0_0 : List Int) (a0_1 : Int) (a0_2 : Int) : Option (Bool) := garboardref58_valid.l0 k 0 l0_0 a0_1 a0_2
set_option maxHeartbeats 8000000 in
set_option maxRecDepth 100000 in
theorem garboardref58_valid.calls (k : Nat) (A0_0 : Option Addr) (c0_0 : Nat) (l0_0 : List Int) (a0_1 : Int) (a0_2 : Int) (r : Bool) (w : World) (hr0_0 : Kd.C (Kd.int .i64) w A0_0 l0_0.length l0_0) (hc0_0 : l0_0.length ≤ c0_0) (h : garboardref58_valid.f k l0_0 a0_1 a0_2 = some r) :
  Calls Tryd.prog 47 #[.agg #[.slice A0_0 l0_0.length c0_0, .int .i64 a0_1, .int .i64 a0_2]] w fun e w' => e = .returned (.bool r) ∧ Below w.heap.size w w' := by
 have hu41 := Tryd.underlying41
 have HR0_0 := Aside0.mk hr0_0
 have HC0_0 := Aside0.mk hc0_0
 clear hr0_0 hc0_0
 have HB := Aside0.mk (Below.refl w.heap.size w)
 have H : (garboardref58_valid.l0 k 0 l0_0 a0_1 a0_2) = some r := h
 clear h
 have H' := Aside0.mk H
 clear H
 go_enter Tryd.func47, Tryd.ntmps47
 go_wp2_with (first | ((with_reducible refine gate_dst (N := 1) rfl ?_); (try (refine gate_guard (by rfl) ?_; dsimp only)); refine box_event ?hg (N := 1) ?hd (cs := #[.slice A0_0 l0_0.length c0_0, .int .i64 a0_1, .int .i64 a0_2]) (t := 41) ?hr ?_; (case hd => rfl); (case hg => rfl); (case hr => first | (go_simp; done) | (go_simp; rfl)); intro gb268 hg w2 hbox hb; have n0_ := Aside0.mk (below_step (by repeat (first | (with_reducible first | exact HB.out | apply below_alloc | apply pw_below_drewN | apply below_drew1) | exact HB.out)) hb); have n1_ := Aside0.mk (hbox); have n2_ := Aside0.mk ((by rw [hg]; exact (below_size (by repeat (first | (with_reducible first | exact HB.out | apply below_alloc | apply pw_below_drewN | apply below_drew1) | exact HB.out))) : w.heap.size ≤ gb268)); have n3_ := Aside0.mk ((by rw [hg]; exact (below_size (by repeat (first | (with_reducible first | exact HB.out | apply below_alloc | apply pw_below_drewN | apply below_drew1) | exact HB.out))) : w.heap.size ≤ gb268)); clear HB; have HB := n0_; have BK268 := n1_; have GW268 := n2_; have GE268 := n3_; clear n0_ n1_ n2_ n3_; clear hb hbox hg))
 go_loopg [3] k (fun kq v3 w' => ∃ (x3_1 : Int), v3 = .int .i64 x3_1 ∧ Aside0 (garboardref58_valid.l0 kq x3_1 l0_0 a0_1 a0_2 = some r) ∧ Aside0 (kq ≤ k) ∧ Aside0 (w'.heap[gb268]? = some (.cells #[(.slice A0_0 l0_0.length c0_0), .int .i64 a0_1, .int .i64 a0_2] 41 (0, 0))) ∧ Aside0 (Below w.heap.size w w'))
 case atStart => exact ⟨(0), (by first | rfl | (simp; done) | (simp [*]; done)), H', ⟨Nat.le_refl _⟩, ⟨by (with_reducible repeat (first | refine blk_drewN ?_ _ | refine blk_drew ?_ | refine blk_alloc ?_ _)); exact BK268.out⟩, ⟨by repeat (first | (with_reducible first | exact HB.out | apply below_alloc | apply pw_below_drewN | apply below_drew1 | refine below_set ?_ GE268.out) | exact HB.out)⟩⟩
 case round =>
  clear H'
  try clear p2
  obtain ⟨x3_1, rfl, HA, HK1, BK268, HB⟩ := hrel
  cases gk with
  | zero => exact absurd HA.out (by simp [garboardref58_valid.l0])
  | succ k1 =>
   have H := HA.out
   clear HA
   simp only [garboardref58_valid.l0] at H
   by_cases c3 : x3_1 < (l0_0.length : Int)
   ·rw [if_pos c3] at H
    have c3b0 : decide (x3_1 < (l0_0.length : Int)) = true := decide_eq_true c3
    clear c3
    by_cases c4 : 0 ≤ x3_1
    ·rw [if_pos c4] at H
     have c4b0 : decide (0 ≤ x3_1) = true := decide_eq_true c4
     clear c4
     by_cases c5 : (rd l0_0 x3_1) < 1
     ·rw [if_pos c5] at H
      have c5b0 : decide ((rd l0_0 x3_1) < 1) = true := decide_eq_true c5
      clear c5
      obtain rfl := Option.some.inj H
      have hcz6_0 : wr.cell? ⟨gb268, 0, none⟩ = some (.slice A0_0 l0_0.length c0_0) := (blk_cell BK268.out 0).trans rfl
      have hcz6_1 : wr.cell? ⟨gb268, 1, none⟩ = some (.int .i64 a0_1) := (blk_cell BK268.out 1).trans rfl
      have hcz6_2 : wr.cell? ⟨gb268, 2, none⟩ = some (.int .i64 a0_2) := (blk_cell BK268.out 2).trans rfl
      have hfz6_0 := blk_frozen BK268.out 0
      have hfz6_1 := blk_frozen BK268.out 1
      have hfz6_2 := blk_frozen BK268.out 2
      have p269 : 0 ≤ (x3_1 : Int) := of_decide_eq_true (by first | (with_reducible assumption) | assumption)
      have q269 : x3_1 < (l0_0.length : Int) := of_decide_eq_true (by first | (with_reducible assumption) | assumption)
      obtain ⟨ad269, e269, hx269_0⟩ := Kd.at_int HR0_0.out x3_1 p269 q269
      cases e269
      replace hx269_0 := (HB.out.cell (World.block_lt_of_cell? w _ hx269_0)).trans hx269_0
      replace p269 := eq_true p269
      replace q269 := eq_true q269
      go_wp2
      go_ret
      exact ⟨by first | rfl | (simp [errW_none, errW_some] <;> rfl) | (simp [*, errW_none, errW_some] <;> rfl), by repeat (first | (with_reducible first | exact HB.out | apply below_alloc | apply pw_below_drewN | apply below_drew1 | refine below_set ?_ GE268.out) | exact HB.out)⟩
     ·rw [if_neg c5] at H
      have c5b0 : decide ((rd l0_0 x3_1) < 1) = false := decide_eq_false c5
      clear c5
      by_cases c7 : (rd l0_0 x3_1) > 9
      ·rw [if_pos c7] at H
       have c7b0 : decide (9 < (rd l0_0 x3_1)) = true := decide_eq_true c7
       clear c7
       obtain rfl := Option.some.inj H
       have hcz8_0 : wr.cell? ⟨gb268, 0, none⟩ = some (.slice A0_0 l0_0.length c0_0) := (blk_cell BK268.out 0).trans rfl
       have hcz8_1 : wr.cell? ⟨gb268, 1, none⟩ = some (.int .i64 a0_1) := (blk_cell BK268.out 1).trans rfl
       have hcz8_2 : wr.cell? ⟨gb268, 2, none⟩ = some (.int .i64 a0_2) := (blk_cell BK268.out 2).trans rfl
       have hfz8_0 := blk_frozen BK268.out 0
       have hfz8_1 := blk_frozen BK268.out 1
       have hfz8_2 := blk_frozen BK268.out 2
       have p269 : 0 ≤ (x3_1 : Int) := of_decide_eq_true (by first | (with_reducible assumption) | assumption)
       have q269 : x3_1 < (l0_0.length : Int) := of_decide_eq_true (by first | (with_reducible assumption) | assumption)
       obtain ⟨ad269, e269, hx269_0⟩ := Kd.at_int HR0_0.out x3_1 p269 q269
       cases e269
       replace hx269_0 := (HB.out.cell (World.block_lt_of_cell? w _ hx269_0)).trans hx269_0
       replace p269 := eq_true p269
       replace q269 := eq_true q269
       have p270 : 0 ≤ (x3_1 : Int) := of_decide_eq_true (by first | (with_reducible assumption) | assumption)
       have q270 : x3_1 < (l0_0.length : Int) := of_decide_eq_true (by first | (with_reducible assumption) | assumption)
       obtain ⟨ad270, e270, hx270_0⟩ := Kd.at_int HR0_0.out x3_1 p270 q270
       obtain rfl : ad269 = ad270 := (by injection e270)
       replace hx270_0 := (HB.out.cell (World.block_lt_of_cell? w _ hx270_0)).trans hx270_0
       replace p270 := eq_true p270
       replace q270 := eq_true q270
       go_wp2
       go_ret
       exact ⟨by first | rfl | (simp [errW_none, errW_some] <;> rfl) | (simp [*, errW_none, errW_some] <;> rfl), by repeat (first | (with_reducible first | exact HB.out | apply below_alloc | apply pw_below_drewN | apply below_drew1 | refine below_set ?_ GE268.out) | exact HB.out)⟩
      ·rw [if_neg c7] at H
       have c7b0 : decide (9 < (rd l0_0 x3_1)) = false := decide_eq_false c7
       clear c7
       have H' := Aside0.mk H
       clear H
       have hcz9_0 : wr.cell? ⟨gb268, 0, none⟩ = some (.slice A0_0 l0_0.length c0_0) := (blk_cell BK268.out 0).trans rfl
       have hcz9_1 : wr.cell? ⟨gb268, 1, none⟩ = some (.int .i64 a0_1) := (blk_cell BK268.out 1).trans rfl
       have hcz9_2 : wr.cell? ⟨gb268, 2, none⟩ = some (.int .i64 a0_2) := (blk_cell BK268.out 2).trans rfl
       have hfz9_0 := blk_frozen BK268.out 0
       have hfz9_1 := blk_frozen BK268.out 1
       have hfz9_2 := blk_frozen BK268.out 2
       have p269 : 0 ≤ (x3_1 : Int) := of_decide_eq_true (by first | (with_reducible assumption) | assumption)
       have q269 : x3_1 < (l0_0.length : Int) := of_decide_eq_true (by first | (with_reducible assumption) | assumption)
       obtain ⟨ad269, e269, hx269_0⟩ := Kd.at_int HR0_0.out x3_1 p269 q269
       cases e269
       replace hx269_0 := (HB.out.cell (World.block_lt_of_cell? w _ hx269_0)).trans hx269_0
       replace p269 := eq_true p269
       replace q269 := eq_true q269
       have p270 : 0 ≤ (x3_1 : Int) := of_decide_eq_true (by first | (with_reducible assumption) | assumption)
       have q270 : x3_1 < (l0_0.length : Int) := of_decide_eq_true (by first | (with_reducible assumption) | assumption)
       obtain ⟨ad270, e270, hx270_0⟩ := Kd.at_int HR0_0.out x3_1 p270 q270
       obtain rfl : ad269 = ad270 := (by injection e270)
       replace hx270_0 := (HB.out.cell (World.block_lt_of_cell? w _ hx270_0)).trans hx270_0
       replace p270 := eq_true p270
       replace q270 := eq_true q270
       go_wp2
       go_roundg k1
       case measure => have := HK1.out; omega
       case rel => exact ⟨(wrap64 (x3_1 + 1)), (by first | rfl | (simp; done) | (simp [*]; done)), H', ⟨by have := HK1.out; omega⟩, ⟨by (with_reducible repeat (first | refine blk_drewN ?_ _ | refine blk_drew ?_ | refine blk_alloc ?_ _)); exact BK268.out⟩, ⟨by repeat (first | (with_reducible first | exact HB.out | apply below_alloc | apply pw_below_drewN | apply below_drew1 | refine below_set ?_ GE268.out) | exact HB.out)⟩⟩
    ·rw [if_neg c4] at H
     exact absurd H (by simp)
   ·rw [if_neg c3] at H
    have c3b0 : decide (x3_1 < (l0_0.length : Int)) = false := decide_eq_false c3
    clear c3
    by_cases c10 : (l0_0.length : Int) ≥ 1
    ·rw [if_pos c10] at H
     have c10b0 : decide (1 ≤ (l0_0.length : Int)) = true := decide_eq_true c10
     have c10b1 : decide (1 ≤ l0_0.length) = true := decide_eq_true (by omega)
     clear c10
     by_cases c11 : (l0_0.length : Int) ≤ 9
     ·rw [if_pos c11] at H
      have c11b0 : decide ((l0_0.length : Int) ≤ 9) = true := decide_eq_true c11
      have c11b1 : decide (l0_0.length ≤ 9) = true := decide_eq_true (by omega)
      clear c11
      by_cases c12 : a0_1 ≥ 0
      ·rw [if_pos c12] at H
       have c12b0 : decide (0 ≤ a0_1) = true := decide_eq_true c12
       clear c12
       by_cases c13 : a0_1 ≤ 1073741824
       ·rw [if_pos c13] at H
        have c13b0 : decide (a0_1 ≤ 1073741824) = true := decide_eq_true c13
        clear c13
        by_cases c14 : a0_2 ≥ 0
        ·rw [if_pos c14] at H
         have c14b0 : decide (0 ≤ a0_2) = true := decide_eq_true c14
         clear c14
         obtain rfl := Option.some.inj H
         have hcz15_0 : wr.cell? ⟨gb268, 0, none⟩ = some (.slice A0_0 l0_0.length c0_0) := (blk_cell BK268.out 0).trans rfl
         have hcz15_1 : wr.cell? ⟨gb268, 1, none⟩ = some (.int .i64 a0_1) := (blk_cell BK268.out 1).trans rfl
         have hcz15_2 : wr.cell? ⟨gb268, 2, none⟩ = some (.int .i64 a0_2) := (blk_cell BK268.out 2).trans rfl
         have hfz15_0 := blk_frozen BK268.out 0
         have hfz15_1 := blk_frozen BK268.out 1
         have hfz15_2 := blk_frozen BK268.out 2
         go_wp2
         go_ret
         exact ⟨by first | rfl | (simp [errW_none, errW_some] <;> rfl) | (simp [*, errW_none, errW_some] <;> rfl), by repeat (first | (with_reducible first | exact HB.out | apply below_alloc | apply pw_below_drewN | apply below_drew1 | refine below_set ?_ GE268.out) | exact HB.out)⟩
        ·rw [if_neg c14] at H
         have c14b0 : decide (0 ≤ a0_2) = false := decide_eq_false c14
         clear c14
         obtain rfl := Option.some.inj H
         have hcz16_0 : wr.cell? ⟨gb268, 0, none⟩ = some (.slice A0_0 l0_0.length c0_0) := (blk_cell BK268.out 0).trans rfl
         have hcz16_1 : wr.cell? ⟨gb268, 1, none⟩ = some (.int .i64 a0_1) := (blk_cell BK268.out 1).trans rfl
         have hcz16_2 : wr.cell? ⟨gb268, 2, none⟩ = some (.int .i64 a0_2) := (blk_cell BK268.out 2).trans rfl
         have hfz16_0 := blk_frozen BK268.out 0
         have hfz16_1 := blk_frozen BK268.out 1
         have hfz16_2 := blk_frozen BK268.out 2
         go_wp2
         go_ret
         exact ⟨by first | rfl | (simp [errW_none, errW_some] <;> rfl) | (simp [*, errW_none, errW_some] <;> rfl), by repeat (first | (with_reducible first | exact HB.out | apply below_alloc | apply pw_below_drewN | apply below_drew1 | refine below_set ?_ GE268.out) | exact HB.out)⟩
       ·rw [if_neg c13] at H
        have c13b0 : decide (a0_1 ≤ 1073741824) = false := decide_eq_false c13
        clear c13
        obtain rfl := Option.some.inj H
        have hcz17_0 : wr.cell? ⟨gb268, 0, none⟩ = some (.slice A0_0 l0_0.length c0_0) := (blk_cell BK268.out 0).trans rfl
        have hcz17_1 : wr.cell? ⟨gb268, 1, none⟩ = some (.int .i64 a0_1) := (blk_cell BK268.out 1).trans rfl
        have hcz17_2 : wr.cell? ⟨gb268, 2, none⟩ = some (.int .i64 a0_2) := (blk_cell BK268.out 2).trans rfl
        have hfz17_0 := blk_frozen BK268.out 0
        have hfz17_1 := blk_frozen BK268.out 1
        have hfz17_2 := blk_frozen BK268.out 2
        go_wp2
        go_ret
        exact ⟨by first | rfl | (simp [errW_none, errW_some] <;> rfl) | (simp [*, errW_none, errW_some] <;> rfl), by repeat (first | (with_reducible first | exact HB.out | apply below_alloc | apply pw_below_drewN | apply below_drew1 | refine below_set ?_ GE268.out) | exact HB.out)⟩
      ·rw [if_neg c12] at H
       have c12b0 : decide (0 ≤ a0_1) = false := decide_eq_false c12
       clear c12
       obtain rfl := Option.some.inj H
       have hcz18_0 : wr.cell? ⟨gb268, 0, none⟩ = some (.slice A0_0 l0_0.length c0_0) := (blk_cell BK268.out 0).trans rfl
       have hcz18_1 : wr.cell? ⟨gb268, 1, none⟩ = some (.int .i64 a0_1) := (blk_cell BK268.out 1).trans rfl
       have hcz18_2 : wr.cell? ⟨gb268, 2, none⟩ = some (.int .i64 a0_2) := (blk_cell BK268.out 2).trans rfl
       have hfz18_0 := blk_frozen BK268.out 0
       have hfz18_1 := blk_frozen BK268.out 1
       have hfz18_2 := blk_frozen BK268.out 2
       go_wp2
       go_ret
       exact ⟨by first | rfl | (simp [errW_none, errW_some] <;> rfl) | (simp [*, errW_none, errW_some] <;> rfl), by repeat (first | (with_reducible first | exact HB.out | apply below_alloc | apply pw_below_drewN | apply below_drew1 | refine below_set ?_ GE268.out) | exact HB.out)⟩
     ·rw [if_neg c11] at H
      have c11b0 : decide ((l0_0.length : Int) ≤ 9) = false := decide_eq_false c11
      have c11b1 : decide (l0_0.length ≤ 9) = false := decide_eq_false (by omega)
      clear c11
      obtain rfl := Option.some.inj H
      have hcz19_0 : wr.cell? ⟨gb268, 0, none⟩ = some (.slice A0_0 l0_0.length c0_0) := (blk_cell BK268.out 0).trans rfl
      have hcz19_1 : wr.cell? ⟨gb268, 1, none⟩ = some (.int .i64 a0_1) := (blk_cell BK268.out 1).trans rfl
      have hcz19_2 : wr.cell? ⟨gb268, 2, none⟩ = some (.int .i64 a0_2) := (blk_cell BK268.out 2).trans rfl
      have hfz19_0 := blk_frozen BK268.out 0
      have hfz19_1 := blk_frozen BK268.out 1
      have hfz19_2 := blk_frozen BK268.out 2
      go_wp2
      go_ret
      exact ⟨by first | rfl | (simp [errW_none, errW_some] <;> rfl) | (simp [*, errW_none, errW_some] <;> rfl), by repeat (first | (with_reducible first | exact HB.out | apply below_alloc | apply pw_below_drewN | apply below_drew1 | refine below_set ?_ GE268.out) | exact HB.out)⟩
    ·rw [if_neg c10] at H
     have c10b0 : decide (1 ≤ (l0_0.length : Int)) = false := decide_eq_false c10
     have c10b1 : decide (1 ≤ l0_0.length) = false := decide_eq_false (by omega)
     clear c10
     obtain rfl := Option.some.inj H
     have hcz20_0 : wr.cell? ⟨gb268, 0, none⟩ = some (.slice A0_0 l0_0.length c0_0) := (blk_cell BK268.out 0).trans rfl
     have hcz20_1 : wr.cell? ⟨gb268, 1, none⟩ = some (.int .i64 a0_1) := (blk_cell BK268.out 1).trans rfl
     have hcz20_2 : wr.cell? ⟨gb268, 2, none⟩ = some (.int .i64 a0_2) := (blk_cell BK268.out 2).trans rfl
     have hfz20_0 := blk_frozen BK268.out 0
     have hfz20_1 := blk_frozen BK268.out 1
     have hfz20_2 := blk_frozen BK268.out 2
     go_wp2
     go_ret
     exact ⟨by first | rfl | (simp [errW_none, errW_some] <;> rfl) | (simp [*, errW_none, errW_some] <;> rfl), by repeat (first | (with_reducible first | exact HB.out | apply below_alloc | apply pw_below_drewN | apply below_drew1 | refine below_set ?_ GE268.out) | exact HB.out)⟩
end Go.Proofs.YtbfimjncophcaaaDoor.Pr
namespace Go.Proofs.YtbfimjncophcaaaDoor.Pr
open Go.RowKit Go.Proofs.YtbfimjncophcaaaDoorW.PrintWords Go.Proofs.YtbfimjncophcaaaDoorW.PrintLast Go.Proofs.YtbfimjncophcaaaDoorW.PrintMore
attribute [local go_sem] max2_int min2_int max_two min_two max_three min_three max_four min_four
set_option linter.unusedVariables false
set_option linter.unusedSimpArgs false
def garboardref58_has.l0 : Nat → List (S25) → Int → ByteArray → Int → Int → List Int → Int → Int → Option (Bool)
 | 0, _, _, _, _, _, _, _, _ => none
 | k + 1, x0, x1, x2, x4, x11, x272000, x272001, x272002 => if x11 < (x0.length : Int) then (if 0 ≤ x11 then (if ((rd_T25 x0 x11).f0) = x1 then (if ((rd_T25 x0 x11).f2).toList = x2.toList then (if ((rd_T25 x0 x11).f1) ≤ x4 then (if ((rd_T25 x0 x11).f1) ≥ (wrap64 (x4 - x272001)) then (some (x1 != x272002)) else (garboardref58_has.l0 k x0 x1 x2 x4 (wrap64 (x11 + 1)) x272000 x272001 x272002)) else (garboardref58_has.l0 k x0 x1 x2 x4 (wrap64 (x11 + 1)) x272000 x272001 x272002)) else (garboardref58_has.l0 k x0 x1 x2 x4 (wrap64 (x11 + 1)) x272000 x272001 x272002)) else (garboardref58_has.l0 k x0 x1 x2 x4 (wrap64 (x11 + 1)) x272000 x272001 x272002)) else (none)) else (some false)
def garboardref58_has.f (k : Nat) (l0 : List (S25)) (a1 : Int) (a2 : ByteArray) (l3_0 : List Int) (a3_1 : Int) (a3_2 : Int) (a4 : Int) : Option (Bool) := garboardref58_has.l0 k l0 a1 a2 a4 0 l3_0 a3_1 a3_2
set_option maxHeartbeats 8000000 in
set_option maxRecDepth 100000 in
theorem garboardref58_has.calls (k : Nat) (A0 : Option Addr) (c0 : Nat) (l0 : List (S25)) (a1 : Int) (a2 : ByteArray) (A3_0 : Option Addr) (c3_0 : Nat) (l3_0 : List Int) (a3_1 : Int) (a3_2 : Int) (a4 : Int) (r : Bool) (w : World) (hr0 : Kd.C k25 w A0 l0.length l0) (hc0 : l0.length ≤ c0) (hr3_0 : Kd.C (Kd.int .i64) w A3_0 l3_0.length l3_0) (hc3_0 : l3_0.length ≤ c3_0) (h : garboardref58_has.f k l0 a1 a2 l3_0 a3_1 a3_2 a4 = some r) :
  Calls Tryd.prog 48 #[.slice A0 l0.length c0, .int .i64 a1, .string a2, .agg #[.slice A3_0 l3_0.length c3_0, .int .i64 a3_1, .int .i64 a3_2], .int .i64 a4] w fun e w' => e = .returned (.bool r) ∧ Below w.heap.size w w' := by
 have hu41 := Tryd.underlying41
 have HR0 := Aside0.mk hr0
 have HC0 := Aside0.mk hc0
 clear hr0 hc0
 have HR3_0 := Aside0.mk hr3_0
 have HC3_0 := Aside0.mk hc3_0
 clear hr3_0 hc3_0
 have HB := Aside0.mk (Below.refl w.heap.size w)
 have H : (garboardref58_has.l0 k l0 a1 a2 a4 0 l3_0 a3_1 a3_2) = some r := h
 clear h
 have H' := Aside0.mk H
 clear H
 go_enter Tryd.func48, Tryd.ntmps48
 go_wp2_with (first | ((with_reducible refine gate_dst (N := 8) rfl ?_); refine box_event ?hg (N := 8) ?hd (cs := #[.slice A3_0 l3_0.length c3_0, .int .i64 a3_1, .int .i64 a3_2]) (t := 41) ?hr ?_; (case hd => rfl); (case hg => rfl); (case hr => first | (go_simp; done) | (go_simp; rfl)); intro gb271 hg w6 hbox hb; have n0_ := Aside0.mk (below_step (by repeat (first | (with_reducible first | exact HB.out | apply below_alloc | apply pw_below_drewN | apply below_drew1) | exact HB.out)) hb); have n1_ := Aside0.mk (hbox); have n2_ := Aside0.mk ((by rw [hg]; exact (below_size (by repeat (first | (with_reducible first | exact HB.out | apply below_alloc | apply pw_below_drewN | apply below_drew1) | exact HB.out))) : w.heap.size ≤ gb271)); have n3_ := Aside0.mk ((by rw [hg]; exact (below_size (by repeat (first | (with_reducible first | exact HB.out | apply below_alloc | apply pw_below_drewN | apply below_drew1) | exact HB.out))) : w.heap.size ≤ gb271)); clear HB; have HB := n0_; have BK271 := n1_; have GW271 := n2_; have GE271 := n3_; clear n0_ n1_ n2_ n3_; clear hb hbox hg))
 repeat (go_quiet (first | ((with_reducible refine gate_dst (N := 8) rfl ?_); refine box_event ?hg (N := 8) ?hd (cs := #[.slice A3_0 l3_0.length c3_0, .int .i64 a3_1, .int .i64 a3_2]) (t := 41) ?hr ?_; (case hd => rfl); (case hg => rfl); (case hr => first | (go_simp; done) | (go_simp; rfl)); intro gb271 hg w6 hbox hb; have n0_ := Aside0.mk (below_step (by repeat (first | (with_reducible first | exact HB.out | apply below_alloc | apply pw_below_drewN | apply below_drew1) | exact HB.out)) hb); have n1_ := Aside0.mk (hbox); have n2_ := Aside0.mk ((by rw [hg]; exact (below_size (by repeat (first | (with_reducible first | exact HB.out | apply below_alloc | apply pw_below_drewN | apply below_drew1) | exact HB.out))) : w.heap.size ≤ gb271)); have n3_ := Aside0.mk ((by rw [hg]; exact (below_size (by repeat (first | (with_reducible first | exact HB.out | apply below_alloc | apply pw_below_drewN | apply below_drew1) | exact HB.out))) : w.heap.size ≤ gb271)); clear HB; have HB := n0_; have BK271 := n1_; have GW271 := n2_; have GE271 := n3_; clear n0_ n1_ n2_ n3_; clear hb hbox hg)); try go_wp2_with (first | ((with_reducible refine gate_dst (N := 8) rfl ?_); refine box_event ?hg (N := 8) ?hd (cs := #[.slice A3_0 l3_0.length c3_0, .int .i64 a3_1, .int .i64 a3_2]) (t := 41) ?hr ?_; (case hd => rfl); (case hg => rfl); (case hr => first | (go_simp; done) | (go_simp; rfl)); intro gb271 hg w6 hbox hb; have n0_ := Aside0.mk (below_step (by repeat (first | (with_reducible first | exact HB.out | apply below_alloc | apply pw_below_drewN | apply below_drew1) | exact HB.out)) hb); have n1_ := Aside0.mk (hbox); have n2_ := Aside0.mk ((by rw [hg]; exact (below_size (by repeat (first | (with_reducible first | exact HB.out | apply below_alloc | apply pw_below_drewN | apply below_drew1) | exact HB.out))) : w.heap.size ≤ gb271)); have n3_ := Aside0.mk ((by rw [hg]; exact (below_size (by repeat (first | (with_reducible first | exact HB.out | apply below_alloc | apply pw_below_drewN | apply below_drew1) | exact HB.out))) : w.heap.size ≤ gb271)); clear HB; have HB := n0_; have BK271 := n1_; have GW271 := n2_; have GE271 := n3_; clear n0_ n1_ n2_ n3_; clear hb hbox hg)))
 go_loopg [11] k (fun kq v11 w' => ∃ (x11_1 : Int), v11 = .int .i64 x11_1 ∧ Aside0 (garboardref58_has.l0 kq l0 a1 a2 a4 x11_1 l3_0 a3_1 a3_2 = some r) ∧ Aside0 (kq ≤ k) ∧ Aside0 (w'.heap[gb271]? = some (.cells #[(.slice A3_0 l3_0.length c3_0), .int .i64 a3_1, .int .i64 a3_2] 41 (0, 0))) ∧ Aside0 (Below w.heap.size w w'))
 case atStart => exact ⟨(0), (by first | rfl | (simp; done) | (simp [*]; done)), H', ⟨Nat.le_refl _⟩, ⟨by (with_reducible repeat (first | refine blk_drewN ?_ _ | refine blk_drew ?_ | refine blk_alloc ?_ _)); exact BK271.out⟩, ⟨by repeat (first | (with_reducible first | exact HB.out | apply below_alloc | apply pw_below_drewN | apply below_drew1 | refine below_set ?_ GE271.out) | exact HB.out)⟩⟩
 case round =>
  clear H'
  try clear p2
  try clear c3
  try clear c4
  obtain ⟨x11_1, rfl, HA, HK1, BK271, HB⟩ := hrel
  cases gk with
  | zero => exact absurd HA.out (by simp [garboardref58_has.l0])
  | succ k1 =>
   have H := HA.out
   clear HA
   simp only [garboardref58_has.l0] at H
   by_cases c7 : x11_1 < (l0.length : Int)
   ·rw [if_pos c7] at H
    have c7b0 : decide (x11_1 < (l0.length : Int)) = true := decide_eq_true c7
    clear c7
    by_cases c8 : 0 ≤ x11_1
    ·rw [if_pos c8] at H
     have c8b0 : decide (0 ≤ x11_1) = true := decide_eq_true c8
     clear c8
     by_cases c9 : ((rd_T25 l0 x11_1).f0) = a1
     ·rw [if_pos c9] at H
      have c9b0 : (((rd_T25 l0 x11_1).f0) == a1) = true := beq_iff_eq.mpr c9
      have c9b1 : (((rd_T25 l0 x11_1).f0) != a1) = false := bne_eq_false_iff_eq.mpr c9
      clear c9
      by_cases c10 : ((rd_T25 l0 x11_1).f2).toList = a2.toList
      ·rw [if_pos c10] at H
       have c10b0 : (((rd_T25 l0 x11_1).f2).toList == a2.toList) = true := beq_iff_eq.mpr c10
       have c10b1 : (((rd_T25 l0 x11_1).f2).toList != a2.toList) = false := bne_eq_false_iff_eq.mpr c10
       clear c10
       by_cases c11 : ((rd_T25 l0 x11_1).f1) ≤ a4
       ·rw [if_pos c11] at H
        have c11b0 : decide (((rd_T25 l0 x11_1).f1) ≤ a4) = true := decide_eq_true c11
        clear c11
        by_cases c12 : ((rd_T25 l0 x11_1).f1) ≥ (wrap64 (a4 - a3_1))
        ·rw [if_pos c12] at H
         have c12b0 : decide ((wrap64 (a4 - a3_1)) ≤ ((rd_T25 l0 x11_1).f1)) = true := decide_eq_true c12
         clear c12
         obtain rfl := Option.some.inj H
         have p272 : 0 ≤ (x11_1 : Int) := of_decide_eq_true (by first | (with_reducible assumption) | assumption)
         have q272 : x11_1 < (l0.length : Int) := of_decide_eq_true (by first | (with_reducible assumption) | assumption)
         obtain ⟨ad272, e272, hx272_0, hx272_1, hx272_2, hx272_3⟩ := at_T25 HR0.out x11_1 p272 q272
         cases e272
         replace hx272_0 := (HB.out.cell (World.block_lt_of_cell? w _ hx272_0)).trans hx272_0
         replace hx272_1 := (HB.out.cell (World.block_lt_of_cell? w _ hx272_1)).trans hx272_1
         replace hx272_2 := (HB.out.cell (World.block_lt_of_cell? w _ hx272_2)).trans hx272_2
         replace hx272_3 := (HB.out.cell (World.block_lt_of_cell? w _ hx272_3)).trans hx272_3
         replace p272 := eq_true p272
         replace q272 := eq_true q272
         have p273 : 0 ≤ (x11_1 : Int) := of_decide_eq_true (by first | (with_reducible assumption) | assumption)
         have q273 : x11_1 < (l0.length : Int) := of_decide_eq_true (by first | (with_reducible assumption) | assumption)
         obtain ⟨ad273, e273, hx273_0, hx273_1, hx273_2, hx273_3⟩ := at_T25 HR0.out x11_1 p273 q273
         obtain rfl : ad272 = ad273 := (by injection e273)
         replace hx273_0 := (HB.out.cell (World.block_lt_of_cell? w _ hx273_0)).trans hx273_0
         replace hx273_1 := (HB.out.cell (World.block_lt_of_cell? w _ hx273_1)).trans hx273_1
         replace hx273_2 := (HB.out.cell (World.block_lt_of_cell? w _ hx273_2)).trans hx273_2
         replace hx273_3 := (HB.out.cell (World.block_lt_of_cell? w _ hx273_3)).trans hx273_3
         replace p273 := eq_true p273
         replace q273 := eq_true q273
         have p274 : 0 ≤ (x11_1 : Int) := of_decide_eq_true (by first | (with_reducible assumption) | assumption)
         have q274 : x11_1 < (l0.length : Int) := of_decide_eq_true (by first | (with_reducible assumption) | assumption)
         obtain ⟨ad274, e274, hx274_0, hx274_1, hx274_2, hx274_3⟩ := at_T25 HR0.out x11_1 p274 q274
         obtain rfl : ad272 = ad274 := (by injection e274)
         replace hx274_0 := (HB.out.cell (World.block_lt_of_cell? w _ hx274_0)).trans hx274_0
         replace hx274_1 := (HB.out.cell (World.block_lt_of_cell? w _ hx274_1)).trans hx274_1
         replace hx274_2 := (HB.out.cell (World.block_lt_of_cell? w _ hx274_2)).trans hx274_2
         replace hx274_3 := (HB.out.cell (World.block_lt_of_cell? w _ hx274_3)).trans hx274_3
         replace p274 := eq_true p274
         replace q274 := eq_true q274
         have p275 : 0 ≤ (x11_1 : Int) := of_decide_eq_true (by first | (with_reducible assumption) | assumption)
         have q275 : x11_1 < (l0.length : Int) := of_decide_eq_true (by first | (with_reducible assumption) | assumption)
         obtain ⟨ad275, e275, hx275_0, hx275_1, hx275_2, hx275_3⟩ := at_T25 HR0.out x11_1 p275 q275
         obtain rfl : ad272 = ad275 := (by injection e275)
         replace hx275_0 := (HB.out.cell (World.block_lt_of_cell? w _ hx275_0)).trans hx275_0
         replace hx275_1 := (HB.out.cell (World.block_lt_of_cell? w _ hx275_1)).trans hx275_1
         replace hx275_2 := (HB.out.cell (World.block_lt_of_cell? w _ hx275_2)).trans hx275_2
         replace hx275_3 := (HB.out.cell (World.block_lt_of_cell? w _ hx275_3)).trans hx275_3
         replace p275 := eq_true p275
         replace q275 := eq_true q275
         have hcz13_0 : wr.cell? ⟨gb271, 0, none⟩ = some (.slice A3_0 l3_0.length c3_0) := (blk_cell BK271.out 0).trans rfl
         have hcz13_1 : wr.cell? ⟨gb271, 1, none⟩ = some (.int .i64 a3_1) := (blk_cell BK271.out 1).trans rfl
         have hcz13_2 : wr.cell? ⟨gb271, 2, none⟩ = some (.int .i64 a3_2) := (blk_cell BK271.out 2).trans rfl
         have hfz13_0 := blk_frozen BK271.out 0
         have hfz13_1 := blk_frozen BK271.out 1
         have hfz13_2 := blk_frozen BK271.out 2
         go_wp2
         repeat (go_quiet (fail); try go_wp2)
         go_ret
         exact ⟨by first | rfl | (simp [errW_none, errW_some] <;> rfl) | (simp [*, errW_none, errW_some] <;> rfl), by repeat (first | (with_reducible first | exact HB.out | apply below_alloc | apply pw_below_drewN | apply below_drew1 | refine below_set ?_ GE271.out) | exact HB.out)⟩
        ·rw [if_neg c12] at H
         have c12b0 : decide ((wrap64 (a4 - a3_1)) ≤ ((rd_T25 l0 x11_1).f1)) = false := decide_eq_false c12
         clear c12
         have H' := Aside0.mk H
         clear H
         have p272 : 0 ≤ (x11_1 : Int) := of_decide_eq_true (by first | (with_reducible assumption) | assumption)
         have q272 : x11_1 < (l0.length : Int) := of_decide_eq_true (by first | (with_reducible assumption) | assumption)
         obtain ⟨ad272, e272, hx272_0, hx272_1, hx272_2, hx272_3⟩ := at_T25 HR0.out x11_1 p272 q272
         cases e272
         replace hx272_0 := (HB.out.cell (World.block_lt_of_cell? w _ hx272_0)).trans hx272_0
         replace hx272_1 := (HB.out.cell (World.block_lt_of_cell? w _ hx272_1)).trans hx272_1
         replace hx272_2 := (HB.out.cell (World.block_lt_of_cell? w _ hx272_2)).trans hx272_2
         replace hx272_3 := (HB.out.cell (World.block_lt_of_cell? w _ hx272_3)).trans hx272_3
         replace p272 := eq_true p272
         replace q272 := eq_true q272
         have p273 : 0 ≤ (x11_1 : Int) := of_decide_eq_true (by first | (with_reducible assumption) | assumption)
         have q273 : x11_1 < (l0.length : Int) := of_decide_eq_true (by first | (with_reducible assumption) | assumption)
         obtain ⟨ad273, e273, hx273_0, hx273_1, hx273_2, hx273_3⟩ := at_T25 HR0.out x11_1 p273 q273
         obtain rfl : ad272 = ad273 := (by injection e273)
         replace hx273_0 := (HB.out.cell (World.block_lt_of_cell? w _ hx273_0)).trans hx273_0
         replace hx273_1 := (HB.out.cell (World.block_lt_of_cell? w _ hx273_1)).trans hx273_1
         replace hx273_2 := (HB.out.cell (World.block_lt_of_cell? w _ hx273_2)).trans hx273_2
         replace hx273_3 := (HB.out.cell (World.block_lt_of_cell? w _ hx273_3)).trans hx273_3
         replace p273 := eq_true p273
         replace q273 := eq_true q273
         have p274 : 0 ≤ (x11_1 : Int) := of_decide_eq_true (by first | (with_reducible assumption) | assumption)
         have q274 : x11_1 < (l0.length : Int) := of_decide_eq_true (by first | (with_reducible assumption) | assumption)
         obtain ⟨ad274, e274, hx274_0, hx274_1, hx274_2, hx274_3⟩ := at_T25 HR0.out x11_1 p274 q274
         obtain rfl : ad272 = ad274 := (by injection e274)
         replace hx274_0 := (HB.out.cell (World.block_lt_of_cell? w _ hx274_0)).trans hx274_0
         replace hx274_1 := (HB.out.cell (World.block_lt_of_cell? w _ hx274_1)).trans hx274_1
         replace hx274_2 := (HB.out.cell (World.block_lt_of_cell? w _ hx274_2)).trans hx274_2
         replace hx274_3 := (HB.out.cell (World.block_lt_of_cell? w _ hx274_3)).trans hx274_3
         replace p274 := eq_true p274
         replace q274 := eq_true q274
         have p275 : 0 ≤ (x11_1 : Int) := of_decide_eq_true (by first | (with_reducible assumption) | assumption)
         have q275 : x11_1 < (l0.length : Int) := of_decide_eq_true (by first | (with_reducible assumption) | assumption)
         obtain ⟨ad275, e275, hx275_0, hx275_1, hx275_2, hx275_3⟩ := at_T25 HR0.out x11_1 p275 q275
         obtain rfl : ad272 = ad275 := (by injection e275)
         replace hx275_0 := (HB.out.cell (World.block_lt_of_cell? w _ hx275_0)).trans hx275_0
         replace hx275_1 := (HB.out.cell (World.block_lt_of_cell? w _ hx275_1)).trans hx275_1
         replace hx275_2 := (HB.out.cell (World.block_lt_of_cell? w _ hx275_2)).trans hx275_2
         replace hx275_3 := (HB.out.cell (World.block_lt_of_cell? w _ hx275_3)).trans hx275_3
         replace p275 := eq_true p275
         replace q275 := eq_true q275
         have hcz14_0 : wr.cell? ⟨gb271, 0, none⟩ = some (.slice A3_0 l3_0.length c3_0) := (blk_cell BK271.out 0).trans rfl
         have hcz14_1 : wr.cell? ⟨gb271, 1, none⟩ = some (.int .i64 a3_1) := (blk_cell BK271.out 1).trans rfl
         have hcz14_2 : wr.cell? ⟨gb271, 2, none⟩ = some (.int .i64 a3_2) := (blk_cell BK271.out 2).trans rfl
         have hfz14_0 := blk_frozen BK271.out 0
         have hfz14_1 := blk_frozen BK271.out 1
         have hfz14_2 := blk_frozen BK271.out 2
         go_wp2
         repeat (go_quiet (fail); try go_wp2)
         go_roundg k1
         case measure => have := HK1.out; omega
         case rel => exact ⟨(wrap64 (x11_1 + 1)), (by first | rfl | (simp; done) | (simp [*]; done)), H', ⟨by have := HK1.out; omega⟩, ⟨by (with_reducible repeat (first | refine blk_drewN ?_ _ | refine blk_drew ?_ | refine blk_alloc ?_ _)); exact BK271.out⟩, ⟨by repeat (first | (with_reducible first | exact HB.out | apply below_alloc | apply pw_below_drewN | apply below_drew1 | refine below_set ?_ GE271.out) | exact HB.out)⟩⟩
       ·rw [if_neg c11] at H
        have c11b0 : decide (((rd_T25 l0 x11_1).f1) ≤ a4) = false := decide_eq_false c11
        clear c11
        have H' := Aside0.mk H
        clear H
        have p272 : 0 ≤ (x11_1 : Int) := of_decide_eq_true (by first | (with_reducible assumption) | assumption)
        have q272 : x11_1 < (l0.length : Int) := of_decide_eq_true (by first | (with_reducible assumption) | assumption)
        obtain ⟨ad272, e272, hx272_0, hx272_1, hx272_2, hx272_3⟩ := at_T25 HR0.out x11_1 p272 q272
        cases e272
        replace hx272_0 := (HB.out.cell (World.block_lt_of_cell? w _ hx272_0)).trans hx272_0
        replace hx272_1 := (HB.out.cell (World.block_lt_of_cell? w _ hx272_1)).trans hx272_1
        replace hx272_2 := (HB.out.cell (World.block_lt_of_cell? w _ hx272_2)).trans hx272_2
        replace hx272_3 := (HB.out.cell (World.block_lt_of_cell? w _ hx272_3)).trans hx272_3
        replace p272 := eq_true p272
        replace q272 := eq_true q272
        have p273 : 0 ≤ (x11_1 : Int) := of_decide_eq_true (by first | (with_reducible assumption) | assumption)
        have q273 : x11_1 < (l0.length : Int) := of_decide_eq_true (by first | (with_reducible assumption) | assumption)
        obtain ⟨ad273, e273, hx273_0, hx273_1, hx273_2, hx273_3⟩ := at_T25 HR0.out x11_1 p273 q273
        obtain rfl : ad272 = ad273 := (by injection e273)
        replace hx273_0 := (HB.out.cell (World.block_lt_of_cell? w _ hx273_0)).trans hx273_0
        replace hx273_1 := (HB.out.cell (World.block_lt_of_cell? w _ hx273_1)).trans hx273_1
        replace hx273_2 := (HB.out.cell (World.block_lt_of_cell? w _ hx273_2)).trans hx273_2
        replace hx273_3 := (HB.out.cell (World.block_lt_of_cell? w _ hx273_3)).trans hx273_3
        replace p273 := eq_true p273
        replace q273 := eq_true q273
        have p274 : 0 ≤ (x11_1 : Int) := of_decide_eq_true (by first | (with_reducible assumption) | assumption)
        have q274 : x11_1 < (l0.length : Int) := of_decide_eq_true (by first | (with_reducible assumption) | assumption)
        obtain ⟨ad274, e274, hx274_0, hx274_1, hx274_2, hx274_3⟩ := at_T25 HR0.out x11_1 p274 q274
        obtain rfl : ad272 = ad274 := (by injection e274)
        replace hx274_0 := (HB.out.cell (World.block_lt_of_cell? w _ hx274_0)).trans hx274_0
        replace hx274_1 := (HB.out.cell (World.block_lt_of_cell? w _ hx274_1)).trans hx274_1
        replace hx274_2 := (HB.out.cell (World.block_lt_of_cell? w _ hx274_2)).trans hx274_2
        replace hx274_3 := (HB.out.cell (World.block_lt_of_cell? w _ hx274_3)).trans hx274_3
        replace p274 := eq_true p274
        replace q274 := eq_true q274
        go_wp2
        repeat (go_quiet (fail); try go_wp2)
        go_roundg k1
        case measure => have := HK1.out; omega
        case rel => exact ⟨(wrap64 (x11_1 + 1)), (by first | rfl | (simp; done) | (simp [*]; done)), H', ⟨by have := HK1.out; omega⟩, ⟨by (with_reducible repeat (first | refine blk_drewN ?_ _ | refine blk_drew ?_ | refine blk_alloc ?_ _)); exact BK271.out⟩, ⟨by repeat (first | (with_reducible first | exact HB.out | apply below_alloc | apply pw_below_drewN | apply below_drew1 | refine below_set ?_ GE271.out) | exact HB.out)⟩⟩
      ·rw [if_neg c10] at H
       have c10b0 : (((rd_T25 l0 x11_1).f2).toList == a2.toList) = false := beq_eq_false_iff_ne.mpr c10
       have c10b1 : (((rd_T25 l0 x11_1).f2).toList != a2.toList) = true := bne_iff_ne.mpr c10
       have H' := Aside0.mk H
       clear H
       have p272 : 0 ≤ (x11_1 : Int) := of_decide_eq_true (by first | (with_reducible assumption) | assumption)
       have q272 : x11_1 < (l0.length : Int) := of_decide_eq_true (by first | (with_reducible assumption) | assumption)
       obtain ⟨ad272, e272, hx272_0, hx272_1, hx272_2, hx272_3⟩ := at_T25 HR0.out x11_1 p272 q272
       cases e272
       replace hx272_0 := (HB.out.cell (World.block_lt_of_cell? w _ hx272_0)).trans hx272_0
       replace hx272_1 := (HB.out.cell (World.block_lt_of_cell? w _ hx272_1)).trans hx272_1
       replace hx272_2 := (HB.out.cell (World.block_lt_of_cell? w _ hx272_2)).trans hx272_2
       replace hx272_3 := (HB.out.cell (World.block_lt_of_cell? w _ hx272_3)).trans hx272_3
       replace p272 := eq_true p272
       replace q272 := eq_true q272
       have p273 : 0 ≤ (x11_1 : Int) := of_decide_eq_true (by first | (with_reducible assumption) | assumption)
       have q273 : x11_1 < (l0.length : Int) := of_decide_eq_true (by first | (with_reducible assumption) | assumption)
       obtain ⟨ad273, e273, hx273_0, hx273_1, hx273_2, hx273_3⟩ := at_T25 HR0.out x11_1 p273 q273
       obtain rfl : ad272 = ad273 := (by injection e273)
       replace hx273_0 := (HB.out.cell (World.block_lt_of_cell? w _ hx273_0)).trans hx273_0
       replace hx273_1 := (HB.out.cell (World.block_lt_of_cell? w _ hx273_1)).trans hx273_1
       replace hx273_2 := (HB.out.cell (World.block_lt_of_cell? w _ hx273_2)).trans hx273_2
       replace hx273_3 := (HB.out.cell (World.block_lt_of_cell? w _ hx273_3)).trans hx273_3
       replace p273 := eq_true p273
       replace q273 := eq_true q273
       go_wp2
       repeat (go_quiet (fail); try go_wp2)
       go_roundg k1
       case measure => have := HK1.out; omega
       case rel => exact ⟨(wrap64 (x11_1 + 1)), (by first | rfl | (simp; done) | (simp [*]; done)), H', ⟨by have := HK1.out; omega⟩, ⟨by (with_reducible repeat (first | refine blk_drewN ?_ _ | refine blk_drew ?_ | refine blk_alloc ?_ _)); exact BK271.out⟩, ⟨by repeat (first | (with_reducible first | exact HB.out | apply below_alloc | apply pw_below_drewN | apply below_drew1 | refine below_set ?_ GE271.out) | exact HB.out)⟩⟩
     ·rw [if_neg c9] at H
      have c9b0 : (((rd_T25 l0 x11_1).f0) == a1) = false := beq_eq_false_iff_ne.mpr c9
      have c9b1 : (((rd_T25 l0 x11_1).f0) != a1) = true := bne_iff_ne.mpr c9
      have H' := Aside0.mk H
      clear H
      have p272 : 0 ≤ (x11_1 : Int) := of_decide_eq_true (by first | (with_reducible assumption) | assumption)
      have q272 : x11_1 < (l0.length : Int) := of_decide_eq_true (by first | (with_reducible assumption) | assumption)
      obtain ⟨ad272, e272, hx272_0, hx272_1, hx272_2, hx272_3⟩ := at_T25 HR0.out x11_1 p272 q272
      cases e272
      replace hx272_0 := (HB.out.cell (World.block_lt_of_cell? w _ hx272_0)).trans hx272_0
      replace hx272_1 := (HB.out.cell (World.block_lt_of_cell? w _ hx272_1)).trans hx272_1
      replace hx272_2 := (HB.out.cell (World.block_lt_of_cell? w _ hx272_2)).trans hx272_2
      replace hx272_3 := (HB.out.cell (World.block_lt_of_cell? w _ hx272_3)).trans hx272_3
      replace p272 := eq_true p272
      replace q272 := eq_true q272
      go_wp2
      repeat (go_quiet (fail); try go_wp2)
      go_roundg k1
      case measure => have := HK1.out; omega
      case rel => exact ⟨(wrap64 (x11_1 + 1)), (by first | rfl | (simp; done) | (simp [*]; done)), H', ⟨by have := HK1.out; omega⟩, ⟨by (with_reducible repeat (first | refine blk_drewN ?_ _ | refine blk_drew ?_ | refine blk_alloc ?_ _)); exact BK271.out⟩, ⟨by repeat (first | (with_reducible first | exact HB.out | apply below_alloc | apply pw_below_drewN | apply below_drew1 | refine below_set ?_ GE271.out) | exact HB.out)⟩⟩
    ·rw [if_neg c8] at H
     exact absurd H (by simp)
   ·rw [if_neg c7] at H
    have c7b0 : decide (x11_1 < (l0.length : Int)) = false := decide_eq_false c7
    clear c7
    obtain rfl := Option.some.inj H
    go_wp2
    repeat (go_quiet (fail); try go_wp2)
    go_ret
    exact ⟨by first | rfl | (simp [errW_none, errW_some] <;> rfl) | (simp [*, errW_none, errW_some] <;> rfl), by repeat (first | (with_reducible first | exact HB.out | apply below_alloc | apply pw_below_drewN | apply below_drew1 | refine below_set ?_ GE271.out) | exact HB.out)⟩
end Go.Proofs.YtbfimjncophcaaaDoor.Pr
namespace Go.Proofs.YtbfimjncophcaaaDoor.Pr
open Go.RowKit Go.Proofs.YtbfimjncophcaaaDoorW.PrintWords Go.Proofs.YtbfimjncophcaaaDoorW.PrintLast Go.Proofs.YtbfimjncophcaaaDoorW.PrintMore
attribute [local go_sem] max2_int min2_int max_two min_two max_three min_three max_four min_four
set_option linter.unusedVariables false
set_option linter.unusedSimpArgs false
mutual
def garboardref58_Missing.j0 : Nat → List (S33) → List (S25) → ByteArray → Int → Bool → List Int → Int → Int → Option (List Int × Int)
 | 0, _, _, _, _, _, _, _, _ => none
 | k + 1, x0, x1, x2, x4, x31, x277000, x277001, x277002 => if x31 = true then (some (([] : List Int), 1)) else (if (x2.size : Int) = 32 then (if x4 < 0 then (garboardref58_Missing.j1 k x0 x1 x2 x4 true x277000 x277001 x277002) else (garboardref58_Missing.j1 k x0 x1 x2 x4 (decide (x4 > 1073741824)) x277000 x277001 x277002)) else (garboardref58_Missing.j1 k x0 x1 x2 x4 true x277000 x277001 x277002))
def garboardref58_Missing.j1 : Nat → List (S33) → List (S25) → ByteArray → Int → Bool → List Int → Int → Int → Option (List Int × Int)
 | 0, _, _, _, _, _, _, _, _ => none
 | k + 1, x0, x1, x2, x4, x42, x277000, x277001, x277002 => if x42 = true then (some (([] : List Int), 2)) else (garboardref58_Missing.l0 k x0 x1 x2 x4 ([] : List Int) 1 x277000 x277001 x277002)
def garboardref58_Missing.l0 : Nat → List (S33) → List (S25) → ByteArray → Int → List Int → Int → List Int → Int → Int → Option (List Int × Int)
 | 0, _, _, _, _, _, _, _, _, _ => none
 | k + 1, x0, x1, x2, x4, x14, x15, x277000, x277001, x277002 => if x15 ≤ 9 then (garboardref58_Missing.l1 k x0 x1 x2 x4 x14 x15 0 0 x277000 x277001 x277002) else (some (x14, 0))
def garboardref58_Missing.l1 : Nat → List (S33) → List (S25) → ByteArray → Int → List Int → Int → Int → Int → List Int → Int → Int → Option (List Int × Int)
 | 0, _, _, _, _, _, _, _, _, _, _, _ => none
 | k + 1, x0, x1, x2, x4, x14, x15, x16, x17, x277000, x277001, x277002 => if x17 < (x277000.length : Int) then (if 0 ≤ x17 then (if (rd x277000 x17) = x15 then (garboardref58_Missing.l1 k x0 x1 x2 x4 x14 x15 (wrap64 (x16 + 1)) (wrap64 (x17 + 1)) x277000 x277001 x277002) else (garboardref58_Missing.l1 k x0 x1 x2 x4 x14 x15 x16 (wrap64 (x17 + 1)) x277000 x277001 x277002)) else (none)) else (garboardref58_Missing.l2 k x0 x1 x2 x4 x14 x15 x16 0 x277000 x277001 x277002)
def garboardref58_Missing.l2 : Nat → List (S33) → List (S25) → ByteArray → Int → List Int → Int → Int → Int → List Int → Int → Int → Option (List Int × Int)
 | 0, _, _, _, _, _, _, _, _, _, _, _ => none
 | k + 1, x0, x1, x2, x4, x14, x15, x16, x18, x277000, x277001, x277002 => if x18 < (x0.length : Int) then (if 0 ≤ x18 then (if ((rd_T33 x0 x18).f1) = x15 then ((garboardref58_has.f k x1 ((rd_T33 x0 x18).f0) x2 x277000 x277001 x277002 x4).bind fun t283 => (if t283 = true then (garboardref58_Missing.l2 k x0 x1 x2 x4 x14 x15 (wrap64 (x16 - 1)) (wrap64 (x18 + 1)) x277000 x277001 x277002) else (garboardref58_Missing.l2 k x0 x1 x2 x4 x14 x15 x16 (wrap64 (x18 + 1)) x277000 x277001 x277002))) else (garboardref58_Missing.l2 k x0 x1 x2 x4 x14 x15 x16 (wrap64 (x18 + 1)) x277000 x277001 x277002)) else (none)) else (garboardref58_Missing.l3 k x0 x1 x2 x4 x14 x15 x16 x277000 x277001 x277002)
def garboardref58_Missing.l3 : Nat → List (S33) → List (S25) → ByteArray → Int → List Int → Int → Int → List Int → Int → Int → Option (List Int × Int)
 | 0, _, _, _, _, _, _, _, _, _, _ => none
 | k + 1, x0, x1, x2, x4, x14, x15, x16, x277000, x277001, x277002 => if x16 > 0 then (if x14.length < 17592186044416 then (garboardref58_Missing.l3 k x0 x1 x2 x4 (x14 ++ [x15]) x15 (wrap64 (x16 - 1)) x277000 x277001 x277002) else (none)) else (garboardref58_Missing.l0 k x0 x1 x2 x4 x14 (wrap64 (x15 + 1)) x277000 x277001 x277002)
end
def garboardref58_Missing.f (k : Nat) (l0 : List (S33)) (l1 : List (S25)) (a2 : ByteArray) (l3_0 : List Int) (a3_1 : Int) (a3_2 : Int) (a4 : Int) : Option (List Int × Int) := (garboardref58_Check.f k l0 l1).bind fun bt277 => (if bt277.2 = 0 then ((garboardref58_valid.f k l3_0 a3_1 a3_2).bind fun t279 => (garboardref58_Missing.j0 k l0 l1 a2 a4 (!t279) l3_0 a3_1 a3_2)) else (garboardref58_Missing.j0 k l0 l1 a2 a4 true l3_0 a3_1 a3_2))
def garboardref58_Missing.T19 : Bool × List (List Nat × List Nat) := (true, [([], []), ([], []), ([0, 1], [0, 1]), ([2], [2]), ([3], [3]), ([], []), ([4, 5], [4, 5]), ([6], [6]), ([7], [7]), ([7], [7]), ([7], [7]), ([9, 10, 7], [7, 9, 10]), ([11, 7], [7, 11]), ([12, 7], [7, 12]), ([7], [7]), ([7], [7]), ([7], [7]), ([8, 13, 14, 15, 16, 7, 7], [7, 8, 13, 14, 15, 16]), ([7, 17], [7, 17])])
def garboardref58_Missing.B19 : List Nat := [0, 0, 3, 7, 15, 0, 63, 127, 255, 255, 255, 1791, 3839, 7935, 255, 255, 255, 131071, 262143]
theorem garboardref58_Missing.tab19 : rtab .any (opsOf Tryd.f20 19) = garboardref58_Missing.T19 := by kernel_rfl
theorem garboardref58_Missing.bits19 : waitsOk garboardref58_Missing.T19.2 garboardref58_Missing.B19 = true := by kernel_rfl
set_option maxHeartbeats 8000000 in
set_option maxRecDepth 100000 in
theorem garboardref58_Missing.calls (k : Nat) (A0 : Option Addr) (c0 : Nat) (l0 : List (S33)) (A1 : Option Addr) (c1 : Nat) (l1 : List (S25)) (a2 : ByteArray) (A3_0 : Option Addr) (c3_0 : Nat) (l3_0 : List Int) (a3_1 : Int) (a3_2 : Int) (a4 : Int) (r1 : List Int) (r2 : Int) (w : World) (hr0 : Kd.C k33 w A0 l0.length l0) (hc0 : l0.length ≤ c0) (hr1 : Kd.C k25 w A1 l1.length l1) (hc1 : l1.length ≤ c1) (hr3_0 : Kd.C (Kd.int .i64) w A3_0 l3_0.length l3_0) (hc3_0 : l3_0.length ≤ c3_0) (hL : LaidW w) (h : garboardref58_Missing.f k l0 l1 a2 l3_0 a3_1 a3_2 a4 = some (r1, r2)) :
  Calls Tryd.prog 20 #[.slice A0 l0.length c0, .slice A1 l1.length c1, .string a2, .agg #[.slice A3_0 l3_0.length c3_0, .int .i64 a3_1, .int .i64 a3_2], .int .i64 a4] w fun e w' => ∃ v0_ : Value, e = .returned (.tuple #[v0_, .int .i64 r2]) ∧ Kd.R (Kd.int .i64) 3 w' w.heap.size (fun _ => True) v0_ r1 ∧ Below w.heap.size w w' := by
 have hu41 := Tryd.underlying41
 have HR0 := Aside0.mk hr0
 have HC0 := Aside0.mk hc0
 clear hr0 hc0
 have HR1 := Aside0.mk hr1
 have HC1 := Aside0.mk hc1
 clear hr1 hc1
 have HR3_0 := Aside0.mk hr3_0
 have HC3_0 := Aside0.mk hc3_0
 clear hr3_0 hc3_0
 have HB := Aside0.mk (Below.refl w.heap.size w)
 have HLW := Aside0.mk hL
 clear hL
 have H : ((garboardref58_Check.f k l0 l1).bind fun bt277 => (if bt277.2 = 0 then ((garboardref58_valid.f k l3_0 a3_1 a3_2).bind fun t279 => (garboardref58_Missing.j0 k l0 l1 a2 a4 (!t279) l3_0 a3_1 a3_2)) else (garboardref58_Missing.j0 k l0 l1 a2 a4 true l3_0 a3_1 a3_2))) = some (r1, r2) := h
 clear h
 replace H := Option.bind_eq_some_iff.mp H
 obtain ⟨⟨t277, t278⟩, A60, H⟩ := H
 replace H : (if t278 = 0 then ((garboardref58_valid.f k l3_0 a3_1 a3_2).bind fun t279 => (garboardref58_Missing.j0 k l0 l1 a2 a4 (!t279) l3_0 a3_1 a3_2)) else (garboardref58_Missing.j0 k l0 l1 a2 a4 true l3_0 a3_1 a3_2)) = some (r1, r2) := H
 have A6 := Aside0.mk A60
 clear A60
 have HC7 := Aside0.mk H
 clear H
 go_enter Tryd.func20, Tryd.ntmps20
 go_upto_region 2 with (first | ((with_reducible refine gate_dst (N := 8) rfl ?_); refine box_event ?hg (N := 8) ?hd (cs := #[.slice A3_0 l3_0.length c3_0, .int .i64 a3_1, .int .i64 a3_2]) (t := 41) ?hr ?_; (case hd => rfl); (case hg => rfl); (case hr => first | (go_simp; done) | (go_simp; rfl)); intro gb276 hg w8 hbox hb; have n0_ := Aside0.mk (below_step (by repeat (first | (with_reducible first | exact HB.out | apply below_alloc | apply pw_below_drewN | apply below_drew1) | exact HB.out)) hb); have n1_ := Aside0.mk (hbox); have n2_ := Aside0.mk ((by rw [hg]; exact (below_size (by repeat (first | (with_reducible first | exact HB.out | apply below_alloc | apply pw_below_drewN | apply below_drew1) | exact HB.out))) : w.heap.size ≤ gb276)); have n3_ := Aside0.mk ((by rw [hg]; exact (below_size (by repeat (first | (with_reducible first | exact HB.out | apply below_alloc | apply pw_below_drewN | apply below_drew1) | exact HB.out))) : w.heap.size ≤ gb276)); clear HB; have HB := n0_; have BK276 := n1_; have GW276 := n2_; have GE276 := n3_; clear n0_ n1_ n2_ n3_; clear hb hbox hg) | ((with_reducible refine gate_callee (f := 14) rfl ?_); refine goesL_ (some 22) rfl rfl Tryd.func14 (by kernel_rfl) rfl #[.slice A0 l0.length c0, .slice A1 l1.length c1] rfl (by (try simp only [List.map_toArray, List.map_cons, List.map_nil]); first | done | rfl | (simp only [List.length_drop, List.length_take]; rfl)) ?_; (with_reducible refine (garboardref58_Check.calls k _ _ l0 _ _ l1 t277 t278 _ ?side1 ?side2 ?side3 ?side4 ?side5 A6.out).mono ?_); (case side1 => repeat (first | exact (Kd.C_below HR0.out HB.out) | (with_reducible refine Kd.C_alloc ?_ _) | (with_reducible refine Kd.C_drewN ?_ _) | (with_reducible refine Kd.C_drew ?_))); (case side2 => exact HC0.out); (case side3 => repeat (first | exact (Kd.C_below HR1.out HB.out) | (with_reducible refine Kd.C_alloc ?_ _) | (with_reducible refine Kd.C_drewN ?_ _) | (with_reducible refine Kd.C_drew ?_))); (case side4 => exact HC1.out); (case side5 => exact HLW.out.below (by repeat (first | (with_reducible first | exact HB.out | apply below_alloc | apply pw_below_drewN | apply below_drew1 | refine below_set ?_ GE276.out) | exact HB.out))); rintro e w9 ⟨rfl, hb⟩; refine ⟨_, rfl, ?_⟩; have n0_ := Aside0.mk (blk_below (g := gb276) (o := .cells #[.slice A3_0 l3_0.length c3_0, .int .i64 a3_1, .int .i64 a3_2] 41 (0, 0)) (by (with_reducible repeat (first | refine blk_drewN ?_ _ | refine blk_drew ?_ | refine blk_alloc ?_ _)); exact BK276.out) hb); have n1_ := Aside0.mk (below_step (by repeat (first | (with_reducible first | exact HB.out | apply below_alloc | apply pw_below_drewN | apply below_drew1 | refine below_set ?_ GE276.out) | exact HB.out)) hb); clear BK276; clear HB; have BK276 := n0_; have HB := n1_; clear n0_ n1_; (try clear hb); (try clear hb2); (try clear hk); (try clear hi)))
 (try simp only [Act.put, List.setIfInBounds_toArray, List.set_cons_zero, List.set_cons_succ])
 go_cut [31] (fun v31 wc => ∃ (kq : Nat) (x31_6 : Bool), v31 = .bool x31_6 ∧ Aside0 (garboardref58_Missing.j0 kq l0 l1 a2 a4 x31_6 l3_0 a3_1 a3_2 = some (r1, r2)) ∧ Aside0 (kq ≤ k) ∧ Aside0 (wc.heap[gb276]? = some (.cells #[(.slice A3_0 l3_0.length c3_0), .int .i64 a3_1, .int .i64 a3_2] 41 (0, 0))) ∧ Aside0 (Below w.heap.size w wc))
 case first =>
  have H := HC7.out
  clear HC7
  by_cases c10 : t278 = 0
  ·rw [if_pos c10] at H
   have c10b0 : (t278 == 0) = true := beq_iff_eq.mpr c10
   have c10b1 : (t278 != 0) = false := bne_eq_false_iff_eq.mpr c10
   clear c10
   (first | rw [c10b0] | (simp only [i64_w, i32_w]; rw [c10b0]) | skip)
   replace H := Option.bind_eq_some_iff.mp H
   obtain ⟨t279, A110, H⟩ := H
   replace H : (garboardref58_Missing.j0 k l0 l1 a2 a4 (!t279) l3_0 a3_1 a3_2) = some (r1, r2) := H
   have A11 := Aside0.mk A110
   clear A110
   have H' := Aside0.mk H
   clear H
   have hcz12_0 : w9.cell? ⟨gb276, 0, none⟩ = some (.slice A3_0 l3_0.length c3_0) := (blk_cell BK276.out 0).trans rfl
   have hcz12_1 : w9.cell? ⟨gb276, 1, none⟩ = some (.int .i64 a3_1) := (blk_cell BK276.out 1).trans rfl
   have hcz12_2 : w9.cell? ⟨gb276, 2, none⟩ = some (.int .i64 a3_2) := (blk_cell BK276.out 2).trans rfl
   have hfz12_0 := blk_frozen BK276.out 0
   have hfz12_1 := blk_frozen BK276.out 1
   have hfz12_2 := blk_frozen BK276.out 2
   go_wp2_with (first | (go_at_call 47; (with_reducible refine (garboardref58_valid.calls k _ _ l3_0 a3_1 a3_2 t279 _ ?side1 ?side2 A11.out).mono ?_); (case side1 => repeat (first | exact (Kd.C_below HR3_0.out HB.out) | (with_reducible refine Kd.C_alloc ?_ _) | (with_reducible refine Kd.C_drewN ?_ _) | (with_reducible refine Kd.C_drew ?_))); (case side2 => exact HC3_0.out); rintro e w13 ⟨rfl, hb⟩; have n0_ := Aside0.mk (blk_below (g := gb276) (o := .cells #[.slice A3_0 l3_0.length c3_0, .int .i64 a3_1, .int .i64 a3_2] 41 (0, 0)) (by (with_reducible repeat (first | refine blk_drewN ?_ _ | refine blk_drew ?_ | refine blk_alloc ?_ _)); exact BK276.out) hb); have n1_ := Aside0.mk (below_step (by repeat (first | (with_reducible first | exact HB.out | apply below_alloc | apply pw_below_drewN | apply below_drew1 | refine below_set ?_ GE276.out) | exact HB.out)) hb); clear BK276; clear HB; have BK276 := n0_; have HB := n1_; clear n0_ n1_; (try clear hb); (try clear hb2); (try clear hk); (try clear hi)))
   go_meet
   case rel => exact ⟨_, (!t279), (by first | rfl | (simp; done) | (simp [*]; done)), H', ⟨by first | omega | exact Nat.le_refl _⟩, ⟨by (with_reducible repeat (first | refine blk_drewN ?_ _ | refine blk_drew ?_ | refine blk_alloc ?_ _)); exact BK276.out⟩, ⟨by repeat (first | (with_reducible first | exact HB.out | apply below_alloc | apply pw_below_drewN | apply below_drew1 | refine below_set ?_ GE276.out) | exact HB.out)⟩⟩
  ·rw [if_neg c10] at H
   have c10b0 : (t278 == 0) = false := beq_eq_false_iff_ne.mpr c10
   have c10b1 : (t278 != 0) = true := bne_iff_ne.mpr c10
   (first | rw [c10b0] | (simp only [i64_w, i32_w]; rw [c10b0]) | skip)
   have H' := Aside0.mk H
   clear H
   go_wp2
   go_meet
   case rel => exact ⟨_, (true), (by first | rfl | (simp; done) | (simp [*]; done)), H', ⟨by first | omega | exact Nat.le_refl _⟩, ⟨by (with_reducible repeat (first | refine blk_drewN ?_ _ | refine blk_drew ?_ | refine blk_alloc ?_ _)); exact BK276.out⟩, ⟨by repeat (first | (with_reducible first | exact HB.out | apply below_alloc | apply pw_below_drewN | apply below_drew1 | refine below_set ?_ GE276.out) | exact HB.out)⟩⟩
 case rest =>
  clear HC7
  try clear c1
  try clear c2
  try clear p2
  try clear c3
  try clear c10
  try clear c10b0
  try clear c10b1
  try clear hcz12_0
  try clear hcz12_1
  try clear hcz12_2
  try clear hfz12_0
  try clear hfz12_1
  try clear hfz12_2
  obtain ⟨kq, x31_6, rfl, HA, HJ6, BK276, HB⟩ := hcut
  cases kq with
  | zero => exact absurd HA.out (by simp [garboardref58_Missing.j0])
  | succ kj6 =>
   have H := HA.out
   clear HA
   simp only [garboardref58_Missing.j0] at H
   by_cases c14 : x31_6 = true
   ·subst c14
    have H1 : (some (([] : List Int), 1)) = some (r1, r2) := by rw [if_pos rfl] at H; exact H
    clear H
    have H := H1
    clear H1
    simp only [Option.some.injEq, Prod.mk.injEq] at H
    obtain ⟨rfl, rfl⟩ := H
    go_wp2
    go_ret2
    exact ⟨_, by first | rfl | (simp [errW_none, errW_some] <;> rfl) | (simp [*, errW_none, errW_some] <;> rfl), by first | exact Kd.R_nil _ _ _ _ _ | exact Kd.N_nil _ _ _ _ _ | exact Kd.V_nil _ _ _ _ _ | exact Kd.Q_nil _ _ _ _ _ | exact Kd.S_nil _ _ _ _ _, by repeat (first | (with_reducible first | exact HB.out | apply below_alloc | apply pw_below_drewN | apply below_drew1 | refine below_set ?_ GE276.out) | exact HB.out)⟩
   ·replace c14 := Bool.eq_false_iff.mpr c14
    subst c14
    have H1 : (if (a2.size : Int) = 32 then (if a4 < 0 then (garboardref58_Missing.j1 kj6 l0 l1 a2 a4 true l3_0 a3_1 a3_2) else (garboardref58_Missing.j1 kj6 l0 l1 a2 a4 (decide (a4 > 1073741824)) l3_0 a3_1 a3_2)) else (garboardref58_Missing.j1 kj6 l0 l1 a2 a4 true l3_0 a3_1 a3_2)) = some (r1, r2) := by rw [if_neg (show ¬ (false = true) by decide)] at H; exact H
    clear H
    have H := H1
    clear H1
    have HC15 := Aside0.mk H
    clear H
    go_upto_region 4 with (fail)
    go_cut [42] (fun v42 wc => ∃ (kq : Nat) (x42_14 : Bool), v42 = .bool x42_14 ∧ Aside0 (garboardref58_Missing.j1 kq l0 l1 a2 a4 x42_14 l3_0 a3_1 a3_2 = some (r1, r2)) ∧ Aside0 (kq ≤ kj6) ∧ Aside0 (wc.heap[gb276]? = some (.cells #[(.slice A3_0 l3_0.length c3_0), .int .i64 a3_1, .int .i64 a3_2] 41 (0, 0))) ∧ Aside0 (Below w.heap.size w wc))
    case first =>
     have H := HC15.out
     clear HC15
     by_cases c16 : (a2.size : Int) = 32
     ·rw [if_pos c16] at H
      have c16b0 : ((a2.size : Int) == 32) = true := beq_iff_eq.mpr c16
      have c16b1 : ((a2.size : Int) != 32) = false := bne_eq_false_iff_eq.mpr c16
      clear c16
      (first | rw [c16b0] | (simp only [i64_w, i32_w]; rw [c16b0]) | skip)
      by_cases c17 : a4 < 0
      ·rw [if_pos c17] at H
       have c17b0 : decide (a4 < 0) = true := decide_eq_true c17
       clear c17
       have H' := Aside0.mk H
       clear H
       go_wp2
       go_meet
       case rel => exact ⟨_, (true), (by first | rfl | (simp; done) | (simp [*]; done)), H', ⟨by have := HJ6.out; first | omega | exact Nat.le_refl _⟩, ⟨by (with_reducible repeat (first | refine blk_drewN ?_ _ | refine blk_drew ?_ | refine blk_alloc ?_ _)); exact BK276.out⟩, ⟨by repeat (first | (with_reducible first | exact HB.out | apply below_alloc | apply pw_below_drewN | apply below_drew1 | refine below_set ?_ GE276.out) | exact HB.out)⟩⟩
      ·rw [if_neg c17] at H
       have c17b0 : decide (a4 < 0) = false := decide_eq_false c17
       clear c17
       have H' := Aside0.mk H
       clear H
       go_wp2
       go_meet
       case rel => exact ⟨_, (decide (a4 > 1073741824)), (by first | rfl | (simp; done) | (simp [*]; done)), H', ⟨by have := HJ6.out; first | omega | exact Nat.le_refl _⟩, ⟨by (with_reducible repeat (first | refine blk_drewN ?_ _ | refine blk_drew ?_ | refine blk_alloc ?_ _)); exact BK276.out⟩, ⟨by repeat (first | (with_reducible first | exact HB.out | apply below_alloc | apply pw_below_drewN | apply below_drew1 | refine below_set ?_ GE276.out) | exact HB.out)⟩⟩
     ·rw [if_neg c16] at H
      have c16b0 : ((a2.size : Int) == 32) = false := beq_eq_false_iff_ne.mpr c16
      have c16b1 : ((a2.size : Int) != 32) = true := bne_iff_ne.mpr c16
      (first | rw [c16b0] | (simp only [i64_w, i32_w]; rw [c16b0]) | skip)
      have H' := Aside0.mk H
      clear H
      go_wp2
      go_meet
      case rel => exact ⟨_, (true), (by first | rfl | (simp; done) | (simp [*]; done)), H', ⟨by have := HJ6.out; first | omega | exact Nat.le_refl _⟩, ⟨by (with_reducible repeat (first | refine blk_drewN ?_ _ | refine blk_drew ?_ | refine blk_alloc ?_ _)); exact BK276.out⟩, ⟨by repeat (first | (with_reducible first | exact HB.out | apply below_alloc | apply pw_below_drewN | apply below_drew1 | refine below_set ?_ GE276.out) | exact HB.out)⟩⟩
    case rest =>
     clear HC15
     try clear c1
     try clear c2
     try clear p2
     try clear c3
     try clear c10
     try clear c10b0
     try clear c10b1
     try clear c14
     try clear c16
     try clear c16b0
     try clear c16b1
     try clear c17
     try clear c17b0
     try clear hcz12_0
     try clear hcz12_1
     try clear hcz12_2
     try clear hfz12_0
     try clear hfz12_1
     try clear hfz12_2
     try clear p2
     obtain ⟨kq, x42_14, rfl, HA, HJ14, BK276, HB⟩ := hcut
     cases kq with
     | zero => exact absurd HA.out (by simp [garboardref58_Missing.j1])
     | succ kj14 =>
      have H := HA.out
      clear HA
      simp only [garboardref58_Missing.j1] at H
      by_cases c18 : x42_14 = true
      ·subst c18
       have H1 : (some (([] : List Int), 2)) = some (r1, r2) := by rw [if_pos rfl] at H; exact H
       clear H
       have H := H1
       clear H1
       simp only [Option.some.injEq, Prod.mk.injEq] at H
       obtain ⟨rfl, rfl⟩ := H
       go_wp2
       go_ret2
       exact ⟨_, by first | rfl | (simp [errW_none, errW_some] <;> rfl) | (simp [*, errW_none, errW_some] <;> rfl), by first | exact Kd.R_nil _ _ _ _ _ | exact Kd.N_nil _ _ _ _ _ | exact Kd.V_nil _ _ _ _ _ | exact Kd.Q_nil _ _ _ _ _ | exact Kd.S_nil _ _ _ _ _, by repeat (first | (with_reducible first | exact HB.out | apply below_alloc | apply pw_below_drewN | apply below_drew1 | refine below_set ?_ GE276.out) | exact HB.out)⟩
      ·replace c18 := Bool.eq_false_iff.mpr c18
       subst c18
       have H1 : (garboardref58_Missing.l0 kj14 l0 l1 a2 a4 ([] : List Int) 1 l3_0 a3_1 a3_2) = some (r1, r2) := by rw [if_neg (show ¬ (false = true) by decide)] at H; exact H
       clear H
       have H := H1
       clear H1
       have H' := Aside0.mk H
       clear H
       go_wp2
       go_loopg [14, 15] kj14 (fun kq v14 v15 w' => ∃ (x14_3 : List Int) (x15_3 : Int), v15 = .int .i64 x15_3 ∧ Aside0 (garboardref58_Missing.l0 kq l0 l1 a2 a4 x14_3 x15_3 l3_0 a3_1 a3_2 = some (r1, r2)) ∧ Aside0 (kq ≤ kj14) ∧ Aside0 (Kd.R (Kd.int .i64) 3 w' w.heap.size (fun _ => True) v14 x14_3) ∧ Aside0 (w'.heap[gb276]? = some (.cells #[(.slice A3_0 l3_0.length c3_0), .int .i64 a3_1, .int .i64 a3_2] 41 (0, 0))) ∧ Aside0 (Below w.heap.size w w'))
       case atStart => exact ⟨(([] : List Int)), (1), (by first | rfl | (simp; done) | (simp [*]; done)), H', ⟨Nat.le_refl _⟩, ⟨by first | exact Kd.R_nil _ _ _ _ _ | exact Kd.N_nil _ _ _ _ _ | exact Kd.V_nil _ _ _ _ _ | exact Kd.Q_nil _ _ _ _ _ | exact Kd.S_nil _ _ _ _ _⟩, ⟨by (with_reducible repeat (first | refine blk_drewN ?_ _ | refine blk_drew ?_ | refine blk_alloc ?_ _)); exact BK276.out⟩, ⟨by repeat (first | (with_reducible first | exact HB.out | apply below_alloc | apply pw_below_drewN | apply below_drew1 | refine below_set ?_ GE276.out) | exact HB.out)⟩⟩
       case round =>
        clear H'
        try clear c1
        try clear c2
        try clear p2
        try clear c3
        try clear c10
        try clear c10b0
        try clear c10b1
        try clear c14
        try clear c16
        try clear c16b0
        try clear c16b1
        try clear c17
        try clear c17b0
        try clear c18
        try clear hcz12_0
        try clear hcz12_1
        try clear hcz12_2
        try clear hfz12_0
        try clear hfz12_1
        try clear hfz12_2
        try clear p2
        obtain ⟨x14_3, x15_3, rfl, HA, HK3, HO_14, BK276, HB⟩ := hrel
        cases gk with
        | zero => exact absurd HA.out (by simp [garboardref58_Missing.l0])
        | succ k3 =>
         have H := HA.out
         clear HA
         simp only [garboardref58_Missing.l0] at H
         by_cases c19 : x15_3 ≤ 9
         ·rw [if_pos c19] at H
          have c19b0 : decide (x15_3 ≤ 9) = true := decide_eq_true c19
          clear c19
          have H' := Aside0.mk H
          clear H
          go_wp2
          go_loopg [16, 17] k3 (fun kq v16 v17 w' => ∃ (x16_4 : Int) (x17_4 : Int), v16 = .int .i64 x16_4 ∧ v17 = .int .i64 x17_4 ∧ Aside0 (garboardref58_Missing.l1 kq l0 l1 a2 a4 x14_3 x15_3 x16_4 x17_4 l3_0 a3_1 a3_2 = some (r1, r2)) ∧ Aside0 (kq ≤ k3) ∧ Aside0 (Kd.R (Kd.int .i64) 3 w' w.heap.size (fun _ => True) u14 x14_3) ∧ Aside0 (w'.heap[gb276]? = some (.cells #[(.slice A3_0 l3_0.length c3_0), .int .i64 a3_1, .int .i64 a3_2] 41 (0, 0))) ∧ Aside0 (Below w.heap.size w w'))
          case atStart => exact ⟨(0), (0), (by first | rfl | (simp; done) | (simp [*]; done)), (by first | rfl | (simp; done) | (simp [*]; done)), H', ⟨Nat.le_refl _⟩, ⟨by (with_reducible repeat (first | apply Kd.R_alloc | apply Kd.R_drewN | apply Kd.R_drew)); exact HO_14.out⟩, ⟨by (with_reducible repeat (first | refine blk_drewN ?_ _ | refine blk_drew ?_ | refine blk_alloc ?_ _)); exact BK276.out⟩, ⟨by repeat (first | (with_reducible first | exact HB.out | apply below_alloc | apply pw_below_drewN | apply below_drew1 | refine below_set ?_ GE276.out) | exact HB.out)⟩⟩
          case round =>
           clear H'
           try clear c1
           try clear c2
           try clear p2
           try clear c3
           try clear c10
           try clear c10b0
           try clear c10b1
           try clear c14
           try clear c16
           try clear c16b0
           try clear c16b1
           try clear c17
           try clear c17b0
           try clear c18
           try clear c19
           try clear c19b0
           try clear hcz12_0
           try clear hcz12_1
           try clear hcz12_2
           try clear hfz12_0
           try clear hfz12_1
           try clear hfz12_2
           try clear p2
           obtain ⟨x16_4, x17_4, rfl, rfl, HA, HK4, HO_14, BK276, HB⟩ := hrel
           cases gk with
           | zero => exact absurd HA.out (by simp [garboardref58_Missing.l1])
           | succ k4 =>
            have H := HA.out
            clear HA
            simp only [garboardref58_Missing.l1] at H
            by_cases c20 : x17_4 < (l3_0.length : Int)
            ·rw [if_pos c20] at H
             have c20b0 : decide (x17_4 < (l3_0.length : Int)) = true := decide_eq_true c20
             clear c20
             by_cases c21 : 0 ≤ x17_4
             ·rw [if_pos c21] at H
              have c21b0 : decide (0 ≤ x17_4) = true := decide_eq_true c21
              clear c21
              by_cases c22 : (rd l3_0 x17_4) = x15_3
              ·rw [if_pos c22] at H
               have c22b0 : ((rd l3_0 x17_4) == x15_3) = true := beq_iff_eq.mpr c22
               have c22b1 : ((rd l3_0 x17_4) != x15_3) = false := bne_eq_false_iff_eq.mpr c22
               clear c22
               have H' := Aside0.mk H
               clear H
               have hcz23_0 : wr.cell? ⟨gb276, 0, none⟩ = some (.slice A3_0 l3_0.length c3_0) := (blk_cell BK276.out 0).trans rfl
               have hcz23_1 : wr.cell? ⟨gb276, 1, none⟩ = some (.int .i64 a3_1) := (blk_cell BK276.out 1).trans rfl
               have hcz23_2 : wr.cell? ⟨gb276, 2, none⟩ = some (.int .i64 a3_2) := (blk_cell BK276.out 2).trans rfl
               have hfz23_0 := blk_frozen BK276.out 0
               have hfz23_1 := blk_frozen BK276.out 1
               have hfz23_2 := blk_frozen BK276.out 2
               have p280 : 0 ≤ (x17_4 : Int) := of_decide_eq_true (by first | (with_reducible assumption) | assumption)
               have q280 : x17_4 < (l3_0.length : Int) := of_decide_eq_true (by first | (with_reducible assumption) | assumption)
               obtain ⟨ad280, e280, hx280_0⟩ := Kd.at_int HR3_0.out x17_4 p280 q280
               cases e280
               replace hx280_0 := (HB.out.cell (World.block_lt_of_cell? w _ hx280_0)).trans hx280_0
               replace p280 := eq_true p280
               replace q280 := eq_true q280
               go_wp2
               go_roundg k4
               case measure => have := HJ6.out; have := HJ14.out; have := HK3.out; have := HK4.out; omega
               case rel => exact ⟨(wrap64 (x16_4 + 1)), (wrap64 (x17_4 + 1)), (by first | rfl | (simp; done) | (simp [*]; done)), (by first | rfl | (simp; done) | (simp [*]; done)), H', ⟨by have := HJ6.out; have := HJ14.out; have := HK3.out; have := HK4.out; omega⟩, ⟨by (with_reducible repeat (first | apply Kd.R_alloc | apply Kd.R_drewN | apply Kd.R_drew)); exact HO_14.out⟩, ⟨by (with_reducible repeat (first | refine blk_drewN ?_ _ | refine blk_drew ?_ | refine blk_alloc ?_ _)); exact BK276.out⟩, ⟨by repeat (first | (with_reducible first | exact HB.out | apply below_alloc | apply pw_below_drewN | apply below_drew1 | refine below_set ?_ GE276.out) | exact HB.out)⟩⟩
              ·rw [if_neg c22] at H
               have c22b0 : ((rd l3_0 x17_4) == x15_3) = false := beq_eq_false_iff_ne.mpr c22
               have c22b1 : ((rd l3_0 x17_4) != x15_3) = true := bne_iff_ne.mpr c22
               have H' := Aside0.mk H
               clear H
               have hcz24_0 : wr.cell? ⟨gb276, 0, none⟩ = some (.slice A3_0 l3_0.length c3_0) := (blk_cell BK276.out 0).trans rfl
               have hcz24_1 : wr.cell? ⟨gb276, 1, none⟩ = some (.int .i64 a3_1) := (blk_cell BK276.out 1).trans rfl
               have hcz24_2 : wr.cell? ⟨gb276, 2, none⟩ = some (.int .i64 a3_2) := (blk_cell BK276.out 2).trans rfl
               have hfz24_0 := blk_frozen BK276.out 0
               have hfz24_1 := blk_frozen BK276.out 1
               have hfz24_2 := blk_frozen BK276.out 2
               have p280 : 0 ≤ (x17_4 : Int) := of_decide_eq_true (by first | (with_reducible assumption) | assumption)
               have q280 : x17_4 < (l3_0.length : Int) := of_decide_eq_true (by first | (with_reducible assumption) | assumption)
               obtain ⟨ad280, e280, hx280_0⟩ := Kd.at_int HR3_0.out x17_4 p280 q280
               cases e280
               replace hx280_0 := (HB.out.cell (World.block_lt_of_cell? w _ hx280_0)).trans hx280_0
               replace p280 := eq_true p280
               replace q280 := eq_true q280
               go_wp2
               go_roundg k4
               case measure => have := HJ6.out; have := HJ14.out; have := HK3.out; have := HK4.out; omega
               case rel => exact ⟨(x16_4), (wrap64 (x17_4 + 1)), (by first | rfl | (simp; done) | (simp [*]; done)), (by first | rfl | (simp; done) | (simp [*]; done)), H', ⟨by have := HJ6.out; have := HJ14.out; have := HK3.out; have := HK4.out; omega⟩, ⟨by (with_reducible repeat (first | apply Kd.R_alloc | apply Kd.R_drewN | apply Kd.R_drew)); exact HO_14.out⟩, ⟨by (with_reducible repeat (first | refine blk_drewN ?_ _ | refine blk_drew ?_ | refine blk_alloc ?_ _)); exact BK276.out⟩, ⟨by repeat (first | (with_reducible first | exact HB.out | apply below_alloc | apply pw_below_drewN | apply below_drew1 | refine below_set ?_ GE276.out) | exact HB.out)⟩⟩
             ·rw [if_neg c21] at H
              exact absurd H (by simp)
            ·rw [if_neg c20] at H
             have c20b0 : decide (x17_4 < (l3_0.length : Int)) = false := decide_eq_false c20
             clear c20
             have H' := Aside0.mk H
             clear H
             have hcz25_0 : wr.cell? ⟨gb276, 0, none⟩ = some (.slice A3_0 l3_0.length c3_0) := (blk_cell BK276.out 0).trans rfl
             have hcz25_1 : wr.cell? ⟨gb276, 1, none⟩ = some (.int .i64 a3_1) := (blk_cell BK276.out 1).trans rfl
             have hcz25_2 : wr.cell? ⟨gb276, 2, none⟩ = some (.int .i64 a3_2) := (blk_cell BK276.out 2).trans rfl
             have hfz25_0 := blk_frozen BK276.out 0
             have hfz25_1 := blk_frozen BK276.out 1
             have hfz25_2 := blk_frozen BK276.out 2
             go_wp2
             go_loopg [16, 18] k4 (fun kq v16 v18 w' => ∃ (x16_5 : Int) (x18_5 : Int), v16 = .int .i64 x16_5 ∧ v18 = .int .i64 x18_5 ∧ Aside0 (garboardref58_Missing.l2 kq l0 l1 a2 a4 x14_3 x15_3 x16_5 x18_5 l3_0 a3_1 a3_2 = some (r1, r2)) ∧ Aside0 (kq ≤ k4) ∧ Aside0 (Kd.R (Kd.int .i64) 3 w' w.heap.size (fun _ => True) u14 x14_3) ∧ Aside0 (w'.heap[gb276]? = some (.cells #[(.slice A3_0 l3_0.length c3_0), .int .i64 a3_1, .int .i64 a3_2] 41 (0, 0))) ∧ Aside0 (Below w.heap.size w w'))
             case atStart => exact ⟨(x16_4), (0), (by first | rfl | (simp; done) | (simp [*]; done)), (by first | rfl | (simp; done) | (simp [*]; done)), H', ⟨Nat.le_refl _⟩, ⟨by (with_reducible repeat (first | apply Kd.R_alloc | apply Kd.R_drewN | apply Kd.R_drew)); exact HO_14.out⟩, ⟨by (with_reducible repeat (first | refine blk_drewN ?_ _ | refine blk_drew ?_ | refine blk_alloc ?_ _)); exact BK276.out⟩, ⟨by repeat (first | (with_reducible first | exact HB.out | apply below_alloc | apply pw_below_drewN | apply below_drew1 | refine below_set ?_ GE276.out) | exact HB.out)⟩⟩
             case round =>
              clear H'
              try clear c1
              try clear c2
              try clear p2
              try clear q2
              try clear hx2
              try clear c3
              try clear p6
              try clear c10
              try clear c10b0
              try clear c10b1
              try clear c14
              try clear c16
              try clear c16b0
              try clear c16b1
              try clear c17
              try clear c17b0
              try clear c18
              try clear c19
              try clear c19b0
              try clear c20
              try clear c20b0
              try clear c21
              try clear c21b0
              try clear c22
              try clear c22b0
              try clear c22b1
              try clear hcz12_0
              try clear hcz12_1
              try clear hcz12_2
              try clear hcz23_0
              try clear hcz23_1
              try clear hcz23_2
              try clear hcz24_0
              try clear hcz24_1
              try clear hcz24_2
              try clear hcz25_0
              try clear hcz25_1
              try clear hcz25_2
              try clear hfz12_0
              try clear hfz12_1
              try clear hfz12_2
              try clear hfz23_0
              try clear hfz23_1
              try clear hfz23_2
              try clear hfz24_0
              try clear hfz24_1
              try clear hfz24_2
              try clear hfz25_0
              try clear hfz25_1
              try clear hfz25_2
              try clear hx280_0
              try clear p2
              try clear p280
              try clear q280
              obtain ⟨x16_5, x18_5, rfl, rfl, HA, HK5, HO_14, BK276, HB⟩ := hrel
              cases gk with
              | zero => exact absurd HA.out (by simp [garboardref58_Missing.l2])
              | succ k5 =>
               have H := HA.out
               clear HA
               simp only [garboardref58_Missing.l2] at H
               by_cases c26 : x18_5 < (l0.length : Int)
               ·rw [if_pos c26] at H
                have c26b0 : decide (x18_5 < (l0.length : Int)) = true := decide_eq_true c26
                clear c26
                by_cases c27 : 0 ≤ x18_5
                ·rw [if_pos c27] at H
                 have c27b0 : decide (0 ≤ x18_5) = true := decide_eq_true c27
                 clear c27
                 by_cases c28 : ((rd_T33 l0 x18_5).f1) = x15_3
                 ·rw [if_pos c28] at H
                  have c28b0 : (((rd_T33 l0 x18_5).f1) == x15_3) = true := beq_iff_eq.mpr c28
                  have c28b1 : (((rd_T33 l0 x18_5).f1) != x15_3) = false := bne_eq_false_iff_eq.mpr c28
                  clear c28
                  replace H := Option.bind_eq_some_iff.mp H
                  obtain ⟨t283, A290, H⟩ := H
                  replace H : (if t283 = true then (garboardref58_Missing.l2 k5 l0 l1 a2 a4 x14_3 x15_3 (wrap64 (x16_5 - 1)) (wrap64 (x18_5 + 1)) l3_0 a3_1 a3_2) else (garboardref58_Missing.l2 k5 l0 l1 a2 a4 x14_3 x15_3 x16_5 (wrap64 (x18_5 + 1)) l3_0 a3_1 a3_2)) = some (r1, r2) := H
                  have A29 := Aside0.mk A290
                  clear A290
                  by_cases c30 : t283 = true
                  ·subst c30
                   have H1 : (garboardref58_Missing.l2 k5 l0 l1 a2 a4 x14_3 x15_3 (wrap64 (x16_5 - 1)) (wrap64 (x18_5 + 1)) l3_0 a3_1 a3_2) = some (r1, r2) := by rw [if_pos rfl] at H; exact H
                   clear H
                   have H := H1
                   clear H1
                   have H' := Aside0.mk H
                   clear H
                   try go_wp2
                   have n0_ := Aside0.mk (Kd.R_drew HO_14.out)
                   have n1_ := Aside0.mk (blk_drew BK276.out)
                   have n2_ := Aside0.mk (below_drew1 HB.out)
                   clear HO_14
                   clear BK276
                   clear HB
                   have HO_14 := n0_
                   have BK276 := n1_
                   have HB := n2_
                   clear n0_ n1_ n2_
                   have p281 : 0 ≤ (x18_5 : Int) := of_decide_eq_true (by first | (with_reducible assumption) | assumption)
                   have q281 : x18_5 < (l0.length : Int) := of_decide_eq_true (by first | (with_reducible assumption) | assumption)
                   obtain ⟨ad281, e281, hx281_0, hx281_1, hx281_2, hx281_3⟩ := at_T33 HR0.out x18_5 p281 q281
                   have hw281_3 := hx281_3
                   have hw281_2 := hx281_2
                   have hw281_1 := hx281_1
                   have hw281_0 := hx281_0
                   cases e281
                   replace hx281_0 := (HB.out.cell (World.block_lt_of_cell? w _ hx281_0)).trans hx281_0
                   replace hx281_1 := (HB.out.cell (World.block_lt_of_cell? w _ hx281_1)).trans hx281_1
                   replace hx281_2 := (HB.out.cell (World.block_lt_of_cell? w _ hx281_2)).trans hx281_2
                   replace hx281_3 := (HB.out.cell (World.block_lt_of_cell? w _ hx281_3)).trans hx281_3
                   replace p281 := eq_true p281
                   replace q281 := eq_true q281
                   have p282 : 0 ≤ (x18_5 : Int) := of_decide_eq_true (by first | (with_reducible assumption) | assumption)
                   have q282 : x18_5 < (l0.length : Int) := of_decide_eq_true (by first | (with_reducible assumption) | assumption)
                   obtain ⟨ad282, e282, hx282_0, hx282_1, hx282_2, hx282_3⟩ := at_T33 HR0.out x18_5 p282 q282
                   have hw282_3 := hx282_3
                   have hw282_2 := hx282_2
                   have hw282_1 := hx282_1
                   have hw282_0 := hx282_0
                   obtain rfl : ad281 = ad282 := (by injection e282)
                   replace hx282_0 := (HB.out.cell (World.block_lt_of_cell? w _ hx282_0)).trans hx282_0
                   replace hx282_1 := (HB.out.cell (World.block_lt_of_cell? w _ hx282_1)).trans hx282_1
                   replace hx282_2 := (HB.out.cell (World.block_lt_of_cell? w _ hx282_2)).trans hx282_2
                   replace hx282_3 := (HB.out.cell (World.block_lt_of_cell? w _ hx282_3)).trans hx282_3
                   replace p282 := eq_true p282
                   replace q282 := eq_true q282
                   refine start_ (n := 19) (S := fun w' => w'.cell? ⟨gb276, 0, none⟩ = some (.slice A3_0 l3_0.length c3_0) ∧ w'.cell? ⟨gb276, 1, none⟩ = some (.int .i64 a3_1) ∧ w'.cell? ⟨gb276, 2, none⟩ = some (.int .i64 a3_2) ∧ w'.cell? (ad281.add ((x18_5).toNat * 4)) = some (.int .i64 ((rd_T33 l0 x18_5).f0)) ∧ w'.cell? ⟨(ad281.add ((x18_5).toNat * 4)).block, (ad281.add ((x18_5).toNat * 4)).off + 1, none⟩ = some (.int .i64 ((rd_T33 l0 x18_5).f1)) ∧ w'.cell? ⟨(ad281.add ((x18_5).toNat * 4)).block, (ad281.add ((x18_5).toNat * 4)).off + 2, none⟩ = some (.string ((rd_T33 l0 x18_5).f2)) ∧ w'.cell? ⟨(ad281.add ((x18_5).toNat * 4)).block, (ad281.add ((x18_5).toNat * 4)).off + 3, none⟩ = some (.string ((rd_T33 l0 x18_5).f3)) ∧ w'.cell? (ad281.add ((x18_5).toNat * 4)) = some (.int .i64 ((rd_T33 l0 x18_5).f0)) ∧ w'.cell? ⟨(ad281.add ((x18_5).toNat * 4)).block, (ad281.add ((x18_5).toNat * 4)).off + 1, none⟩ = some (.int .i64 ((rd_T33 l0 x18_5).f1)) ∧ w'.cell? ⟨(ad281.add ((x18_5).toNat * 4)).block, (ad281.add ((x18_5).toNat * 4)).off + 2, none⟩ = some (.string ((rd_T33 l0 x18_5).f2)) ∧ w'.cell? ⟨(ad281.add ((x18_5).toNat * 4)).block, (ad281.add ((x18_5).toNat * 4)).off + 3, none⟩ = some (.string ((rd_T33 l0 x18_5).f3))) (ds := []) #[false, false, false, false, false, false, false, false, false, false, false, false, false, false, false, false, false, false, false] (by kernel_rfl) rfl rfl ⟨(blk_cell BK276.out 0).trans rfl, (blk_cell BK276.out 1).trans rfl, (blk_cell BK276.out 2).trans rfl, ((HB.out.cell (World.block_lt_of_cell? w _ hw281_0)).trans hw281_0), ((HB.out.cell (World.block_lt_of_cell? w _ hw281_1)).trans hw281_1), ((HB.out.cell (World.block_lt_of_cell? w _ hw281_2)).trans hw281_2), ((HB.out.cell (World.block_lt_of_cell? w _ hw281_3)).trans hw281_3), ((HB.out.cell (World.block_lt_of_cell? w _ hw282_0)).trans hw282_0), ((HB.out.cell (World.block_lt_of_cell? w _ hw282_1)).trans hw282_1), ((HB.out.cell (World.block_lt_of_cell? w _ hw282_2)).trans hw282_2), ((HB.out.cell (World.block_lt_of_cell? w _ hw282_3)).trans hw282_3)⟩ (fun hHeld => ?_); refine with_tabW garboardref58_Missing.tab19 garboardref58_Missing.bits19 (fun HT_ HW_ => ?_)
                   generalize wr.drew = w31 at HO_14 BK276 HB hx281_0 hx281_1 hx281_2 hx281_3 hx282_0 hx282_1 hx282_2 hx282_3 hHeld ⊢
                   refine pure_ (i := 0) (N := some 69) (v := ?_) (a' := ?_) #[true, false, false, false, false, false, false, false, false, false, false, false, false, false, false, false, false, false, false] rfl rfl (any_of HT_.out (by kernel_rfl)) (fun _ _ _ h => h) (Or.inl ⟨by rfl, ?_⟩) ?_ ?_
                   rotate_left
                   ·intro w'
                    go_simp
                    with_reducible rfl
                   rotate_left
                   ·simp only [Act.put, List.setIfInBounds_toArray, List.set_cons_zero, List.set_cons_succ, i64_w, i32_w]
                    rfl
                   refine pure_ (i := 1) (N := some 70) (v := ?_) (a' := ?_) #[true, true, false, false, false, false, false, false, false, false, false, false, false, false, false, false, false, false, false] rfl rfl (any_of HT_.out (by kernel_rfl)) (fun _ _ _ h => h) (Or.inl ⟨by rfl, ?_⟩) ?_ ?_
                   rotate_left
                   ·intro w'
                    go_simp
                    with_reducible rfl
                   rotate_left
                   ·simp only [Act.put, List.setIfInBounds_toArray, List.set_cons_zero, List.set_cons_succ, i64_w, i32_w]
                    rfl
                   refine pure_ (i := 2) (N := some 71) (v := ?_) (a' := ?_) #[true, true, true, false, false, false, false, false, false, false, false, false, false, false, false, false, false, false, false] rfl rfl (any_of HT_.out (by kernel_rfl)) (fun _ _ _ h => h) (Or.inl ⟨by rfl, ?_⟩) ?_ ?_
                   rotate_left
                   ·intro w'
                    go_simp
                    with_reducible rfl
                   rotate_left
                   ·simp only [Act.put, List.setIfInBounds_toArray, List.set_cons_zero, List.set_cons_succ, i64_w, i32_w]
                    rfl
                   refine pure_ (i := 3) (N := some 72) (v := ?_) (a' := ?_) #[true, true, true, true, false, false, false, false, false, false, false, false, false, false, false, false, false, false, false] rfl rfl (any_of HT_.out (by kernel_rfl)) (fun _ _ _ h => h) (Or.inl ⟨by rfl, ?_⟩) ?_ ?_
                   rotate_left
                   ·intro w'
                    go_simp
                    with_reducible rfl
                   rotate_left
                   ·simp only [Act.put, List.setIfInBounds_toArray, List.set_cons_zero, List.set_cons_succ, i64_w, i32_w]
                    rfl
                   refine pure_ (i := 5) (N := some 74) (v := ?_) (a' := ?_) #[true, true, true, true, false, true, false, false, false, false, false, false, false, false, false, false, false, false, false] rfl rfl (any_of HT_.out (by kernel_rfl)) (fun _ _ _ h => h) (Or.inl ⟨by rfl, ?_⟩) ?_ ?_
                   rotate_left
                   ·intro w'
                    go_simp
                    with_reducible rfl
                   rotate_left
                   ·simp only [Act.put, List.setIfInBounds_toArray, List.set_cons_zero, List.set_cons_succ, i64_w, i32_w]
                    rfl
                   refine take_ (i := 4) (N := some 73) (v := ?_) (a' := ?_) #[true, true, true, true, true, true, false, false, false, false, false, false, false, false, false, false, false, false, false] rfl rfl (take_ofW HT_.out HW_.out (by kernel_rfl)) (fun _ _ _ h => h) (Or.inl ⟨by rfl, ?_⟩) hHeld ?_ ?_
                   rotate_left
                   ·rintro w' ⟨s0, s1, s2, s3, s4, s5, s6, s7, s8, s9, s10⟩
                    go_simp
                    with_reducible rfl
                   rotate_left
                   ·simp only [Act.put, List.setIfInBounds_toArray, List.set_cons_zero, List.set_cons_succ, i64_w, i32_w]
                    rfl
                   refine pure_ (i := 6) (N := some 75) (v := ?_) (a' := ?_) #[true, true, true, true, true, true, true, false, false, false, false, false, false, false, false, false, false, false, false] rfl rfl (any_of HT_.out (by kernel_rfl)) (fun _ _ _ h => h) (Or.inl ⟨by rfl, ?_⟩) ?_ ?_
                   rotate_left
                   ·intro w'
                    go_simp
                    with_reducible rfl
                   rotate_left
                   ·simp only [Act.put, List.setIfInBounds_toArray, List.set_cons_zero, List.set_cons_succ, i64_w, i32_w]
                    rfl
                   refine pure_ (i := 7) (N := some 76) (v := ?_) (a' := ?_) #[true, true, true, true, true, true, true, true, false, false, false, false, false, false, false, false, false, false, false] rfl rfl (any_of HT_.out (by kernel_rfl)) (fun _ _ _ h => h) (Or.inl ⟨by rfl, ?_⟩) ?_ ?_
                   rotate_left
                   ·intro w'
                    go_simp
                    with_reducible rfl
                   rotate_left
                   ·simp only [Act.put, List.setIfInBounds_toArray, List.set_cons_zero, List.set_cons_succ, i64_w, i32_w]
                    rfl
                   refine pure_ (i := 8) (N := some 77) (v := ?_) (a' := ?_) #[true, true, true, true, true, true, true, true, true, false, false, false, false, false, false, false, false, false, false] rfl rfl (any_of HT_.out (by kernel_rfl)) (fun _ _ _ h => h) (Or.inl ⟨by rfl, ?_⟩) ?_ ?_
                   rotate_left
                   ·intro w'
                    go_simp
                    with_reducible rfl
                   rotate_left
                   ·simp only [Act.put, List.setIfInBounds_toArray, List.set_cons_zero, List.set_cons_succ, i64_w, i32_w]
                    rfl
                   refine pure_ (i := 9) (N := some 78) (v := ?_) (a' := ?_) #[true, true, true, true, true, true, true, true, true, true, false, false, false, false, false, false, false, false, false] rfl rfl (any_of HT_.out (by kernel_rfl)) (fun _ _ _ h => h) (Or.inl ⟨by rfl, ?_⟩) ?_ ?_
                   rotate_left
                   ·intro w'
                    go_simp
                    with_reducible rfl
                   rotate_left
                   ·simp only [Act.put, List.setIfInBounds_toArray, List.set_cons_zero, List.set_cons_succ, i64_w, i32_w]
                    rfl
                   refine pure_ (i := 10) (N := some 79) (v := ?_) (a' := ?_) #[true, true, true, true, true, true, true, true, true, true, true, false, false, false, false, false, false, false, false] rfl rfl (any_of HT_.out (by kernel_rfl)) (fun _ _ _ h => h) (Or.inl ⟨by rfl, ?_⟩) ?_ ?_
                   rotate_left
                   ·intro w'
                    go_simp
                    with_reducible rfl
                   rotate_left
                   ·simp only [Act.put, List.setIfInBounds_toArray, List.set_cons_zero, List.set_cons_succ, i64_w, i32_w]
                    rfl
                   refine pure_ (i := 11) (N := some 80) (v := ?_) (a' := ?_) #[true, true, true, true, true, true, true, true, true, true, true, true, false, false, false, false, false, false, false] rfl rfl (any_of HT_.out (by kernel_rfl)) (fun _ _ _ h => h) (Or.inl ⟨by rfl, ?_⟩) ?_ ?_
                   rotate_left
                   ·intro w'
                    go_simp
                    with_reducible rfl
                   rotate_left
                   ·simp only [Act.put, List.setIfInBounds_toArray, List.set_cons_zero, List.set_cons_succ, i64_w, i32_w]
                    rfl
                   refine pure_ (i := 12) (N := some 81) (v := ?_) (a' := ?_) #[true, true, true, true, true, true, true, true, true, true, true, true, true, false, false, false, false, false, false] rfl rfl (any_of HT_.out (by kernel_rfl)) (fun _ _ _ h => h) (Or.inl ⟨by rfl, ?_⟩) ?_ ?_
                   rotate_left
                   ·intro w'
                    go_simp
                    with_reducible rfl
                   rotate_left
                   ·simp only [Act.put, List.setIfInBounds_toArray, List.set_cons_zero, List.set_cons_succ, i64_w, i32_w]
                    rfl
                   refine pure_ (i := 14) (N := some 83) (v := ?_) (a' := ?_) #[true, true, true, true, true, true, true, true, true, true, true, true, true, false, true, false, false, false, false] rfl rfl (any_of HT_.out (by kernel_rfl)) (fun _ _ _ h => h) (Or.inl ⟨by rfl, ?_⟩) ?_ ?_
                   rotate_left
                   ·intro w'
                    go_simp
                    with_reducible rfl
                   rotate_left
                   ·simp only [Act.put, List.setIfInBounds_toArray, List.set_cons_zero, List.set_cons_succ, i64_w, i32_w]
                    rfl
                   refine pure_ (i := 16) (N := some 85) (v := ?_) (a' := ?_) #[true, true, true, true, true, true, true, true, true, true, true, true, true, false, true, false, true, false, false] rfl rfl (any_of HT_.out (by kernel_rfl)) (fun _ _ _ h => h) (Or.inl ⟨by rfl, ?_⟩) ?_ ?_
                   rotate_left
                   ·intro w'
                    go_simp
                    with_reducible rfl
                   rotate_left
                   ·simp only [Act.put, List.setIfInBounds_toArray, List.set_cons_zero, List.set_cons_succ, i64_w, i32_w]
                    rfl
                   refine take_ (i := 13) (N := some 82) (v := ?_) (a' := ?_) #[true, true, true, true, true, true, true, true, true, true, true, true, true, true, true, false, true, false, false] rfl rfl (take_ofW HT_.out HW_.out (by kernel_rfl)) (fun _ _ _ h => h) (Or.inl ⟨by rfl, ?_⟩) hHeld ?_ ?_
                   rotate_left
                   ·rintro w' ⟨s0, s1, s2, s3, s4, s5, s6, s7, s8, s9, s10⟩
                    go_simp
                    with_reducible rfl
                   rotate_left
                   ·simp only [Act.put, List.setIfInBounds_toArray, List.set_cons_zero, List.set_cons_succ, i64_w, i32_w]
                    rfl
                   refine take_ (i := 15) (N := some 84) (v := ?_) (a' := ?_) #[true, true, true, true, true, true, true, true, true, true, true, true, true, true, true, true, true, false, false] rfl rfl (take_ofW HT_.out HW_.out (by kernel_rfl)) (fun _ _ _ h => h) (Or.inl ⟨by rfl, ?_⟩) hHeld ?_ ?_
                   rotate_left
                   ·rintro w' ⟨s0, s1, s2, s3, s4, s5, s6, s7, s8, s9, s10⟩
                    go_simp
                    with_reducible rfl
                   rotate_left
                   ·simp only [Act.put, List.setIfInBounds_toArray, List.set_cons_zero, List.set_cons_succ, i64_w, i32_w]
                    rfl
                   refine one_ (i := 17) (N := some 86) #[true, true, true, true, true, true, true, true, true, true, true, true, true, true, true, true, true, true, false] rfl rfl (one_of HT_.out (by kernel_rfl)) (by decide) (fun K hK => ?_)
                   refine goes_ Tryd.func48 (by kernel_rfl) rfl #[.slice A1 l1.length c1, .int .i64 ((rd_T33 l0 x18_5).f0), .string a2, .agg #[.slice A3_0 l3_0.length c3_0, .int .i64 a3_1, .int .i64 a3_2], .int .i64 a4] (by rfl) rfl rfl (by (try simp only [List.map_toArray, List.map_cons, List.map_nil]); first | done | rfl | (simp only [List.length_drop, List.length_take]; rfl)) ?_
                   with_reducible refine (garboardref58_has.calls k5 _ _ l1 ((rd_T33 l0 x18_5).f0) a2 _ _ l3_0 a3_1 a3_2 a4 true _ ?side1 ?side2 ?side3 ?side4 A29.out).mono ?_
                   (case side1 => repeat (first | exact (Kd.C_below HR1.out HB.out) | (with_reducible refine Kd.C_alloc ?_ _) | (with_reducible refine Kd.C_drewN ?_ _) | (with_reducible refine Kd.C_drew ?_)))
                   (case side2 => exact HC1.out)
                   (case side3 => repeat (first | exact (Kd.C_below HR3_0.out HB.out) | (with_reducible refine Kd.C_alloc ?_ _) | (with_reducible refine Kd.C_drewN ?_ _) | (with_reducible refine Kd.C_drew ?_)))
                   (case side4 => exact HC3_0.out)
                   rintro e w32 ⟨rfl, hb⟩
                   refine ⟨_, rfl, ?_⟩
                   have n0_ := Aside0.mk (Kd.R_below (by (with_reducible repeat (first | apply Kd.R_alloc | apply Kd.R_drewN | apply Kd.R_drew)); exact HO_14.out) hb)
                   have n1_ := Aside0.mk (blk_below (g := gb276) (o := .cells #[.slice A3_0 l3_0.length c3_0, .int .i64 a3_1, .int .i64 a3_2] 41 (0, 0)) (by (with_reducible repeat (first | refine blk_drewN ?_ _ | refine blk_drew ?_ | refine blk_alloc ?_ _)); exact BK276.out) hb)
                   have n2_ := Aside0.mk (below_step (by repeat (first | (with_reducible first | exact HB.out | apply below_alloc | apply pw_below_drewN | apply below_drew1 | refine below_set ?_ GE276.out) | exact HB.out)) hb)
                   clear HO_14
                   clear BK276
                   clear HB
                   have HO_14 := n0_
                   have BK276 := n1_
                   have HB := n2_
                   clear n0_ n1_ n2_
                   (try clear hb)
                   (try clear hb2)
                   (try clear hk)
                   (try clear hi)
                   refine hK.out _ _ ⟨(blk_cell BK276.out 0).trans rfl, (blk_cell BK276.out 1).trans rfl, (blk_cell BK276.out 2).trans rfl, ((HB.out.cell (World.block_lt_of_cell? w _ hw281_0)).trans hw281_0), ((HB.out.cell (World.block_lt_of_cell? w _ hw281_1)).trans hw281_1), ((HB.out.cell (World.block_lt_of_cell? w _ hw281_2)).trans hw281_2), ((HB.out.cell (World.block_lt_of_cell? w _ hw281_3)).trans hw281_3), ((HB.out.cell (World.block_lt_of_cell? w _ hw282_0)).trans hw282_0), ((HB.out.cell (World.block_lt_of_cell? w _ hw282_1)).trans hw282_1), ((HB.out.cell (World.block_lt_of_cell? w _ hw282_2)).trans hw282_2), ((HB.out.cell (World.block_lt_of_cell? w _ hw282_3)).trans hw282_3)⟩ (fun hHeld => ?_)
                   clear hK K
                   refine norm_ (a' := ?_) ?_ ?_
                   rotate_left
                   ·show Act.put _ (some 86) _ = _
                    simp only [Act.put, List.setIfInBounds_toArray, List.set_cons_zero, List.set_cons_succ, i64_w, i32_w]
                    rfl
                   refine pure_ (i := 18) (N := some 87) (v := ?_) (a' := ?_) #[true, true, true, true, true, true, true, true, true, true, true, true, true, true, true, true, true, true, true] rfl rfl (any_of HT_.out (by kernel_rfl)) (fun _ _ _ h => h) (Or.inl ⟨by rfl, ?_⟩) ?_ ?_
                   rotate_left
                   ·intro w'
                    go_simp
                    with_reducible rfl
                   rotate_left
                   ·simp only [Act.put, List.setIfInBounds_toArray, List.set_cons_zero, List.set_cons_succ, i64_w, i32_w]
                    rfl
                   refine done_ (done_of HT_.out (by kernel_rfl)) ?_
                   try go_wp2
                   go_roundg k5
                   case measure => have := HJ6.out; have := HJ14.out; have := HK3.out; have := HK4.out; have := HK5.out; omega
                   case rel => exact ⟨(wrap64 (x16_5 - 1)), (wrap64 (x18_5 + 1)), (by first | rfl | (simp; done) | (simp [*]; done)), (by first | rfl | (simp; done) | (simp [*]; done)), H', ⟨by have := HJ6.out; have := HJ14.out; have := HK3.out; have := HK4.out; have := HK5.out; omega⟩, ⟨by (with_reducible repeat (first | apply Kd.R_alloc | apply Kd.R_drewN | apply Kd.R_drew)); exact HO_14.out⟩, ⟨by (with_reducible repeat (first | refine blk_drewN ?_ _ | refine blk_drew ?_ | refine blk_alloc ?_ _)); exact BK276.out⟩, ⟨by repeat (first | (with_reducible first | exact HB.out | apply below_alloc | apply pw_below_drewN | apply below_drew1 | refine below_set ?_ GE276.out) | exact HB.out)⟩⟩
                  ·replace c30 := Bool.eq_false_iff.mpr c30
                   subst c30
                   have H1 : (garboardref58_Missing.l2 k5 l0 l1 a2 a4 x14_3 x15_3 x16_5 (wrap64 (x18_5 + 1)) l3_0 a3_1 a3_2) = some (r1, r2) := by rw [if_neg (show ¬ (false = true) by decide)] at H; exact H
                   clear H
                   have H := H1
                   clear H1
                   have H' := Aside0.mk H
                   clear H
                   try go_wp2
                   have n0_ := Aside0.mk (Kd.R_drew HO_14.out)
                   have n1_ := Aside0.mk (blk_drew BK276.out)
                   have n2_ := Aside0.mk (below_drew1 HB.out)
                   clear HO_14
                   clear BK276
                   clear HB
                   have HO_14 := n0_
                   have BK276 := n1_
                   have HB := n2_
                   clear n0_ n1_ n2_
                   have p281 : 0 ≤ (x18_5 : Int) := of_decide_eq_true (by first | (with_reducible assumption) | assumption)
                   have q281 : x18_5 < (l0.length : Int) := of_decide_eq_true (by first | (with_reducible assumption) | assumption)
                   obtain ⟨ad281, e281, hx281_0, hx281_1, hx281_2, hx281_3⟩ := at_T33 HR0.out x18_5 p281 q281
                   have hw281_3 := hx281_3
                   have hw281_2 := hx281_2
                   have hw281_1 := hx281_1
                   have hw281_0 := hx281_0
                   cases e281
                   replace hx281_0 := (HB.out.cell (World.block_lt_of_cell? w _ hx281_0)).trans hx281_0
                   replace hx281_1 := (HB.out.cell (World.block_lt_of_cell? w _ hx281_1)).trans hx281_1
                   replace hx281_2 := (HB.out.cell (World.block_lt_of_cell? w _ hx281_2)).trans hx281_2
                   replace hx281_3 := (HB.out.cell (World.block_lt_of_cell? w _ hx281_3)).trans hx281_3
                   replace p281 := eq_true p281
                   replace q281 := eq_true q281
                   have p282 : 0 ≤ (x18_5 : Int) := of_decide_eq_true (by first | (with_reducible assumption) | assumption)
                   have q282 : x18_5 < (l0.length : Int) := of_decide_eq_true (by first | (with_reducible assumption) | assumption)
                   obtain ⟨ad282, e282, hx282_0, hx282_1, hx282_2, hx282_3⟩ := at_T33 HR0.out x18_5 p282 q282
                   have hw282_3 := hx282_3
                   have hw282_2 := hx282_2
                   have hw282_1 := hx282_1
                   have hw282_0 := hx282_0
                   obtain rfl : ad281 = ad282 := (by injection e282)
                   replace hx282_0 := (HB.out.cell (World.block_lt_of_cell? w _ hx282_0)).trans hx282_0
                   replace hx282_1 := (HB.out.cell (World.block_lt_of_cell? w _ hx282_1)).trans hx282_1
                   replace hx282_2 := (HB.out.cell (World.block_lt_of_cell? w _ hx282_2)).trans hx282_2
                   replace hx282_3 := (HB.out.cell (World.block_lt_of_cell? w _ hx282_3)).trans hx282_3
                   replace p282 := eq_true p282
                   replace q282 := eq_true q282
                   refine start_ (n := 19) (S := fun w' => w'.cell? ⟨gb276, 0, none⟩ = some (.slice A3_0 l3_0.length c3_0) ∧ w'.cell? ⟨gb276, 1, none⟩ = some (.int .i64 a3_1) ∧ w'.cell? ⟨gb276, 2, none⟩ = some (.int .i64 a3_2) ∧ w'.cell? (ad281.add ((x18_5).toNat * 4)) = some (.int .i64 ((rd_T33 l0 x18_5).f0)) ∧ w'.cell? ⟨(ad281.add ((x18_5).toNat * 4)).block, (ad281.add ((x18_5).toNat * 4)).off + 1, none⟩ = some (.int .i64 ((rd_T33 l0 x18_5).f1)) ∧ w'.cell? ⟨(ad281.add ((x18_5).toNat * 4)).block, (ad281.add ((x18_5).toNat * 4)).off + 2, none⟩ = some (.string ((rd_T33 l0 x18_5).f2)) ∧ w'.cell? ⟨(ad281.add ((x18_5).toNat * 4)).block, (ad281.add ((x18_5).toNat * 4)).off + 3, none⟩ = some (.string ((rd_T33 l0 x18_5).f3)) ∧ w'.cell? (ad281.add ((x18_5).toNat * 4)) = some (.int .i64 ((rd_T33 l0 x18_5).f0)) ∧ w'.cell? ⟨(ad281.add ((x18_5).toNat * 4)).block, (ad281.add ((x18_5).toNat * 4)).off + 1, none⟩ = some (.int .i64 ((rd_T33 l0 x18_5).f1)) ∧ w'.cell? ⟨(ad281.add ((x18_5).toNat * 4)).block, (ad281.add ((x18_5).toNat * 4)).off + 2, none⟩ = some (.string ((rd_T33 l0 x18_5).f2)) ∧ w'.cell? ⟨(ad281.add ((x18_5).toNat * 4)).block, (ad281.add ((x18_5).toNat * 4)).off + 3, none⟩ = some (.string ((rd_T33 l0 x18_5).f3))) (ds := []) #[false, false, false, false, false, false, false, false, false, false, false, false, false, false, false, false, false, false, false] (by kernel_rfl) rfl rfl ⟨(blk_cell BK276.out 0).trans rfl, (blk_cell BK276.out 1).trans rfl, (blk_cell BK276.out 2).trans rfl, ((HB.out.cell (World.block_lt_of_cell? w _ hw281_0)).trans hw281_0), ((HB.out.cell (World.block_lt_of_cell? w _ hw281_1)).trans hw281_1), ((HB.out.cell (World.block_lt_of_cell? w _ hw281_2)).trans hw281_2), ((HB.out.cell (World.block_lt_of_cell? w _ hw281_3)).trans hw281_3), ((HB.out.cell (World.block_lt_of_cell? w _ hw282_0)).trans hw282_0), ((HB.out.cell (World.block_lt_of_cell? w _ hw282_1)).trans hw282_1), ((HB.out.cell (World.block_lt_of_cell? w _ hw282_2)).trans hw282_2), ((HB.out.cell (World.block_lt_of_cell? w _ hw282_3)).trans hw282_3)⟩ (fun hHeld => ?_); refine with_tabW garboardref58_Missing.tab19 garboardref58_Missing.bits19 (fun HT_ HW_ => ?_)
                   generalize wr.drew = w33 at HO_14 BK276 HB hx281_0 hx281_1 hx281_2 hx281_3 hx282_0 hx282_1 hx282_2 hx282_3 hHeld ⊢
                   refine pure_ (i := 0) (N := some 69) (v := ?_) (a' := ?_) #[true, false, false, false, false, false, false, false, false, false, false, false, false, false, false, false, false, false, false] rfl rfl (any_of HT_.out (by kernel_rfl)) (fun _ _ _ h => h) (Or.inl ⟨by rfl, ?_⟩) ?_ ?_
                   rotate_left
                   ·intro w'
                    go_simp
                    with_reducible rfl
                   rotate_left
                   ·simp only [Act.put, List.setIfInBounds_toArray, List.set_cons_zero, List.set_cons_succ, i64_w, i32_w]
                    rfl
                   refine pure_ (i := 1) (N := some 70) (v := ?_) (a' := ?_) #[true, true, false, false, false, false, false, false, false, false, false, false, false, false, false, false, false, false, false] rfl rfl (any_of HT_.out (by kernel_rfl)) (fun _ _ _ h => h) (Or.inl ⟨by rfl, ?_⟩) ?_ ?_
                   rotate_left
                   ·intro w'
                    go_simp
                    with_reducible rfl
                   rotate_left
                   ·simp only [Act.put, List.setIfInBounds_toArray, List.set_cons_zero, List.set_cons_succ, i64_w, i32_w]
                    rfl
                   refine pure_ (i := 2) (N := some 71) (v := ?_) (a' := ?_) #[true, true, true, false, false, false, false, false, false, false, false, false, false, false, false, false, false, false, false] rfl rfl (any_of HT_.out (by kernel_rfl)) (fun _ _ _ h => h) (Or.inl ⟨by rfl, ?_⟩) ?_ ?_
                   rotate_left
                   ·intro w'
                    go_simp
                    with_reducible rfl
                   rotate_left
                   ·simp only [Act.put, List.setIfInBounds_toArray, List.set_cons_zero, List.set_cons_succ, i64_w, i32_w]
                    rfl
                   refine pure_ (i := 3) (N := some 72) (v := ?_) (a' := ?_) #[true, true, true, true, false, false, false, false, false, false, false, false, false, false, false, false, false, false, false] rfl rfl (any_of HT_.out (by kernel_rfl)) (fun _ _ _ h => h) (Or.inl ⟨by rfl, ?_⟩) ?_ ?_
                   rotate_left
                   ·intro w'
                    go_simp
                    with_reducible rfl
                   rotate_left
                   ·simp only [Act.put, List.setIfInBounds_toArray, List.set_cons_zero, List.set_cons_succ, i64_w, i32_w]
                    rfl
                   refine pure_ (i := 5) (N := some 74) (v := ?_) (a' := ?_) #[true, true, true, true, false, true, false, false, false, false, false, false, false, false, false, false, false, false, false] rfl rfl (any_of HT_.out (by kernel_rfl)) (fun _ _ _ h => h) (Or.inl ⟨by rfl, ?_⟩) ?_ ?_
                   rotate_left
                   ·intro w'
                    go_simp
                    with_reducible rfl
                   rotate_left
                   ·simp only [Act.put, List.setIfInBounds_toArray, List.set_cons_zero, List.set_cons_succ, i64_w, i32_w]
                    rfl
                   refine take_ (i := 4) (N := some 73) (v := ?_) (a' := ?_) #[true, true, true, true, true, true, false, false, false, false, false, false, false, false, false, false, false, false, false] rfl rfl (take_ofW HT_.out HW_.out (by kernel_rfl)) (fun _ _ _ h => h) (Or.inl ⟨by rfl, ?_⟩) hHeld ?_ ?_
                   rotate_left
                   ·rintro w' ⟨s0, s1, s2, s3, s4, s5, s6, s7, s8, s9, s10⟩
                    go_simp
                    with_reducible rfl
                   rotate_left
                   ·simp only [Act.put, List.setIfInBounds_toArray, List.set_cons_zero, List.set_cons_succ, i64_w, i32_w]
                    rfl
                   refine pure_ (i := 6) (N := some 75) (v := ?_) (a' := ?_) #[true, true, true, true, true, true, true, false, false, false, false, false, false, false, false, false, false, false, false] rfl rfl (any_of HT_.out (by kernel_rfl)) (fun _ _ _ h => h) (Or.inl ⟨by rfl, ?_⟩) ?_ ?_
                   rotate_left
                   ·intro w'
                    go_simp
                    with_reducible rfl
                   rotate_left
                   ·simp only [Act.put, List.setIfInBounds_toArray, List.set_cons_zero, List.set_cons_succ, i64_w, i32_w]
                    rfl
                   refine pure_ (i := 7) (N := some 76) (v := ?_) (a' := ?_) #[true, true, true, true, true, true, true, true, false, false, false, false, false, false, false, false, false, false, false] rfl rfl (any_of HT_.out (by kernel_rfl)) (fun _ _ _ h => h) (Or.inl ⟨by rfl, ?_⟩) ?_ ?_
                   rotate_left
                   ·intro w'
                    go_simp
                    with_reducible rfl
                   rotate_left
                   ·simp only [Act.put, List.setIfInBounds_toArray, List.set_cons_zero, List.set_cons_succ, i64_w, i32_w]
                    rfl
                   refine pure_ (i := 8) (N := some 77) (v := ?_) (a' := ?_) #[true, true, true, true, true, true, true, true, true, false, false, false, false, false, false, false, false, false, false] rfl rfl (any_of HT_.out (by kernel_rfl)) (fun _ _ _ h => h) (Or.inl ⟨by rfl, ?_⟩) ?_ ?_
                   rotate_left
                   ·intro w'
                    go_simp
                    with_reducible rfl
                   rotate_left
                   ·simp only [Act.put, List.setIfInBounds_toArray, List.set_cons_zero, List.set_cons_succ, i64_w, i32_w]
                    rfl
                   refine pure_ (i := 9) (N := some 78) (v := ?_) (a' := ?_) #[true, true, true, true, true, true, true, true, true, true, false, false, false, false, false, false, false, false, false] rfl rfl (any_of HT_.out (by kernel_rfl)) (fun _ _ _ h => h) (Or.inl ⟨by rfl, ?_⟩) ?_ ?_
                   rotate_left
                   ·intro w'
                    go_simp
                    with_reducible rfl
                   rotate_left
                   ·simp only [Act.put, List.setIfInBounds_toArray, List.set_cons_zero, List.set_cons_succ, i64_w, i32_w]
                    rfl
                   refine pure_ (i := 10) (N := some 79) (v := ?_) (a' := ?_) #[true, true, true, true, true, true, true, true, true, true, true, false, false, false, false, false, false, false, false] rfl rfl (any_of HT_.out (by kernel_rfl)) (fun _ _ _ h => h) (Or.inl ⟨by rfl, ?_⟩) ?_ ?_
                   rotate_left
                   ·intro w'
                    go_simp
                    with_reducible rfl
                   rotate_left
                   ·simp only [Act.put, List.setIfInBounds_toArray, List.set_cons_zero, List.set_cons_succ, i64_w, i32_w]
                    rfl
                   refine pure_ (i := 11) (N := some 80) (v := ?_) (a' := ?_) #[true, true, true, true, true, true, true, true, true, true, true, true, false, false, false, false, false, false, false] rfl rfl (any_of HT_.out (by kernel_rfl)) (fun _ _ _ h => h) (Or.inl ⟨by rfl, ?_⟩) ?_ ?_
                   rotate_left
                   ·intro w'
                    go_simp
                    with_reducible rfl
                   rotate_left
                   ·simp only [Act.put, List.setIfInBounds_toArray, List.set_cons_zero, List.set_cons_succ, i64_w, i32_w]
                    rfl
                   refine pure_ (i := 12) (N := some 81) (v := ?_) (a' := ?_) #[true, true, true, true, true, true, true, true, true, true, true, true, true, false, false, false, false, false, false] rfl rfl (any_of HT_.out (by kernel_rfl)) (fun _ _ _ h => h) (Or.inl ⟨by rfl, ?_⟩) ?_ ?_
                   rotate_left
                   ·intro w'
                    go_simp
                    with_reducible rfl
                   rotate_left
                   ·simp only [Act.put, List.setIfInBounds_toArray, List.set_cons_zero, List.set_cons_succ, i64_w, i32_w]
                    rfl
                   refine pure_ (i := 14) (N := some 83) (v := ?_) (a' := ?_) #[true, true, true, true, true, true, true, true, true, true, true, true, true, false, true, false, false, false, false] rfl rfl (any_of HT_.out (by kernel_rfl)) (fun _ _ _ h => h) (Or.inl ⟨by rfl, ?_⟩) ?_ ?_
                   rotate_left
                   ·intro w'
                    go_simp
                    with_reducible rfl
                   rotate_left
                   ·simp only [Act.put, List.setIfInBounds_toArray, List.set_cons_zero, List.set_cons_succ, i64_w, i32_w]
                    rfl
                   refine pure_ (i := 16) (N := some 85) (v := ?_) (a' := ?_) #[true, true, true, true, true, true, true, true, true, true, true, true, true, false, true, false, true, false, false] rfl rfl (any_of HT_.out (by kernel_rfl)) (fun _ _ _ h => h) (Or.inl ⟨by rfl, ?_⟩) ?_ ?_
                   rotate_left
                   ·intro w'
                    go_simp
                    with_reducible rfl
                   rotate_left
                   ·simp only [Act.put, List.setIfInBounds_toArray, List.set_cons_zero, List.set_cons_succ, i64_w, i32_w]
                    rfl
                   refine take_ (i := 13) (N := some 82) (v := ?_) (a' := ?_) #[true, true, true, true, true, true, true, true, true, true, true, true, true, true, true, false, true, false, false] rfl rfl (take_ofW HT_.out HW_.out (by kernel_rfl)) (fun _ _ _ h => h) (Or.inl ⟨by rfl, ?_⟩) hHeld ?_ ?_
                   rotate_left
                   ·rintro w' ⟨s0, s1, s2, s3, s4, s5, s6, s7, s8, s9, s10⟩
                    go_simp
                    with_reducible rfl
                   rotate_left
                   ·simp only [Act.put, List.setIfInBounds_toArray, List.set_cons_zero, List.set_cons_succ, i64_w, i32_w]
                    rfl
                   refine take_ (i := 15) (N := some 84) (v := ?_) (a' := ?_) #[true, true, true, true, true, true, true, true, true, true, true, true, true, true, true, true, true, false, false] rfl rfl (take_ofW HT_.out HW_.out (by kernel_rfl)) (fun _ _ _ h => h) (Or.inl ⟨by rfl, ?_⟩) hHeld ?_ ?_
                   rotate_left
                   ·rintro w' ⟨s0, s1, s2, s3, s4, s5, s6, s7, s8, s9, s10⟩
                    go_simp
                    with_reducible rfl
                   rotate_left
                   ·simp only [Act.put, List.setIfInBounds_toArray, List.set_cons_zero, List.set_cons_succ, i64_w, i32_w]
                    rfl
                   refine one_ (i := 17) (N := some 86) #[true, true, true, true, true, true, true, true, true, true, true, true, true, true, true, true, true, true, false] rfl rfl (one_of HT_.out (by kernel_rfl)) (by decide) (fun K hK => ?_)
                   refine goes_ Tryd.func48 (by kernel_rfl) rfl #[.slice A1 l1.length c1, .int .i64 ((rd_T33 l0 x18_5).f0), .string a2, .agg #[.slice A3_0 l3_0.length c3_0, .int .i64 a3_1, .int .i64 a3_2], .int .i64 a4] (by rfl) rfl rfl (by (try simp only [List.map_toArray, List.map_cons, List.map_nil]); first | done | rfl | (simp only [List.length_drop, List.length_take]; rfl)) ?_
                   with_reducible refine (garboardref58_has.calls k5 _ _ l1 ((rd_T33 l0 x18_5).f0) a2 _ _ l3_0 a3_1 a3_2 a4 false _ ?side1 ?side2 ?side3 ?side4 A29.out).mono ?_
                   (case side1 => repeat (first | exact (Kd.C_below HR1.out HB.out) | (with_reducible refine Kd.C_alloc ?_ _) | (with_reducible refine Kd.C_drewN ?_ _) | (with_reducible refine Kd.C_drew ?_)))
                   (case side2 => exact HC1.out)
                   (case side3 => repeat (first | exact (Kd.C_below HR3_0.out HB.out) | (with_reducible refine Kd.C_alloc ?_ _) | (with_reducible refine Kd.C_drewN ?_ _) | (with_reducible refine Kd.C_drew ?_)))
                   (case side4 => exact HC3_0.out)
                   rintro e w34 ⟨rfl, hb⟩
                   refine ⟨_, rfl, ?_⟩
                   have n0_ := Aside0.mk (Kd.R_below (by (with_reducible repeat (first | apply Kd.R_alloc | apply Kd.R_drewN | apply Kd.R_drew)); exact HO_14.out) hb)
                   have n1_ := Aside0.mk (blk_below (g := gb276) (o := .cells #[.slice A3_0 l3_0.length c3_0, .int .i64 a3_1, .int .i64 a3_2] 41 (0, 0)) (by (with_reducible repeat (first | refine blk_drewN ?_ _ | refine blk_drew ?_ | refine blk_alloc ?_ _)); exact BK276.out) hb)
                   have n2_ := Aside0.mk (below_step (by repeat (first | (with_reducible first | exact HB.out | apply below_alloc | apply pw_below_drewN | apply below_drew1 | refine below_set ?_ GE276.out) | exact HB.out)) hb)
                   clear HO_14
                   clear BK276
                   clear HB
                   have HO_14 := n0_
                   have BK276 := n1_
                   have HB := n2_
                   clear n0_ n1_ n2_
                   (try clear hb)
                   (try clear hb2)
                   (try clear hk)
                   (try clear hi)
                   refine hK.out _ _ ⟨(blk_cell BK276.out 0).trans rfl, (blk_cell BK276.out 1).trans rfl, (blk_cell BK276.out 2).trans rfl, ((HB.out.cell (World.block_lt_of_cell? w _ hw281_0)).trans hw281_0), ((HB.out.cell (World.block_lt_of_cell? w _ hw281_1)).trans hw281_1), ((HB.out.cell (World.block_lt_of_cell? w _ hw281_2)).trans hw281_2), ((HB.out.cell (World.block_lt_of_cell? w _ hw281_3)).trans hw281_3), ((HB.out.cell (World.block_lt_of_cell? w _ hw282_0)).trans hw282_0), ((HB.out.cell (World.block_lt_of_cell? w _ hw282_1)).trans hw282_1), ((HB.out.cell (World.block_lt_of_cell? w _ hw282_2)).trans hw282_2), ((HB.out.cell (World.block_lt_of_cell? w _ hw282_3)).trans hw282_3)⟩ (fun hHeld => ?_)
                   clear hK K
                   refine norm_ (a' := ?_) ?_ ?_
                   rotate_left
                   ·show Act.put _ (some 86) _ = _
                    simp only [Act.put, List.setIfInBounds_toArray, List.set_cons_zero, List.set_cons_succ, i64_w, i32_w]
                    rfl
                   refine pure_ (i := 18) (N := some 87) (v := ?_) (a' := ?_) #[true, true, true, true, true, true, true, true, true, true, true, true, true, true, true, true, true, true, true] rfl rfl (any_of HT_.out (by kernel_rfl)) (fun _ _ _ h => h) (Or.inl ⟨by rfl, ?_⟩) ?_ ?_
                   rotate_left
                   ·intro w'
                    go_simp
                    with_reducible rfl
                   rotate_left
                   ·simp only [Act.put, List.setIfInBounds_toArray, List.set_cons_zero, List.set_cons_succ, i64_w, i32_w]
                    rfl
                   refine done_ (done_of HT_.out (by kernel_rfl)) ?_
                   try go_wp2
                   go_roundg k5
                   case measure => have := HJ6.out; have := HJ14.out; have := HK3.out; have := HK4.out; have := HK5.out; omega
                   case rel => exact ⟨(x16_5), (wrap64 (x18_5 + 1)), (by first | rfl | (simp; done) | (simp [*]; done)), (by first | rfl | (simp; done) | (simp [*]; done)), H', ⟨by have := HJ6.out; have := HJ14.out; have := HK3.out; have := HK4.out; have := HK5.out; omega⟩, ⟨by (with_reducible repeat (first | apply Kd.R_alloc | apply Kd.R_drewN | apply Kd.R_drew)); exact HO_14.out⟩, ⟨by (with_reducible repeat (first | refine blk_drewN ?_ _ | refine blk_drew ?_ | refine blk_alloc ?_ _)); exact BK276.out⟩, ⟨by repeat (first | (with_reducible first | exact HB.out | apply below_alloc | apply pw_below_drewN | apply below_drew1 | refine below_set ?_ GE276.out) | exact HB.out)⟩⟩
                 ·rw [if_neg c28] at H
                  have c28b0 : (((rd_T33 l0 x18_5).f1) == x15_3) = false := beq_eq_false_iff_ne.mpr c28
                  have c28b1 : (((rd_T33 l0 x18_5).f1) != x15_3) = true := bne_iff_ne.mpr c28
                  have H' := Aside0.mk H
                  clear H
                  try go_wp2
                  have n0_ := Aside0.mk (Kd.R_drew HO_14.out)
                  have n1_ := Aside0.mk (blk_drew BK276.out)
                  have n2_ := Aside0.mk (below_drew1 HB.out)
                  clear HO_14
                  clear BK276
                  clear HB
                  have HO_14 := n0_
                  have BK276 := n1_
                  have HB := n2_
                  clear n0_ n1_ n2_
                  have p281 : 0 ≤ (x18_5 : Int) := of_decide_eq_true (by first | (with_reducible assumption) | assumption)
                  have q281 : x18_5 < (l0.length : Int) := of_decide_eq_true (by first | (with_reducible assumption) | assumption)
                  obtain ⟨ad281, e281, hx281_0, hx281_1, hx281_2, hx281_3⟩ := at_T33 HR0.out x18_5 p281 q281
                  have hw281_3 := hx281_3
                  have hw281_2 := hx281_2
                  have hw281_1 := hx281_1
                  have hw281_0 := hx281_0
                  cases e281
                  replace hx281_0 := (HB.out.cell (World.block_lt_of_cell? w _ hx281_0)).trans hx281_0
                  replace hx281_1 := (HB.out.cell (World.block_lt_of_cell? w _ hx281_1)).trans hx281_1
                  replace hx281_2 := (HB.out.cell (World.block_lt_of_cell? w _ hx281_2)).trans hx281_2
                  replace hx281_3 := (HB.out.cell (World.block_lt_of_cell? w _ hx281_3)).trans hx281_3
                  replace p281 := eq_true p281
                  replace q281 := eq_true q281
                  refine start_ (n := 19) (S := fun w' => w'.cell? (ad281.add ((x18_5).toNat * 4)) = some (.int .i64 ((rd_T33 l0 x18_5).f0)) ∧ w'.cell? ⟨(ad281.add ((x18_5).toNat * 4)).block, (ad281.add ((x18_5).toNat * 4)).off + 1, none⟩ = some (.int .i64 ((rd_T33 l0 x18_5).f1)) ∧ w'.cell? ⟨(ad281.add ((x18_5).toNat * 4)).block, (ad281.add ((x18_5).toNat * 4)).off + 2, none⟩ = some (.string ((rd_T33 l0 x18_5).f2)) ∧ w'.cell? ⟨(ad281.add ((x18_5).toNat * 4)).block, (ad281.add ((x18_5).toNat * 4)).off + 3, none⟩ = some (.string ((rd_T33 l0 x18_5).f3))) (ds := []) #[false, false, false, false, false, false, false, false, false, false, false, false, false, false, false, false, false, false, false] (by kernel_rfl) rfl rfl ⟨((HB.out.cell (World.block_lt_of_cell? w _ hw281_0)).trans hw281_0), ((HB.out.cell (World.block_lt_of_cell? w _ hw281_1)).trans hw281_1), ((HB.out.cell (World.block_lt_of_cell? w _ hw281_2)).trans hw281_2), ((HB.out.cell (World.block_lt_of_cell? w _ hw281_3)).trans hw281_3)⟩ (fun hHeld => ?_); refine with_tabW garboardref58_Missing.tab19 garboardref58_Missing.bits19 (fun HT_ HW_ => ?_)
                  generalize wr.drew = w35 at HO_14 BK276 HB hx281_0 hx281_1 hx281_2 hx281_3 hHeld ⊢
                  refine pure_ (i := 0) (N := some 69) (v := ?_) (a' := ?_) #[true, false, false, false, false, false, false, false, false, false, false, false, false, false, false, false, false, false, false] rfl rfl (any_of HT_.out (by kernel_rfl)) (fun _ _ _ h => h) (Or.inl ⟨by rfl, ?_⟩) ?_ ?_
                  rotate_left
                  ·intro w'
                   go_simp
                   with_reducible rfl
                  rotate_left
                  ·simp only [Act.put, List.setIfInBounds_toArray, List.set_cons_zero, List.set_cons_succ, i64_w, i32_w]
                   rfl
                  refine pure_ (i := 1) (N := some 70) (v := ?_) (a' := ?_) #[true, true, false, false, false, false, false, false, false, false, false, false, false, false, false, false, false, false, false] rfl rfl (any_of HT_.out (by kernel_rfl)) (fun _ _ _ h => h) (Or.inl ⟨by rfl, ?_⟩) ?_ ?_
                  rotate_left
                  ·intro w'
                   go_simp
                   with_reducible rfl
                  rotate_left
                  ·simp only [Act.put, List.setIfInBounds_toArray, List.set_cons_zero, List.set_cons_succ, i64_w, i32_w]
                   rfl
                  refine pure_ (i := 2) (N := some 71) (v := ?_) (a' := ?_) #[true, true, true, false, false, false, false, false, false, false, false, false, false, false, false, false, false, false, false] rfl rfl (any_of HT_.out (by kernel_rfl)) (fun _ _ _ h => h) (Or.inl ⟨by rfl, ?_⟩) ?_ ?_
                  rotate_left
                  ·intro w'
                   go_simp
                   with_reducible rfl
                  rotate_left
                  ·simp only [Act.put, List.setIfInBounds_toArray, List.set_cons_zero, List.set_cons_succ, i64_w, i32_w]
                   rfl
                  refine pure_ (i := 3) (N := some 72) (v := ?_) (a' := ?_) #[true, true, true, true, false, false, false, false, false, false, false, false, false, false, false, false, false, false, false] rfl rfl (any_of HT_.out (by kernel_rfl)) (fun _ _ _ h => h) (Or.inl ⟨by rfl, ?_⟩) ?_ ?_
                  rotate_left
                  ·intro w'
                   go_simp
                   with_reducible rfl
                  rotate_left
                  ·simp only [Act.put, List.setIfInBounds_toArray, List.set_cons_zero, List.set_cons_succ, i64_w, i32_w]
                   rfl
                  refine pure_ (i := 5) (N := some 74) (v := ?_) (a' := ?_) #[true, true, true, true, false, true, false, false, false, false, false, false, false, false, false, false, false, false, false] rfl rfl (any_of HT_.out (by kernel_rfl)) (fun _ _ _ h => h) (Or.inl ⟨by rfl, ?_⟩) ?_ ?_
                  rotate_left
                  ·intro w'
                   go_simp
                   with_reducible rfl
                  rotate_left
                  ·simp only [Act.put, List.setIfInBounds_toArray, List.set_cons_zero, List.set_cons_succ, i64_w, i32_w]
                   rfl
                  refine take_ (i := 4) (N := some 73) (v := ?_) (a' := ?_) #[true, true, true, true, true, true, false, false, false, false, false, false, false, false, false, false, false, false, false] rfl rfl (take_ofW HT_.out HW_.out (by kernel_rfl)) (fun _ _ _ h => h) (Or.inl ⟨by rfl, ?_⟩) hHeld ?_ ?_
                  rotate_left
                  ·rintro w' ⟨s0, s1, s2, s3⟩
                   go_simp
                   with_reducible rfl
                  rotate_left
                  ·simp only [Act.put, List.setIfInBounds_toArray, List.set_cons_zero, List.set_cons_succ, i64_w, i32_w]
                   rfl
                  refine pure_ (i := 6) (N := some 75) (v := ?_) (a' := ?_) #[true, true, true, true, true, true, true, false, false, false, false, false, false, false, false, false, false, false, false] rfl rfl (any_of HT_.out (by kernel_rfl)) (fun _ _ _ h => h) (Or.inl ⟨by rfl, ?_⟩) ?_ ?_
                  rotate_left
                  ·intro w'
                   go_simp
                   with_reducible rfl
                  rotate_left
                  ·simp only [Act.put, List.setIfInBounds_toArray, List.set_cons_zero, List.set_cons_succ, i64_w, i32_w]
                   rfl
                  refine pure_ (i := 7) (N := some 76) (v := ?_) (a' := ?_) #[true, true, true, true, true, true, true, true, false, false, false, false, false, false, false, false, false, false, false] rfl rfl (any_of HT_.out (by kernel_rfl)) (fun _ _ _ h => h) (Or.inl ⟨by rfl, ?_⟩) ?_ ?_
                  rotate_left
                  ·intro w'
                   go_simp
                   with_reducible rfl
                  rotate_left
                  ·simp only [Act.put, List.setIfInBounds_toArray, List.set_cons_zero, List.set_cons_succ, i64_w, i32_w]
                   rfl
                  refine pure_ (i := 8) (N := some 77) (v := undef) (a' := ?_) #[true, true, true, true, true, true, true, true, true, false, false, false, false, false, false, false, false, false, false] rfl rfl (any_of HT_.out (by kernel_rfl)) (fun _ _ _ h => h) (Or.inr ⟨by rfl, rfl⟩) ?_ ?_
                  rotate_left
                  ·simp only [Act.put, List.setIfInBounds_toArray, List.set_cons_zero, List.set_cons_succ, i64_w, i32_w]
                   rfl
                  refine pure_ (i := 9) (N := some 78) (v := undef) (a' := ?_) #[true, true, true, true, true, true, true, true, true, true, false, false, false, false, false, false, false, false, false] rfl rfl (any_of HT_.out (by kernel_rfl)) (fun _ _ _ h => h) (Or.inr ⟨by rfl, rfl⟩) ?_ ?_
                  rotate_left
                  ·simp only [Act.put, List.setIfInBounds_toArray, List.set_cons_zero, List.set_cons_succ, i64_w, i32_w]
                   rfl
                  refine pure_ (i := 10) (N := some 79) (v := undef) (a' := ?_) #[true, true, true, true, true, true, true, true, true, true, true, false, false, false, false, false, false, false, false] rfl rfl (any_of HT_.out (by kernel_rfl)) (fun _ _ _ h => h) (Or.inr ⟨by rfl, rfl⟩) ?_ ?_
                  rotate_left
                  ·simp only [Act.put, List.setIfInBounds_toArray, List.set_cons_zero, List.set_cons_succ, i64_w, i32_w]
                   rfl
                  refine pure_ (i := 11) (N := some 80) (v := undef) (a' := ?_) #[true, true, true, true, true, true, true, true, true, true, true, true, false, false, false, false, false, false, false] rfl rfl (any_of HT_.out (by kernel_rfl)) (fun _ _ _ h => h) (Or.inr ⟨by rfl, rfl⟩) ?_ ?_
                  rotate_left
                  ·simp only [Act.put, List.setIfInBounds_toArray, List.set_cons_zero, List.set_cons_succ, i64_w, i32_w]
                   rfl
                  refine pure_ (i := 12) (N := some 81) (v := undef) (a' := ?_) #[true, true, true, true, true, true, true, true, true, true, true, true, true, false, false, false, false, false, false] rfl rfl (any_of HT_.out (by kernel_rfl)) (fun _ _ _ h => h) (Or.inr ⟨by rfl, rfl⟩) ?_ ?_
                  rotate_left
                  ·simp only [Act.put, List.setIfInBounds_toArray, List.set_cons_zero, List.set_cons_succ, i64_w, i32_w]
                   rfl
                  refine pure_ (i := 13) (N := some 82) (v := undef) (a' := ?_) #[true, true, true, true, true, true, true, true, true, true, true, true, true, true, false, false, false, false, false] rfl rfl (any_of HT_.out (by kernel_rfl)) (fun _ _ _ h => h) (Or.inr ⟨by rfl, rfl⟩) ?_ ?_
                  rotate_left
                  ·simp only [Act.put, List.setIfInBounds_toArray, List.set_cons_zero, List.set_cons_succ, i64_w, i32_w]
                   rfl
                  refine pure_ (i := 14) (N := some 83) (v := undef) (a' := ?_) #[true, true, true, true, true, true, true, true, true, true, true, true, true, true, true, false, false, false, false] rfl rfl (any_of HT_.out (by kernel_rfl)) (fun _ _ _ h => h) (Or.inr ⟨by rfl, rfl⟩) ?_ ?_
                  rotate_left
                  ·simp only [Act.put, List.setIfInBounds_toArray, List.set_cons_zero, List.set_cons_succ, i64_w, i32_w]
                   rfl
                  refine pure_ (i := 15) (N := some 84) (v := undef) (a' := ?_) #[true, true, true, true, true, true, true, true, true, true, true, true, true, true, true, true, false, false, false] rfl rfl (any_of HT_.out (by kernel_rfl)) (fun _ _ _ h => h) (Or.inr ⟨by rfl, rfl⟩) ?_ ?_
                  rotate_left
                  ·simp only [Act.put, List.setIfInBounds_toArray, List.set_cons_zero, List.set_cons_succ, i64_w, i32_w]
                   rfl
                  refine pure_ (i := 16) (N := some 85) (v := undef) (a' := ?_) #[true, true, true, true, true, true, true, true, true, true, true, true, true, true, true, true, true, false, false] rfl rfl (any_of HT_.out (by kernel_rfl)) (fun _ _ _ h => h) (Or.inr ⟨by rfl, rfl⟩) ?_ ?_
                  rotate_left
                  ·simp only [Act.put, List.setIfInBounds_toArray, List.set_cons_zero, List.set_cons_succ, i64_w, i32_w]
                   rfl
                  refine pure_ (i := 17) (N := some 86) (v := undef) (a' := ?_) #[true, true, true, true, true, true, true, true, true, true, true, true, true, true, true, true, true, true, false] rfl rfl (any_of HT_.out (by kernel_rfl)) (fun _ _ _ h => h) (Or.inr ⟨by rfl, rfl⟩) ?_ ?_
                  rotate_left
                  ·simp only [Act.put, List.setIfInBounds_toArray, List.set_cons_zero, List.set_cons_succ, i64_w, i32_w]
                   rfl
                  refine pure_ (i := 18) (N := some 87) (v := ?_) (a' := ?_) #[true, true, true, true, true, true, true, true, true, true, true, true, true, true, true, true, true, true, true] rfl rfl (any_of HT_.out (by kernel_rfl)) (fun _ _ _ h => h) (Or.inl ⟨by rfl, ?_⟩) ?_ ?_
                  rotate_left
                  ·intro w'
                   go_simp
                   with_reducible rfl
                  rotate_left
                  ·simp only [Act.put, List.setIfInBounds_toArray, List.set_cons_zero, List.set_cons_succ, i64_w, i32_w]
                   rfl
                  refine done_ (done_of HT_.out (by kernel_rfl)) ?_
                  try go_wp2
                  go_roundg k5
                  case measure => have := HJ6.out; have := HJ14.out; have := HK3.out; have := HK4.out; have := HK5.out; omega
                  case rel => exact ⟨(x16_5), (wrap64 (x18_5 + 1)), (by first | rfl | (simp; done) | (simp [*]; done)), (by first | rfl | (simp; done) | (simp [*]; done)), H', ⟨by have := HJ6.out; have := HJ14.out; have := HK3.out; have := HK4.out; have := HK5.out; omega⟩, ⟨by (with_reducible repeat (first | apply Kd.R_alloc | apply Kd.R_drewN | apply Kd.R_drew)); exact HO_14.out⟩, ⟨by (with_reducible repeat (first | refine blk_drewN ?_ _ | refine blk_drew ?_ | refine blk_alloc ?_ _)); exact BK276.out⟩, ⟨by repeat (first | (with_reducible first | exact HB.out | apply below_alloc | apply pw_below_drewN | apply below_drew1 | refine below_set ?_ GE276.out) | exact HB.out)⟩⟩
                ·rw [if_neg c27] at H
                 exact absurd H (by simp)
               ·rw [if_neg c26] at H
                have c26b0 : decide (x18_5 < (l0.length : Int)) = false := decide_eq_false c26
                clear c26
                have H' := Aside0.mk H
                clear H
                go_wp2
                go_loopg [14, 16] k5 (fun kq v14 v16 w' => ∃ (x14_6 : List Int) (x16_6 : Int), v16 = .int .i64 x16_6 ∧ Aside0 (garboardref58_Missing.l3 kq l0 l1 a2 a4 x14_6 x15_3 x16_6 l3_0 a3_1 a3_2 = some (r1, r2)) ∧ Aside0 (kq ≤ k5) ∧ Aside0 (Kd.R (Kd.int .i64) 3 w' w.heap.size (fun _ => True) v14 x14_6) ∧ Aside0 (w'.heap[gb276]? = some (.cells #[(.slice A3_0 l3_0.length c3_0), .int .i64 a3_1, .int .i64 a3_2] 41 (0, 0))) ∧ Aside0 (Below w.heap.size w w'))
                case atStart => exact ⟨(x14_3), (x16_5), (by first | rfl | (simp; done) | (simp [*]; done)), H', ⟨Nat.le_refl _⟩, ⟨by (with_reducible repeat (first | apply Kd.R_alloc | apply Kd.R_drewN | apply Kd.R_drew)); exact HO_14.out⟩, ⟨by (with_reducible repeat (first | refine blk_drewN ?_ _ | refine blk_drew ?_ | refine blk_alloc ?_ _)); exact BK276.out⟩, ⟨by repeat (first | (with_reducible first | exact HB.out | apply below_alloc | apply pw_below_drewN | apply below_drew1 | refine below_set ?_ GE276.out) | exact HB.out)⟩⟩
                case round =>
                 clear H'
                 try clear c1
                 try clear c2
                 try clear p2
                 try clear q2
                 try clear hx2
                 try clear c3
                 try clear c4
                 try clear p6
                 try clear c26
                 try clear c26b0
                 try clear c27
                 try clear c28
                 try clear c28b0
                 try clear c28b1
                 try clear p28
                 try clear q28
                 try clear hx28
                 try clear c30
                 try clear hx281_0
                 try clear hx281_1
                 try clear hx281_2
                 try clear hx281_3
                 try clear hx282_0
                 try clear hx282_1
                 try clear hx282_2
                 try clear hx282_3
                 try clear p281
                 try clear p282
                 try clear q281
                 try clear q282
                 obtain ⟨x14_6, x16_6, rfl, HA, HK6, HO_14, BK276, HB⟩ := hrel
                 cases gk with
                 | zero => exact absurd HA.out (by simp [garboardref58_Missing.l3])
                 | succ k6 =>
                  have H := HA.out
                  clear HA
                  simp only [garboardref58_Missing.l3] at H
                  by_cases c36 : x16_6 > 0
                  ·rw [if_pos c36] at H
                   have c36b0 : decide (0 < x16_6) = true := decide_eq_true c36
                   clear c36
                   by_cases c37 : x14_6.length < 17592186044416
                   ·rw [if_pos c37] at H
                    have LMc37 := Aside0.mk c37
                    clear c37
                    obtain ⟨y284, hy284⟩ : ∃ y_ : List Int, y_ = (x14_6 ++ [x15_3]) := ⟨_, rfl⟩
                    replace H : (garboardref58_Missing.l3 k6 l0 l1 a2 a4 y284 x15_3 (wrap64 (x16_6 - 1)) l3_0 a3_1 a3_2) = some (r1, r2) := by first | (rw [hy284]; with_reducible exact H) | (have H2_ := (Option.bind_some _ _).symm.trans H; rw [hy284]; with_reducible exact H2_) | (have H2_ := (Option.bind_some _ _).symm.trans H; with_reducible exact H2_) | with_reducible exact H | (rw [hy284]; exact H) | exact H
                    have Ny284 := Aside0.mk hy284
                    clear hy284
                    have H' := Aside0.mk H
                    clear H
                    go_wp2_with (first | ((with_reducible refine gate_builtin (b := .append) (xs := #[.tmp 94, .tmp 96]) rfl ?_); at_builtin; refine Kd.R_append (Kd.int .i64) (w0 := w) w.heap.size rfl (.tmp 94) (.tmp 96) 39 3 (.int .i64 0) 8 rfl Tryd.underlying39 info3 rfl (by decide) (by omega) u14 x14_6 x15_3 [.int .i64 x15_3] (fun _ => True) (fun _ => False) rfl rfl ?aP (fun _ hk => hk.elim) ?aF ?aO ?aB ?aS ?aL ?_; (case aP => exact rfl); (case aB => exact (by repeat (first | (with_reducible first | exact HB.out | apply below_alloc | apply pw_below_drewN | apply below_drew1 | refine below_set ?_ GE276.out) | exact HB.out))); (case aF => exact (fun _ _ => trivial)); (case aO => exact (by (with_reducible repeat (first | apply Kd.R_alloc | apply Kd.R_drewN | apply Kd.R_drew)); exact HO_14.out)); (case aS => exact (below_size (by repeat (first | (with_reducible first | exact HB.out | apply below_alloc | apply pw_below_drewN | apply below_drew1 | refine below_set ?_ GE276.out) | exact HB.out)))); (case aL => have := LMc37.out; omega); intro v285 w38 ho hb hg hat; rw [← Ny284.out] at ho; have n0_ := Aside0.mk (blk_grown (g := gb276) (o := .cells #[.slice A3_0 l3_0.length c3_0, .int .i64 a3_1, .int .i64 a3_2] 41 (0, 0)) (by (with_reducible repeat (first | refine blk_drewN ?_ _ | refine blk_drew ?_ | refine blk_alloc ?_ _)); exact BK276.out) hg (Kd.R_ne HO_14.out BK276.out (by decide))); have n1_ := Aside0.mk (hb); have n2_ := Aside0.mk (ho); clear BK276; clear HB; clear HO_14; have BK276 := n0_; have HB := n1_; have HO286 := n2_; clear n0_ n1_ n2_; clear ho hb hg hat))
                    go_roundg k6
                    case measure => have := HJ6.out; have := HJ14.out; have := HK3.out; have := HK4.out; have := HK5.out; have := HK6.out; omega
                    case rel => exact ⟨(y284), (wrap64 (x16_6 - 1)), (by first | rfl | (simp; done) | (simp [*]; done)), H', ⟨by have := HJ6.out; have := HJ14.out; have := HK3.out; have := HK4.out; have := HK5.out; have := HK6.out; omega⟩, ⟨by (with_reducible repeat (first | apply Kd.R_alloc | apply Kd.R_drewN | apply Kd.R_drew)); exact HO286.out⟩, ⟨by (with_reducible repeat (first | refine blk_drewN ?_ _ | refine blk_drew ?_ | refine blk_alloc ?_ _)); exact BK276.out⟩, ⟨by repeat (first | (with_reducible first | exact HB.out | apply below_alloc | apply pw_below_drewN | apply below_drew1 | refine below_set ?_ GE276.out) | exact HB.out)⟩⟩
                   ·rw [if_neg c37] at H
                    exact absurd H (by simp)
                  ·rw [if_neg c36] at H
                   have c36b0 : decide (0 < x16_6) = false := decide_eq_false c36
                   clear c36
                   have H' := Aside0.mk H
                   clear H
                   go_wp2
                   go_roundg k6
                   case measure => have := HJ6.out; have := HJ14.out; have := HK3.out; have := HK4.out; have := HK5.out; have := HK6.out; omega
                   case rel => exact ⟨(x14_6), (wrap64 (x15_3 + 1)), (by first | rfl | (simp; done) | (simp [*]; done)), H', ⟨by have := HJ6.out; have := HJ14.out; have := HK3.out; have := HK4.out; have := HK5.out; have := HK6.out; omega⟩, ⟨by (with_reducible repeat (first | apply Kd.R_alloc | apply Kd.R_drewN | apply Kd.R_drew)); exact HO_14.out⟩, ⟨by (with_reducible repeat (first | refine blk_drewN ?_ _ | refine blk_drew ?_ | refine blk_alloc ?_ _)); exact BK276.out⟩, ⟨by repeat (first | (with_reducible first | exact HB.out | apply below_alloc | apply pw_below_drewN | apply below_drew1 | refine below_set ?_ GE276.out) | exact HB.out)⟩⟩
         ·rw [if_neg c19] at H
          have c19b0 : decide (x15_3 ≤ 9) = false := decide_eq_false c19
          clear c19
          simp only [Option.some.injEq, Prod.mk.injEq] at H
          obtain ⟨rfl, rfl⟩ := H
          go_wp2
          go_ret2
          exact ⟨_, by first | rfl | (simp [errW_none, errW_some] <;> rfl) | (simp [*, errW_none, errW_some] <;> rfl), by (with_reducible repeat (first | apply Kd.R_alloc | apply Kd.R_drewN | apply Kd.R_drew)); exact HO_14.out, by repeat (first | (with_reducible first | exact HB.out | apply below_alloc | apply pw_below_drewN | apply below_drew1 | refine below_set ?_ GE276.out) | exact HB.out)⟩
end Go.Proofs.YtbfimjncophcaaaDoor.Pr
namespace Go.Proofs.YtbfimjncophcaaaDoor.Pr
open Go.RowKit Go.Proofs.YtbfimjncophcaaaDoorW.PrintWords Go.Proofs.YtbfimjncophcaaaDoorW.PrintLast Go.Proofs.YtbfimjncophcaaaDoorW.PrintMore
attribute [local go_sem] max2_int min2_int max_two min_two max_three min_three max_four min_four
set_option linter.unusedVariables false
set_option linter.unusedSimpArgs false
def slices_Equal_int_int.l0 : Nat → List Int → List Int → Int → Int → Option (Bool)
 | 0, _, _, _, _ => none
 | k + 1, x0, x1, x12, x13 => if x13 < x12 then (if 0 ≤ x13 then (if x13 < (x0.length : Int) then (if x13 < (x1.length : Int) then (if (rd x0 x13) = (rd x1 x13) then (slices_Equal_int_int.l0 k x0 x1 x12 (wrap64 (x13 + 1))) else (some false)) else (none)) else (none)) else (none)) else (some true)
def slices_Equal_int_int.f (k : Nat) (l0 : List Int) (l1 : List Int) : Option (Bool) := if (l0.length : Int) = (l1.length : Int) then (slices_Equal_int_int.l0 k l0 l1 (l0.length : Int) 0) else (some false)
set_option maxHeartbeats 8000000 in
set_option maxRecDepth 100000 in
theorem slices_Equal_int_int.calls (k : Nat) (A0 : Option Addr) (c0 : Nat) (l0 : List Int) (A1 : Option Addr) (c1 : Nat) (l1 : List Int) (r : Bool) (w : World) (hr0 : Kd.C (Kd.int .i64) w A0 l0.length l0) (hc0 : l0.length ≤ c0) (hr1 : Kd.C (Kd.int .i64) w A1 l1.length l1) (hc1 : l1.length ≤ c1) (h : slices_Equal_int_int.f k l0 l1 = some r) :
  Calls Tryd.prog 21 #[.slice A0 l0.length c0, .slice A1 l1.length c1] w fun e w' => e = .returned (.bool r) ∧ Drawn0 w w' := by
 have HR0 := Aside0.mk hr0
 have HC0 := Aside0.mk hc0
 clear hr0 hc0
 have HR1 := Aside0.mk hr1
 have HC1 := Aside0.mk hc1
 clear hr1 hc1
 have H : (if (l0.length : Int) = (l1.length : Int) then (slices_Equal_int_int.l0 k l0 l1 (l0.length : Int) 0) else (some false)) = some r := h
 clear h
 by_cases c3 : (l0.length : Int) = (l1.length : Int)
 ·rw [if_pos c3] at H
  have c3b0 : ((l0.length : Int) == (l1.length : Int)) = true := beq_iff_eq.mpr c3
  have c3b1 : ((l0.length : Int) != (l1.length : Int)) = false := bne_eq_false_iff_eq.mpr c3
  have c3b2 : (l0.length == l1.length) = true := by first | simpa using c3 | (simp at c3 ⊢; omega)
  clear c3
  have H' := Aside0.mk H
  clear H
  go_enter Tryd.func21, Tryd.ntmps21
  go_wp2
  repeat (go_quiet (fail); try go_wp2)
  go_loopg [13] k (fun kq v13 w' => ∃ (x13_1 : Int), v13 = .int .i64 x13_1 ∧ Aside0 (slices_Equal_int_int.l0 kq l0 l1 (l0.length : Int) x13_1 = some r) ∧ Aside0 (kq ≤ k) ∧ Drawn0 w w')
  case atStart => exact ⟨(0), (by first | rfl | (simp; done) | (simp [*]; done)), H', ⟨Nat.le_refl _⟩, by repeat (first | exact Drawn0.refl _ | apply Drawn0.step)⟩
  case round =>
   clear H'
   try clear c1
   try clear c2
   try clear p2
   try clear c3
   try clear c3b0
   try clear c3b1
   try clear c3b2
   obtain ⟨x13_1, rfl, HA, HK1, ⟨m1, rfl⟩⟩ := hrel
   cases gk with
   | zero => exact absurd HA.out (by simp [slices_Equal_int_int.l0])
   | succ k1 =>
    have H := HA.out
    clear HA
    simp only [slices_Equal_int_int.l0] at H
    by_cases c4 : x13_1 < (l0.length : Int)
    ·rw [if_pos c4] at H
     have c4b0 : decide (x13_1 < (l0.length : Int)) = true := decide_eq_true c4
     clear c4
     by_cases c5 : 0 ≤ x13_1
     ·rw [if_pos c5] at H
      have c5b0 : decide (0 ≤ x13_1) = true := decide_eq_true c5
      clear c5
      by_cases c6 : x13_1 < (l0.length : Int)
      ·rw [if_pos c6] at H
       have c6b0 : decide (x13_1 < (l0.length : Int)) = true := decide_eq_true c6
       clear c6
       by_cases c7 : x13_1 < (l1.length : Int)
       ·rw [if_pos c7] at H
        have c7b0 : decide (x13_1 < (l1.length : Int)) = true := decide_eq_true c7
        clear c7
        by_cases c8 : (rd l0 x13_1) = (rd l1 x13_1)
        ·rw [if_pos c8] at H
         have c8b0 : ((rd l0 x13_1) == (rd l1 x13_1)) = true := beq_iff_eq.mpr c8
         have c8b1 : ((rd l0 x13_1) != (rd l1 x13_1)) = false := bne_eq_false_iff_eq.mpr c8
         clear c8
         have H' := Aside0.mk H
         clear H
         have p155 : 0 ≤ (x13_1 : Int) := of_decide_eq_true (by first | (with_reducible assumption) | assumption)
         have q155 : x13_1 < (l0.length : Int) := of_decide_eq_true (by first | (with_reducible assumption) | assumption)
         obtain ⟨ad155, e155, hx155_0⟩ := Kd.at_int HR0.out x13_1 p155 q155
         cases e155
         replace p155 := eq_true p155
         replace q155 := eq_true q155
         have p156 : 0 ≤ (x13_1 : Int) := of_decide_eq_true (by first | (with_reducible assumption) | assumption)
         have q156 : x13_1 < (l1.length : Int) := of_decide_eq_true (by first | (with_reducible assumption) | assumption)
         obtain ⟨ad156, e156, hx156_0⟩ := Kd.at_int HR1.out x13_1 p156 q156
         cases e156
         replace p156 := eq_true p156
         replace q156 := eq_true q156
         go_wp2
         repeat (go_quiet (fail); try go_wp2)
         go_roundg k1
         case measure => have := HK1.out; omega
         case rel => exact ⟨(wrap64 (x13_1 + 1)), (by first | rfl | (simp; done) | (simp [*]; done)), H', ⟨by have := HK1.out; omega⟩, by repeat (first | exact Drawn0.refl _ | apply Drawn0.step)⟩
        ·rw [if_neg c8] at H
         have c8b0 : ((rd l0 x13_1) == (rd l1 x13_1)) = false := beq_eq_false_iff_ne.mpr c8
         have c8b1 : ((rd l0 x13_1) != (rd l1 x13_1)) = true := bne_iff_ne.mpr c8
         obtain rfl := Option.some.inj H
         have p155 : 0 ≤ (x13_1 : Int) := of_decide_eq_true (by first | (with_reducible assumption) | assumption)
         have q155 : x13_1 < (l0.length : Int) := of_decide_eq_true (by first | (with_reducible assumption) | assumption)
         obtain ⟨ad155, e155, hx155_0⟩ := Kd.at_int HR0.out x13_1 p155 q155
         cases e155
         replace p155 := eq_true p155
         replace q155 := eq_true q155
         have p156 : 0 ≤ (x13_1 : Int) := of_decide_eq_true (by first | (with_reducible assumption) | assumption)
         have q156 : x13_1 < (l1.length : Int) := of_decide_eq_true (by first | (with_reducible assumption) | assumption)
         obtain ⟨ad156, e156, hx156_0⟩ := Kd.at_int HR1.out x13_1 p156 q156
         cases e156
         replace p156 := eq_true p156
         replace q156 := eq_true q156
         go_wp2
         repeat (go_quiet (fail); try go_wp2)
         go_ret
         exact ⟨by first | rfl | (simp; done) | (simp [*]; done), by repeat (first | exact Drawn0.refl _ | apply Drawn0.step)⟩
       ·rw [if_neg c7] at H
        exact absurd H (by simp)
      ·rw [if_neg c6] at H
       exact absurd H (by simp)
     ·rw [if_neg c5] at H
      exact absurd H (by simp)
    ·rw [if_neg c4] at H
     have c4b0 : decide (x13_1 < (l0.length : Int)) = false := decide_eq_false c4
     clear c4
     obtain rfl := Option.some.inj H
     go_wp2
     repeat (go_quiet (fail); try go_wp2)
     go_ret
     exact ⟨by first | rfl | (simp; done) | (simp [*]; done), by repeat (first | exact Drawn0.refl _ | apply Drawn0.step)⟩
 ·rw [if_neg c3] at H
  have c3b0 : ((l0.length : Int) == (l1.length : Int)) = false := beq_eq_false_iff_ne.mpr c3
  have c3b1 : ((l0.length : Int) != (l1.length : Int)) = true := bne_iff_ne.mpr c3
  have c3b2 : (l0.length == l1.length) = false := by first | simpa using c3 | (simp at c3 ⊢; omega)
  obtain rfl := Option.some.inj H
  go_enter Tryd.func21, Tryd.ntmps21
  go_wp2
  repeat (go_quiet (fail); try go_wp2)
  go_ret
  exact ⟨by first | rfl | (simp; done) | (simp [*]; done), by repeat (first | exact Drawn0.refl _ | apply Drawn0.step)⟩
end Go.Proofs.YtbfimjncophcaaaDoor.Pr
namespace Go.Proofs.YtbfimjncophcaaaDoor.Pr
set_option linter.unusedVariables false
set_option linter.unusedSimpArgs false
open Go.RowKit Go.Proofs.YtbfimjncophcaaaDoorW.PrintWords Go.Proofs.YtbfimjncophcaaaDoorW.PrintLast Go.Proofs.YtbfimjncophcaaaDoorW.PrintMore
set_option maxHeartbeats 1000000 in
theorem idxFunc75 (p : Int → Bool) (g : Nat) (lb : Array Value) (eg : ∀ args w, (callFunc g args).run Tryd.prog w = .ok (.enter g args) w) (A : Option Addr) (c : Nat) (xs : List Int) (w : World)
  (hr : Kd.C (Kd.int .i64) w A xs.length xs) (hp : PredB Tryd.prog g lb (fun x : Int => .int .i64 x) p w) :
  Calls Tryd.prog 75 #[.slice A xs.length c, .func (.func g) #[] lb] w fun e w' => e = .returned (.int .i64 (fidx p xs 0)) ∧ Below w.heap.size w w' := by
 have hmax := hr.2.1
 have HR := Aside0.mk hr
 have HP := Aside0.mk hp
 clear hr hp
 go_enter Tryd.func75, Tryd.ntmps75
 go_wp2
 go_loopg [5, 8] xs.length (fun gg _ s8 wr => ∃ kk : Nat, kk ≤ xs.length ∧ xs.length - kk ≤ gg ∧ s8 = .int .i64 kk ∧ Aside0 (Below w.heap.size w wr) ∧ Aside0 (∀ j z, j < kk → xs[j]? = some z → p z = false))
 case atStart => exact ⟨0, Nat.zero_le _, by omega, rfl, ⟨Below.refl _ w⟩, ⟨fun j z hj => absurd hj (Nat.not_lt_zero _)⟩⟩
 case round =>
  obtain ⟨kk, hkk, hg, rfl, BW, AF⟩ := hrel
  by_cases hlt : kk < xs.length
  ·have hltz : (kk : Int) < (xs.length : Int) := by omega
   obtain ⟨ad, e, h0⟩ := (Kd.reads_of_C (enc := Value.int .i64) (d := (0 : Int)) (h1 := fun _ => rfl) HR.out).at_ kk (by omega) hltz
   cases e
   replace h0 := (BW.out.cell (World.block_lt_of_cell? w _ h0)).trans h0
   simp only [Int.toNat_natCast] at h0
   have hcall := HP.out wr (rdOf 0 xs kk) BW.out
   have hget : xs[kk]? = some (rdOf 0 xs kk) := by
    show xs[kk]? = some (xs.getD (kk : Int).toNat 0)
    rw [List.getD_eq_getElem?_getD, Int.toNat_natCast, List.getElem?_eq_getElem hlt]
    rfl
   have HG := Aside0.mk hget
   clear hget
   generalize rdOf 0 xs (kk : Int) = y at h0 hcall HG
   cases hq : p y with
   | true =>
    have HQ := Aside0.mk hq
    rw [hq] at hcall
    clear hq
    go_wp2_with fail
    refine hcall.mono ?_
    clear hcall
    rintro e w' ⟨rfl, hb'⟩
    go_wp2_with fail
    go_ret
    refine ⟨?_, hb'⟩
    rw [fidx_hit p xs 0 kk _ HG.out HQ.out AF.out, Nat.zero_add]
    rfl
   | false =>
    have HQ := Aside0.mk hq
    rw [hq] at hcall
    clear hq
    go_wp2_with fail
    refine hcall.mono ?_
    clear hcall
    rintro e w' ⟨rfl, hb'⟩
    go_wp2_with fail
    go_roundg (xs.length - (kk + 1))
    case measure => omega
    case rel =>
     refine ⟨kk + 1, by omega, by omega, by go_num, ⟨hb'⟩, ⟨fun j z hj hz => ?_⟩⟩
     by_cases e : j = kk
     ·subst e
      rw [HG.out] at hz
      injection hz with hz
      rw [← hz]
      exact HQ.out
     ·exact AF.out j z (by omega) hz
  ·have hltz : ¬ (kk : Int) < (xs.length : Int) := by omega
   go_wp2
   go_ret
   refine ⟨?_, BW.out⟩
   have hf : fidx p xs 0 = -1 := fidx_miss p xs 0 (fun x hx => by
    obtain ⟨j, hj⟩ := List.getElem?_of_mem hx
    have hjl := (List.getElem?_eq_some_iff.1 hj).1
    exact AF.out j x (by omega) hj)
   rw [hf]
   rfl
theorem containsFunc64 (p : Int → Bool) (g : Nat) (lb : Array Value) (eg : ∀ args w, (callFunc g args).run Tryd.prog w = .ok (.enter g args) w) (A : Option Addr) (c : Nat) (xs : List Int) (w : World)
  (hr : Kd.C (Kd.int .i64) w A xs.length xs) (hp : PredB Tryd.prog g lb (fun x : Int => .int .i64 x) p w) :
  Calls Tryd.prog 64 #[.slice A xs.length c, .func (.func g) #[] lb] w fun e w' => e = .returned (.bool (xs.any p)) ∧ Below w.heap.size w w' := by
 have hcon := idxFunc75 p g lb eg A c xs w hr hp
 rw [fidx_any p xs 0]
 generalize fidx p xs 0 = q at hcon ⊢
 clear eg hr hp
 go_enter Tryd.func64, Tryd.ntmps64
 go_wp2_with fail
 refine hcon.mono ?_
 clear hcon
 rintro e w' ⟨rfl, hb'⟩
 go_wp2_with fail
 go_ret
 exact ⟨rfl, hb'⟩
theorem pred65 (w : World) : PredB Tryd.prog 65 #[] (fun x : Int => .int .i64 x) (fun x => decide (x < 1) || decide (9 < x)) w := fun W x hb => by
 show Calls Tryd.prog 65 #[.int .i64 x] W _
 go_enter Tryd.func65, Tryd.ntmps65
 go_wp2
 all_goals (go_ret; exact ⟨by simp_all <;> omega, hb⟩)
def roleBad (x : Int) : Bool := decide (x < 1) || decide (9 < x)
def tickB (n : Int) : Bool := decide (0 ≤ n) && decide (n ≤ 1073741824)
def validB (l : List Int) (a b : Int) : Bool := decide (1 ≤ l.length) && (decide (l.length ≤ 9) && (!(l.any roleBad) && (tickB a && tickB b)))
set_option maxHeartbeats 1000000 in
theorem valid43 (A0 : Option Addr) (c0 : Nat) (l0 : List Int) (a1 a2 : Int) (w : World) (hr0 : Kd.C (Kd.int .i64) w A0 l0.length l0) :
  Calls Tryd.prog 43 #[.agg #[.slice A0 l0.length c0, .int .i64 a1, .int .i64 a2]] w fun e w' => e = .returned (.bool (validB l0 a1 a2)) ∧ Below w.heap.size w w' := by
 have eg : ∀ args w, (callFunc 65 args).run Tryd.prog w = .ok (.enter 65 args) w := enters_of Tryd.func65 (by kernel_rfl) rfl
 have HA := Aside0.mk (fun W (hW : Below w.heap.size w W) => containsFunc64 (fun x => decide (x < 1) || decide (9 < x)) 65 #[] eg A0 c0 l0 W (Kd.C_below hr0 hW) (pred65 W))
 have hmax := hr0.2.1
 have HV := Aside0.mk (show validB l0 a1 a2 = (decide (1 ≤ l0.length) && (decide (l0.length ≤ 9) && (!(l0.any (fun x => decide (x < 1) || decide (9 < x))) && ((decide (0 ≤ a1) && decide (a1 ≤ 1073741824)) && (decide (0 ≤ a2) && decide (a2 ≤ 1073741824)))))) from rfl)
 generalize validB l0 a1 a2 = r at HV ⊢
 generalize l0.any (fun x => decide (x < 1) || decide (9 < x)) = bad at HA HV
 clear hr0 eg
 have HT := Aside0.mk tick44
 go_enter Tryd.func43, Tryd.ntmps43
 by_cases h1 : 1 ≤ l0.length
 case neg =>
  have h1z : ¬ (1 : Int) ≤ (l0.length : Int) := by omega
  go_wp2_with fail
  go_ret
  refine ⟨?_, below_alloc (Below.refl _ _) _⟩
  rw [HV.out]
  simp [h1]
 have h1z : (1 : Int) ≤ (l0.length : Int) := by omega
 by_cases h9 : l0.length ≤ 9
 case neg =>
  have h9z : ¬ (l0.length : Int) ≤ 9 := by omega
  go_wp2_with fail
  go_ret
  refine ⟨?_, below_alloc (Below.refl _ _) _⟩
  rw [HV.out]
  simp [h9]
 have h9z : (l0.length : Int) ≤ 9 := by omega
 go_wp2_with fail
 refine (HA.out _ (below_alloc (Below.refl _ _) _)).mono ?_
 rintro e w1 ⟨rfl, hb1⟩
 have HB := Aside0.mk (below_step (below_alloc (Below.refl w.heap.size w) (.cells #[.slice A0 l0.length c0, .int .i64 a1, .int .i64 a2] 41)) hb1)
 have k1 : w1.cell? ⟨w.heap.size, 1, none⟩ = some (.int .i64 a1) := (hb1.cell (p := ⟨w.heap.size, 1, none⟩) (by simp)).trans (by simp)
 have k2 : w1.cell? ⟨w.heap.size, 2, none⟩ = some (.int .i64 a2) := (hb1.cell (p := ⟨w.heap.size, 2, none⟩) (by simp)).trans (by simp)
 clear hb1 HA
 cases bad with
 | true =>
  go_wp2_with fail
  go_ret
  refine ⟨?_, HB.out⟩
  rw [HV.out]
  simp
 | false =>
  go_wp2_with fail
  refine (HT.out _ _).mono ?_
  rintro e w2 ⟨rfl, hw⟩
  subst hw
  cases ht : (decide (0 ≤ a1) && decide (a1 ≤ 1073741824)) with
  | false =>
   have HTT := Aside0.mk ht
   clear ht
   go_wp2_with fail
   go_ret
   refine ⟨?_, HB.out⟩
   rw [HV.out, HTT.out]
   simp
  | true =>
   have HTT := Aside0.mk ht
   clear ht
   go_wp2_with fail
   refine (HT.out _ _).mono ?_
   rintro e w2 ⟨rfl, hw⟩
   subst hw
   cases ht2 : (decide (0 ≤ a2) && decide (a2 ≤ 1073741824)) with
   | false =>
    have HT2 := Aside0.mk ht2
    clear ht2
    go_wp2_with fail
    go_ret
    refine ⟨?_, HB.out⟩
    rw [HV.out, HTT.out, HT2.out]
    simp
   | true =>
    have HT2 := Aside0.mk ht2
    clear ht2
    go_wp2_with fail
    go_ret
    refine ⟨?_, HB.out⟩
    rw [HV.out, HTT.out, HT2.out]
    simp [h1, h9]
end Go.Proofs.YtbfimjncophcaaaDoor.Pr
namespace Go.Proofs.YtbfimjncophcaaaDoor.Pr
set_option linter.unusedVariables false
set_option linter.unusedSimpArgs false
open Go.RowKit Go.Maps Go.Proofs.YtbfimjncophcaaaDoorW.PrintWords Go.Proofs.YtbfimjncophcaaaDoorW.PrintLast Go.Proofs.YtbfimjncophcaaaDoorW.PrintMore
theorem key3 : Keyed Tryd.prog 3 := int_keyed Tryd.underlying3
theorem zero3 (w : World) : (zeroValue 3).run Tryd.prog w = .ok (.int .i64 0) w := by kernel_rfl
def MapF (W : World) (b n : Nat) (f : Int → Int) : Prop :=
 ∃ D : DataW Unit, W.ownsMap Tryd.prog 3 (plainElem Tryd.prog 3) b n D ∧ ∀ k, (Lit.int .i64 k).wf = true → D.atKey (.int .i64 k) (.lit (.int .i64 0)) = .lit (.int .i64 (f k))
theorem MapF.same {W W1 : World} {b n : Nat} {f : Int → Int} (h : MapF W b n f) (hb : W1.heap[b]? = W.heap[b]?) : MapF W1 b n f := by
 obtain ⟨D, ⟨es, clock, h1, h2, h3, h4⟩, hD⟩ := h
 exact ⟨D, ⟨es, clock, hb.trans h1, h2, h3, h4⟩, hD⟩
theorem MapF.lt {W : World} {b n : Nat} {f : Int → Int} (h : MapF W b n f) : b < W.heap.size := by
 obtain ⟨D, ⟨es, clock, h1, _⟩, _⟩ := h
 exact blk_lt h1
theorem MapF.below {W W1 : World} {b n : Nat} {f : Int → Int} (h : MapF W b n f) (hb : Below W.heap.size W W1) : MapF W1 b n f := h.same (hb.block b h.lt)
theorem MapF.made (W : World) : MapF (W.alloc (.map #[] 0)) W.heap.size 0 (fun _ => 0) := ⟨_, World.ownsMap_made _ _ _ _, fun k hk => rfl⟩
theorem makeMap_event {W : World} {ops : Array Oper} {rest : List Oper} {o : Oper} {a : Act} {Q : Exit → Act → World → Prop} (hgd : o.guard = none) (ho : o.op = .makeMap 68 none)
  (h : ∀ g, g = W.heap.size → ∀ w1, MapF w1 g 0 (fun _ => 0) → Below W.heap.size W w1 → wpList Tryd.prog ops Q rest (a.put o.dst (.map (some g))) w1) : wpList Tryd.prog ops Q (o :: rest) a W := by
 refine Kd.event_run hgd (v := .map (some W.heap.size)) (w1 := W.alloc (.map #[] 0)) ?_ (h _ rfl _ (MapF.made W) (below_alloc (Below.refl _ _) _))
 rw [show execOp a.eval o = (Next.value <$> Instr.makeMap 68 none) from by simp [execOp, ho]]
 rfl
theorem MapF.grown {W W1 : World} {b n : Nat} {f : Int → Int} {row : Option Nat} (h : MapF W b n f) (hg : W.grownBy W1 row) (hne : some b ≠ row) : MapF W1 b n f := h.same (hg.block b h.lt hne)
theorem MapF.lookup {W : World} {ops : Array Oper} {rest : List Oper} {o : Oper} {a : Act} {Q : Exit → Act → World → Prop} {b n : Nat} {f : Int → Int} (h : MapF W b n f)
  (hg : o.guard = none) (m x : Operand) (hop : o.op = Op.lookup 68 m x false) (hm : a.eval m = .map (some b)) (k : Int) (hx : a.eval x = .int .i64 k) (hk : (Lit.int .i64 k).wf = true)
  (hK : (Lit.int .i64 (f k)).wf = true → wpList Tryd.prog ops Q rest (a.put o.dst (.int .i64 (f k))) W) : wpList Tryd.prog ops Q (o :: rest) a W := by
 obtain ⟨D, hown, hD⟩ := h
 refine wpList_lookup_own_int W hg m x 68 hop 3 3 .i64 key3 Tryd.underlying68 Tryd.underlying3 (zero3 _) b n D hm hown _ _ hx (keyOf_int_mk Tryd.underlying3 hk) ?_
 intro c hat hwc
 rw [hD k hk] at hat
 have e : f k = c := by injection hat with h1; injection h1
 rw [e] at hK
 exact hK hwc
theorem MapF.update {W : World} {ops : Array Oper} {rest : List Oper} {o : Oper} {a : Act} {Q : Exit → Act → World → Prop} {b n : Nat} {f : Int → Int} (h : MapF W b n f)
  (hg : o.guard = none) (m x v : Operand) (hop : o.op = Op.mapUpdate 68 m x v) (hm : a.eval m = .map (some b)) (hn : n < 1000000) (k y : Int) (hx : a.eval x = .int .i64 k) (hv : a.eval v = .int .i64 y)
  (hk : (Lit.int .i64 k).wf = true) (hy : (Lit.int .i64 y).wf = true)
  (hK : ∀ w', MapF w' b (n + 1) (fun j => if j = k then y else f j) → W.grownBy w' (some b) → wpList Tryd.prog ops Q rest (a.put o.dst undef) w') : wpList Tryd.prog ops Q (o :: rest) a W := by
 obtain ⟨D, hown, hD⟩ := h
 refine wpList_mapUpdate_own W hg m x v 68 hop 3 3 key3 Tryd.underlying68 _ b n D hm hown (by unfold maxLen; omega) _ _ _ hx hv (keyOf_int_mk Tryd.underlying3 hk) _ [] (plainElem_int Tryd.underlying3 hy) ?_
 intro w' hown' hgr
 refine hK w' ⟨_, hown', fun j hj => ?_⟩ hgr
 by_cases e : j = k
 ·subst e
  show _ = DataW.lit (.int .i64 (if j = j then y else f j))
  rw [if_pos rfl]
  exact Maps.atKey_put_same hown.isMap (show WideAt.IsKeyLit (.int .i64 j) from trivial) _ _
 ·show _ = DataW.lit (.int .i64 (if j = k then y else f j))
  rw [if_neg e, Maps.atKey_put_other (fun h => e (by injection h)) _ _]
  exact hD j hj
def countsB (subject : ByteArray) (window except at_ : Int) (id : Int) (x : S25) : Bool :=
 x.f0 == id && (x.f2.toList == subject.toList && (decide (x.f1 ≤ at_) && (decide (at_ - window ≤ x.f1) && !(id == except))))
theorem pred45 (subject : ByteArray) (A : Option Addr) (n c : Nat) (window except at_ : Int) (s0 s1 : Int) (s2 s3 : ByteArray) (S B0 : Nat) (w : World) (hS : S < w.heap.size) (hB : B0 + 2 < w.heap.size)
  (hw0 : 0 ≤ window) (hw1 : window ≤ 1073741824) (ha0 : 0 ≤ at_) (ha1 : at_ ≤ 1073741824)
  (hs : w.heap[S]? = some (.cells #[.int .i64 s0, .int .i64 s1, .string s2, .string s3] 33 (0, 0)))
  (h0 : w.heap[B0]? = some (.cells #[.string subject] 9 (0, 0))) (h1 : w.heap[B0 + 1]? = some (.cells #[.slice A n c, .int .i64 window, .int .i64 except] 41 (0, 0))) (h2 : w.heap[B0 + 2]? = some (.cells #[.int .i64 at_] 3 (0, 0))) :
  PredB Tryd.prog 45 #[.pointer (some ⟨S, 0, none⟩), .pointer (some ⟨B0, 0, none⟩), .pointer (some ⟨B0 + 2, 0, none⟩), .pointer (some ⟨B0 + 1, 0, none⟩)]
   (fun x : S25 => .agg #[.int .i64 x.f0, .int .i64 x.f1, .string x.f2, .string x.f3]) (countsB subject window except at_ s0) w := fun W x hb => by
 have c0 : W.cell? ⟨S, 0, none⟩ = some (.int .i64 s0) := (hb.cell (p := ⟨S, 0, none⟩) hS).trans (blk_cell hs 0)
 have c1 : W.cell? ⟨B0, 0, none⟩ = some (.string subject) := (hb.cell (p := ⟨B0, 0, none⟩) (by show B0 < _; omega)).trans (blk_cell h0 0)
 have c2 : W.cell? ⟨B0 + 2, 0, none⟩ = some (.int .i64 at_) := (hb.cell (p := ⟨B0 + 2, 0, none⟩) (by show B0 + 2 < _; omega)).trans (blk_cell h2 0)
 have c3 : W.cell? ⟨B0 + 1, 1, none⟩ = some (.int .i64 window) := (hb.cell (p := ⟨B0 + 1, 1, none⟩) (by show B0 + 1 < _; omega)).trans (blk_cell h1 1)
 have c4 : W.cell? ⟨B0 + 1, 2, none⟩ = some (.int .i64 except) := (hb.cell (p := ⟨B0 + 1, 2, none⟩) (by show B0 + 1 < _; omega)).trans (blk_cell h1 2)
 have hBW : B0 + 2 < W.heap.size := Nat.lt_of_lt_of_le hB hb.size
 have hSW : S < W.heap.size := Nat.lt_of_lt_of_le hS hb.size
 have n0 : S ≠ W.heap.size := by omega
 have n1 : B0 ≠ W.heap.size := by omega
 have n2 : B0 + 1 ≠ W.heap.size := by omega
 have n3 : B0 + 2 ≠ W.heap.size := by omega
 have HB := Aside0.mk hb
 clear hs h0 h1 h2 hb
 show Calls Tryd.prog 45 #[.agg #[.int .i64 x.f0, .int .i64 x.f1, .string x.f2, .string x.f3], .pointer (some ⟨S, 0, none⟩), .pointer (some ⟨B0, 0, none⟩), .pointer (some ⟨B0 + 2, 0, none⟩), .pointer (some ⟨B0 + 1, 0, none⟩)] W _
 go_enter Tryd.func45, Tryd.ntmps45
 go_wp2_with ((with_reducible refine gate_dst (N := 5) rfl ?_); refine box_event rfl (N := 5) rfl (cs := #[.int .i64 x.f0, .int .i64 x.f1, .string x.f2, .string x.f3]) (t := 25) (by first | (go_simp; done) | (go_simp; rfl)) ?_; intro g5 hg5 w5 hb5 hB5; replace c0 := (hB5.cell (p := ⟨S, 0, none⟩) hSW).trans c0; replace c1 := (hB5.cell (p := ⟨B0, 0, none⟩) (by show B0 < _; omega)).trans c1; replace c2 := (hB5.cell (p := ⟨B0 + 2, 0, none⟩) (by show B0 + 2 < _; omega)).trans c2; replace c3 := (hB5.cell (p := ⟨B0 + 1, 1, none⟩) (by show B0 + 1 < _; omega)).trans c3; replace c4 := (hB5.cell (p := ⟨B0 + 1, 2, none⟩) (by show B0 + 1 < _; omega)).trans c4; have c5 := (blk_cell hb5 0).trans (show _ = some (Value.int .i64 x.f0) from rfl); have c6 := (blk_cell hb5 1).trans (show _ = some (Value.int .i64 x.f1) from rfl); have c7 := (blk_cell hb5 2).trans (show _ = some (Value.string x.f2) from rfl); have c8 := (blk_cell hb5 3).trans (show _ = some (Value.string x.f3) from rfl); have HB5 := Aside0.mk (below_step HB.out hB5); clear hg5 hb5 hB5 hS hB hBW hSW n0 n1 n2 n3)
 all_goals (go_ret; refine ⟨?_, HB5.out⟩; clear c0 c1 c2 c3 c4 c5 c6 c7 c8; unfold countsB; first | (simp_all; done) | (simp_all [bne]; done) | (simp_all [bne]; omega) | (simp_all [bne]; intros; omega))
end Go.Proofs.YtbfimjncophcaaaDoor.Pr
