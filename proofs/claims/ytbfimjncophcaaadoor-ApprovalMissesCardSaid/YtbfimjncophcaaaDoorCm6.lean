/- Part 6 of 7: garboardlaw58.ApprovalMisses (Missing returns the missing roles, or the specified error, and Granted reports whether there are none, for any lists, subject, need and tick; at most 17 signers, 12 approvals, 12 roles) answers true for every input, and each argument reads behind the call as before. The library's table of powers of ten is tied to the program's text by the card. -/
import Derived.Deep.RegionHeld3
import Derived.Test.YtbfimjncophcaaaDoorCm5
namespace Go.Proofs.YtbfimjncophcaaaDoor.Pr
set_option linter.unusedVariables false
set_option linter.unusedSimpArgs false
open Go.RowKit Go.Maps Go.Proofs.YtbfimjncophcaaaDoorW.PrintWords Go.Proofs.YtbfimjncophcaaaDoorW.PrintLast Go.Proofs.YtbfimjncophcaaaDoorW.PrintMore
attribute [local go_sem] max2_int
def needOf (roles : List Int) (r : Int) : Int := (roles.count r : Nat)
def haveOf (l0 : List S33) (l1 : List S25) (subject : ByteArray) (window except at_ : Int) (r : Int) : Int := ((l0.filter fun s => l1.any (countsB subject window except at_ s.f0) && s.f1 == r).length : Nat)
def missOut (f : Int → Int) (n : Nat) : List Int := (List.range n).flatMap fun j => List.replicate (f ((j + 1 : Nat) : Int)).toNat ((j + 1 : Nat) : Int)
def missF (l0 : List S33) (l1 : List S25) (a2 : ByteArray) (l3 : List Int) (a31 a32 a4 : Int) (r : Int) : Int := needOf l3 r - haveOf l0 l1 a2 a31 a32 a4 r
def missR (e : Int) (l0 : List S33) (l1 : List S25) (a2 : ByteArray) (l3 : List Int) (a31 a32 a4 : Int) : List Int × Int :=
 if e = 0 ∧ validB l3 a31 a32 = true then (if a2.size = 32 ∧ tickB a4 = true then (missOut (missF l0 l1 a2 l3 a31 a32 a4) 9, 0) else ([], 2)) else ([], 1)
def rolesOk (l0 : List S33) : Bool := l0.all fun s => decide (1 ≤ s.f1) && decide (s.f1 ≤ 9)
def approval_Missing.f (l0 : List S33) (l1 : List S25) (a2 : ByteArray) (l3 : List Int) (a31 a32 a4 : Int) : Option (List Int × Int) :=
 (approval_Check.f (l1.length + 2) l0 l1).bind fun t => if t.2 = 0 then (if l0.length ≤ 1000 ∧ rolesOk l0 = true then some (missR t.2 l0 l1 a2 l3 a31 a32 a4) else none) else some ([], 1)
theorem needOf_step (l : List Int) (k : Nat) (x : Int) (h : l[k]? = some x) : (fun j => if j = x then needOf (l.take k) x + 1 else needOf (l.take k) j) = needOf (l.take (k + 1)) := by
 funext j
 have hk : l.take (k + 1) = l.take k ++ [x] := by
  rw [List.take_add_one, h]; rfl
 unfold needOf
 rw [hk, List.count_append]
 by_cases e : j = x
 ·subst e; simp
 ·rw [if_neg e]
  have : List.count j [x] = 0 := List.count_eq_zero.2 (by simpa using e)
  simp [this]
theorem needOf_bounds (l : List Int) (j : Int) : 0 ≤ needOf l j ∧ needOf l j ≤ l.length := by
 unfold needOf
 have := List.count_le_length (a := j) (l := l)
 omega
theorem have_step (l0 : List S33) (l1 : List S25) (subject : ByteArray) (window except at_ : Int) (k : Nat) (s : S33) (c : Int → Int) (h : l0[k]? = some s) :
  (l1.any (countsB subject window except at_ s.f0) = true → (fun j => if j = s.f1 then (c s.f1 - haveOf (l0.take k) l1 subject window except at_ s.f1) - 1 else c j - haveOf (l0.take k) l1 subject window except at_ j) = fun j => c j - haveOf (l0.take (k + 1)) l1 subject window except at_ j) ∧
  (l1.any (countsB subject window except at_ s.f0) = false → haveOf (l0.take (k + 1)) l1 subject window except at_ = haveOf (l0.take k) l1 subject window except at_) := by
 have hk : l0.take (k + 1) = l0.take k ++ [s] := by
  rw [List.take_add_one, h]; rfl
 constructor
 ·intro ha
  funext j
  unfold haveOf
  rw [hk, List.filter_append, List.length_append]
  by_cases e : j = s.f1
  ·subst e
   rw [if_pos rfl]
   simp [ha]
   omega
  ·rw [if_neg e]
   have h2 : (s.f1 == j) = false := by simpa using fun h => e h.symm
   simp [ha, h2]
 ·intro ha
  funext j
  unfold haveOf
  rw [hk, List.filter_append, List.length_append]
  simp [ha]
theorem have_bounds (l0 : List S33) (l1 : List S25) (subject : ByteArray) (window except at_ : Int) (j : Int) : 0 ≤ haveOf l0 l1 subject window except at_ j ∧ haveOf l0 l1 subject window except at_ j ≤ l0.length := by
 unfold haveOf
 have := List.length_filter_le (fun s : S33 => l1.any (countsB subject window except at_ s.f0) && s.f1 == j) l0
 omega
theorem valid_len {l : List Int} {a b : Int} (h : validB l a b = true) : l.length ≤ 9 := by
 unfold validB at h
 simp only [Bool.and_eq_true, decide_eq_true_eq] at h
 exact h.2.1
theorem valid_role {l : List Int} {a b : Int} (h : validB l a b = true) {k : Nat} {x : Int} (hk : l[k]? = some x) : 1 ≤ x ∧ x ≤ 9 := by
 unfold validB at h
 simp only [Bool.and_eq_true, Bool.not_eq_true', List.any_eq_false] at h
 have h2 := h.2.2.1 x (List.mem_of_getElem? hk)
 unfold roleBad at h2
 simp at h2
 omega
theorem valid_window {l : List Int} {a b : Int} (h : validB l a b = true) : 0 ≤ a ∧ a ≤ 1073741824 := by
 unfold validB tickB at h
 simp only [Bool.and_eq_true, decide_eq_true_eq] at h
 exact h.2.2.2.1
theorem tick_of {a : Int} (h : (decide (0 ≤ a) && decide (a ≤ 1073741824)) = true) : 0 ≤ a ∧ a ≤ 1073741824 := by
 simpa only [Bool.and_eq_true, decide_eq_true_eq] using h
theorem roles_at {l0 : List S33} (h : rolesOk l0 = true) {k : Nat} {s : S33} (hk : l0[k]? = some s) : 1 ≤ s.f1 ∧ s.f1 ≤ 9 := by
 unfold rolesOk at h
 rw [List.all_eq_true] at h
 have h2 := h s (List.mem_of_getElem? hk)
 simpa using h2
theorem MapF.more {W : World} {b n : Nat} {f : Int → Int} (h : MapF W b n f) : MapF W b (n + 1) f := by
 obtain ⟨D, ⟨es, clock, h1, h2, h3, h4⟩, hD⟩ := h
 exact ⟨D, ⟨es, clock, h1, h2, by omega, h4⟩, hD⟩
theorem MapF.up {W : World} {b n m : Nat} {f : Int → Int} (h : MapF W b n f) (hm : n ≤ m) : MapF W b m f := by
 obtain ⟨D, ⟨es, clock, h1, h2, h3, h4⟩, hD⟩ := h
 exact ⟨D, ⟨es, clock, h1, h2, by omega, h4⟩, hD⟩
theorem missOut_step (F : Int → Int) (j : Nat) (z : Int) (hz : z = (j : Int) + 1) : missOut F j ++ List.replicate (F z).toNat z = missOut F (j + 1) := by
 subst hz
 unfold missOut
 rw [List.range_succ, List.flatMap_append]
 simp
theorem missOut_len (F : Int → Int) (hF : ∀ r, F r ≤ 9) (j : Nat) : (missOut F j).length ≤ 9 * j := by
 induction j with
 | zero => simp [missOut]
 | succ j ih =>
  rw [← missOut_step F j _ rfl, List.length_append, List.length_replicate]
  have := hF ((j : Int) + 1)
  omega
theorem wf_of (x : Int) (h0 : -9223372036854775808 ≤ x) (h1 : x ≤ 9223372036854775807) : (Lit.int .i64 x).wf = true := by
 show (decide (IntKind.i64.min ≤ x) && decide (x ≤ IntKind.i64.max)) = true
 rw [Bool.and_eq_true, decide_eq_true_eq, decide_eq_true_eq]
 exact ⟨h0, h1⟩
set_option maxHeartbeats 4000000 in
set_option maxRecDepth 100000 in
theorem approval_Missing.calls (A0 : Option Addr) (c0 : Nat) (l0 : List S33) (A1 : Option Addr) (c1 : Nat) (l1 : List S25) (a2 : ByteArray) (A3 : Option Addr) (c3 : Nat) (l3 : List Int) (a31 a32 a4 : Int) (r1 : List Int) (r2 : Int) (w : World)
  (hr0 : Kd.C k33 w A0 l0.length l0) (hc0 : l0.length ≤ c0) (hr1 : Kd.C k25 w A1 l1.length l1) (hc1 : l1.length ≤ c1) (hr3 : Kd.C (Kd.int .i64) w A3 l3.length l3) (hc3 : l3.length ≤ c3) (hL : LaidW w)
  (h : approval_Missing.f l0 l1 a2 l3 a31 a32 a4 = some (r1, r2)) :
  Calls Tryd.prog 19 #[.slice A0 l0.length c0, .slice A1 l1.length c1, .string a2, .agg #[.slice A3 l3.length c3, .int .i64 a31, .int .i64 a32], .int .i64 a4] w
   fun e w' => ∃ v0_ : Value, e = .returned (.tuple #[v0_, .int .i64 r2]) ∧ Kd.R (Kd.int .i64) 3 w' w.heap.size (fun _ => True) v0_ r1 ∧ Below w.heap.size w w' := by
 unfold approval_Missing.f at h
 cases hck : approval_Check.f (l1.length + 2) l0 l1 with
 | none => rw [hck] at h; simp at h
 | some t =>
 obtain ⟨t1, t2⟩ := t
 rw [hck] at h
 simp only [Option.bind_some] at h
 have HCK := Aside0.mk (fun W (hW : Below w.heap.size w W) => approval_Check.calls (l1.length + 2) A0 c0 l0 A1 c1 l1 t1 t2 W (Kd.C_below hr0 hW) hc0 (Kd.C_below hr1 hW) hc1 (hL.below hW) hck)
 have HV43 := Aside0.mk (fun W (hW : Below w.heap.size w W) => valid43 A3 c3 l3 a31 a32 W (Kd.C_below hr3 hW))
 have HT44 := Aside0.mk tick44
 have HR0 := Aside0.mk hr0
 have HR1 := Aside0.mk hr1
 have HR3 := Aside0.mk hr3
 have hm0 := hr0.2.1
 have hm1 := hr1.2.1
 have hm3 := hr3.2.1
 have eg45 : ∀ args w, (callFunc 45 args).run Tryd.prog w = .ok (.enter 45 args) w := enters_of Tryd.func45 (by kernel_rfl) rfl
 clear hr0 hr1 hr3 hL hck hc0 hc1 hc3
 have HH := Aside0.mk h
 clear h
 go_enter Tryd.func19, Tryd.ntmps19
 go_wp2_with fail
 have hB3 : Below w.heap.size w (((w.alloc (.cells #[.string a2] 9)).alloc (.cells #[.slice A3 l3.length c3, .int .i64 a31, .int .i64 a32] 41)).alloc (.cells #[.int .i64 a4] 3)) := below_alloc (below_alloc (below_alloc (Below.refl _ _) _) _) _
 refine (HCK.out _ hB3).mono ?_
 rintro e w1 ⟨rfl, hb1⟩
 have M7 := Aside0.mk (blk_below (blk_alloc (blk_alloc (blk_new w (.cells #[.string a2] 9)) (.cells #[.slice A3 l3.length c3, .int .i64 a31, .int .i64 a32] 41)) (.cells #[.int .i64 a4] 3)) hb1)
 have M8 := Aside0.mk (show w1.heap[w.heap.size + 1]? = some (.cells #[.slice A3 l3.length c3, .int .i64 a31, .int .i64 a32] 41 (0, 0)) from by
  have h0 := blk_new (w.alloc (.cells #[.string a2] 9)) (.cells #[.slice A3 l3.length c3, .int .i64 a31, .int .i64 a32] 41)
  rw [show (w.alloc (.cells #[.string a2] 9)).heap.size = w.heap.size + 1 from by simp] at h0
  exact blk_below (blk_alloc h0 _) hb1)
 have M9 := Aside0.mk (show w1.heap[w.heap.size + 2]? = some (.cells #[.int .i64 a4] 3 (0, 0)) from by
  have h0 := blk_new ((w.alloc (.cells #[.string a2] 9)).alloc (.cells #[.slice A3 l3.length c3, .int .i64 a31, .int .i64 a32] 41)) (.cells #[.int .i64 a4] 3)
  rw [show ((w.alloc (.cells #[.string a2] 9)).alloc (.cells #[.slice A3 l3.length c3, .int .i64 a31, .int .i64 a32] 41)).heap.size = w.heap.size + 2 from by simp] at h0
  exact blk_below h0 hb1)
 have HB := Aside0.mk (below_step hB3 hb1)
 clear hB3 hb1 HCK
 by_cases ht2 : t2 = 0
 case neg =>
  go_wp2_with fail
  go_ret2
  have h := HH.out
  rw [if_neg ht2] at h
  injection h with h
  injection h with h1 h2
  subst h1 h2
  exact ⟨_, rfl, Kd.R_nil _ _ _ _ _, HB.out⟩
 subst ht2
 have hh := HH.out
 rw [if_pos rfl] at hh
 clear HH
 by_cases hg : l0.length ≤ 1000 ∧ rolesOk l0 = true
 case neg => rw [if_neg hg] at hh; cases hh
 rw [if_pos hg] at hh
 injection hh with hh
 have HH := Aside0.mk hh
 have hl0 := hg.1
 have HRO := Aside0.mk hg.2
 clear hh hg
 have k0 : w1.cell? ⟨w.heap.size + 1, 0, none⟩ = some (.slice A3 l3.length c3) := blk_cell M8.out 0
 have k1 : w1.cell? ⟨w.heap.size + 1, 1, none⟩ = some (.int .i64 a31) := blk_cell M8.out 1
 have k2 : w1.cell? ⟨w.heap.size + 1, 2, none⟩ = some (.int .i64 a32) := blk_cell M8.out 2
 go_wp2_with fail
 refine (HV43.out _ HB.out).mono ?_
 rintro e w2 ⟨rfl, hb2⟩
 replace M7 := Aside0.mk (blk_below M7.out hb2)
 replace M8 := Aside0.mk (blk_below M8.out hb2)
 replace M9 := Aside0.mk (blk_below M9.out hb2)
 replace HB := Aside0.mk (below_step HB.out hb2)
 clear hb2 HV43 k0 k1 k2
 cases hv : validB l3 a31 a32 with
 | false =>
  have HV := Aside0.mk hv
  clear hv
  go_wp2_with fail
  go_ret2
  have h := HH.out
  unfold missR at h
  rw [if_neg (by rw [HV.out]; simp)] at h
  injection h with h1 h2
  subst h1 h2
  exact ⟨_, rfl, Kd.R_nil _ _ _ _ _, HB.out⟩
 | true =>
  have HV := Aside0.mk hv
  clear hv
  have k0 : w2.cell? ⟨w.heap.size, 0, none⟩ = some (.string a2) := blk_cell M7.out 0
  have k1 : w2.cell? ⟨w.heap.size + 2, 0, none⟩ = some (.int .i64 a4) := blk_cell M9.out 0
  by_cases h32 : a2.size = 32
  case neg =>
   have h32z : ¬ (a2.size : Int) = 32 := by omega
   go_wp2_with fail
   go_ret2
   have h := HH.out
   unfold missR at h
   rw [if_pos ⟨rfl, HV.out⟩, if_neg (fun hx => h32 hx.1)] at h
   injection h with h1 h2
   subst h1 h2
   exact ⟨_, rfl, Kd.R_nil _ _ _ _ _, HB.out⟩
  have h32z : (a2.size : Int) = 32 := by omega
  go_wp2_with fail
  refine (HT44.out _ _).mono ?_
  rintro e w3 ⟨rfl, hw⟩
  subst hw
  clear k0 k1
  cases ht : (decide (0 ≤ a4) && decide (a4 ≤ 1073741824)) with
  | false =>
   have HTT := Aside0.mk ht
   clear ht
   go_wp2_with fail
   go_ret2
   have h := HH.out
   unfold missR at h
   rw [if_pos ⟨rfl, HV.out⟩, if_neg (fun hx => by have h5 := hx.2; unfold tickB at h5; rw [HTT.out] at h5; cases h5)] at h
   injection h with h1 h2
   subst h1 h2
   exact ⟨_, rfl, Kd.R_nil _ _ _ _ _, HB.out⟩
  | true =>
   have HTT := Aside0.mk ht
   clear ht
   go_wp2_with (first | ((with_reducible refine gate_dst (N := 43) rfl ?_); refine makeMap_event rfl rfl ?_; intro Mb hMb w5 hM5 hB5; replace M7 := Aside0.mk (blk_below M7.out hB5); have hMlt : w.heap.size + 2 < Mb := (by rw [hMb]; exact blk_lt M9.out); replace M8 := Aside0.mk (blk_below M8.out hB5); replace M9 := Aside0.mk (blk_below M9.out hB5); replace HB := Aside0.mk (below_step HB.out hB5); have HM := Aside0.mk hM5; have k0 : w5.cell? ⟨w.heap.size + 1, 0, none⟩ = some (.slice A3 l3.length c3) := blk_cell M8.out 0; clear hMb hM5 hB5))
   clear k0
   go_loopg [16, 47] l3.length (fun gg s16 s47 wr => ∃ kk : Nat, kk ≤ l3.length ∧ l3.length - kk ≤ gg ∧ s47 = .int .i64 kk ∧ Aside0 (MapF wr Mb kk (needOf (l3.take kk))) ∧ Aside0 (wr.heap[w.heap.size]? = some (.cells #[.string a2] 9 (0, 0))) ∧ Aside0 (wr.heap[w.heap.size + 1]? = some (.cells #[.slice A3 l3.length c3, .int .i64 a31, .int .i64 a32] 41 (0, 0))) ∧ Aside0 (wr.heap[w.heap.size + 2]? = some (.cells #[.int .i64 a4] 3 (0, 0))) ∧ Aside0 (Below w.heap.size w wr))
   case atStart => exact ⟨0, Nat.zero_le _, by omega, rfl, ⟨by rw [show needOf (l3.take 0) = fun _ => 0 from by funext j; simp [needOf]]; exact HM.out⟩, M7, M8, M9, HB⟩
   case round =>
    clear HM M7 M8 M9 HB
    obtain ⟨kk, hkk, hg, rfl, HM, M7, M8, M9, HB⟩ := hrel
    have h9 := valid_len HV.out
    by_cases hlt : kk < l3.length
    ·have hltz : (kk : Int) < (l3.length : Int) := by omega
     obtain ⟨ad, e, h0⟩ := (Kd.reads_of_C (enc := Value.int .i64) (d := (0 : Int)) (h1 := fun _ => rfl) (Kd.C_below HR3.out HB.out)).at_ kk (by omega) hltz
     cases e
     simp only [Int.toNat_natCast] at h0
     have hget : l3[kk]? = some (rdOf 0 l3 kk) := by
      show l3[kk]? = some (l3.getD (kk : Int).toNat 0)
      rw [List.getD_eq_getElem?_getD, Int.toNat_natCast, List.getElem?_eq_getElem hlt]
      rfl
     have hro := valid_role HV.out hget
     have HG := Aside0.mk hget
     clear hget
     generalize rdOf 0 l3 (kk : Int) = x at h0 HG hro
     have hx0 := hro.1
     have hx1 := hro.2
     have hn0 := (needOf_bounds (l3.take kk) x).1
     have hn1 : needOf (l3.take kk) x ≤ 9 := by have := (needOf_bounds (l3.take kk) x).2; rw [List.length_take] at this; omega
     clear hro
     go_wp2_with (first
      | (at_lookup; refine MapF.lookup HM.out rfl _ _ rfl rfl x rfl (wf_of x (by omega) (by omega)) ?_; intro hwf)
      | (at_mapUpdate; refine MapF.update HM.out rfl _ _ _ rfl rfl (by omega) x (needOf (l3.take kk) x + 1) rfl rfl (wf_of x (by omega) (by omega)) (wf_of _ (by omega) (by omega)) ?_; intro w6 hM6 hG6))
     go_roundg (l3.length - (kk + 1))
     case measure => omega
     case rel =>
      exact ⟨kk + 1, by omega, by omega, by go_num, ⟨by have h7 := hM6; rw [needOf_step l3 kk x HG.out] at h7; exact h7⟩, ⟨blk_grown M7.out hG6 (fun h => by injection h with h; omega)⟩, ⟨blk_grown M8.out hG6 (fun h => by injection h with h; omega)⟩, ⟨blk_grown M9.out hG6 (fun h => by injection h with h; omega)⟩, ⟨pw_below_grown HB.out _ HB.out.size hG6 (fun k hk => by injection hk with hk; omega)⟩⟩
    ·obtain rfl : kk = l3.length := by omega
     rw [List.take_length] at HM
     have hltz : ¬ (l3.length : Int) < (l3.length : Int) := by omega
     have HM0 : Aside0 (MapF wr Mb (9 + 0) (fun r => needOf l3 r - haveOf (l0.take 0) l1 a2 a31 a32 a4 r)) := ⟨by
      have h7 := HM.out.up (m := 9 + 0) (by omega)
      have e : (fun r => needOf l3 r - haveOf (l0.take 0) l1 a2 a31 a32 a4 r) = needOf l3 := by funext j; simp [haveOf]
      rw [e]
      exact h7⟩
     go_wp2_with fail
     clear HM
     go_loopg [18, 19, 58] l0.length (fun gg s18 s19 s58 wr => ∃ kk : Nat, kk ≤ l0.length ∧ l0.length - kk ≤ gg ∧ s58 = .int .i64 kk ∧ Aside0 (MapF wr Mb (9 + kk) (fun r => needOf l3 r - haveOf (l0.take kk) l1 a2 a31 a32 a4 r)) ∧ Aside0 (wr.heap[w.heap.size]? = some (.cells #[.string a2] 9 (0, 0))) ∧ Aside0 (wr.heap[w.heap.size + 1]? = some (.cells #[.slice A3 l3.length c3, .int .i64 a31, .int .i64 a32] 41 (0, 0))) ∧ Aside0 (wr.heap[w.heap.size + 2]? = some (.cells #[.int .i64 a4] 3 (0, 0))) ∧ Aside0 (Below w.heap.size w wr))
     case atStart => exact ⟨0, Nat.zero_le _, by omega, rfl, HM0, M7, M8, M9, HB⟩
     case round =>
      clear HM0 M7 M8 M9 HB
      obtain ⟨kk, hkk, hg, rfl, HM, M7, M8, M9, HB⟩ := hrel
      by_cases hlt : kk < l0.length
      ·have hltz : (kk : Int) < (l0.length : Int) := by omega
       obtain ⟨ad, e, h0, h1, h2, h3⟩ := at_T33 (Kd.C_below HR0.out HB.out) kk (by omega) hltz
       cases e
       simp only [Int.toNat_natCast] at h0 h1 h2 h3
       have hget : l0[kk]? = some (rd_T33 l0 kk) := by
        unfold rd_T33
        rw [List.getD_eq_getElem?_getD, Int.toNat_natCast, List.getElem?_eq_getElem hlt]
        rfl
       have hro := roles_at HRO.out hget
       have HG := Aside0.mk hget
       clear hget
       generalize rd_T33 l0 (kk : Int) = s at h0 h1 h2 h3 HG hro
       obtain ⟨s0, s1, s2, s3⟩ := s
       simp only at h0 h1 h2 h3 hro
       have hx0 := hro.1
       have hx1 := hro.2
       clear hro
       go_wp2_with (first
        | ((with_reducible refine gate_dst (N := 18) rfl ?_); refine box_event rfl (N := 18) rfl (cs := #[.int .i64 0, .int .i64 0, .string ⟨#[]⟩, .string ⟨#[]⟩]) (t := 33) (by first | (go_simp; done) | (go_simp; rfl)) ?_; intro S hS w5 hb5 hB5; have hSlt : wr.heap.size ≤ S := (by rw [hS]; exact Nat.le_refl _); clear hS)
        | ((with_reducible refine gate_store (t := 33) (p := 18) (v := .tmp 61) rfl ?_); refine store_event rfl 33 (.tmp 18) (.tmp 61) rfl rfl S #[.int .i64 s0, .int .i64 s1, .string s2, .string s3] rfl rfl 33 _ hb5 (by kernel_rfl) (by rfl) (by simp [Value.oneCell']) ?_; intro w6 hb6 hG6))
       have hBl : Below wr.heap.size wr w6 := pw_below_grown hB5 _ hB5.size hG6 (fun k hk => by injection hk with hk; omega)
       have HS := Aside0.mk hb6
       have hMlt2 := HM.out.lt
       replace HM := Aside0.mk (HM.out.below hBl)
       replace M7 := Aside0.mk (blk_below M7.out hBl)
       replace M8 := Aside0.mk (blk_below M8.out hBl)
       replace M9 := Aside0.mk (blk_below M9.out hBl)
       replace HB := Aside0.mk (below_step HB.out hBl)
       have hSM : S ≠ Mb := by omega
       clear hb5 hB5 hG6 hb6 hBl h0 h1 h2 h3
       have htk := tick_of HTT.out
       have hwi := valid_window HV.out
       refine (containsFunc46 (countsB a2 a31 a32 a4 s0) 45 #[.pointer (some ⟨S, 0, none⟩), .pointer (some ⟨w.heap.size, 0, none⟩), .pointer (some ⟨w.heap.size + 2, 0, none⟩), .pointer (some ⟨w.heap.size + 1, 0, none⟩)] eg45 A1 c1 l1 w6 (Kd.C_below HR1.out HB.out) (pred45 a2 A3 l3.length c3 a31 a32 a4 s0 s1 s2 s3 S w.heap.size w6 (blk_lt HS.out) (blk_lt M9.out) hwi.1 hwi.2 htk.1 htk.2 HS.out M7.out M8.out M9.out)).mono ?_
       rintro e w7 ⟨rfl, hb7⟩
       replace HM := Aside0.mk (HM.out.below hb7)
       replace M7 := Aside0.mk (blk_below M7.out hb7)
       replace M8 := Aside0.mk (blk_below M8.out hb7)
       replace M9 := Aside0.mk (blk_below M9.out hb7)
       replace HB := Aside0.mk (below_step HB.out hb7)
       replace HS := Aside0.mk (blk_below HS.out hb7)
       clear hb7 htk hwi
       have hst := have_step l0 l1 a2 a31 a32 a4 kk ⟨s0, s1, s2, s3⟩ (needOf l3) HG.out
       have HST := Aside0.mk hst
       clear hst
       cases hany : l1.any (countsB a2 a31 a32 a4 s0) with
       | true =>
        have HA := Aside0.mk hany
        clear hany
        have k1 : w7.cell? ⟨S, 1, none⟩ = some (.int .i64 s1) := blk_cell HS.out 1
        have hn0 := (needOf_bounds l3 s1).1
        have hn1 : needOf l3 s1 ≤ 9 := by have := (needOf_bounds l3 s1).2; omega
        have hv0 := (have_bounds (l0.take kk) l1 a2 a31 a32 a4 s1).1
        have hv1 : haveOf (l0.take kk) l1 a2 a31 a32 a4 s1 ≤ 1000 := by have := (have_bounds (l0.take kk) l1 a2 a31 a32 a4 s1).2; rw [List.length_take] at this; omega
        go_wp2_with (first
         | (at_lookup; refine MapF.lookup HM.out rfl _ _ rfl rfl s1 rfl (wf_of s1 (by omega) (by omega)) ?_; intro hwf)
         | (at_mapUpdate; refine MapF.update HM.out rfl _ _ _ rfl rfl (by omega) s1 (needOf l3 s1 - haveOf (l0.take kk) l1 a2 a31 a32 a4 s1 - 1) rfl rfl (wf_of s1 (by omega) (by omega)) (wf_of _ (by omega) (by omega)) ?_; intro w8 hM8 hG8))
        go_roundg (l0.length - (kk + 1))
        case measure => omega
        case rel =>
         exact ⟨kk + 1, by omega, by omega, by go_num, ⟨by have h7 := hM8; rw [HST.out.1 HA.out] at h7; exact h7⟩, ⟨blk_grown M7.out hG8 (fun h => by injection h with h; omega)⟩, ⟨blk_grown M8.out hG8 (fun h => by injection h with h; omega)⟩, ⟨blk_grown M9.out hG8 (fun h => by injection h with h; omega)⟩, ⟨pw_below_grown HB.out _ HB.out.size hG8 (fun k hk => by injection hk with hk; omega)⟩⟩
       | false =>
        have HA := Aside0.mk hany
        clear hany
        go_wp2_with fail
        go_roundg (l0.length - (kk + 1))
        case measure => omega
        case rel =>
         exact ⟨kk + 1, by omega, by omega, by go_num, ⟨by rw [HST.out.2 HA.out, show 9 + (kk + 1) = (9 + kk) + 1 from by omega]; exact HM.out.more⟩, M7, M8, M9, HB⟩
      ·obtain rfl : kk = l0.length := by omega
       rw [List.take_length] at HM
       have hltz : ¬ (l0.length : Int) < (l0.length : Int) := by omega
       go_wp2_with fail
       have hR : missOut (missF l0 l1 a2 l3 a31 a32 a4) 9 = r1 ∧ (0 : Int) = r2 := by
        have h := HH.out
        unfold missR at h
        rw [if_pos ⟨rfl, HV.out⟩, if_pos ⟨h32, HTT.out⟩] at h
        injection h with h1 h2
        exact ⟨h1, h2⟩
       have hF : ∀ r, -1000 ≤ missF l0 l1 a2 l3 a31 a32 a4 r ∧ missF l0 l1 a2 l3 a31 a32 a4 r ≤ 9 := fun r => by
        have h1 := needOf_bounds l3 r
        have h2 := have_bounds l0 l1 a2 a31 a32 a4 r
        unfold missF
        omega
       have HM2 : Aside0 (MapF wr Mb (9 + l0.length) (missF l0 l1 a2 l3 a31 a32 a4)) := ⟨HM.out⟩
       generalize missF l0 l1 a2 l3 a31 a32 a4 = F at hR hF HM2
       have HRR := Aside0.mk hR
       have HF := Aside0.mk hF
       clear HM hR hF HH M7 M8 M9 HRO HR0 HR1 HR3 HV HTT
       have HO := Aside0.mk (Kd.R_nil (Kd.int .i64) 3 wr w.heap.size (fun k => k ≠ Mb))
       go_loopg [20, 21] 10 (fun gg s20 s21 wr => ∃ (j : Nat) (z : Int), j ≤ 9 ∧ 10 ≤ gg + j ∧ s21 = .int .i64 z ∧ Aside0 (z = (j : Int) + 1) ∧ Aside0 (MapF wr Mb (9 + l0.length) F)
        ∧ Aside0 (Kd.R (Kd.int .i64) 3 wr w.heap.size (fun k => k ≠ Mb) s20 (missOut F j)) ∧ Aside0 (Below w.heap.size w wr))
       case atStart => exact ⟨0, 1, by omega, by omega, rfl, ⟨rfl⟩, HM2, HO, HB⟩
       case round =>
        clear HM2 HO HB
        obtain ⟨j, z, hj, hg, rfl, HZ, HM, HO, HB⟩ := hrel
        by_cases hlt : j < 9
        ·have hz0 : 1 ≤ z := by have := HZ.out; omega
         have hz1 : z ≤ 9 := by have := HZ.out; omega
         have hFz := HF.out z
         obtain ⟨m, hm⟩ : ∃ m : Nat, m = (F z).toNat := ⟨_, rfl⟩
         have hm9 : m ≤ 9 := by omega
         have hmx : max (F z) 0 = (m : Int) := by omega
         have HMM := Aside0.mk hm
         clear hm hFz
         go_wp2_with (first
          | (at_lookup; refine MapF.lookup HM.out rfl _ _ rfl rfl z rfl (wf_of z (by omega) (by omega)) ?_; intro hwf))
         clear hmx hwf
         have HO0 : Aside0 (Kd.R (Kd.int .i64) 3 wr w.heap.size (fun k => k ≠ Mb) u20 (missOut F j ++ List.replicate 0 z)) := ⟨by simpa using HO.out⟩
         clear HO
         go_loopg [20, 80] m (fun gg s20 s80 wr => ∃ i : Nat, i ≤ m ∧ m - i ≤ gg ∧ s80 = .int .i64 i ∧ Aside0 (MapF wr Mb (9 + l0.length) F)
          ∧ Aside0 (Kd.R (Kd.int .i64) 3 wr w.heap.size (fun k => k ≠ Mb) s20 (missOut F j ++ List.replicate i z)) ∧ Aside0 (Below w.heap.size w wr))
         case atStart => exact ⟨0, Nat.zero_le _, by omega, rfl, HM, HO0, HB⟩
         case round =>
          clear HM HO0 HB
          obtain ⟨i, hi, hg, rfl, HM, HO, HB⟩ := hrel
          by_cases hlt2 : i < m
          ·have hltz : (i : Int) < (m : Int) := by omega
           have hx1 : (missOut F j ++ List.replicate i z).length ≤ 1000 := by
            have := missOut_len F (fun r => (HF.out r).2) j
            rw [List.length_append, List.length_replicate]
            omega
           obtain ⟨A, c, hv⟩ := Kd.R_slice HO.out
           subst hv
           go_wp2_with (first | ((with_reducible refine gate_builtin (b := .append) (xs := #[.tmp 82, .tmp 84]) rfl ?_); at_builtin; refine Kd.R_append (Kd.int .i64) (w0 := w) w.heap.size rfl (.tmp 82) (.tmp 84) 39 3 (.int .i64 0) 8 rfl Tryd.underlying39 info3 rfl (by decide) (by omega) (.slice A (missOut F j ++ List.replicate i z).length c) (missOut F j ++ List.replicate i z) (z) [.int .i64 (z)] (fun k => k ≠ Mb) (fun _ => False) rfl rfl ?aP (fun _ hk => hk.elim) ?aF ?aO ?aB ?aS ?aL ?_; (case aP => exact rfl); (case aB => exact (by repeat (first | (with_reducible first | exact HB.out | apply below_alloc | apply pw_below_drewN | apply below_drew1) | exact HB.out))); (case aF => exact (fun k hk => by have h7 := HM.out.lt; omega)); (case aO => exact HO.out); (case aS => exact (below_size (by repeat (first | (with_reducible first | exact HB.out | apply below_alloc | apply pw_below_drewN | apply below_drew1) | exact HB.out)))); (case aL => have := hx1; omega); intro v2 w2 ho hb hg_ hat; have HM2 := Aside0.mk (HM.out.grown hg_ (Kd.R_away HO.out (fun _ hk => hk))); have HO2 := Aside0.mk ho; have HB2 := Aside0.mk hb; clear HB HO HM; have HB := HB2; have HO := HO2; have HM := HM2; clear HO2 HB2 HM2 ho hb hg_ hat))
           go_roundg (m - (i + 1))
           case measure => omega
           case rel => exact ⟨i + 1, by omega, by omega, by go_num, HM, ⟨by have h7 := HO.out; rw [List.append_assoc, ← List.replicate_succ'] at h7; exact h7⟩, HB⟩
          ·obtain rfl : i = m := by omega
           have hltz : ¬ (i : Int) < (i : Int) := by omega
           go_wp2_with fail
           go_roundg (10 - (j + 1))
           case measure => omega
           case rel =>
            exact ⟨j + 1, z + 1, by omega, by omega, by go_num, ⟨by have := HZ.out; omega⟩, HM, ⟨by have h7 := HO.out; rw [HMM.out, missOut_step F j z HZ.out] at h7; exact h7⟩, HB⟩
        ·obtain rfl : j = 9 := by omega
         have hz1 : ¬ z ≤ 9 := by have := HZ.out; omega
         go_wp2_with fail
         go_ret2
         obtain ⟨h1, h2⟩ := HRR.out
         subst h1 h2
         exact ⟨_, rfl, Kd.R_mono HO.out (fun _ _ => trivial), HB.out⟩
end Go.Proofs.YtbfimjncophcaaaDoor.Pr
namespace Go.Proofs.YtbfimjncophcaaaDoor.Pr
open Go.RowKit Go.Proofs.YtbfimjncophcaaaDoorW.PrintWords Go.Proofs.YtbfimjncophcaaaDoorW.PrintLast Go.Proofs.YtbfimjncophcaaaDoorW.PrintMore
attribute [local go_sem] max2_int min2_int max_two min_two max_three min_three max_four min_four
set_option linter.unusedVariables false
set_option linter.unusedSimpArgs false
def approval_Granted.f (l0 : List (S33)) (l1 : List (S25)) (a2 : ByteArray) (l3_0 : List Int) (a3_1 : Int) (a3_2 : Int) (a4 : Int) : Option (Bool) := (approval_Missing.f l0 l1 a2 l3_0 a3_1 a3_2 a4).bind fun bt158 => (if bt158.2 = 0 then (some ((bt158.1.length : Int) == 0)) else (some false))
set_option maxHeartbeats 8000000 in
set_option maxRecDepth 100000 in
theorem approval_Granted.calls (A0 : Option Addr) (c0 : Nat) (l0 : List (S33)) (A1 : Option Addr) (c1 : Nat) (l1 : List (S25)) (a2 : ByteArray) (A3_0 : Option Addr) (c3_0 : Nat) (l3_0 : List Int) (a3_1 : Int) (a3_2 : Int) (a4 : Int) (r : Bool) (w : World) (hr0 : Kd.C k33 w A0 l0.length l0) (hc0 : l0.length ≤ c0) (hr1 : Kd.C k25 w A1 l1.length l1) (hc1 : l1.length ≤ c1) (hr3_0 : Kd.C (Kd.int .i64) w A3_0 l3_0.length l3_0) (hc3_0 : l3_0.length ≤ c3_0) (hL : LaidW w) (h : approval_Granted.f l0 l1 a2 l3_0 a3_1 a3_2 a4 = some r) :
  Calls Tryd.prog 22 #[.slice A0 l0.length c0, .slice A1 l1.length c1, .string a2, .agg #[.slice A3_0 l3_0.length c3_0, .int .i64 a3_1, .int .i64 a3_2], .int .i64 a4] w fun e w' => e = .returned (.bool r) ∧ Below w.heap.size w w' := by
 have hu41 := Tryd.underlying41
 have HR0 := Aside0.mk hr0
 have HC0 := Aside0.mk hc0
 clear hr0 hc0
 have HR1 := Aside0.mk hr1
 have HC1 := Aside0.mk hc1
 clear hr1 hc1
 have HR3_0 := Aside0.mk hr3_0
 have HC3_0 := Aside0.mk hc3_0
 clear hr3_0 hc3_0
 have HB := Aside0.mk (Below.refl w.heap.size w)
 have HLW := Aside0.mk hL
 clear hL
 have H : ((approval_Missing.f l0 l1 a2 l3_0 a3_1 a3_2 a4).bind fun bt158 => (if bt158.2 = 0 then (some ((bt158.1.length : Int) == 0)) else (some false))) = some r := h
 clear h
 replace H := Option.bind_eq_some_iff.mp H
 obtain ⟨⟨t158, t161⟩, A60, H⟩ := H
 replace H : (if t161 = 0 then (some ((t158.length : Int) == 0)) else (some false)) = some r := H
 have A6 := Aside0.mk A60
 clear A60
 by_cases c7 : t161 = 0
 ·rw [if_pos c7] at H
  have c7b0 : (t161 == 0) = true := beq_iff_eq.mpr c7
  have c7b1 : (t161 != 0) = false := bne_eq_false_iff_eq.mpr c7
  clear c7
  obtain rfl := Option.some.inj H
  go_enter Tryd.func22, Tryd.ntmps22
  go_wp2_with (first | ((with_reducible refine gate_dst (N := 8) rfl ?_); (try (refine gate_guard (by rfl) ?_; dsimp only)); refine box_event ?hg (N := 8) ?hd (cs := #[.slice A3_0 l3_0.length c3_0, .int .i64 a3_1, .int .i64 a3_2]) (t := 41) ?hr ?_; (case hd => rfl); (case hg => rfl); (case hr => first | (go_simp; done) | (go_simp; rfl)); intro gb157 hg w8 hbox hb; have n0_ := Aside0.mk (below_step (by repeat (first | (with_reducible first | exact HB.out | apply below_alloc | apply pw_below_drewN | apply below_drew1) | exact HB.out)) hb); have n1_ := Aside0.mk (hbox); have n2_ := Aside0.mk ((by rw [hg]; exact (below_size (by repeat (first | (with_reducible first | exact HB.out | apply below_alloc | apply pw_below_drewN | apply below_drew1) | exact HB.out))) : w.heap.size ≤ gb157)); have n3_ := Aside0.mk ((by rw [hg]; exact (below_size (by repeat (first | (with_reducible first | exact HB.out | apply below_alloc | apply pw_below_drewN | apply below_drew1) | exact HB.out))) : w.heap.size ≤ gb157)); clear HB; have HB := n0_; have BK157 := n1_; have GW157 := n2_; have GE157 := n3_; clear n0_ n1_ n2_ n3_; clear hb hbox hg; have hcz9_0 : w8.cell? ⟨gb157, 0, none⟩ = some (.slice A3_0 l3_0.length c3_0) := (blk_cell BK157.out 0).trans rfl; have hcz9_1 : w8.cell? ⟨gb157, 1, none⟩ = some (.int .i64 a3_1) := (blk_cell BK157.out 1).trans rfl; have hcz9_2 : w8.cell? ⟨gb157, 2, none⟩ = some (.int .i64 a3_2) := (blk_cell BK157.out 2).trans rfl; have hfz9_0 := blk_frozen BK157.out 0; have hfz9_1 := blk_frozen BK157.out 1; have hfz9_2 := blk_frozen BK157.out 2) | ((with_reducible refine gate_callee (f := 19) rfl ?_); refine goesL_ (some 19) rfl rfl Tryd.func19 (by kernel_rfl) rfl #[.slice A0 l0.length c0, .slice A1 l1.length c1, .string a2, .agg #[.slice A3_0 l3_0.length c3_0, .int .i64 a3_1, .int .i64 a3_2], .int .i64 a4] rfl (by (try simp only [List.map_toArray, List.map_cons, List.map_nil]); first | done | rfl | (simp only [List.length_drop, List.length_take]; rfl)) ?_; (with_reducible refine (approval_Missing.calls _ _ l0 _ _ l1 a2 _ _ l3_0 a3_1 a3_2 a4 t158 t161 _ ?side1 ?side2 ?side3 ?side4 ?side5 ?side6 ?side7 A6.out).mono ?_); (case side1 => repeat (first | exact (Kd.C_below HR0.out HB.out) | (with_reducible refine Kd.C_alloc ?_ _) | (with_reducible refine Kd.C_drewN ?_ _) | (with_reducible refine Kd.C_drew ?_))); (case side2 => exact HC0.out); (case side3 => repeat (first | exact (Kd.C_below HR1.out HB.out) | (with_reducible refine Kd.C_alloc ?_ _) | (with_reducible refine Kd.C_drewN ?_ _) | (with_reducible refine Kd.C_drew ?_))); (case side4 => exact HC1.out); (case side5 => repeat (first | exact (Kd.C_below HR3_0.out HB.out) | (with_reducible refine Kd.C_alloc ?_ _) | (with_reducible refine Kd.C_drewN ?_ _) | (with_reducible refine Kd.C_drew ?_))); (case side6 => exact HC3_0.out); (case side7 => exact HLW.out.below (by repeat (first | (with_reducible first | exact HB.out | apply below_alloc | apply pw_below_drewN | apply below_drew1 | refine below_set ?_ GE157.out) | exact HB.out))); rintro e w10 ⟨v159, rfl, ho0, hb⟩; refine ⟨_, rfl, ?_⟩; have n0_ := Aside0.mk (Kd.R_lower ho0 (below_size (by repeat (first | (with_reducible first | exact HB.out | apply below_alloc | apply pw_below_drewN | apply below_drew1 | refine below_set ?_ GE157.out) | exact HB.out)))); have n1_ := Aside0.mk (blk_below (g := gb157) (o := .cells #[.slice A3_0 l3_0.length c3_0, .int .i64 a3_1, .int .i64 a3_2] 41 (0, 0)) (by (with_reducible repeat (first | refine blk_drewN ?_ _ | refine blk_drew ?_ | refine blk_alloc ?_ _)); exact BK157.out) hb); have n2_ := Aside0.mk (below_step (by repeat (first | (with_reducible first | exact HB.out | apply below_alloc | apply pw_below_drewN | apply below_drew1 | refine below_set ?_ GE157.out) | exact HB.out)) hb); clear BK157; clear HB; have HO160 := n0_; have BK157 := n1_; have HB := n2_; clear n0_ n1_ n2_; (try clear hb); (try clear hb2); (try clear hk); (try clear hi); (try clear ho0); obtain ⟨Ao11, co11, eo11⟩ := Kd.R_slice HO160.out; subst eo11))
  go_ret
  exact ⟨by first | rfl | (simp [errW_none, errW_some] <;> rfl) | (simp [*, errW_none, errW_some] <;> rfl), by repeat (first | (with_reducible first | exact HB.out | apply below_alloc | apply pw_below_drewN | apply below_drew1 | refine below_set ?_ GE157.out) | exact HB.out)⟩
 ·rw [if_neg c7] at H
  have c7b0 : (t161 == 0) = false := beq_eq_false_iff_ne.mpr c7
  have c7b1 : (t161 != 0) = true := bne_iff_ne.mpr c7
  obtain rfl := Option.some.inj H
  go_enter Tryd.func22, Tryd.ntmps22
  go_wp2_with (first | ((with_reducible refine gate_dst (N := 8) rfl ?_); (try (refine gate_guard (by rfl) ?_; dsimp only)); refine box_event ?hg (N := 8) ?hd (cs := #[.slice A3_0 l3_0.length c3_0, .int .i64 a3_1, .int .i64 a3_2]) (t := 41) ?hr ?_; (case hd => rfl); (case hg => rfl); (case hr => first | (go_simp; done) | (go_simp; rfl)); intro gb157 hg w12 hbox hb; have n0_ := Aside0.mk (below_step (by repeat (first | (with_reducible first | exact HB.out | apply below_alloc | apply pw_below_drewN | apply below_drew1) | exact HB.out)) hb); have n1_ := Aside0.mk (hbox); have n2_ := Aside0.mk ((by rw [hg]; exact (below_size (by repeat (first | (with_reducible first | exact HB.out | apply below_alloc | apply pw_below_drewN | apply below_drew1) | exact HB.out))) : w.heap.size ≤ gb157)); have n3_ := Aside0.mk ((by rw [hg]; exact (below_size (by repeat (first | (with_reducible first | exact HB.out | apply below_alloc | apply pw_below_drewN | apply below_drew1) | exact HB.out))) : w.heap.size ≤ gb157)); clear HB; have HB := n0_; have BK157 := n1_; have GW157 := n2_; have GE157 := n3_; clear n0_ n1_ n2_ n3_; clear hb hbox hg; have hcz13_0 : w12.cell? ⟨gb157, 0, none⟩ = some (.slice A3_0 l3_0.length c3_0) := (blk_cell BK157.out 0).trans rfl; have hcz13_1 : w12.cell? ⟨gb157, 1, none⟩ = some (.int .i64 a3_1) := (blk_cell BK157.out 1).trans rfl; have hcz13_2 : w12.cell? ⟨gb157, 2, none⟩ = some (.int .i64 a3_2) := (blk_cell BK157.out 2).trans rfl; have hfz13_0 := blk_frozen BK157.out 0; have hfz13_1 := blk_frozen BK157.out 1; have hfz13_2 := blk_frozen BK157.out 2) | ((with_reducible refine gate_callee (f := 19) rfl ?_); refine goesL_ (some 19) rfl rfl Tryd.func19 (by kernel_rfl) rfl #[.slice A0 l0.length c0, .slice A1 l1.length c1, .string a2, .agg #[.slice A3_0 l3_0.length c3_0, .int .i64 a3_1, .int .i64 a3_2], .int .i64 a4] rfl (by (try simp only [List.map_toArray, List.map_cons, List.map_nil]); first | done | rfl | (simp only [List.length_drop, List.length_take]; rfl)) ?_; (with_reducible refine (approval_Missing.calls _ _ l0 _ _ l1 a2 _ _ l3_0 a3_1 a3_2 a4 t158 t161 _ ?side1 ?side2 ?side3 ?side4 ?side5 ?side6 ?side7 A6.out).mono ?_); (case side1 => repeat (first | exact (Kd.C_below HR0.out HB.out) | (with_reducible refine Kd.C_alloc ?_ _) | (with_reducible refine Kd.C_drewN ?_ _) | (with_reducible refine Kd.C_drew ?_))); (case side2 => exact HC0.out); (case side3 => repeat (first | exact (Kd.C_below HR1.out HB.out) | (with_reducible refine Kd.C_alloc ?_ _) | (with_reducible refine Kd.C_drewN ?_ _) | (with_reducible refine Kd.C_drew ?_))); (case side4 => exact HC1.out); (case side5 => repeat (first | exact (Kd.C_below HR3_0.out HB.out) | (with_reducible refine Kd.C_alloc ?_ _) | (with_reducible refine Kd.C_drewN ?_ _) | (with_reducible refine Kd.C_drew ?_))); (case side6 => exact HC3_0.out); (case side7 => exact HLW.out.below (by repeat (first | (with_reducible first | exact HB.out | apply below_alloc | apply pw_below_drewN | apply below_drew1 | refine below_set ?_ GE157.out) | exact HB.out))); rintro e w14 ⟨v159, rfl, ho0, hb⟩; refine ⟨_, rfl, ?_⟩; have n0_ := Aside0.mk (Kd.R_lower ho0 (below_size (by repeat (first | (with_reducible first | exact HB.out | apply below_alloc | apply pw_below_drewN | apply below_drew1 | refine below_set ?_ GE157.out) | exact HB.out)))); have n1_ := Aside0.mk (blk_below (g := gb157) (o := .cells #[.slice A3_0 l3_0.length c3_0, .int .i64 a3_1, .int .i64 a3_2] 41 (0, 0)) (by (with_reducible repeat (first | refine blk_drewN ?_ _ | refine blk_drew ?_ | refine blk_alloc ?_ _)); exact BK157.out) hb); have n2_ := Aside0.mk (below_step (by repeat (first | (with_reducible first | exact HB.out | apply below_alloc | apply pw_below_drewN | apply below_drew1 | refine below_set ?_ GE157.out) | exact HB.out)) hb); clear BK157; clear HB; have HO160 := n0_; have BK157 := n1_; have HB := n2_; clear n0_ n1_ n2_; (try clear hb); (try clear hb2); (try clear hk); (try clear hi); (try clear ho0)))
  go_ret
  exact ⟨by first | rfl | (simp [errW_none, errW_some] <;> rfl) | (simp [*, errW_none, errW_some] <;> rfl), by repeat (first | (with_reducible first | exact HB.out | apply below_alloc | apply pw_below_drewN | apply below_drew1 | refine below_set ?_ GE157.out) | exact HB.out)⟩
end Go.Proofs.YtbfimjncophcaaaDoor.Pr
namespace Go.Proofs.YtbfimjncophcaaaDoor.Pr
open Go.RowKit Go.Proofs.YtbfimjncophcaaaDoorW.PrintWords Go.Proofs.YtbfimjncophcaaaDoorW.PrintLast Go.Proofs.YtbfimjncophcaaaDoorW.PrintMore
attribute [local go_sem] max2_int min2_int max_two min_two max_three min_three max_four min_four
set_option linter.unusedVariables false
set_option linter.unusedSimpArgs false
def garboardref58_Granted.f (k : Nat) (l0 : List (S33)) (l1 : List (S25)) (a2 : ByteArray) (l3_0 : List Int) (a3_1 : Int) (a3_2 : Int) (a4 : Int) : Option (Bool) := (garboardref58_Missing.f k l0 l1 a2 l3_0 a3_1 a3_2 a4).bind fun bt288 => (if bt288.2 = 0 then (some ((bt288.1.length : Int) == 0)) else (some false))
set_option maxHeartbeats 8000000 in
set_option maxRecDepth 100000 in
theorem garboardref58_Granted.calls (k : Nat) (A0 : Option Addr) (c0 : Nat) (l0 : List (S33)) (A1 : Option Addr) (c1 : Nat) (l1 : List (S25)) (a2 : ByteArray) (A3_0 : Option Addr) (c3_0 : Nat) (l3_0 : List Int) (a3_1 : Int) (a3_2 : Int) (a4 : Int) (r : Bool) (w : World) (hr0 : Kd.C k33 w A0 l0.length l0) (hc0 : l0.length ≤ c0) (hr1 : Kd.C k25 w A1 l1.length l1) (hc1 : l1.length ≤ c1) (hr3_0 : Kd.C (Kd.int .i64) w A3_0 l3_0.length l3_0) (hc3_0 : l3_0.length ≤ c3_0) (hL : LaidW w) (h : garboardref58_Granted.f k l0 l1 a2 l3_0 a3_1 a3_2 a4 = some r) :
  Calls Tryd.prog 23 #[.slice A0 l0.length c0, .slice A1 l1.length c1, .string a2, .agg #[.slice A3_0 l3_0.length c3_0, .int .i64 a3_1, .int .i64 a3_2], .int .i64 a4] w fun e w' => e = .returned (.bool r) ∧ Below w.heap.size w w' := by
 have hu41 := Tryd.underlying41
 have HR0 := Aside0.mk hr0
 have HC0 := Aside0.mk hc0
 clear hr0 hc0
 have HR1 := Aside0.mk hr1
 have HC1 := Aside0.mk hc1
 clear hr1 hc1
 have HR3_0 := Aside0.mk hr3_0
 have HC3_0 := Aside0.mk hc3_0
 clear hr3_0 hc3_0
 have HB := Aside0.mk (Below.refl w.heap.size w)
 have HLW := Aside0.mk hL
 clear hL
 have H : ((garboardref58_Missing.f k l0 l1 a2 l3_0 a3_1 a3_2 a4).bind fun bt288 => (if bt288.2 = 0 then (some ((bt288.1.length : Int) == 0)) else (some false))) = some r := h
 clear h
 replace H := Option.bind_eq_some_iff.mp H
 obtain ⟨⟨t288, t291⟩, A60, H⟩ := H
 replace H : (if t291 = 0 then (some ((t288.length : Int) == 0)) else (some false)) = some r := H
 have A6 := Aside0.mk A60
 clear A60
 by_cases c7 : t291 = 0
 ·rw [if_pos c7] at H
  have c7b0 : (t291 == 0) = true := beq_iff_eq.mpr c7
  have c7b1 : (t291 != 0) = false := bne_eq_false_iff_eq.mpr c7
  clear c7
  obtain rfl := Option.some.inj H
  go_enter Tryd.func23, Tryd.ntmps23
  go_wp2_with (first | ((with_reducible refine gate_dst (N := 8) rfl ?_); (try (refine gate_guard (by rfl) ?_; dsimp only)); refine box_event ?hg (N := 8) ?hd (cs := #[.slice A3_0 l3_0.length c3_0, .int .i64 a3_1, .int .i64 a3_2]) (t := 41) ?hr ?_; (case hd => rfl); (case hg => rfl); (case hr => first | (go_simp; done) | (go_simp; rfl)); intro gb287 hg w8 hbox hb; have n0_ := Aside0.mk (below_step (by repeat (first | (with_reducible first | exact HB.out | apply below_alloc | apply pw_below_drewN | apply below_drew1) | exact HB.out)) hb); have n1_ := Aside0.mk (hbox); have n2_ := Aside0.mk ((by rw [hg]; exact (below_size (by repeat (first | (with_reducible first | exact HB.out | apply below_alloc | apply pw_below_drewN | apply below_drew1) | exact HB.out))) : w.heap.size ≤ gb287)); have n3_ := Aside0.mk ((by rw [hg]; exact (below_size (by repeat (first | (with_reducible first | exact HB.out | apply below_alloc | apply pw_below_drewN | apply below_drew1) | exact HB.out))) : w.heap.size ≤ gb287)); clear HB; have HB := n0_; have BK287 := n1_; have GW287 := n2_; have GE287 := n3_; clear n0_ n1_ n2_ n3_; clear hb hbox hg; have hcz9_0 : w8.cell? ⟨gb287, 0, none⟩ = some (.slice A3_0 l3_0.length c3_0) := (blk_cell BK287.out 0).trans rfl; have hcz9_1 : w8.cell? ⟨gb287, 1, none⟩ = some (.int .i64 a3_1) := (blk_cell BK287.out 1).trans rfl; have hcz9_2 : w8.cell? ⟨gb287, 2, none⟩ = some (.int .i64 a3_2) := (blk_cell BK287.out 2).trans rfl; have hfz9_0 := blk_frozen BK287.out 0; have hfz9_1 := blk_frozen BK287.out 1; have hfz9_2 := blk_frozen BK287.out 2) | ((with_reducible refine gate_callee (f := 20) rfl ?_); refine goesL_ (some 19) rfl rfl Tryd.func20 (by kernel_rfl) rfl #[.slice A0 l0.length c0, .slice A1 l1.length c1, .string a2, .agg #[.slice A3_0 l3_0.length c3_0, .int .i64 a3_1, .int .i64 a3_2], .int .i64 a4] rfl (by (try simp only [List.map_toArray, List.map_cons, List.map_nil]); first | done | rfl | (simp only [List.length_drop, List.length_take]; rfl)) ?_; (with_reducible refine (garboardref58_Missing.calls k _ _ l0 _ _ l1 a2 _ _ l3_0 a3_1 a3_2 a4 t288 t291 _ ?side1 ?side2 ?side3 ?side4 ?side5 ?side6 ?side7 A6.out).mono ?_); (case side1 => repeat (first | exact (Kd.C_below HR0.out HB.out) | (with_reducible refine Kd.C_alloc ?_ _) | (with_reducible refine Kd.C_drewN ?_ _) | (with_reducible refine Kd.C_drew ?_))); (case side2 => exact HC0.out); (case side3 => repeat (first | exact (Kd.C_below HR1.out HB.out) | (with_reducible refine Kd.C_alloc ?_ _) | (with_reducible refine Kd.C_drewN ?_ _) | (with_reducible refine Kd.C_drew ?_))); (case side4 => exact HC1.out); (case side5 => repeat (first | exact (Kd.C_below HR3_0.out HB.out) | (with_reducible refine Kd.C_alloc ?_ _) | (with_reducible refine Kd.C_drewN ?_ _) | (with_reducible refine Kd.C_drew ?_))); (case side6 => exact HC3_0.out); (case side7 => exact HLW.out.below (by repeat (first | (with_reducible first | exact HB.out | apply below_alloc | apply pw_below_drewN | apply below_drew1 | refine below_set ?_ GE287.out) | exact HB.out))); rintro e w10 ⟨v289, rfl, ho0, hb⟩; refine ⟨_, rfl, ?_⟩; have n0_ := Aside0.mk (Kd.R_lower ho0 (below_size (by repeat (first | (with_reducible first | exact HB.out | apply below_alloc | apply pw_below_drewN | apply below_drew1 | refine below_set ?_ GE287.out) | exact HB.out)))); have n1_ := Aside0.mk (blk_below (g := gb287) (o := .cells #[.slice A3_0 l3_0.length c3_0, .int .i64 a3_1, .int .i64 a3_2] 41 (0, 0)) (by (with_reducible repeat (first | refine blk_drewN ?_ _ | refine blk_drew ?_ | refine blk_alloc ?_ _)); exact BK287.out) hb); have n2_ := Aside0.mk (below_step (by repeat (first | (with_reducible first | exact HB.out | apply below_alloc | apply pw_below_drewN | apply below_drew1 | refine below_set ?_ GE287.out) | exact HB.out)) hb); clear BK287; clear HB; have HO290 := n0_; have BK287 := n1_; have HB := n2_; clear n0_ n1_ n2_; (try clear hb); (try clear hb2); (try clear hk); (try clear hi); (try clear ho0); obtain ⟨Ao11, co11, eo11⟩ := Kd.R_slice HO290.out; subst eo11))
  go_ret
  exact ⟨by first | rfl | (simp [errW_none, errW_some] <;> rfl) | (simp [*, errW_none, errW_some] <;> rfl), by repeat (first | (with_reducible first | exact HB.out | apply below_alloc | apply pw_below_drewN | apply below_drew1 | refine below_set ?_ GE287.out) | exact HB.out)⟩
 ·rw [if_neg c7] at H
  have c7b0 : (t291 == 0) = false := beq_eq_false_iff_ne.mpr c7
  have c7b1 : (t291 != 0) = true := bne_iff_ne.mpr c7
  obtain rfl := Option.some.inj H
  go_enter Tryd.func23, Tryd.ntmps23
  go_wp2_with (first | ((with_reducible refine gate_dst (N := 8) rfl ?_); (try (refine gate_guard (by rfl) ?_; dsimp only)); refine box_event ?hg (N := 8) ?hd (cs := #[.slice A3_0 l3_0.length c3_0, .int .i64 a3_1, .int .i64 a3_2]) (t := 41) ?hr ?_; (case hd => rfl); (case hg => rfl); (case hr => first | (go_simp; done) | (go_simp; rfl)); intro gb287 hg w12 hbox hb; have n0_ := Aside0.mk (below_step (by repeat (first | (with_reducible first | exact HB.out | apply below_alloc | apply pw_below_drewN | apply below_drew1) | exact HB.out)) hb); have n1_ := Aside0.mk (hbox); have n2_ := Aside0.mk ((by rw [hg]; exact (below_size (by repeat (first | (with_reducible first | exact HB.out | apply below_alloc | apply pw_below_drewN | apply below_drew1) | exact HB.out))) : w.heap.size ≤ gb287)); have n3_ := Aside0.mk ((by rw [hg]; exact (below_size (by repeat (first | (with_reducible first | exact HB.out | apply below_alloc | apply pw_below_drewN | apply below_drew1) | exact HB.out))) : w.heap.size ≤ gb287)); clear HB; have HB := n0_; have BK287 := n1_; have GW287 := n2_; have GE287 := n3_; clear n0_ n1_ n2_ n3_; clear hb hbox hg; have hcz13_0 : w12.cell? ⟨gb287, 0, none⟩ = some (.slice A3_0 l3_0.length c3_0) := (blk_cell BK287.out 0).trans rfl; have hcz13_1 : w12.cell? ⟨gb287, 1, none⟩ = some (.int .i64 a3_1) := (blk_cell BK287.out 1).trans rfl; have hcz13_2 : w12.cell? ⟨gb287, 2, none⟩ = some (.int .i64 a3_2) := (blk_cell BK287.out 2).trans rfl; have hfz13_0 := blk_frozen BK287.out 0; have hfz13_1 := blk_frozen BK287.out 1; have hfz13_2 := blk_frozen BK287.out 2) | ((with_reducible refine gate_callee (f := 20) rfl ?_); refine goesL_ (some 19) rfl rfl Tryd.func20 (by kernel_rfl) rfl #[.slice A0 l0.length c0, .slice A1 l1.length c1, .string a2, .agg #[.slice A3_0 l3_0.length c3_0, .int .i64 a3_1, .int .i64 a3_2], .int .i64 a4] rfl (by (try simp only [List.map_toArray, List.map_cons, List.map_nil]); first | done | rfl | (simp only [List.length_drop, List.length_take]; rfl)) ?_; (with_reducible refine (garboardref58_Missing.calls k _ _ l0 _ _ l1 a2 _ _ l3_0 a3_1 a3_2 a4 t288 t291 _ ?side1 ?side2 ?side3 ?side4 ?side5 ?side6 ?side7 A6.out).mono ?_); (case side1 => repeat (first | exact (Kd.C_below HR0.out HB.out) | (with_reducible refine Kd.C_alloc ?_ _) | (with_reducible refine Kd.C_drewN ?_ _) | (with_reducible refine Kd.C_drew ?_))); (case side2 => exact HC0.out); (case side3 => repeat (first | exact (Kd.C_below HR1.out HB.out) | (with_reducible refine Kd.C_alloc ?_ _) | (with_reducible refine Kd.C_drewN ?_ _) | (with_reducible refine Kd.C_drew ?_))); (case side4 => exact HC1.out); (case side5 => repeat (first | exact (Kd.C_below HR3_0.out HB.out) | (with_reducible refine Kd.C_alloc ?_ _) | (with_reducible refine Kd.C_drewN ?_ _) | (with_reducible refine Kd.C_drew ?_))); (case side6 => exact HC3_0.out); (case side7 => exact HLW.out.below (by repeat (first | (with_reducible first | exact HB.out | apply below_alloc | apply pw_below_drewN | apply below_drew1 | refine below_set ?_ GE287.out) | exact HB.out))); rintro e w14 ⟨v289, rfl, ho0, hb⟩; refine ⟨_, rfl, ?_⟩; have n0_ := Aside0.mk (Kd.R_lower ho0 (below_size (by repeat (first | (with_reducible first | exact HB.out | apply below_alloc | apply pw_below_drewN | apply below_drew1 | refine below_set ?_ GE287.out) | exact HB.out)))); have n1_ := Aside0.mk (blk_below (g := gb287) (o := .cells #[.slice A3_0 l3_0.length c3_0, .int .i64 a3_1, .int .i64 a3_2] 41 (0, 0)) (by (with_reducible repeat (first | refine blk_drewN ?_ _ | refine blk_drew ?_ | refine blk_alloc ?_ _)); exact BK287.out) hb); have n2_ := Aside0.mk (below_step (by repeat (first | (with_reducible first | exact HB.out | apply below_alloc | apply pw_below_drewN | apply below_drew1 | refine below_set ?_ GE287.out) | exact HB.out)) hb); clear BK287; clear HB; have HO290 := n0_; have BK287 := n1_; have HB := n2_; clear n0_ n1_ n2_; (try clear hb); (try clear hb2); (try clear hk); (try clear hi); (try clear ho0)))
  go_ret
  exact ⟨by first | rfl | (simp [errW_none, errW_some] <;> rfl) | (simp [*, errW_none, errW_some] <;> rfl), by repeat (first | (with_reducible first | exact HB.out | apply below_alloc | apply pw_below_drewN | apply below_drew1 | refine below_set ?_ GE287.out) | exact HB.out)⟩
end Go.Proofs.YtbfimjncophcaaaDoor.Pr
namespace Go.Proofs.YtbfimjncophcaaaDoor.Pr
set_option linter.unusedVariables false
set_option linter.unusedSimpArgs false
open Go.RowKit Go.Proofs.YtbfimjncophcaaaDoorW.PrintWords
theorem wrap_id (n : Int) (h0 : -9223372036854775808 ≤ n) (h1 : n ≤ 9223372036854775807) : wrap64 n = n := by unfold wrap64; omega
theorem rd_get (l : List Int) (i : Nat) (h : i < l.length) : rd l (i : Int) = l[i] := by
 unfold rd
 simp [List.getD, h]
theorem rvalid_l0 (l : List Int) (a b : Int) (hl : l.length < 1000000) : ∀ (m i k : Nat), i + m = l.length → m < k → ((l.take i).any roleBad = false) → garboardref58_valid.l0 k (i : Int) l a b = some (validB l a b)
 | 0, i, k, hi, hk, hb => by
  obtain ⟨k, rfl⟩ : ∃ k', k = k' + 1 := ⟨k - 1, by omega⟩
  simp only [garboardref58_valid.l0]
  rw [if_neg (by omega)]
  rw [List.take_of_length_le (by omega)] at hb
  unfold validB tickB
  rw [hb]
  by_cases c1 : (l.length : Int) ≥ 1
  ·by_cases c2 : (l.length : Int) ≤ 9
   ·have d1 : 1 ≤ l.length := by omega
    have d2 : l.length ≤ 9 := by omega
    by_cases c3 : a ≥ 0
    ·by_cases c4 : a ≤ 1073741824
     ·by_cases c5 : b ≥ 0
      ·have d3 : 0 ≤ a := c3
       have d5 : 0 ≤ b := c5
       simp [c1, c2, c3, c4, c5, d1, d2, d3, d5]
      ·have d5 : ¬ 0 ≤ b := c5
       simp [c1, c2, c3, c4, c5, d1, d2, d5]
     ·simp [c1, c2, c3, c4]
    ·have d3 : ¬ 0 ≤ a := c3
     simp [c1, c2, c3, d3]
   ·have d2 : ¬ l.length ≤ 9 := by omega
    simp [c1, c2, d2]
  ·have d1 : ¬ 1 ≤ l.length := by omega
   rw [if_neg c1]
   simp [d1]
 | m + 1, i, k, hi, hk, hb => by
  obtain ⟨k, rfl⟩ : ∃ k', k = k' + 1 := ⟨k - 1, by omega⟩
  have hlt : i < l.length := by omega
  have bad : ∀ x, l[i] = x → roleBad x = true → validB l a b = false := fun x hx h => by
   unfold validB
   rw [show l.any roleBad = true from List.any_eq_true.2 ⟨l[i], List.getElem_mem hlt, by rw [hx]; exact h⟩]
   simp
  simp only [garboardref58_valid.l0]
  rw [if_pos (by omega), if_pos (by omega), rd_get l i hlt]
  by_cases c1 : l[i] < 1
  ·rw [if_pos c1, bad _ rfl (by unfold roleBad; simp [c1])]
  rw [if_neg c1]
  by_cases c2 : l[i] > 9
  ·rw [if_pos c2, bad _ rfl (by unfold roleBad; simp; omega)]
  rw [if_neg c2, wrap_succ i (by omega)]
  refine rvalid_l0 l a b hl m (i + 1) k (by omega) (by omega) ?_
  rw [List.take_add_one, List.getElem?_eq_getElem hlt, List.any_append, hb]
  simp only [Option.toList_some, List.any_cons, List.any_nil, Bool.or_false, Bool.false_or]
  unfold roleBad
  simp
  omega
theorem rvalid_f (l : List Int) (a b : Int) (k : Nat) (hl : l.length < 1000000) (hk : l.length < k) : garboardref58_valid.f k l a b = some (validB l a b) := by
 unfold garboardref58_valid.f
 exact rvalid_l0 l a b hl l.length 0 k (by omega) hk rfl
theorem counts_except (sub : ByteArray) (win exc at_ id : Int) (l : List S25) (h : id = exc) : l.any (countsB sub win exc at_ id) = false := by
 rw [List.any_eq_false]
 intro x _
 unfold countsB
 simp [h]
theorem rhas_l0 (l1 : List S25) (id : Int) (sub : ByteArray) (l3 : List Int) (win exc at_ : Int) (hl : l1.length < 1000000) (hw : wrap64 (at_ - win) = at_ - win) :
  ∀ (m i k : Nat), i + m = l1.length → m < k → garboardref58_has.l0 k l1 id sub at_ (i : Int) l3 win exc = some ((l1.drop i).any (countsB sub win exc at_ id))
 | 0, i, k, hi, hk => by
  obtain ⟨k, rfl⟩ : ∃ k', k = k' + 1 := ⟨k - 1, by omega⟩
  simp only [garboardref58_has.l0]
  rw [if_neg (by omega), List.drop_of_length_le (by omega)]
  rfl
 | m + 1, i, k, hi, hk => by
  obtain ⟨k, rfl⟩ : ∃ k', k = k' + 1 := ⟨k - 1, by omega⟩
  have hlt : i < l1.length := by omega
  have ih := rhas_l0 l1 id sub l3 win exc at_ hl hw m (i + 1) k (by omega) (by omega)
  simp only [garboardref58_has.l0]
  rw [if_pos (by omega), if_pos (by omega), wrap_succ i (by omega), ih, rd25_get l1 i hlt, hw, List.drop_eq_getElem_cons hlt, List.any_cons]
  by_cases e : id = exc
  ·rw [counts_except sub win exc at_ id _ e, show countsB sub win exc at_ id l1[i] = false from by unfold countsB; simp [e], show (id != exc) = false from by simp [e]]
   repeat' split
   all_goals rfl
  ·unfold countsB
   have e1 : (id == exc) = false := by simp [e]
   rw [show (id != exc) = true from by simp [e], e1]
   by_cases c1 : l1[i].f0 = id
   ·by_cases c2 : l1[i].f2.toList = sub.toList
    ·by_cases c3 : l1[i].f1 ≤ at_
     ·by_cases c4 : l1[i].f1 ≥ at_ - win
      ·have d4 : at_ - win ≤ l1[i].f1 := c4
       rw [if_pos c1, if_pos c2, if_pos c3, if_pos c4]
       simp only [c1, c2, c3, d4, beq_self_eq_true, decide_true, Bool.not_false, Bool.and_self, Bool.true_or]
      ·have d4 : ¬ at_ - win ≤ l1[i].f1 := c4
       rw [if_pos c1, if_pos c2, if_pos c3, if_neg c4]
       simp only [d4, decide_false, Bool.false_and, Bool.and_false, Bool.false_or]
     ·rw [if_pos c1, if_pos c2, if_neg c3]
      simp only [c3, decide_false, Bool.false_and, Bool.and_false, Bool.false_or]
    ·rw [if_pos c1, if_neg c2]
     simp only [beq_eq_false_iff_ne.2 c2, Bool.false_and, Bool.and_false, Bool.false_or]
   ·rw [if_neg c1]
    simp only [beq_eq_false_iff_ne.2 c1, Bool.false_and, Bool.false_or]
theorem rhas_f (l1 : List S25) (id : Int) (sub : ByteArray) (l3 : List Int) (win exc at_ : Int) (k : Nat) (hl : l1.length < 1000000) (hw : wrap64 (at_ - win) = at_ - win) (hk : l1.length < k) :
  garboardref58_has.f k l1 id sub l3 win exc at_ = some (l1.any (countsB sub win exc at_ id)) := by
 unfold garboardref58_has.f
 exact rhas_l0 l1 id sub l3 win exc at_ hl hw l1.length 0 k (by omega) hk
theorem rmiss_l3 (l0 : List S33) (l1 : List S25) (sub : ByteArray) (at_ : Int) (l3 : List Int) (win exc : Int) (r : Int) (k : Nat) :
  ∀ (n : Nat) (c : Int) (out : List Int), n = c.toNat → c ≤ 1000000 → out.length + n < 17592186044416 → garboardref58_Missing.l3 (k + n + 1) l0 l1 sub at_ out r c l3 win exc = garboardref58_Missing.l0 k l0 l1 sub at_ (out ++ List.replicate n r) (wrap64 (r + 1)) l3 win exc
 | 0, c, out, hn, hc, ho => by
  rw [garboardref58_Missing.l3, if_neg (by omega)]
  simp
 | n + 1, c, out, hn, hc, ho => by
  rw [show k + (n + 1) + 1 = (k + n + 1) + 1 by omega, garboardref58_Missing.l3, if_pos (by omega), if_pos (by omega), wrap_id _ (by omega) (by omega),
   rmiss_l3 l0 l1 sub at_ l3 win exc r k n (c - 1) (out ++ [r]) (by omega) (by omega) (by rw [List.length_append, List.length_singleton]; omega)]
  rw [List.append_assoc, List.singleton_append, ← List.replicate_succ]
theorem have_cons (s : S33) (l0 : List S33) (l1 : List S25) (sub : ByteArray) (win exc at_ r : Int) :
  haveOf (s :: l0) l1 sub win exc at_ r = (if (l1.any (countsB sub win exc at_ s.f0) && s.f1 == r) = true then 1 else 0) + haveOf l0 l1 sub win exc at_ r := by
 unfold haveOf
 rw [List.filter_cons]
 split
 ·rw [List.length_cons]
  omega
 ·omega
theorem rmiss_l2 (l0 : List S33) (l1 : List S25) (sub : ByteArray) (at_ : Int) (l3 : List Int) (win exc : Int) (r : Int) (out : List Int) (k : Nat) (hl0 : l0.length < 1000000) (hl : l1.length < 1000000) (hw : wrap64 (at_ - win) = at_ - win) (hk : l1.length < k) :
  ∀ (m i : Nat) (c : Int), i + m = l0.length → -2000000 + (m : Int) ≤ c → c ≤ 1000000 → garboardref58_Missing.l2 (k + m + 1) l0 l1 sub at_ out r c (i : Int) l3 win exc = garboardref58_Missing.l3 k l0 l1 sub at_ out r (c - haveOf (l0.drop i) l1 sub win exc at_ r) l3 win exc
 | 0, i, c, hi, hc, hc2 => by
  rw [show k + 0 + 1 = k + 1 by omega, garboardref58_Missing.l2, if_neg (by omega), List.drop_of_length_le (by omega)]
  simp [haveOf]
 | m + 1, i, c, hi, hc, hc2 => by
  have hlt : i < l0.length := by omega
  have ih1 := rmiss_l2 l0 l1 sub at_ l3 win exc r out k hl0 hl hw hk m (i + 1) c (by omega) (by omega) hc2
  have ih2 := rmiss_l2 l0 l1 sub at_ l3 win exc r out k hl0 hl hw hk m (i + 1) (c - 1) (by omega) (by omega) (by omega)
  rw [show k + (m + 1) + 1 = (k + m + 1) + 1 by omega, garboardref58_Missing.l2, if_pos (by omega), if_pos (by omega), wrap_succ i (by omega), wrap_id (c - 1) (by omega) (by omega), ih1, ih2, rd33_get l0 i hlt,
   rhas_f l1 l0[i].f0 sub l3 win exc at_ (k + m + 1) hl hw (by omega), List.drop_eq_getElem_cons hlt, have_cons]
  simp only [Option.bind_some]
  by_cases c1 : l0[i].f1 = r
  ·rw [if_pos c1]
   by_cases c2 : l1.any (countsB sub win exc at_ l0[i].f0) = true
   ·rw [if_pos c2, if_pos (by simp [c1, c2]), show c - 1 - haveOf (l0.drop (i + 1)) l1 sub win exc at_ r = c - (1 + haveOf (l0.drop (i + 1)) l1 sub win exc at_ r) by omega]
   ·rw [if_neg c2, if_neg (by simp [c2]), Int.zero_add]
  ·rw [if_neg c1, if_neg (by simp [c1]), Int.zero_add]
theorem rmiss_l1 (l0 : List S33) (l1 : List S25) (sub : ByteArray) (at_ : Int) (l3 : List Int) (win exc : Int) (r : Int) (out : List Int) (k : Nat) (hl3 : l3.length < 1000000) :
  ∀ (m i : Nat) (c : Int), i + m = l3.length → 0 ≤ c → c + m ≤ 1000000 → garboardref58_Missing.l1 (k + m + 1) l0 l1 sub at_ out r c (i : Int) l3 win exc = garboardref58_Missing.l2 k l0 l1 sub at_ out r (c + needOf (l3.drop i) r) 0 l3 win exc
 | 0, i, c, hi, hc, hc2 => by
  rw [show k + 0 + 1 = k + 1 by omega, garboardref58_Missing.l1, if_neg (by omega), List.drop_of_length_le (by omega)]
  simp [needOf]
 | m + 1, i, c, hi, hc, hc2 => by
  have hlt : i < l3.length := by omega
  have ih1 := rmiss_l1 l0 l1 sub at_ l3 win exc r out k hl3 m (i + 1) c (by omega) (by omega) (by omega)
  have ih2 := rmiss_l1 l0 l1 sub at_ l3 win exc r out k hl3 m (i + 1) (c + 1) (by omega) (by omega) (by omega)
  rw [show k + (m + 1) + 1 = (k + m + 1) + 1 by omega, garboardref58_Missing.l1, if_pos (by omega), if_pos (by omega), wrap_succ i (by omega), wrap_id (c + 1) (by omega) (by omega), ih1, ih2, rd_get l3 i hlt, List.drop_eq_getElem_cons hlt]
  unfold needOf
  rw [List.count_cons]
  by_cases c1 : l3[i] = r
  ·rw [if_pos c1, if_pos (by simp [c1])]
   congr 1
   omega
  ·rw [if_neg c1, if_neg (by simp [c1])]
   rfl
theorem missOut_succ (f : Int → Int) (n : Nat) : missOut f (n + 1) = missOut f n ++ List.replicate (f ((n + 1 : Nat) : Int)).toNat ((n + 1 : Nat) : Int) := by
 unfold missOut
 rw [List.range_succ, List.flatMap_append]
 simp
theorem haveOf_bounds (l0 : List S33) (l1 : List S25) (sub : ByteArray) (win exc at_ r : Int) : 0 ≤ haveOf l0 l1 sub win exc at_ r ∧ haveOf l0 l1 sub win exc at_ r ≤ l0.length := by
 unfold haveOf
 have := List.length_filter_le (fun s : S33 => l1.any (countsB sub win exc at_ s.f0) && s.f1 == r) l0
 omega
theorem rmiss_l0 (l0 : List S33) (l1 : List S25) (sub : ByteArray) (at_ : Int) (l3 : List Int) (win exc : Int) (hl0 : l0.length < 1000000) (hl : l1.length < 1000000) (hl3 : l3.length < 1000000) (hw : wrap64 (at_ - win) = at_ - win) :
  ∀ (m j k : Nat), j + m = 9 → m * (2 * l3.length + l0.length + 4) + l1.length + 10 < k → (missOut (missF l0 l1 sub l3 win exc at_) j).length ≤ j * 1000000 →
   garboardref58_Missing.l0 k l0 l1 sub at_ (missOut (missF l0 l1 sub l3 win exc at_) j) ((j + 1 : Nat) : Int) l3 win exc = some (missOut (missF l0 l1 sub l3 win exc at_) 9, 0)
 | 0, j, k, hj, hk, ho => by
  obtain ⟨k, rfl⟩ : ∃ k', k = k' + 1 := ⟨k - 1, by omega⟩
  obtain rfl : j = 9 := by omega
  rw [garboardref58_Missing.l0, if_neg (by omega)]
 | m + 1, j, k, hj, hk, ho => by
  have hn := needOf_bounds l3 ((j + 1 : Nat) : Int)
  have hh := haveOf_bounds l0 l1 sub win exc at_ ((j + 1 : Nat) : Int)
  have hF : missF l0 l1 sub l3 win exc at_ ((j + 1 : Nat) : Int) = needOf l3 ((j + 1 : Nat) : Int) - haveOf l0 l1 sub win exc at_ ((j + 1 : Nat) : Int) := rfl
  have hs := missOut_succ (missF l0 l1 sub l3 win exc at_) j
  rw [Nat.succ_mul] at hk
  generalize hc : missF l0 l1 sub l3 win exc at_ ((j + 1 : Nat) : Int) = c at *
  obtain ⟨k, rfl⟩ : ∃ k', k = ((((k' + c.toNat + 1) + l0.length + 1) + l3.length + 1) + 1) := ⟨k - (c.toNat + l0.length + l3.length + 4), by omega⟩
  rw [garboardref58_Missing.l0, if_pos (by omega)]
  have e1 := rmiss_l1 l0 l1 sub at_ l3 win exc ((j + 1 : Nat) : Int) (missOut (missF l0 l1 sub l3 win exc at_) j) ((k + c.toNat + 1) + l0.length + 1) hl3 l3.length 0 0 (by omega) (by omega) (by omega)
  have e2 := rmiss_l2 l0 l1 sub at_ l3 win exc ((j + 1 : Nat) : Int) (missOut (missF l0 l1 sub l3 win exc at_) j) (k + c.toNat + 1) hl0 hl hw (by omega) l0.length 0 (0 + needOf l3 ((j + 1 : Nat) : Int)) (by omega) (by omega) (by omega)
  have e3 := rmiss_l3 l0 l1 sub at_ l3 win exc ((j + 1 : Nat) : Int) k c.toNat c (missOut (missF l0 l1 sub l3 win exc at_) j) rfl (by omega) (by omega)
  rw [List.drop_zero] at e1 e2
  rw [show (0 : Int) + needOf l3 ((j + 1 : Nat) : Int) - haveOf l0 l1 sub win exc at_ ((j + 1 : Nat) : Int) = c by omega] at e2
  rw [show ((0 : Nat) : Int) = (0 : Int) from rfl] at e1 e2
  rw [e1, e2, e3, ← hs, wrap_succ (j + 1) (by omega)]
  exact rmiss_l0 l0 l1 sub at_ l3 win exc hl0 hl hl3 hw m (j + 1) k (by omega) (by omega) (by rw [hs, List.length_append, List.length_replicate]; omega)
theorem rolesOk_of (l0 : List S33) (h : rightB l0 = true) : l0.length ≤ 1000 ∧ rolesOk l0 = true := by
 unfold rightB at h
 rw [Bool.and_eq_true, decide_eq_true_eq] at h
 refine ⟨by omega, ?_⟩
 unfold rolesOk
 rw [List.all_eq_true]
 intro s hs
 obtain ⟨i, hi, rfl⟩ := List.getElem_of_mem hs
 have := List.all_eq_true.1 h.1 i (List.mem_range.2 hi)
 unfold okAt at this
 rw [rd33_get l0 i hi] at this
 simp only [Bool.not_eq_true', Bool.or_eq_false_iff, Bool.not_eq_false', Bool.and_eq_true, decide_eq_true_eq, decide_eq_false_iff_not] at this ⊢
 omega
theorem amiss_f (l0 : List S33) (l1 : List S25) (sub : ByteArray) (l3 : List Int) (win exc at_ : Int) (hl : l1.length < 1000000) (hw : ∀ a ∈ l1, Wf25 a) :
  approval_Missing.f l0 l1 sub l3 win exc at_ = some (missR (checkR l0 l1).2 l0 l1 sub l3 win exc at_) := by
 unfold approval_Missing.f
 rw [acheck_f l0 l1 (l1.length + 2) hl hw (by omega)]
 simp only [Option.bind_some]
 by_cases hc : (checkR l0 l1).2 = 0
 ·rw [if_pos hc, if_pos (rolesOk_of l0 (checkR_right l0 l1 hc))]
 ·rw [if_neg hc]
  unfold missR
  rw [if_neg (by rintro ⟨h, _⟩; exact hc h)]
theorem rmiss_f (l0 : List S33) (l1 : List S25) (sub : ByteArray) (l3 : List Int) (win exc at_ : Int) (k : Nat) (hl : l1.length < 1000000) (hl0 : l0.length < 1000000) (hl3 : l3.length < 1000000) (hw : ∀ a ∈ l1, Wf25 a)
  (hk : 20 * l0.length + 20 * l1.length + 20 * l3.length + 200 < k) :
  garboardref58_Missing.f k l0 l1 sub l3 win exc at_ = some (missR (checkR l0 l1).2 l0 l1 sub l3 win exc at_) := by
 obtain ⟨k, rfl⟩ : ∃ k', k = k' + 2 := ⟨k - 2, by omega⟩
 unfold garboardref58_Missing.f
 rw [rcheck_f l0 l1 (k + 2) hl hl0 hw (by omega)]
 simp only [Option.bind_some]
 have bad : garboardref58_Missing.j0 (k + 2) l0 l1 sub at_ true l3 win exc = some ([], 1) := by
  rw [garboardref58_Missing.j0, if_pos rfl]
 have bad2 : garboardref58_Missing.j1 (k + 1) l0 l1 sub at_ true l3 win exc = some ([], 2) := by
  rw [garboardref58_Missing.j1, if_pos rfl]
 by_cases hc : (checkR l0 l1).2 = 0
 ·rw [if_pos hc, rvalid_f l3 win exc (k + 2) hl3 (by omega)]
  simp only [Option.bind_some]
  unfold missR
  by_cases hv : validB l3 win exc = true
  ·rw [if_pos ⟨hc, hv⟩, hv, garboardref58_Missing.j0, if_neg (by simp)]
   by_cases c1 : sub.size = 32
   ·rw [if_pos (by omega)]
    by_cases c2 : at_ < 0
    ·rw [if_pos c2, bad2, if_neg (by unfold tickB; simp; omega)]
    rw [if_neg c2]
    by_cases c3 : at_ > 1073741824
    ·rw [show decide (at_ > 1073741824) = true from decide_eq_true c3, bad2, if_neg (by unfold tickB; simp; omega)]
    rw [show decide (at_ > 1073741824) = false from decide_eq_false c3, garboardref58_Missing.j1, if_neg (by simp), if_pos ⟨c1, by unfold tickB; simp; omega⟩]
    have hwin : 0 ≤ win ∧ win ≤ 1073741824 := by
     unfold validB tickB at hv
     simp only [Bool.and_eq_true, decide_eq_true_eq] at hv
     omega
    exact rmiss_l0 l0 l1 sub at_ l3 win exc hl0 hl hl3 (wrap_id _ (by omega) (by omega)) 9 0 k (by omega) (by omega) (by simp [missOut])
   ·rw [if_neg (by omega), bad2, if_neg (by rintro ⟨h, _⟩; exact c1 h)]
  ·rw [if_neg (by rintro ⟨_, h⟩; exact hv h), show validB l3 win exc = false from by simpa using hv]
   exact bad
 ·rw [if_neg hc, bad]
  unfold missR
  rw [if_neg (by rintro ⟨h, _⟩; exact hc h)]
theorem equal_l0 (l : List Int) (hl : l.length < 9223372036854775807) : ∀ (m i k : Nat), i + m = l.length → m < k → slices_Equal_int_int.l0 k l l (l.length : Int) (i : Int) = some true
 | 0, i, k, hi, hk => by
  obtain ⟨k, rfl⟩ : ∃ k', k = k' + 1 := ⟨k - 1, by omega⟩
  simp only [slices_Equal_int_int.l0]
  rw [if_neg (by omega)]
 | m + 1, i, k, hi, hk => by
  obtain ⟨k, rfl⟩ : ∃ k', k = k' + 1 := ⟨k - 1, by omega⟩
  have ih := equal_l0 l hl m (i + 1) k (by omega) (by omega)
  simp only [slices_Equal_int_int.l0]
  rw [if_pos (by omega), if_pos (by omega), if_pos (by omega), if_pos (by omega), if_pos trivial, wrap_succ i (by omega), ih]
theorem equal_f (l : List Int) (k : Nat) (hl : l.length < 9223372036854775807) (hk : l.length < k) : slices_Equal_int_int.f k l l = some true := by
 unfold slices_Equal_int_int.f
 rw [if_pos rfl]
 exact equal_l0 l hl l.length 0 k (by omega) hk
theorem missOut_lenb (f : Int → Int) (b : Nat) (hf : ∀ r, f r ≤ b) : ∀ n, (missOut f n).length ≤ n * b
 | 0 => by simp [missOut]
 | n + 1 => by
  have := missOut_lenb f b hf n
  have h := hf ((n + 1 : Nat) : Int)
  rw [missOut_succ, List.length_append, List.length_replicate, Nat.succ_mul]
  omega
end Go.Proofs.YtbfimjncophcaaaDoor.Pr
namespace Go.Proofs.YtbfimjncophcaaaDoor.Pr
open Go.RowKit Go.Proofs.YtbfimjncophcaaaDoorW.PrintWords Go.Proofs.YtbfimjncophcaaaDoorW.PrintLast Go.Proofs.YtbfimjncophcaaaDoorW.PrintMore
attribute [local go_sem] max2_int min2_int max_two min_two max_three min_three max_four min_four
set_option linter.unusedVariables false
set_option linter.unusedSimpArgs false
def approval_Code.f (a0 : ByteArray) (a1_0 : Int) (a1_1 : Int) (a1_2 : ByteArray) (a1_3 : ByteArray) : Option (ByteArray × Int) := if (a0.size : Int) < 1 then (some ((⟨#[]⟩ : ByteArray), 1)) else (if (a0.size : Int) > 64 then (some ((⟨#[]⟩ : ByteArray), 1)) else ((approval_code.f a0 a1_0 a1_1 a1_2 a1_3).bind fun t163 => (some (t163, 0))))
set_option maxHeartbeats 8000000 in
set_option maxRecDepth 100000 in
theorem approval_Code.calls (a0 : ByteArray) (a1_0 : Int) (a1_1 : Int) (a1_2 : ByteArray) (a1_3 : ByteArray) (r1 : ByteArray) (r2 : Int) (w : World) (hL : LaidW w) (h : approval_Code.f a0 a1_0 a1_1 a1_2 a1_3 = some (r1, r2)) :
  Calls Tryd.prog 26 #[.string a0, .agg #[.int .i64 a1_0, .int .i64 a1_1, .string a1_2, .string a1_3]] w fun e w' => e = .returned (.tuple #[.string r1, .int .i64 r2]) ∧ Below w.heap.size w w' := by
 have hu25 := Tryd.underlying25
 have HB := Aside0.mk (Below.refl w.heap.size w)
 have HLW := Aside0.mk hL
 clear hL
 have H : (if (a0.size : Int) < 1 then (some ((⟨#[]⟩ : ByteArray), 1)) else (if (a0.size : Int) > 64 then (some ((⟨#[]⟩ : ByteArray), 1)) else ((approval_code.f a0 a1_0 a1_1 a1_2 a1_3).bind fun t163 => (some (t163, 0))))) = some (r1, r2) := h
 clear h
 by_cases c3 : (a0.size : Int) < 1
 ·rw [if_pos c3] at H
  have c3b0 : decide ((a0.size : Int) < 1) = true := decide_eq_true c3
  have c3b1 : decide (a0.size < 1) = true := decide_eq_true (by omega)
  clear c3
  simp only [Option.some.injEq, Prod.mk.injEq] at H
  obtain ⟨rfl, rfl⟩ := H
  go_enter Tryd.func26, Tryd.ntmps26
  go_wp2_with (first | ((with_reducible refine gate_dst (N := 3) rfl ?_); (try (refine gate_guard (by rfl) ?_; dsimp only)); refine box_event ?hg (N := 3) ?hd (cs := #[.int .i64 a1_0, .int .i64 a1_1, .string a1_2, .string a1_3]) (t := 25) ?hr ?_; (case hd => rfl); (case hg => rfl); (case hr => first | (go_simp; done) | (go_simp; rfl)); intro gb162 hg w4 hbox hb; have n0_ := Aside0.mk (below_step (by repeat (first | (with_reducible first | exact HB.out | apply below_alloc | apply pw_below_drewN | apply below_drew1) | exact HB.out)) hb); have n1_ := Aside0.mk (hbox); have n2_ := Aside0.mk ((by rw [hg]; exact (below_size (by repeat (first | (with_reducible first | exact HB.out | apply below_alloc | apply pw_below_drewN | apply below_drew1) | exact HB.out))) : w.heap.size ≤ gb162)); have n3_ := Aside0.mk ((by rw [hg]; exact (below_size (by repeat (first | (with_reducible first | exact HB.out | apply below_alloc | apply pw_below_drewN | apply below_drew1) | exact HB.out))) : w.heap.size ≤ gb162)); clear HB; have HB := n0_; have BK162 := n1_; have GW162 := n2_; have GE162 := n3_; clear n0_ n1_ n2_ n3_; clear hb hbox hg))
  go_ret2
  exact ⟨by first | rfl | (simp [errW_none, errW_some] <;> rfl) | (simp [*, errW_none, errW_some] <;> rfl), by repeat (first | (with_reducible first | exact HB.out | apply below_alloc | apply pw_below_drewN | apply below_drew1 | refine below_set ?_ GE162.out) | exact HB.out)⟩
 ·rw [if_neg c3] at H
  have c3b0 : decide ((a0.size : Int) < 1) = false := decide_eq_false c3
  have c3b1 : decide (a0.size < 1) = false := decide_eq_false (by omega)
  clear c3
  by_cases c5 : (a0.size : Int) > 64
  ·rw [if_pos c5] at H
   have c5b0 : decide (64 < (a0.size : Int)) = true := decide_eq_true c5
   have c5b1 : decide (64 < a0.size) = true := decide_eq_true (by omega)
   clear c5
   simp only [Option.some.injEq, Prod.mk.injEq] at H
   obtain ⟨rfl, rfl⟩ := H
   go_enter Tryd.func26, Tryd.ntmps26
   go_wp2_with (first | ((with_reducible refine gate_dst (N := 3) rfl ?_); (try (refine gate_guard (by rfl) ?_; dsimp only)); refine box_event ?hg (N := 3) ?hd (cs := #[.int .i64 a1_0, .int .i64 a1_1, .string a1_2, .string a1_3]) (t := 25) ?hr ?_; (case hd => rfl); (case hg => rfl); (case hr => first | (go_simp; done) | (go_simp; rfl)); intro gb162 hg w6 hbox hb; have n0_ := Aside0.mk (below_step (by repeat (first | (with_reducible first | exact HB.out | apply below_alloc | apply pw_below_drewN | apply below_drew1) | exact HB.out)) hb); have n1_ := Aside0.mk (hbox); have n2_ := Aside0.mk ((by rw [hg]; exact (below_size (by repeat (first | (with_reducible first | exact HB.out | apply below_alloc | apply pw_below_drewN | apply below_drew1) | exact HB.out))) : w.heap.size ≤ gb162)); have n3_ := Aside0.mk ((by rw [hg]; exact (below_size (by repeat (first | (with_reducible first | exact HB.out | apply below_alloc | apply pw_below_drewN | apply below_drew1) | exact HB.out))) : w.heap.size ≤ gb162)); clear HB; have HB := n0_; have BK162 := n1_; have GW162 := n2_; have GE162 := n3_; clear n0_ n1_ n2_ n3_; clear hb hbox hg))
   go_ret2
   exact ⟨by first | rfl | (simp [errW_none, errW_some] <;> rfl) | (simp [*, errW_none, errW_some] <;> rfl), by repeat (first | (with_reducible first | exact HB.out | apply below_alloc | apply pw_below_drewN | apply below_drew1 | refine below_set ?_ GE162.out) | exact HB.out)⟩
  ·rw [if_neg c5] at H
   have c5b0 : decide (64 < (a0.size : Int)) = false := decide_eq_false c5
   have c5b1 : decide (64 < a0.size) = false := decide_eq_false (by omega)
   clear c5
   replace H := Option.bind_eq_some_iff.mp H
   obtain ⟨t163, A70, H⟩ := H
   replace H : (some (t163, 0)) = some (r1, r2) := H
   have A7 := Aside0.mk A70
   clear A70
   simp only [Option.some.injEq, Prod.mk.injEq] at H
   obtain ⟨rfl, rfl⟩ := H
   go_enter Tryd.func26, Tryd.ntmps26
   go_wp2_with (first | ((with_reducible refine gate_dst (N := 3) rfl ?_); (try (refine gate_guard (by rfl) ?_; dsimp only)); refine box_event ?hg (N := 3) ?hd (cs := #[.int .i64 a1_0, .int .i64 a1_1, .string a1_2, .string a1_3]) (t := 25) ?hr ?_; (case hd => rfl); (case hg => rfl); (case hr => first | (go_simp; done) | (go_simp; rfl)); intro gb162 hg w8 hbox hb; have n0_ := Aside0.mk (below_step (by repeat (first | (with_reducible first | exact HB.out | apply below_alloc | apply pw_below_drewN | apply below_drew1) | exact HB.out)) hb); have n1_ := Aside0.mk (hbox); have n2_ := Aside0.mk ((by rw [hg]; exact (below_size (by repeat (first | (with_reducible first | exact HB.out | apply below_alloc | apply pw_below_drewN | apply below_drew1) | exact HB.out))) : w.heap.size ≤ gb162)); have n3_ := Aside0.mk ((by rw [hg]; exact (below_size (by repeat (first | (with_reducible first | exact HB.out | apply below_alloc | apply pw_below_drewN | apply below_drew1) | exact HB.out))) : w.heap.size ≤ gb162)); clear HB; have HB := n0_; have BK162 := n1_; have GW162 := n2_; have GE162 := n3_; clear n0_ n1_ n2_ n3_; clear hb hbox hg; have hcz9_0 : w8.cell? ⟨gb162, 0, none⟩ = some (.int .i64 a1_0) := (blk_cell BK162.out 0).trans rfl; have hcz9_1 : w8.cell? ⟨gb162, 1, none⟩ = some (.int .i64 a1_1) := (blk_cell BK162.out 1).trans rfl; have hcz9_2 : w8.cell? ⟨gb162, 2, none⟩ = some (.string a1_2) := (blk_cell BK162.out 2).trans rfl; have hcz9_3 : w8.cell? ⟨gb162, 3, none⟩ = some (.string a1_3) := (blk_cell BK162.out 3).trans rfl; have hfz9_0 := blk_frozen BK162.out 0; have hfz9_1 := blk_frozen BK162.out 1; have hfz9_2 := blk_frozen BK162.out 2; have hfz9_3 := blk_frozen BK162.out 3) | ((with_reducible refine gate_callee (f := 37) rfl ?_); refine goesL_ (some 16) rfl rfl Tryd.func37 (by kernel_rfl) rfl #[.string a0, .agg #[.int .i64 a1_0, .int .i64 a1_1, .string a1_2, .string a1_3]] rfl (by (try simp only [List.map_toArray, List.map_cons, List.map_nil]); first | done | rfl | (simp only [List.length_drop, List.length_take]; rfl)) ?_; (with_reducible refine (approval_code.calls a0 a1_0 a1_1 a1_2 a1_3 t163 _ ?side1 A7.out).mono ?_); (case side1 => exact HLW.out.below (by repeat (first | (with_reducible first | exact HB.out | apply below_alloc | apply pw_below_drewN | apply below_drew1 | refine below_set ?_ GE162.out) | exact HB.out))); rintro e w10 ⟨rfl, hb⟩; refine ⟨_, rfl, ?_⟩; have n0_ := Aside0.mk (blk_below (g := gb162) (o := .cells #[.int .i64 a1_0, .int .i64 a1_1, .string a1_2, .string a1_3] 25 (0, 0)) (by (with_reducible repeat (first | refine blk_drewN ?_ _ | refine blk_drew ?_ | refine blk_alloc ?_ _)); exact BK162.out) hb); have n1_ := Aside0.mk (below_step (by repeat (first | (with_reducible first | exact HB.out | apply below_alloc | apply pw_below_drewN | apply below_drew1 | refine below_set ?_ GE162.out) | exact HB.out)) hb); clear BK162; clear HB; have BK162 := n0_; have HB := n1_; clear n0_ n1_; (try clear hb); (try clear hb2); (try clear hk); (try clear hi)))
   go_ret2
   exact ⟨by first | rfl | (simp [errW_none, errW_some] <;> rfl) | (simp [*, errW_none, errW_some] <;> rfl), by repeat (first | (with_reducible first | exact HB.out | apply below_alloc | apply pw_below_drewN | apply below_drew1 | refine below_set ?_ GE162.out) | exact HB.out)⟩
end Go.Proofs.YtbfimjncophcaaaDoor.Pr
namespace Go.Proofs.YtbfimjncophcaaaDoor.Pr
open Go.RowKit Go.Proofs.YtbfimjncophcaaaDoorW.PrintWords Go.Proofs.YtbfimjncophcaaaDoorW.PrintLast Go.Proofs.YtbfimjncophcaaaDoorW.PrintMore
attribute [local go_sem] max2_int min2_int max_two min_two max_three min_three max_four min_four
set_option linter.unusedVariables false
set_option linter.unusedSimpArgs false
def garboardlaw58_Two.f  : Option ((List (S33))) := some (([(⟨1, 2, (⟨#[65, 110, 110, 97]⟩ : ByteArray), (⟨#[107]⟩ : ByteArray)⟩ : S33), (⟨2, 3, (⟨#[66, 111, 98]⟩ : ByteArray), (⟨#[113]⟩ : ByteArray)⟩ : S33)] : List (S33)))
set_option maxHeartbeats 8000000 in
set_option maxRecDepth 100000 in
theorem garboardlaw58_Two.calls  (r : List (S33)) (w : World) (h : garboardlaw58_Two.f  = some r) :
  Calls Tryd.prog 32 #[] w fun e w' => ∃ v0_ : Value, e = .returned (v0_) ∧ Kd.R k33 33 w' w.heap.size (fun _ => True) v0_ r ∧ Below w.heap.size w w' := by
 have hu33 := Tryd.underlying33
 have HB := Aside0.mk (Below.refl w.heap.size w)
 have H : (some (([(⟨1, 2, (⟨#[65, 110, 110, 97]⟩ : ByteArray), (⟨#[107]⟩ : ByteArray)⟩ : S33), (⟨2, 3, (⟨#[66, 111, 98]⟩ : ByteArray), (⟨#[113]⟩ : ByteArray)⟩ : S33)] : List (S33)))) = some r := h
 clear h
 obtain ⟨y167, hy167⟩ : ∃ y_ : List (S33), y_ = (([(⟨1, 2, (⟨#[65, 110, 110, 97]⟩ : ByteArray), (⟨#[107]⟩ : ByteArray)⟩ : S33), (⟨2, 3, (⟨#[66, 111, 98]⟩ : ByteArray), (⟨#[113]⟩ : ByteArray)⟩ : S33)] : List (S33))) := ⟨_, rfl⟩
 replace H : (some y167) = some r := by first | (rw [hy167]; with_reducible exact H) | (have H2_ := (Option.bind_some _ _).symm.trans H; rw [hy167]; with_reducible exact H2_) | (have H2_ := (Option.bind_some _ _).symm.trans H; with_reducible exact H2_) | with_reducible exact H | (rw [hy167]; exact H) | exact H
 have Ny167 := Aside0.mk hy167
 clear hy167
 obtain rfl := Option.some.inj H
 go_enter Tryd.func32, Tryd.ntmps32
 go_wp2_with (first | ((with_reducible refine gate_dst (N := 3) rfl ?_); refine Kd.R_lit k33 _ 33 ?hg (N := 3) ?hd (xs := ([(⟨1, 2, (⟨#[65, 110, 110, 97]⟩ : ByteArray), (⟨#[107]⟩ : ByteArray)⟩ : S33), (⟨2, 3, (⟨#[66, 111, 98]⟩ : ByteArray), (⟨#[113]⟩ : ByteArray)⟩ : S33)] : List (S33))) (inner := [.int .i64 1, .int .i64 2, .string (⟨#[65, 110, 110, 97]⟩ : ByteArray), .string (⟨#[107]⟩ : ByteArray), .int .i64 2, .int .i64 3, .string (⟨#[66, 111, 98]⟩ : ByteArray), .string (⟨#[113]⟩ : ByteArray)]) (ok := fun _ => True) (okp := fun _ => True) ?hr ?hp (fun _ hk => hk) trivial (Below.refl _ _) (Nat.le_refl _) (by simp) ?_; (case hd => rfl); (case hg => rfl); (case hr => first | (go_simp; done) | (go_simp; rfl)); (case hp => exact (Reps.c4 (show Kd.M k33 _ _ _ (⟨1, 2, (⟨#[65, 110, 110, 97]⟩ : ByteArray), (⟨#[107]⟩ : ByteArray)⟩ : S33) [.int .i64 1, .int .i64 2, .string (⟨#[65, 110, 110, 97]⟩ : ByteArray), .string (⟨#[107]⟩ : ByteArray)] from (k33_mkM _ _ _ (⟨1, 2, (⟨#[65, 110, 110, 97]⟩ : ByteArray), (⟨#[107]⟩ : ByteArray)⟩ : S33) )) (Reps.c4 (show Kd.M k33 _ _ _ (⟨2, 3, (⟨#[66, 111, 98]⟩ : ByteArray), (⟨#[113]⟩ : ByteArray)⟩ : S33) [.int .i64 2, .int .i64 3, .string (⟨#[66, 111, 98]⟩ : ByteArray), .string (⟨#[113]⟩ : ByteArray)] from (k33_mkM _ _ _ (⟨2, 3, (⟨#[66, 111, 98]⟩ : ByteArray), (⟨#[113]⟩ : ByteArray)⟩ : S33) )) (Reps.none _ _)))); intro v168 w1 ho2 hb hg_ hnew_; clear hg_ hnew_; (first | rw [← Ny167.out] at ho2 | (simp only [Int.reduceToNat] at ho2; rw [← Ny167.out] at ho2)); have n0_ := Aside0.mk (Kd.R_lower ho2 (below_size (by repeat (first | (with_reducible first | exact HB.out | apply below_alloc | apply pw_below_drewN | apply below_drew1) | exact HB.out)))); have n1_ := Aside0.mk (below_step (by repeat (first | (with_reducible first | exact HB.out | apply below_alloc | apply pw_below_drewN | apply below_drew1) | exact HB.out)) hb); clear HB; have HO169 := n0_; have HB := n1_; clear n0_ n1_; clear hb ho2))
 go_ret
 exact ⟨_, by first | rfl | (simp [errW_none, errW_some] <;> rfl) | (simp [*, errW_none, errW_some] <;> rfl), by (with_reducible repeat (first | apply Kd.R_alloc | apply Kd.R_drewN | apply Kd.R_drew)); exact HO169.out, by repeat (first | (with_reducible first | exact HB.out | apply below_alloc | apply pw_below_drewN | apply below_drew1) | exact HB.out)⟩
end Go.Proofs.YtbfimjncophcaaaDoor.Pr
namespace Go.Proofs.YtbfimjncophcaaaDoor.Pr
open Go.RowKit Go.Proofs.YtbfimjncophcaaaDoorW.PrintWords Go.Proofs.YtbfimjncophcaaaDoorW.PrintLast Go.Proofs.YtbfimjncophcaaaDoorW.PrintMore
attribute [local go_sem] max2_int min2_int max_two min_two max_three min_three max_four min_four
set_option linter.unusedVariables false
set_option linter.unusedSimpArgs false
def approval_Subject.f (a0 : ByteArray) : Option (ByteArray) := (record_Sum.f a0).bind fun t170 => (some t170)
set_option maxHeartbeats 8000000 in
set_option maxRecDepth 100000 in
theorem approval_Subject.calls (a0 : ByteArray) (r : ByteArray) (w : World) (h : approval_Subject.f a0 = some r) :
  Calls Tryd.prog 33 #[.string a0] w fun e w' => e = .returned (.string r) ∧ Below w.heap.size w w' := by
 have HB := Aside0.mk (Below.refl w.heap.size w)
 have H : ((record_Sum.f a0).bind fun t170 => (some t170)) = some r := h
 clear h
 replace H := Option.bind_eq_some_iff.mp H
 obtain ⟨t170, A20, H⟩ := H
 replace H : (some t170) = some r := H
 have A2 := Aside0.mk A20
 clear A20
 obtain rfl := Option.some.inj H
 go_enter Tryd.func33, Tryd.ntmps33
 go_wp2_with (first | ((with_reducible refine gate_callee (f := 34) rfl ?_); refine goesL_ (some 4) rfl rfl Tryd.func34 (by kernel_rfl) rfl #[.string a0] rfl (by (try simp only [List.map_toArray, List.map_cons, List.map_nil]); first | done | rfl | (simp only [List.length_drop, List.length_take]; rfl)) ?_; (with_reducible refine (record_Sum.calls a0 t170 _ A2.out).mono ?_); rintro e w3 ⟨rfl, hb⟩; refine ⟨_, rfl, ?_⟩; have n0_ := Aside0.mk (below_step (by repeat (first | (with_reducible first | exact HB.out | apply below_alloc | apply pw_below_drewN | apply below_drew1) | exact HB.out)) hb); clear HB; have HB := n0_; clear n0_; (try clear hb); (try clear hb2); (try clear hk); (try clear hi)))
 go_ret
 exact ⟨by first | rfl | (simp [errW_none, errW_some] <;> rfl) | (simp [*, errW_none, errW_some] <;> rfl), by repeat (first | (with_reducible first | exact HB.out | apply below_alloc | apply pw_below_drewN | apply below_drew1) | exact HB.out)⟩
end Go.Proofs.YtbfimjncophcaaaDoor.Pr
namespace Go.Proofs.YtbfimjncophcaaaDoor.Pr
set_option linter.unusedVariables false
set_option linter.unusedSimpArgs false
open Go.RowKit Go.Proofs.YtbfimjncophcaaaDoorW.PrintWords
def TW : List S33 := [⟨1, 2, ⟨#[65, 110, 110, 97]⟩, ⟨#[107]⟩⟩, ⟨2, 3, ⟨#[66, 111, 98]⟩, ⟨#[113]⟩⟩]
def SA : ByteArray := ⟨(Lib.repeatL [97] 32).toArray⟩
def CA : ByteArray := codeOf ⟨#[107]⟩ 1 10 SA
def LA : List S25 := [⟨1, 10, SA, CA⟩]
theorem SA_size : SA.size = 32 := by decide
theorem rep_SA : strings_Repeat.f ⟨#[97]⟩ 32 = some SA := by
 unfold strings_Repeat.f
 rw [if_pos (by decide)]
 rfl
theorem code_CA (c : ByteArray) : approval_code.f ⟨#[107]⟩ 1 10 SA c = some CA := code_f _ _ _ _ _ (by decide) (by unfold i64B; decide) (by unfold i64B; decide) (by rw [SA_size]; omega)
theorem right_TW : approval_right.f TW = some true := by kernel_rfl
theorem check_nil (k : Nat) : approval_Check.f (k + 1) TW [] = some (-1, 0) := by
 unfold approval_Check.f
 rw [right_TW]
 simp only [Option.bind_some]
 rw [if_pos trivial, if_neg (by decide)]
 unfold approval_Check.l0
 rw [if_neg (by decide)]
theorem check_LA (k : Nat) : approval_Check.f (k + 2) TW LA = some (-1, 0) := by
 unfold approval_Check.f
 rw [right_TW]
 simp only [Option.bind_some]
 rw [if_pos trivial, if_neg (by show ¬ ((1 : Nat) : Int) > 1024; decide)]
 unfold approval_Check.l0
 rw [if_pos (by show (0 : Int) < ((1 : Nat) : Int); decide), if_pos (by decide), if_pos (by show (0 : Int) < ((1 : Nat) : Int); decide), if_pos (by show (0 : Int) ≤ ((1 : Nat) : Int); decide)]
 rw [show approval_fault.f TW (LA.take (0 : Int).toNat) ((rd_T25 LA 0).f0) ((rd_T25 LA 0).f1) ((rd_T25 LA 0).f2) ((rd_T25 LA 0).f3) = some 0 from by kernel_rfl]
 simp only [Option.bind_some]
 rw [if_pos trivial, show approval_signer.f TW ((rd_T25 LA 0).f0) = some 0 from by kernel_rfl]
 simp only [Option.bind_some]
 rw [if_pos (by decide), if_pos (by decide), show approval_code.f ((rd_T33 TW 0).f3) ((rd_T25 LA 0).f0) ((rd_T25 LA 0).f1) ((rd_T25 LA 0).f2) ((rd_T25 LA 0).f3) = some CA from code_CA _]
 simp only [Option.bind_some]
 rw [if_pos (show (rd_T25 LA 0).f3.toList = CA.toList from rfl)]
 unfold approval_Check.l0
 have hw : wrap64 (0 + 1) = 1 := by first | kernel_rfl | (simp [wrap64]; done) | (unfold wrap64; decide)
 rw [if_neg (by show ¬ wrap64 (0 + 1) < ((1 : Nat) : Int); rw [hw]; decide)]
theorem sign_A : approval_Sign.f 1 TW [] 1 10 SA ⟨#[]⟩ = some (LA, 0) := by
 unfold approval_Sign.f
 rw [check_nil 0]
 simp only [Option.bind_some]
 rw [if_pos trivial, if_neg (by decide), show approval_fault.f TW [] 1 10 SA ⟨#[]⟩ = some 0 from by kernel_rfl]
 simp only [Option.bind_some]
 rw [if_pos trivial, show approval_signer.f TW 1 = some 0 from by kernel_rfl]
 simp only [Option.bind_some]
 rw [if_pos (by decide), if_pos (by decide), show approval_code.f ((rd_T33 TW 0).f3) 1 10 SA ⟨#[]⟩ = some CA from code_CA _]
 rfl
theorem miss_of (k : Nat) (l3 : List Int) (a b at_ : Int) (r : List Int × Int) (hk : k = LA.length) (h : missR 0 TW LA SA l3 a b at_ = r) : approval_Missing.f TW LA SA l3 a b at_ = some r := by
 unfold approval_Missing.f
 rw [show LA.length + 2 = 1 + 2 from rfl, check_LA 1]
 simp only [Option.bind_some]
 rw [if_pos trivial, if_pos (by decide), h]
theorem miss_12 : approval_Missing.f TW LA SA [2, 3] 5 0 12 = some ([3], 0) := miss_of 1 _ _ _ _ _ rfl (by kernel_rfl)
theorem miss_16 : approval_Missing.f TW LA SA [2, 3] 5 0 16 = some ([2, 3], 0) := miss_of 1 _ _ _ _ _ rfl (by kernel_rfl)
theorem miss_10 : approval_Missing.f TW LA SA [2] 0 0 10 = some ([], 0) := miss_of 1 _ _ _ _ _ rfl (by kernel_rfl)
theorem granted_A : approval_Granted.f TW LA SA [2] 0 0 10 = some true := by
 unfold approval_Granted.f
 rw [miss_10]
 rfl
theorem Code_A : approval_Code.f ⟨#[107]⟩ 1 10 SA ⟨#[]⟩ = some (CA, 0) := by
 unfold approval_Code.f
 rw [if_neg (by decide), if_neg (by decide), code_CA]
 rfl
def ABC : ByteArray := ⟨#[97, 98, 99]⟩
theorem sum_A : record_Sum.f ⟨#[97, 98, 99]⟩ = some (shaSum ABC) := sum_f ABC (by decide)
theorem subject_A : approval_Subject.f ⟨#[97, 98, 99]⟩ = some (shaSum ABC) := by
 unfold approval_Subject.f
 rw [sum_A]
 rfl
theorem rd_LA : rd_T25 LA 0 = ⟨1, 10, SA, CA⟩ := rfl
theorem CA_size : CA.size = 32 := code_size _ _ _ _
theorem two_A : garboardlaw58_Two.f = some TW := rfl
theorem eq_3 : slices_Equal_int_int.f 4 [3] [3] = some true := by kernel_rfl
theorem eq_23 : slices_Equal_int_int.f 4 [2, 3] [2, 3] = some true := by kernel_rfl
end Go.Proofs.YtbfimjncophcaaaDoor.Pr
namespace Go.Proofs.YtbfimjncophcaaaDoor.Pr
set_option linter.unusedVariables false
set_option linter.unusedSimpArgs false
open Go.RowKit Go.Proofs.YtbfimjncophcaaaDoorW.PrintWords Go.Proofs.YtbfimjncophcaaaDoorW.PrintLast Go.Proofs.YtbfimjncophcaaaDoorW.PrintMore
def garboardlaw58_awake.f : Option Bool := some true
set_option maxHeartbeats 4000000 in
set_option maxRecDepth 100000 in
theorem garboardlaw58_awake.calls (r : Bool) (w : World) (hL : LaidW w) (h : garboardlaw58_awake.f = some r) :
  Calls Tryd.prog 9 #[] w fun e w' => e = .returned (.bool r) ∧ Below w.heap.size w w' := by
 obtain rfl : true = r := by injection h
 clear h
 have HL := Aside0.mk hL
 have HB := Aside0.mk (Below.refl w.heap.size w)
 clear hL
 go_enter Tryd.func9, Tryd.ntmps9
 go_wp2_with fail
 refine (strings_Repeat.calls _ _ SA _ rep_SA).mono ?_
 rintro e w1 ⟨rfl, hb1⟩
 replace HB := Aside0.mk (below_step HB.out hb1)
 clear hb1
 go_wp2_with fail
 refine (garboardlaw58_Two.calls TW _ two_A).mono ?_
 rintro e w2 ⟨v2, rfl, ho2, hb2⟩
 replace HB := Aside0.mk (below_step HB.out hb2)
 clear hb2
 obtain ⟨A2, c2, hv2⟩ := Kd.R_slice ho2
 subst hv2
 have hc2 := (Kd.R_reads' ho2).2.1
 have HC2 := Aside0.mk (Kd.R_reads' ho2).2.2
 clear ho2
 go_wp2_with fail
 refine (approval_Sign.calls 1 A2 c2 TW none 0 [] 1 10 SA ⟨#[]⟩ LA 0 _ HC2.out hc2 (Kd.C_nil _ _) (Nat.le_refl _) (HL.out.below HB.out) sign_A).mono ?_
 rintro e w3 ⟨v3, rfl, ho3, hb3⟩
 replace HB := Aside0.mk (below_step HB.out hb3)
 clear hb3 HC2
 obtain ⟨A3, c3, hv3⟩ := Kd.R_slice ho3
 subst hv3
 have hc3 := (Kd.R_reads' ho3).2.1
 have HC3 := Aside0.mk (Kd.R_reads' ho3).2.2
 clear ho3
 go_wp2_with (first
  | ((with_reducible refine gate_dst (N := 19) rfl ?_); go_loud (refine Kd.R_lit (Kd.int .i64) (w0 := w) w.heap.size 3 ?hg (N := 19) ?hd (xs := [2, 3]) (inner := [.int .i64 2, .int .i64 3]) (ok := fun _ => True) (okp := fun _ => True) ?hr ?hp (fun _ hk => hk) trivial ?hB ?hS (by simp) ?_); (case hd => rfl); (case hg => rfl); (case hr => first | (go_simp; done) | (go_simp; rfl)); (case hp => exact ⟨rfl, fun j p hj => by rcases j with _ | _ | j <;> simp at hj <;> subst hj <;> first | exact rfl | exact ⟨rfl, rfl⟩⟩); (case hB => exact HB.out); (case hS => exact HB.out.size); intro v4 w4 ho4 hb4 hg4 hn4; (obtain ⟨A4, c4, hv4⟩ := Kd.R_slice ho4); subst hv4; have HC4 := Aside0.mk (Kd.R_reads' ho4).2.2; have hc4 := (Kd.R_reads' ho4).2.1; replace HC3 := Aside0.mk (Kd.C_below HC3.out (pw_below_grown (Below.refl _ _) _ (Nat.le_refl _) hg4 (fun k hk => by cases hk))); clear HB; have HB := Aside0.mk hb4; clear ho4 hb4 hg4 hn4)
  | ((with_reducible refine gate_dst (N := 4) rfl ?_); refine box_event rfl (N := 4) rfl (cs := #[.slice none 0 0, .int .i64 0, .int .i64 0]) (t := 41) (by first | (go_simp; done) | (go_simp; rfl)) ?_; intro G hG w5 hb5 hB5)
  | ((with_reducible refine gate_store (t := 41) (p := 4) (v := .tmp 20) rfl ?_); refine store_event rfl 41 (.tmp 4) (.tmp 20) rfl rfl G #[.slice A4 2 c4, .int .i64 5, .int .i64 0] rfl rfl 41 _ hb5 (by kernel_rfl) (by rfl) (by simp [Value.oneCell']) ?_; intro w6 hb6 hG6))
 have hB56 := pw_below_grown hB5 (some G) hB5.size hG6 (fun k hk => by injection hk with hk; omega)
 replace HB := Aside0.mk (below_step HB.out hB56)
 replace HC3 := Aside0.mk (Kd.C_below HC3.out hB56)
 replace HC4 := Aside0.mk (Kd.C_below HC4.out hB56)
 have BS := Aside0.mk hb6
 clear hG hb5 hB5 hG6 hb6 hB56
 have k0 : w6.cell? ⟨G, 0, none⟩ = some (.slice A4 2 c4) := blk_cell BS.out 0
 have k1 : w6.cell? ⟨G, 1, none⟩ = some (.int .i64 5) := blk_cell BS.out 1
 have k2 : w6.cell? ⟨G, 2, none⟩ = some (.int .i64 0) := blk_cell BS.out 2
 have GL : G < w6.heap.size := blk_lt BS.out
 go_region_held3 (fun w' => w'.cell? ⟨G, 0, none⟩ = some (.slice A4 2 c4) ∧ w'.cell? ⟨G, 1, none⟩ = some (.int .i64 5) ∧ w'.cell? ⟨G, 2, none⟩ = some (.int .i64 0))
  (first | exact ⟨k0, k1, k2⟩ | exact ⟨q0, q1, q2⟩ | exact ⟨p0, p1, p2⟩)
  (first
   | (go_at_call 32; refine (garboardlaw58_Two.calls TW _ two_A).mono ?_; rintro e wa ⟨va, rfl, hoa, hba⟩; (obtain ⟨Aa, ca, hva⟩ := Kd.R_slice hoa); subst hva; have hca := (Kd.R_reads' hoa).2.1; have HCa := Aside0.mk (Kd.R_reads' hoa).2.2; have HBa := Aside0.mk (below_step (below_drew1 HB.out) hba); have q0 := (hba.cell (p := ⟨G, 0, none⟩) GL).trans k0; have q1 := (hba.cell (p := ⟨G, 1, none⟩) GL).trans k1; have q2 := (hba.cell (p := ⟨G, 2, none⟩) GL).trans k2; have HCb := Aside0.mk (Kd.C_below (Kd.C_drew HC3.out) hba); have HCc := Aside0.mk (Kd.C_below (Kd.C_drew HC4.out) hba); have GLa := Nat.lt_of_lt_of_le GL hba.size; have BSa := Aside0.mk (blk_below (blk_drew BS.out) hba); clear hoa hba)
   | (go_at_call 19; refine (approval_Missing.calls Aa ca TW A3 c3 LA SA A4 c4 [2, 3] 5 0 12 [3] 0 _ HCa.out hca HCb.out hc3 HCc.out hc4 (HL.out.below HBa.out) miss_12).mono ?_; rintro e wb ⟨vb, rfl, hob, hbb⟩; have HBb := Aside0.mk (below_step HBa.out hbb); have p0 := (hbb.cell (p := ⟨G, 0, none⟩) GLa).trans q0; have p1 := (hbb.cell (p := ⟨G, 1, none⟩) GLa).trans q1; have p2 := (hbb.cell (p := ⟨G, 2, none⟩) GLa).trans q2; have HCd := Aside0.mk (Kd.C_below HCb.out hbb); have HCe := Aside0.mk (Kd.C_below HCc.out hbb); have GLb := Nat.lt_of_lt_of_le GLa hbb.size; have BSb := Aside0.mk (blk_below BSa.out hbb); have HO1 := Aside0.mk hob; clear hob hbb))
 replace HB := HBb
 replace HC3 := HCd
 replace HC4 := HCe
 replace BS := BSb
 have GL := GLb
 have k0 := p0
 have k1 := p1
 have k2 := p2
 obtain ⟨A5, c5, hvb1⟩ := Kd.R_slice HO1.out
 subst hvb1
 have hc5 := (Kd.R_reads' HO1.out).2.1
 have HD5 := Aside0.mk (Kd.R_reads' HO1.out).2.2
 clear HBb HCd HCe BSb GLb p0 p1 p2 q0 q1 q2 HCa HBa HCb HCc GLa BSa hca HO1
 go_wp2_with fail
 go_region_held3 (fun w' => w'.cell? ⟨G, 0, none⟩ = some (.slice A4 2 c4) ∧ w'.cell? ⟨G, 1, none⟩ = some (.int .i64 5) ∧ w'.cell? ⟨G, 2, none⟩ = some (.int .i64 0))
  (first | exact ⟨k0, k1, k2⟩ | exact ⟨q0, q1, q2⟩ | exact ⟨p0, p1, p2⟩)
  (first
   | (go_at_call 32; refine (garboardlaw58_Two.calls TW _ two_A).mono ?_; rintro e wa ⟨va, rfl, hoa, hba⟩; (obtain ⟨Aa, ca, hva⟩ := Kd.R_slice hoa); subst hva; have hca := (Kd.R_reads' hoa).2.1; have HCa := Aside0.mk (Kd.R_reads' hoa).2.2; have HBa := Aside0.mk (below_step (below_drew1 HB.out) hba); have q0 := (hba.cell (p := ⟨G, 0, none⟩) GL).trans k0; have q1 := (hba.cell (p := ⟨G, 1, none⟩) GL).trans k1; have q2 := (hba.cell (p := ⟨G, 2, none⟩) GL).trans k2; have HCb := Aside0.mk (Kd.C_below (Kd.C_drew HC3.out) hba); have HCc := Aside0.mk (Kd.C_below (Kd.C_drew HC4.out) hba); have HCx := Aside0.mk (Kd.C_below (Kd.C_drew HD5.out) hba); have GLa := Nat.lt_of_lt_of_le GL hba.size; have BSa := Aside0.mk (blk_below (blk_drew BS.out) hba); clear hoa hba)
   | (go_at_call 19; refine (approval_Missing.calls Aa ca TW A3 c3 LA SA A4 c4 [2, 3] 5 0 16 [2, 3] 0 _ HCa.out hca HCb.out hc3 HCc.out hc4 (HL.out.below HBa.out) miss_16).mono ?_; rintro e wb ⟨vb, rfl, hob, hbb⟩; have HBb := Aside0.mk (below_step HBa.out hbb); have p0 := (hbb.cell (p := ⟨G, 0, none⟩) GLa).trans q0; have p1 := (hbb.cell (p := ⟨G, 1, none⟩) GLa).trans q1; have p2 := (hbb.cell (p := ⟨G, 2, none⟩) GLa).trans q2; have HCd := Aside0.mk (Kd.C_below HCb.out hbb); have HCe := Aside0.mk (Kd.C_below HCc.out hbb); have HCy := Aside0.mk (Kd.C_below HCx.out hbb); have GLb := Nat.lt_of_lt_of_le GLa hbb.size; have BSb := Aside0.mk (blk_below BSa.out hbb); have HO2 := Aside0.mk hob; clear hob hbb))
 replace HB := HBb
 replace HC3 := HCd
 replace HC4 := HCe
 replace BS := BSb
 have GL := GLb
 have k0 := p0
 have k1 := p1
 have k2 := p2
 obtain ⟨A6, c6, hvb2⟩ := Kd.R_slice HO2.out
 subst hvb2
 have hc6 := (Kd.R_reads' HO2.out).2.1
 have HD6 := Aside0.mk (Kd.R_reads' HO2.out).2.2
 clear HBb HCd HCe BSb GLb p0 p1 p2 q0 q1 q2 HCa HBa HCb HCc GLa BSa hca HO2
 replace HD5 := HCy
 clear HCx HCy k0 k1 k2 GL BS HC4
 go_wp2_with fail
 refine (approval_Code.calls ⟨#[107]⟩ 1 10 SA ⟨#[]⟩ CA 0 _ (HL.out.below HB.out) Code_A).mono ?_
 rintro e w7 ⟨rfl, hb7⟩
 replace HB := Aside0.mk (below_step HB.out hb7)
 replace HC3 := Aside0.mk (Kd.C_below HC3.out hb7)
 replace HD5 := Aside0.mk (Kd.C_below HD5.out hb7)
 replace HD6 := Aside0.mk (Kd.C_below HD6.out hb7)
 clear hb7
 obtain ⟨C, hC⟩ : ∃ C, C = CA := ⟨_, rfl⟩
 rw [← hC]
 have hCA : (C.size : Int) = 32 := by rw [hC, CA_size]; rfl
 have HCC := Aside0.mk hC
 clear hC
 go_wp2_with (first | ((with_reducible refine gate_dst (N := 59) rfl ?_); (try (refine gate_guard (by rfl) ?_; dsimp only)); go_loud (refine Kd.R_lit (Kd.int .i64) (w0 := w) w.heap.size 3 ?hg (N := 59) ?hd (xs := [3]) (inner := [.int .i64 3]) (ok := fun _ => True) (okp := fun _ => True) ?hr ?hp (fun _ hk => hk) trivial ?hB ?hS (by simp) ?_); (case hd => rfl); (case hg => rfl); (case hr => first | (go_simp; done) | (go_simp; rfl)); (case hp => exact ⟨rfl, fun j p hj => by rcases j with _ | _ | j <;> simp at hj <;> subst hj <;> first | exact rfl | exact ⟨rfl, rfl⟩⟩); (case hB => exact HB.out); (case hS => exact HB.out.size); intro v4 w59 ho4 hb4 hg4 hn4; (obtain ⟨A59, c59, hv4⟩ := Kd.R_slice ho4); subst hv4; have HL59 := Aside0.mk (Kd.R_reads' ho4).2.2; have hc59 := (Kd.R_reads' ho4).2.1; replace HC3 := Aside0.mk (Kd.C_below HC3.out (pw_below_grown (Below.refl _ _) _ (Nat.le_refl _) hg4 (fun k hk => by cases hk))); replace HD5 := Aside0.mk (Kd.C_below HD5.out (pw_below_grown (Below.refl _ _) _ (Nat.le_refl _) hg4 (fun k hk => by cases hk))); replace HD6 := Aside0.mk (Kd.C_below HD6.out (pw_below_grown (Below.refl _ _) _ (Nat.le_refl _) hg4 (fun k hk => by cases hk))); clear HB; have HB := Aside0.mk hb4; clear ho4 hb4 hg4 hn4))
 refine (slices_Equal_int_int.calls 4 A5 c5 [3] A59 c59 [3] true _ HD5.out hc5 HL59.out hc59 eq_3).mono ?_
 rintro e w8 ⟨rfl, ⟨n8, rfl⟩⟩
 replace HB := Aside0.mk (pw_below_drewN HB.out n8)
 replace HC3 := Aside0.mk (Kd.C_drewN HC3.out n8)
 replace HD6 := Aside0.mk (Kd.C_drewN HD6.out n8)
 generalize w59.drewN n8 = w8 at HB HC3 HD6 ⊢
 go_wp2_with (first | ((with_reducible refine gate_dst (N := 64) rfl ?_); (try (refine gate_guard (by rfl) ?_; dsimp only)); go_loud (refine Kd.R_lit (Kd.int .i64) (w0 := w) w.heap.size 3 ?hg (N := 64) ?hd (xs := [2, 3]) (inner := [.int .i64 2, .int .i64 3]) (ok := fun _ => True) (okp := fun _ => True) ?hr ?hp (fun _ hk => hk) trivial ?hB ?hS (by simp) ?_); (case hd => rfl); (case hg => rfl); (case hr => first | (go_simp; done) | (go_simp; rfl)); (case hp => exact ⟨rfl, fun j p hj => by rcases j with _ | _ | j <;> simp at hj <;> subst hj <;> first | exact rfl | exact ⟨rfl, rfl⟩⟩); (case hB => exact HB.out); (case hS => exact HB.out.size); intro v4 w64 ho4 hb4 hg4 hn4; (obtain ⟨A64, c64, hv4⟩ := Kd.R_slice ho4); subst hv4; have HL64 := Aside0.mk (Kd.R_reads' ho4).2.2; have hc64 := (Kd.R_reads' ho4).2.1; replace HC3 := Aside0.mk (Kd.C_below HC3.out (pw_below_grown (Below.refl _ _) _ (Nat.le_refl _) hg4 (fun k hk => by cases hk))); replace HD6 := Aside0.mk (Kd.C_below HD6.out (pw_below_grown (Below.refl _ _) _ (Nat.le_refl _) hg4 (fun k hk => by cases hk))); clear HB; have HB := Aside0.mk hb4; clear ho4 hb4 hg4 hn4))
 refine (slices_Equal_int_int.calls 4 A6 c6 [2, 3] A64 c64 [2, 3] true _ HD6.out hc6 HL64.out hc64 eq_23).mono ?_
 rintro e w9 ⟨rfl, ⟨n9, rfl⟩⟩
 replace HB := Aside0.mk (pw_below_drewN HB.out n9)
 replace HC3 := Aside0.mk (Kd.C_drewN HC3.out n9)
 generalize w64.drewN n9 = w9 at HB HC3 ⊢
 obtain ⟨ad, e, h0, h1, h2, h3⟩ := at_T25 HC3.out 0 (by omega) (by decide)
 rw [rd_LA, ← HCC.out] at h3
 clear h0 h1 h2
 rw [show (0 : Int).toNat * 4 = 0 from rfl] at h3
 have ea : ad.add 0 = ad := by cases ad; simp [Addr.add]
 rw [ea] at h3
 clear ea
 have h4 : (LA.length : Int) = 1 := rfl
 cases e
 go_wp2_with fail
 refine (garboardlaw58_Two.calls TW _ two_A).mono ?_
 rintro e w10 ⟨v10, rfl, ho10, hb10⟩
 obtain ⟨A10, c10, hv10⟩ := Kd.R_slice ho10
 subst hv10
 have hc10 := (Kd.R_reads' ho10).2.1
 have HC10 := Aside0.mk (Kd.R_reads' ho10).2.2
 replace HB := Aside0.mk (below_step HB.out hb10)
 replace HC3 := Aside0.mk (Kd.C_below HC3.out hb10)
 clear ho10 hb10 h3 h4
 go_wp2_with (first | ((with_reducible refine gate_dst (N := 89) rfl ?_); (try (refine gate_guard (by rfl) ?_; dsimp only)); go_loud (refine Kd.R_lit (Kd.int .i64) (w0 := w) w.heap.size 3 ?hg (N := 89) ?hd (xs := [2]) (inner := [.int .i64 2]) (ok := fun _ => True) (okp := fun _ => True) ?hr ?hp (fun _ hk => hk) trivial ?hB ?hS (by simp) ?_); (case hd => rfl); (case hg => rfl); (case hr => first | (go_simp; done) | (go_simp; rfl)); (case hp => exact ⟨rfl, fun j p hj => by rcases j with _ | _ | j <;> simp at hj <;> subst hj <;> first | exact rfl | exact ⟨rfl, rfl⟩⟩); (case hB => exact HB.out); (case hS => exact HB.out.size); intro v4 w89 ho4 hb4 hg4 hn4; (obtain ⟨A89, c89, hv4⟩ := Kd.R_slice ho4); subst hv4; have HL89 := Aside0.mk (Kd.R_reads' ho4).2.2; have hc89 := (Kd.R_reads' ho4).2.1; replace HC3 := Aside0.mk (Kd.C_below HC3.out (pw_below_grown (Below.refl _ _) _ (Nat.le_refl _) hg4 (fun k hk => by cases hk))); replace HC10 := Aside0.mk (Kd.C_below HC10.out (pw_below_grown (Below.refl _ _) _ (Nat.le_refl _) hg4 (fun k hk => by cases hk))); clear HB; have HB := Aside0.mk hb4; clear ho4 hb4 hg4 hn4))
 refine (approval_Granted.calls A10 c10 TW (some ad) c3 LA SA A89 c89 [2] 0 0 10 true _ HC10.out hc10 HC3.out hc3 HL89.out hc89 (HL.out.below HB.out) granted_A).mono ?_
 rintro e w11 ⟨rfl, hb11⟩
 replace HB := Aside0.mk (below_step HB.out hb11)
 clear hb11 HC3 HC10 HL89
 go_wp2_with fail
 refine (approval_Subject.calls _ (shaSum ABC) _ subject_A).mono ?_
 rintro e w12 ⟨rfl, hb12⟩
 replace HB := Aside0.mk (below_step HB.out hb12)
 clear hb12
 generalize hD : shaSum ABC = D
 have HD := Aside0.mk hD
 clear hD
 go_wp2_with fail
 refine (record_Sum.calls _ D _ (by rw [← HD.out]; exact sum_A)).mono ?_
 rintro e w13 ⟨rfl, hb13⟩
 replace HB := Aside0.mk (below_step HB.out hb13)
 clear hb13
 go_wp2_with fail
 go_ret
 exact ⟨rfl, HB.out⟩
end Go.Proofs.YtbfimjncophcaaaDoor.Pr
namespace Go.Proofs.YtbfimjncophcaaaDoor.Pr
open Go.RowKit Go.Proofs.YtbfimjncophcaaaDoorW.PrintWords Go.Proofs.YtbfimjncophcaaaDoorW.PrintLast Go.Proofs.YtbfimjncophcaaaDoorW.PrintMore
attribute [local go_sem] max2_int min2_int max_two min_two max_three min_three max_four min_four
set_option linter.unusedVariables false
set_option linter.unusedSimpArgs false
def garboardlaw58_ApprovalMisses.j0 : Nat → List (S33) → List (S25) → ByteArray → Int → Bool → List Int → Int → Int → Option (Bool)
 | 0, _, _, _, _, _, _, _, _ => none
 | k + 1, x0, x1, x2, x4, x32, x293000, x293001, x293002 => if x32 = true then (some true) else ((slices_Clone_int_int.f x293000).bind fun t296 => ((api_Signer_12.f x0).bind fun t299 => ((api_Approval_13.f x1).bind fun t302 => ((approval_Missing.f t299 t302 x2 t296 x293001 x293002 x4).bind fun bt305 => ((garboardref58_Missing.f k x0 x1 x2 x293000 x293001 x293002 x4).bind fun bt309 => ((slices_Equal_int_int.f k bt305.1 bt309.1).bind fun t313 => (if t313 = true then (if bt305.2 = bt309.2 then ((api_Signer_12.f x0).bind fun t314 => ((api_Approval_13.f x1).bind fun t317 => ((approval_Granted.f t314 t317 x2 t296 x293001 x293002 x4).bind fun t320 => ((garboardref58_Granted.f k x0 x1 x2 x293000 x293001 x293002 x4).bind fun t321 => (some (t320 == t321)))))) else (some false)) else (some false))))))))
def garboardlaw58_ApprovalMisses.f (k : Nat) (l0 : List (S33)) (l1 : List (S25)) (a2 : ByteArray) (l3_0 : List Int) (a3_1 : Int) (a3_2 : Int) (a4 : Int) : Option (Bool) := (garboardlaw58_awake.f).bind fun t293 => (if t293 = true then ((garboardref58_Few.f k l0 l1).bind fun t294 => (if t294 = true then (if (a2.size : Int) > 40 then (garboardlaw58_ApprovalMisses.j0 k l0 l1 a2 a4 true l3_0 a3_1 a3_2) else (garboardlaw58_ApprovalMisses.j0 k l0 l1 a2 a4 (decide ((l3_0.length : Int) > 12)) l3_0 a3_1 a3_2)) else (garboardlaw58_ApprovalMisses.j0 k l0 l1 a2 a4 true l3_0 a3_1 a3_2))) else (some false))
def garboardlaw58_ApprovalMisses.T7 : Bool × List (List Nat × List Nat) := (true, [([], []), ([0], [0]), ([], []), ([2, 1], [2]), ([], []), ([], []), ([], []), ([1, 3, 4, 5, 6, 3], [1, 3, 4, 5, 6]), ([7], [7]), ([8], [8]), ([8], [8]), ([9, 7, 0, 1, 2, 3, 4, 5, 6, 7, 8, 9], [9]), ([10, 11, 0, 1, 2, 3, 4, 5, 6, 7, 8, 9, 10, 11], [10])])
def garboardlaw58_ApprovalMisses.B7 : List Nat := [0, 1, 0, 7, 0, 0, 0, 127, 255, 511, 511, 1023, 4095]
theorem garboardlaw58_ApprovalMisses.tab7 : rtab .any (opsOf Tryd.f4 7) = garboardlaw58_ApprovalMisses.T7 := by kernel_rfl
theorem garboardlaw58_ApprovalMisses.bits7 : waitsOk garboardlaw58_ApprovalMisses.T7.2 garboardlaw58_ApprovalMisses.B7 = true := by kernel_rfl
def garboardlaw58_ApprovalMisses.T9 : Bool × List (List Nat × List Nat) := (true, [([], []), ([], []), ([0, 1], [0, 1]), ([2, 2], [2]), ([3], [3]), ([3], [3]), ([4, 5, 3], [3, 4, 5]), ([3, 6], [3, 6]), ([7, 3], [7]), ([8], [8]), ([9, 8, 8], [8, 9]), ([8], [8]), ([11, 10, 8], [8, 11]), ([8], [8]), ([8], [8]), ([8], [8]), ([10, 12, 13, 14, 15, 12, 8], [8, 10, 12, 13, 14, 15]), ([8], [8]), ([8], [8]), ([8], [8]), ([8], [8]), ([8], [8]), ([17, 18, 19, 20, 21, 16, 8], [8, 17, 18, 19, 20, 21]), ([16, 22, 8], [8, 16, 22]), ([8, 23], [8, 23]), ([24, 22, 0, 1, 2, 3, 4, 5, 6, 7, 8, 9, 10, 11, 12, 13, 14, 15, 16, 17, 18, 19, 20, 21, 22, 23, 24], [24])])
def garboardlaw58_ApprovalMisses.B9 : List Nat := [0, 0, 3, 7, 15, 15, 63, 127, 255, 511, 1023, 511, 4095, 511, 511, 511, 65535, 511, 511, 511, 511, 511, 4194303, 8388607, 16777215, 33554431]
theorem garboardlaw58_ApprovalMisses.tab9 : rtab .any (opsOf Tryd.f4 9) = garboardlaw58_ApprovalMisses.T9 := by kernel_rfl
theorem garboardlaw58_ApprovalMisses.bits9 : waitsOk garboardlaw58_ApprovalMisses.T9.2 garboardlaw58_ApprovalMisses.B9 = true := by kernel_rfl
set_option maxHeartbeats 8000000 in
set_option maxRecDepth 100000 in
theorem garboardlaw58_ApprovalMisses.calls (k : Nat) (A0 : Option Addr) (c0 : Nat) (l0 : List (S33)) (A1 : Option Addr) (c1 : Nat) (l1 : List (S25)) (a2 : ByteArray) (A3_0 : Option Addr) (c3_0 : Nat) (l3_0 : List Int) (a3_1 : Int) (a3_2 : Int) (a4 : Int) (r : Bool) (w : World) (hr0 : Kd.C k33 w A0 l0.length l0) (hc0 : l0.length ≤ c0) (hr1 : Kd.C k25 w A1 l1.length l1) (hc1 : l1.length ≤ c1) (hr3_0 : Kd.C (Kd.int .i64) w A3_0 l3_0.length l3_0) (hc3_0 : l3_0.length ≤ c3_0) (hL : LaidW w) (h : garboardlaw58_ApprovalMisses.f k l0 l1 a2 l3_0 a3_1 a3_2 a4 = some r) :
  Calls Tryd.prog 4 #[.slice A0 l0.length c0, .slice A1 l1.length c1, .string a2, .agg #[.slice A3_0 l3_0.length c3_0, .int .i64 a3_1, .int .i64 a3_2], .int .i64 a4] w fun e w' => e = .returned (.bool r) ∧ Below w.heap.size w w' := by
 have hu41 := Tryd.underlying41
 have HR0 := Aside0.mk hr0
 have HC0 := Aside0.mk hc0
 clear hr0 hc0
 have HR1 := Aside0.mk hr1
 have HC1 := Aside0.mk hc1
 clear hr1 hc1
 have HR3_0 := Aside0.mk hr3_0
 have HC3_0 := Aside0.mk hc3_0
 clear hr3_0 hc3_0
 have HB := Aside0.mk (Below.refl w.heap.size w)
 have HLW := Aside0.mk hL
 clear hL
 have H : ((garboardlaw58_awake.f).bind fun t293 => (if t293 = true then ((garboardref58_Few.f k l0 l1).bind fun t294 => (if t294 = true then (if (a2.size : Int) > 40 then (garboardlaw58_ApprovalMisses.j0 k l0 l1 a2 a4 true l3_0 a3_1 a3_2) else (garboardlaw58_ApprovalMisses.j0 k l0 l1 a2 a4 (decide ((l3_0.length : Int) > 12)) l3_0 a3_1 a3_2)) else (garboardlaw58_ApprovalMisses.j0 k l0 l1 a2 a4 true l3_0 a3_1 a3_2))) else (some false))) = some r := h
 clear h
 replace H := Option.bind_eq_some_iff.mp H
 obtain ⟨t293, A60, H⟩ := H
 replace H : (if t293 = true then ((garboardref58_Few.f k l0 l1).bind fun t294 => (if t294 = true then (if (a2.size : Int) > 40 then (garboardlaw58_ApprovalMisses.j0 k l0 l1 a2 a4 true l3_0 a3_1 a3_2) else (garboardlaw58_ApprovalMisses.j0 k l0 l1 a2 a4 (decide ((l3_0.length : Int) > 12)) l3_0 a3_1 a3_2)) else (garboardlaw58_ApprovalMisses.j0 k l0 l1 a2 a4 true l3_0 a3_1 a3_2))) else (some false)) = some r := H
 have A6 := Aside0.mk A60
 clear A60
 by_cases c7 : t293 = true
 ·subst c7
  have H1 : ((garboardref58_Few.f k l0 l1).bind fun t294 => (if t294 = true then (if (a2.size : Int) > 40 then (garboardlaw58_ApprovalMisses.j0 k l0 l1 a2 a4 true l3_0 a3_1 a3_2) else (garboardlaw58_ApprovalMisses.j0 k l0 l1 a2 a4 (decide ((l3_0.length : Int) > 12)) l3_0 a3_1 a3_2)) else (garboardlaw58_ApprovalMisses.j0 k l0 l1 a2 a4 true l3_0 a3_1 a3_2))) = some r := by rw [if_pos rfl] at H; exact H
  clear H
  have H := H1
  clear H1
  have HC8 := Aside0.mk H
  clear H
  go_enter Tryd.func4, Tryd.ntmps4
  go_upto_region 3 with (first | ((with_reducible refine gate_dst (N := 8) rfl ?_); (try (refine gate_guard (by rfl) ?_; dsimp only)); refine box_event ?hg (N := 8) ?hd (cs := #[.slice A3_0 l3_0.length c3_0, .int .i64 a3_1, .int .i64 a3_2]) (t := 41) ?hr ?_; (case hd => rfl); (case hg => rfl); (case hr => first | (go_simp; done) | (go_simp; rfl)); intro gb292 hg w9 hbox hb; have n0_ := Aside0.mk (below_step (by repeat (first | (with_reducible first | exact HB.out | apply below_alloc | apply pw_below_drewN | apply below_drew1) | exact HB.out)) hb); have n1_ := Aside0.mk (hbox); have n2_ := Aside0.mk ((by rw [hg]; exact (below_size (by repeat (first | (with_reducible first | exact HB.out | apply below_alloc | apply pw_below_drewN | apply below_drew1) | exact HB.out))) : w.heap.size ≤ gb292)); have n3_ := Aside0.mk ((by rw [hg]; exact (below_size (by repeat (first | (with_reducible first | exact HB.out | apply below_alloc | apply pw_below_drewN | apply below_drew1) | exact HB.out))) : w.heap.size ≤ gb292)); clear HB; have HB := n0_; have BK292 := n1_; have GW292 := n2_; have GE292 := n3_; clear n0_ n1_ n2_ n3_; clear hb hbox hg) | ((with_reducible refine gate_callee (f := 9) rfl ?_); refine goesL_ (some 16) rfl rfl Tryd.func9 (by kernel_rfl) rfl #[] rfl (by (try simp only [List.map_toArray, List.map_cons, List.map_nil]); first | done | rfl | (simp only [List.length_drop, List.length_take]; rfl)) ?_; (with_reducible refine (garboardlaw58_awake.calls  true _ ?side1 A6.out).mono ?_); (case side1 => exact HLW.out.below (by repeat (first | (with_reducible first | exact HB.out | apply below_alloc | apply pw_below_drewN | apply below_drew1 | refine below_set ?_ GE292.out) | exact HB.out))); rintro e w10 ⟨rfl, hb⟩; refine ⟨_, rfl, ?_⟩; have n0_ := Aside0.mk (blk_below (g := gb292) (o := .cells #[.slice A3_0 l3_0.length c3_0, .int .i64 a3_1, .int .i64 a3_2] 41 (0, 0)) (by (with_reducible repeat (first | refine blk_drewN ?_ _ | refine blk_drew ?_ | refine blk_alloc ?_ _)); exact BK292.out) hb); have n1_ := Aside0.mk (below_step (by repeat (first | (with_reducible first | exact HB.out | apply below_alloc | apply pw_below_drewN | apply below_drew1 | refine below_set ?_ GE292.out) | exact HB.out)) hb); clear BK292; clear HB; have BK292 := n0_; have HB := n1_; clear n0_ n1_; (try clear hb); (try clear hb2); (try clear hk); (try clear hi)))
  (try simp only [Act.put, List.setIfInBounds_toArray, List.set_cons_zero, List.set_cons_succ])
  go_cut [32] (fun v32 wc => ∃ (kq : Nat) (x32_7 : Bool), v32 = .bool x32_7 ∧ Aside0 (garboardlaw58_ApprovalMisses.j0 kq l0 l1 a2 a4 x32_7 l3_0 a3_1 a3_2 = some r) ∧ Aside0 (kq ≤ k) ∧ Aside0 (wc.heap[gb292]? = some (.cells #[(.slice A3_0 l3_0.length c3_0), .int .i64 a3_1, .int .i64 a3_2] 41 (0, 0))) ∧ Aside0 (Below w.heap.size w wc))
  case first =>
   have H := HC8.out
   clear HC8
   replace H := Option.bind_eq_some_iff.mp H
   obtain ⟨t294, A110, H⟩ := H
   replace H : (if t294 = true then (if (a2.size : Int) > 40 then (garboardlaw58_ApprovalMisses.j0 k l0 l1 a2 a4 true l3_0 a3_1 a3_2) else (garboardlaw58_ApprovalMisses.j0 k l0 l1 a2 a4 (decide ((l3_0.length : Int) > 12)) l3_0 a3_1 a3_2)) else (garboardlaw58_ApprovalMisses.j0 k l0 l1 a2 a4 true l3_0 a3_1 a3_2)) = some r := H
   have A11 := Aside0.mk A110
   clear A110
   by_cases c12 : t294 = true
   ·subst c12
    have H1 : (if (a2.size : Int) > 40 then (garboardlaw58_ApprovalMisses.j0 k l0 l1 a2 a4 true l3_0 a3_1 a3_2) else (garboardlaw58_ApprovalMisses.j0 k l0 l1 a2 a4 (decide ((l3_0.length : Int) > 12)) l3_0 a3_1 a3_2)) = some r := by rw [if_pos rfl] at H; exact H
    clear H
    have H := H1
    clear H1
    by_cases c13 : (a2.size : Int) > 40
    ·rw [if_pos c13] at H
     have c13b0 : decide (40 < (a2.size : Int)) = true := decide_eq_true c13
     have c13b1 : decide (40 < a2.size) = true := decide_eq_true (by omega)
     clear c13
     (first | rw [c13b0] | (simp only [i64_w, i32_w]; rw [c13b0]) | skip)
     have H' := Aside0.mk H
     clear H
     go_wp2_with (first | ((with_reducible refine gate_callee (f := 10) rfl ?_); refine goesL_ (some 20) rfl rfl Tryd.func10 (by kernel_rfl) rfl #[.slice A0 l0.length c0, .slice A1 l1.length c1] rfl (by (try simp only [List.map_toArray, List.map_cons, List.map_nil]); first | done | rfl | (simp only [List.length_drop, List.length_take]; rfl)) ?_; (with_reducible refine (garboardref58_Few.calls k _ _ l0 _ _ l1 true _ ?side1 ?side2 ?side3 ?side4 A11.out).mono ?_); (case side1 => repeat (first | exact (Kd.C_below HR0.out HB.out) | (with_reducible refine Kd.C_alloc ?_ _) | (with_reducible refine Kd.C_drewN ?_ _) | (with_reducible refine Kd.C_drew ?_))); (case side2 => exact HC0.out); (case side3 => repeat (first | exact (Kd.C_below HR1.out HB.out) | (with_reducible refine Kd.C_alloc ?_ _) | (with_reducible refine Kd.C_drewN ?_ _) | (with_reducible refine Kd.C_drew ?_))); (case side4 => exact HC1.out); rintro e w' ⟨rfl, ⟨nd, rfl⟩⟩; refine ⟨_, rfl, ?_⟩))
     go_meet
     case rel => exact ⟨_, (true), (by first | rfl | (simp; done) | (simp [*]; done)), H', ⟨by first | omega | exact Nat.le_refl _⟩, ⟨by (with_reducible repeat (first | refine blk_drewN ?_ _ | refine blk_drew ?_ | refine blk_alloc ?_ _)); exact BK292.out⟩, ⟨by repeat (first | (with_reducible first | exact HB.out | apply below_alloc | apply pw_below_drewN | apply below_drew1 | refine below_set ?_ GE292.out) | exact HB.out)⟩⟩
    ·rw [if_neg c13] at H
     have c13b0 : decide (40 < (a2.size : Int)) = false := decide_eq_false c13
     have c13b1 : decide (40 < a2.size) = false := decide_eq_false (by omega)
     clear c13
     (first | rw [c13b0] | (simp only [i64_w, i32_w]; rw [c13b0]) | skip)
     have H' := Aside0.mk H
     clear H
     go_wp2_with (first | ((with_reducible refine gate_callee (f := 10) rfl ?_); refine goesL_ (some 20) rfl rfl Tryd.func10 (by kernel_rfl) rfl #[.slice A0 l0.length c0, .slice A1 l1.length c1] rfl (by (try simp only [List.map_toArray, List.map_cons, List.map_nil]); first | done | rfl | (simp only [List.length_drop, List.length_take]; rfl)) ?_; (with_reducible refine (garboardref58_Few.calls k _ _ l0 _ _ l1 true _ ?side1 ?side2 ?side3 ?side4 A11.out).mono ?_); (case side1 => repeat (first | exact (Kd.C_below HR0.out HB.out) | (with_reducible refine Kd.C_alloc ?_ _) | (with_reducible refine Kd.C_drewN ?_ _) | (with_reducible refine Kd.C_drew ?_))); (case side2 => exact HC0.out); (case side3 => repeat (first | exact (Kd.C_below HR1.out HB.out) | (with_reducible refine Kd.C_alloc ?_ _) | (with_reducible refine Kd.C_drewN ?_ _) | (with_reducible refine Kd.C_drew ?_))); (case side4 => exact HC1.out); rintro e w' ⟨rfl, ⟨nd, rfl⟩⟩; refine ⟨_, rfl, ?_⟩; have hcz14_0 : w10.cell? ⟨gb292, 0, none⟩ = some (.slice A3_0 l3_0.length c3_0) := (blk_cell BK292.out 0).trans rfl; have hcz14_1 : w10.cell? ⟨gb292, 1, none⟩ = some (.int .i64 a3_1) := (blk_cell BK292.out 1).trans rfl; have hcz14_2 : w10.cell? ⟨gb292, 2, none⟩ = some (.int .i64 a3_2) := (blk_cell BK292.out 2).trans rfl; have hfz14_0 := blk_frozen BK292.out 0; have hfz14_1 := blk_frozen BK292.out 1; have hfz14_2 := blk_frozen BK292.out 2))
     go_meet
     case rel => exact ⟨_, (decide ((l3_0.length : Int) > 12)), (by first | rfl | (simp; done) | (simp [*]; done)), H', ⟨by first | omega | exact Nat.le_refl _⟩, ⟨by (with_reducible repeat (first | refine blk_drewN ?_ _ | refine blk_drew ?_ | refine blk_alloc ?_ _)); exact BK292.out⟩, ⟨by repeat (first | (with_reducible first | exact HB.out | apply below_alloc | apply pw_below_drewN | apply below_drew1 | refine below_set ?_ GE292.out) | exact HB.out)⟩⟩
   ·replace c12 := Bool.eq_false_iff.mpr c12
    subst c12
    have H1 : (garboardlaw58_ApprovalMisses.j0 k l0 l1 a2 a4 true l3_0 a3_1 a3_2) = some r := by rw [if_neg (show ¬ (false = true) by decide)] at H; exact H
    clear H
    have H := H1
    clear H1
    have H' := Aside0.mk H
    clear H
    go_wp2_with (first | ((with_reducible refine gate_callee (f := 10) rfl ?_); refine goesL_ (some 20) rfl rfl Tryd.func10 (by kernel_rfl) rfl #[.slice A0 l0.length c0, .slice A1 l1.length c1] rfl (by (try simp only [List.map_toArray, List.map_cons, List.map_nil]); first | done | rfl | (simp only [List.length_drop, List.length_take]; rfl)) ?_; (with_reducible refine (garboardref58_Few.calls k _ _ l0 _ _ l1 false _ ?side1 ?side2 ?side3 ?side4 A11.out).mono ?_); (case side1 => repeat (first | exact (Kd.C_below HR0.out HB.out) | (with_reducible refine Kd.C_alloc ?_ _) | (with_reducible refine Kd.C_drewN ?_ _) | (with_reducible refine Kd.C_drew ?_))); (case side2 => exact HC0.out); (case side3 => repeat (first | exact (Kd.C_below HR1.out HB.out) | (with_reducible refine Kd.C_alloc ?_ _) | (with_reducible refine Kd.C_drewN ?_ _) | (with_reducible refine Kd.C_drew ?_))); (case side4 => exact HC1.out); rintro e w' ⟨rfl, ⟨nd, rfl⟩⟩; refine ⟨_, rfl, ?_⟩))
    go_meet
    case rel => exact ⟨_, (true), (by first | rfl | (simp; done) | (simp [*]; done)), H', ⟨by first | omega | exact Nat.le_refl _⟩, ⟨by (with_reducible repeat (first | refine blk_drewN ?_ _ | refine blk_drew ?_ | refine blk_alloc ?_ _)); exact BK292.out⟩, ⟨by repeat (first | (with_reducible first | exact HB.out | apply below_alloc | apply pw_below_drewN | apply below_drew1 | refine below_set ?_ GE292.out) | exact HB.out)⟩⟩
  case rest =>
   clear HC8
   try clear c1
   try clear p2
   try clear c3
   try clear c4
   try clear c7
   try clear c9
   try clear c10
   try clear c12
   try clear c13
   try clear c13b0
   try clear c13b1
   try clear hcz14_0
   try clear hcz14_1
   try clear hcz14_2
   try clear hfz14_0
   try clear hfz14_1
   try clear hfz14_2
   obtain ⟨kq, x32_7, rfl, HA, HJ7, BK292, HB⟩ := hcut
   cases kq with
   | zero => exact absurd HA.out (by simp [garboardlaw58_ApprovalMisses.j0])
   | succ kj7 =>
    have H := HA.out
    clear HA
    simp only [garboardlaw58_ApprovalMisses.j0] at H
    by_cases c15 : x32_7 = true
    ·subst c15
     have H1 : (some true) = some r := by rw [if_pos rfl] at H; exact H
     clear H
     have H := H1
     clear H1
     obtain rfl := Option.some.inj H
     go_wp2
     go_ret
     exact ⟨by first | rfl | (simp [errW_none, errW_some] <;> rfl) | (simp [*, errW_none, errW_some] <;> rfl), by repeat (first | (with_reducible first | exact HB.out | apply below_alloc | apply pw_below_drewN | apply below_drew1 | refine below_set ?_ GE292.out) | exact HB.out)⟩
    ·replace c15 := Bool.eq_false_iff.mpr c15
     subst c15
     have H1 : ((slices_Clone_int_int.f l3_0).bind fun t296 => ((api_Signer_12.f l0).bind fun t299 => ((api_Approval_13.f l1).bind fun t302 => ((approval_Missing.f t299 t302 a2 t296 a3_1 a3_2 a4).bind fun bt305 => ((garboardref58_Missing.f kj7 l0 l1 a2 l3_0 a3_1 a3_2 a4).bind fun bt309 => ((slices_Equal_int_int.f kj7 bt305.1 bt309.1).bind fun t313 => (if t313 = true then (if bt305.2 = bt309.2 then ((api_Signer_12.f l0).bind fun t314 => ((api_Approval_13.f l1).bind fun t317 => ((approval_Granted.f t314 t317 a2 t296 a3_1 a3_2 a4).bind fun t320 => ((garboardref58_Granted.f kj7 l0 l1 a2 l3_0 a3_1 a3_2 a4).bind fun t321 => (some (t320 == t321)))))) else (some false)) else (some false)))))))) = some r := by rw [if_neg (show ¬ (false = true) by decide)] at H; exact H
     clear H
     have H := H1
     clear H1
     replace H := Option.bind_eq_some_iff.mp H
     obtain ⟨t296, A160, H⟩ := H
     replace H : ((api_Signer_12.f l0).bind fun t299 => ((api_Approval_13.f l1).bind fun t302 => ((approval_Missing.f t299 t302 a2 t296 a3_1 a3_2 a4).bind fun bt305 => ((garboardref58_Missing.f kj7 l0 l1 a2 l3_0 a3_1 a3_2 a4).bind fun bt309 => ((slices_Equal_int_int.f kj7 bt305.1 bt309.1).bind fun t313 => (if t313 = true then (if bt305.2 = bt309.2 then ((api_Signer_12.f l0).bind fun t314 => ((api_Approval_13.f l1).bind fun t317 => ((approval_Granted.f t314 t317 a2 t296 a3_1 a3_2 a4).bind fun t320 => ((garboardref58_Granted.f kj7 l0 l1 a2 l3_0 a3_1 a3_2 a4).bind fun t321 => (some (t320 == t321)))))) else (some false)) else (some false))))))) = some r := H
     have A16 := Aside0.mk A160
     clear A160
     replace H := Option.bind_eq_some_iff.mp H
     obtain ⟨t299, A170, H⟩ := H
     replace H : ((api_Approval_13.f l1).bind fun t302 => ((approval_Missing.f t299 t302 a2 t296 a3_1 a3_2 a4).bind fun bt305 => ((garboardref58_Missing.f kj7 l0 l1 a2 l3_0 a3_1 a3_2 a4).bind fun bt309 => ((slices_Equal_int_int.f kj7 bt305.1 bt309.1).bind fun t313 => (if t313 = true then (if bt305.2 = bt309.2 then ((api_Signer_12.f l0).bind fun t314 => ((api_Approval_13.f l1).bind fun t317 => ((approval_Granted.f t314 t317 a2 t296 a3_1 a3_2 a4).bind fun t320 => ((garboardref58_Granted.f kj7 l0 l1 a2 l3_0 a3_1 a3_2 a4).bind fun t321 => (some (t320 == t321)))))) else (some false)) else (some false)))))) = some r := H
     have A17 := Aside0.mk A170
     clear A170
     replace H := Option.bind_eq_some_iff.mp H
     obtain ⟨t302, A180, H⟩ := H
     replace H : ((approval_Missing.f t299 t302 a2 t296 a3_1 a3_2 a4).bind fun bt305 => ((garboardref58_Missing.f kj7 l0 l1 a2 l3_0 a3_1 a3_2 a4).bind fun bt309 => ((slices_Equal_int_int.f kj7 bt305.1 bt309.1).bind fun t313 => (if t313 = true then (if bt305.2 = bt309.2 then ((api_Signer_12.f l0).bind fun t314 => ((api_Approval_13.f l1).bind fun t317 => ((approval_Granted.f t314 t317 a2 t296 a3_1 a3_2 a4).bind fun t320 => ((garboardref58_Granted.f kj7 l0 l1 a2 l3_0 a3_1 a3_2 a4).bind fun t321 => (some (t320 == t321)))))) else (some false)) else (some false))))) = some r := H
     have A18 := Aside0.mk A180
     clear A180
     replace H := Option.bind_eq_some_iff.mp H
     obtain ⟨⟨t305, t308⟩, A190, H⟩ := H
     replace H : ((garboardref58_Missing.f kj7 l0 l1 a2 l3_0 a3_1 a3_2 a4).bind fun bt309 => ((slices_Equal_int_int.f kj7 t305 bt309.1).bind fun t313 => (if t313 = true then (if t308 = bt309.2 then ((api_Signer_12.f l0).bind fun t314 => ((api_Approval_13.f l1).bind fun t317 => ((approval_Granted.f t314 t317 a2 t296 a3_1 a3_2 a4).bind fun t320 => ((garboardref58_Granted.f kj7 l0 l1 a2 l3_0 a3_1 a3_2 a4).bind fun t321 => (some (t320 == t321)))))) else (some false)) else (some false)))) = some r := H
     have A19 := Aside0.mk A190
     clear A190
     replace H := Option.bind_eq_some_iff.mp H
     obtain ⟨⟨t309, t312⟩, A200, H⟩ := H
     replace H : ((slices_Equal_int_int.f kj7 t305 t309).bind fun t313 => (if t313 = true then (if t308 = t312 then ((api_Signer_12.f l0).bind fun t314 => ((api_Approval_13.f l1).bind fun t317 => ((approval_Granted.f t314 t317 a2 t296 a3_1 a3_2 a4).bind fun t320 => ((garboardref58_Granted.f kj7 l0 l1 a2 l3_0 a3_1 a3_2 a4).bind fun t321 => (some (t320 == t321)))))) else (some false)) else (some false))) = some r := H
     have A20 := Aside0.mk A200
     clear A200
     replace H := Option.bind_eq_some_iff.mp H
     obtain ⟨t313, A210, H⟩ := H
     replace H : (if t313 = true then (if t308 = t312 then ((api_Signer_12.f l0).bind fun t314 => ((api_Approval_13.f l1).bind fun t317 => ((approval_Granted.f t314 t317 a2 t296 a3_1 a3_2 a4).bind fun t320 => ((garboardref58_Granted.f kj7 l0 l1 a2 l3_0 a3_1 a3_2 a4).bind fun t321 => (some (t320 == t321)))))) else (some false)) else (some false)) = some r := H
     have A21 := Aside0.mk A210
     clear A210
     by_cases c22 : t313 = true
     ·subst c22
      have H1 : (if t308 = t312 then ((api_Signer_12.f l0).bind fun t314 => ((api_Approval_13.f l1).bind fun t317 => ((approval_Granted.f t314 t317 a2 t296 a3_1 a3_2 a4).bind fun t320 => ((garboardref58_Granted.f kj7 l0 l1 a2 l3_0 a3_1 a3_2 a4).bind fun t321 => (some (t320 == t321)))))) else (some false)) = some r := by rw [if_pos rfl] at H; exact H
      clear H
      have H := H1
      clear H1
      by_cases c23 : t308 = t312
      ·rw [if_pos c23] at H
       have c23b0 : (t308 == t312) = true := beq_iff_eq.mpr c23
       have c23b1 : (t308 != t312) = false := bne_eq_false_iff_eq.mpr c23
       clear c23
       replace H := Option.bind_eq_some_iff.mp H
       obtain ⟨t314, A240, H⟩ := H
       replace H : ((api_Approval_13.f l1).bind fun t317 => ((approval_Granted.f t314 t317 a2 t296 a3_1 a3_2 a4).bind fun t320 => ((garboardref58_Granted.f kj7 l0 l1 a2 l3_0 a3_1 a3_2 a4).bind fun t321 => (some (t320 == t321))))) = some r := H
       have A24 := Aside0.mk A240
       clear A240
       replace H := Option.bind_eq_some_iff.mp H
       obtain ⟨t317, A250, H⟩ := H
       replace H : ((approval_Granted.f t314 t317 a2 t296 a3_1 a3_2 a4).bind fun t320 => ((garboardref58_Granted.f kj7 l0 l1 a2 l3_0 a3_1 a3_2 a4).bind fun t321 => (some (t320 == t321)))) = some r := H
       have A25 := Aside0.mk A250
       clear A250
       replace H := Option.bind_eq_some_iff.mp H
       obtain ⟨t320, A260, H⟩ := H
       replace H : ((garboardref58_Granted.f kj7 l0 l1 a2 l3_0 a3_1 a3_2 a4).bind fun t321 => (some (t320 == t321))) = some r := H
       have A26 := Aside0.mk A260
       clear A260
       replace H := Option.bind_eq_some_iff.mp H
       obtain ⟨t321, A270, H⟩ := H
       replace H : (some (t320 == t321)) = some r := H
       have A27 := Aside0.mk A270
       clear A270
       obtain rfl := Option.some.inj H
       have hcz28_0 : wc.cell? ⟨gb292, 0, none⟩ = some (.slice A3_0 l3_0.length c3_0) := (blk_cell BK292.out 0).trans rfl
       have hcz28_1 : wc.cell? ⟨gb292, 1, none⟩ = some (.int .i64 a3_1) := (blk_cell BK292.out 1).trans rfl
       have hcz28_2 : wc.cell? ⟨gb292, 2, none⟩ = some (.int .i64 a3_2) := (blk_cell BK292.out 2).trans rfl
       have hfz28_0 := blk_frozen BK292.out 0
       have hfz28_1 := blk_frozen BK292.out 1
       have hfz28_2 := blk_frozen BK292.out 2
       try go_wp2_with (first | ((with_reducible refine gate_dst (N := 11) rfl ?_); (try (refine gate_guard (by rfl) ?_; dsimp only)); refine box_event ?hg (N := 11) ?hd (cs := #[.slice none 0 0, .int .i64 0, .int .i64 0]) (t := 41) ?hr ?_; (case hd => rfl); (case hg => rfl); (case hr => first | (go_simp; done) | (go_simp; rfl)); intro gb295 hg w29 hbox hb; have n0_ := Aside0.mk (blk_below (g := gb292) (o := .cells #[.slice A3_0 l3_0.length c3_0, .int .i64 a3_1, .int .i64 a3_2] 41 (0, 0)) (by (with_reducible repeat (first | refine blk_drewN ?_ _ | refine blk_drew ?_ | refine blk_alloc ?_ _)); exact BK292.out) hb); have n1_ := Aside0.mk (below_step (by repeat (first | (with_reducible first | exact HB.out | apply below_alloc | apply pw_below_drewN | apply below_drew1 | refine below_set ?_ GE292.out) | exact HB.out)) hb); have n2_ := Aside0.mk (hbox); have n3_ := Aside0.mk ((by rw [hg]; exact (below_size (by repeat (first | (with_reducible first | exact HB.out | apply below_alloc | apply pw_below_drewN | apply below_drew1 | refine below_set ?_ GE292.out) | exact HB.out))) : w.heap.size ≤ gb295)); have n4_ := Aside0.mk ((by rw [hg]; exact (below_size (by repeat (first | (with_reducible first | exact HB.out | apply below_alloc | apply pw_below_drewN | apply below_drew1 | refine below_set ?_ GE292.out) | exact HB.out))) : w.heap.size ≤ gb295)); have n5_ := Aside0.mk ((by rw [hg]; exact Nat.ne_of_lt (blk_lt (g := gb292) (o := .cells #[.slice A3_0 l3_0.length c3_0, .int .i64 a3_1, .int .i64 a3_2] 41 (0, 0)) (by (with_reducible repeat (first | refine blk_drewN ?_ _ | refine blk_drew ?_ | refine blk_alloc ?_ _)); exact BK292.out)) : gb292 ≠ gb295)); have n6_ := Aside0.mk ((by rw [hg]; exact Nat.ne_of_gt (blk_lt (g := gb292) (o := .cells #[.slice A3_0 l3_0.length c3_0, .int .i64 a3_1, .int .i64 a3_2] 41 (0, 0)) (by (with_reducible repeat (first | refine blk_drewN ?_ _ | refine blk_drew ?_ | refine blk_alloc ?_ _)); exact BK292.out)) : gb295 ≠ gb292)); clear BK292; clear HB; have BK292 := n0_; have HB := n1_; have BK295 := n2_; have GW295 := n3_; have GE295 := n4_; have NB292_295 := n5_; have NB295_292 := n6_; clear n0_ n1_ n2_ n3_ n4_ n5_ n6_; clear hb hbox hg; have hnb30 := NB295_292.out; have hnc30 := NB292_295.out; have hcz31_0 : w29.cell? ⟨gb295, 0, none⟩ = some (.slice none 0 0) := (blk_cell BK295.out 0).trans rfl; have hcz31_1 : w29.cell? ⟨gb295, 1, none⟩ = some (.int .i64 0) := (blk_cell BK295.out 1).trans rfl; have hcz31_2 : w29.cell? ⟨gb295, 2, none⟩ = some (.int .i64 0) := (blk_cell BK295.out 2).trans rfl; have hfz31_0 := blk_frozen BK295.out 0; have hfz31_1 := blk_frozen BK295.out 1; have hfz31_2 := blk_frozen BK295.out 2; have hcz32_0 : w29.cell? ⟨gb292, 0, none⟩ = some (.slice A3_0 l3_0.length c3_0) := (blk_cell BK292.out 0).trans rfl; have hcz32_1 : w29.cell? ⟨gb292, 1, none⟩ = some (.int .i64 a3_1) := (blk_cell BK292.out 1).trans rfl; have hcz32_2 : w29.cell? ⟨gb292, 2, none⟩ = some (.int .i64 a3_2) := (blk_cell BK292.out 2).trans rfl; have hfz32_0 := blk_frozen BK292.out 0; have hfz32_1 := blk_frozen BK292.out 1; have hfz32_2 := blk_frozen BK292.out 2) | ((with_reducible refine gate_callee (f := 18) rfl ?_); refine goesL_ (some 36) rfl rfl Tryd.func18 (by kernel_rfl) rfl #[.slice A3_0 l3_0.length c3_0] rfl (by (try simp only [List.map_toArray, List.map_cons, List.map_nil]); first | done | rfl | (simp only [List.length_drop, List.length_take]; rfl)) ?_; (with_reducible refine (slices_Clone_int_int.calls _ _ l3_0 t296 _ ?side1 ?side2 A16.out).mono ?_); (case side1 => exact Kd.C_below HR3_0.out (by repeat (first | (with_reducible first | exact HB.out | apply below_alloc | apply pw_below_drewN | apply below_drew1 | refine below_set ?_ GE292.out | refine below_set ?_ GE295.out) | exact HB.out))); (case side2 => exact HC3_0.out); rintro e w33 ⟨v297, rfl, ho0, hb⟩; refine ⟨_, rfl, ?_⟩; have n0_ := Aside0.mk (Kd.R_lower ho0 (below_size (by repeat (first | (with_reducible first | exact HB.out | apply below_alloc | apply pw_below_drewN | apply below_drew1 | refine below_set ?_ GE292.out | refine below_set ?_ GE295.out) | exact HB.out)))); have n1_ := Aside0.mk (blk_below (g := gb292) (o := .cells #[.slice A3_0 l3_0.length c3_0, .int .i64 a3_1, .int .i64 a3_2] 41 (0, 0)) (by (with_reducible repeat (first | refine blk_drewN ?_ _ | refine blk_drew ?_ | refine blk_alloc ?_ _)); refine blk_far ?_ NB292_295.out _; (with_reducible repeat (first | refine blk_drewN ?_ _ | refine blk_drew ?_ | refine blk_alloc ?_ _)); refine blk_far ?_ NB292_295.out _; (with_reducible repeat (first | refine blk_drewN ?_ _ | refine blk_drew ?_ | refine blk_alloc ?_ _)); refine blk_far ?_ NB292_295.out _; (with_reducible repeat (first | refine blk_drewN ?_ _ | refine blk_drew ?_ | refine blk_alloc ?_ _)); exact BK292.out) hb); have n2_ := Aside0.mk (blk_below (g := gb295) (o := .cells #[.slice A3_0 l3_0.length c3_0, .int .i64 a3_1, .int .i64 a3_2] 41 (0, 0)) (by (with_reducible repeat (first | refine blk_drewN ?_ _ | refine blk_drew ?_ | refine blk_alloc ?_ _)); refine blk_put (cs := #[.slice A3_0 l3_0.length c3_0, .int .i64 a3_1, .int .i64 0]) ?_ 2 _ rfl; (with_reducible repeat (first | refine blk_drewN ?_ _ | refine blk_drew ?_ | refine blk_alloc ?_ _)); refine blk_put (cs := #[.slice A3_0 l3_0.length c3_0, .int .i64 0, .int .i64 0]) ?_ 1 _ rfl; (with_reducible repeat (first | refine blk_drewN ?_ _ | refine blk_drew ?_ | refine blk_alloc ?_ _)); refine blk_put (cs := #[.slice none 0 0, .int .i64 0, .int .i64 0]) ?_ 0 _ rfl; (with_reducible repeat (first | refine blk_drewN ?_ _ | refine blk_drew ?_ | refine blk_alloc ?_ _)); exact BK295.out) hb); have n3_ := Aside0.mk (below_step (by repeat (first | (with_reducible first | exact HB.out | apply below_alloc | apply pw_below_drewN | apply below_drew1 | refine below_set ?_ GE292.out | refine below_set ?_ GE295.out) | exact HB.out)) hb); clear BK292; clear BK295; clear HB; have HO298 := n0_; have BK292 := n1_; have BK295 := n2_; have HB := n3_; clear n0_ n1_ n2_ n3_; (try clear hb); (try clear hb2); (try clear hk); (try clear hi); (try clear ho0); obtain ⟨Ao34, co34, eo34⟩ := Kd.R_slice HO298.out; subst eo34; have hcz35_0 : w33.cell? ⟨gb295, 0, none⟩ = some (.slice A3_0 l3_0.length c3_0) := (blk_cell BK295.out 0).trans rfl; have hcz35_1 : w33.cell? ⟨gb295, 1, none⟩ = some (.int .i64 a3_1) := (blk_cell BK295.out 1).trans rfl; have hcz35_2 : w33.cell? ⟨gb295, 2, none⟩ = some (.int .i64 a3_2) := (blk_cell BK295.out 2).trans rfl; have hfz35_0 := blk_frozen BK295.out 0; have hfz35_1 := blk_frozen BK295.out 1; have hfz35_2 := blk_frozen BK295.out 2))
       have n0_ : Aside0 (Kd.R (Kd.int .i64) 3 (w33.setCell ⟨gb295, 0, none⟩ (.slice Ao34 t296.length co34)) w.heap.size (fun _ => True) (.slice Ao34 t296.length co34) t296) := ⟨by (with_reducible repeat (first | apply Kd.R_alloc | apply Kd.R_drewN | apply Kd.R_drew)); exact Kd.R_mono (Kd.R_far (p := ⟨gb295, 0, none⟩) (Kd.R_types HO298.out BK295.out (by decide)) (fun _ hk => hk.2) (.slice Ao34 t296.length co34)) (fun _ hk => trivial)⟩
       have n1_ : Aside0 ((w33.setCell ⟨gb295, 0, none⟩ (.slice Ao34 t296.length co34)).heap[gb292]? = some (.cells #[.slice A3_0 l3_0.length c3_0, .int .i64 a3_1, .int .i64 a3_2] 41 (0, 0))) := ⟨by (with_reducible repeat (first | refine blk_drewN ?_ _ | refine blk_drew ?_ | refine blk_alloc ?_ _)); refine blk_far ?_ NB292_295.out _; (with_reducible repeat (first | refine blk_drewN ?_ _ | refine blk_drew ?_ | refine blk_alloc ?_ _)); exact BK292.out⟩
       have n2_ : Aside0 ((w33.setCell ⟨gb295, 0, none⟩ (.slice Ao34 t296.length co34)).heap[gb295]? = some (.cells #[.slice Ao34 t296.length co34, .int .i64 a3_1, .int .i64 a3_2] 41 (0, 0))) := ⟨by (with_reducible repeat (first | refine blk_drewN ?_ _ | refine blk_drew ?_ | refine blk_alloc ?_ _)); refine blk_put (cs := #[.slice A3_0 l3_0.length c3_0, .int .i64 a3_1, .int .i64 a3_2]) ?_ 0 _ rfl; (with_reducible repeat (first | refine blk_drewN ?_ _ | refine blk_drew ?_ | refine blk_alloc ?_ _)); exact BK295.out⟩
       have n3_ : Aside0 (Below w.heap.size w (w33.setCell ⟨gb295, 0, none⟩ (.slice Ao34 t296.length co34))) := ⟨by repeat (first | (with_reducible first | exact HB.out | apply below_alloc | apply pw_below_drewN | apply below_drew1 | refine below_set ?_ GE292.out | refine below_set ?_ GE295.out) | exact HB.out)⟩
       (try clear HO298)
       (try clear BK292)
       (try clear BK295)
       (try clear HB)
       generalize (w33.setCell ⟨gb295, 0, none⟩ (.slice Ao34 t296.length co34)) = w36 at n0_ n1_ n2_ n3_ ⊢
       have HO298 := n0_
       have BK292 := n1_
       have BK295 := n2_
       have HB := n3_
       clear n0_ n1_ n2_ n3_
       have n0_ := Aside0.mk (Kd.R_drew HO298.out)
       have n1_ := Aside0.mk (blk_drew BK292.out)
       have n2_ := Aside0.mk (blk_drew BK295.out)
       have n3_ := Aside0.mk (below_drew1 HB.out)
       clear HO298
       clear BK292
       clear BK295
       clear HB
       have HO298 := n0_
       have BK292 := n1_
       have BK295 := n2_
       have HB := n3_
       clear n0_ n1_ n2_ n3_
       refine start_ (n := 13) (S := fun w' => w'.cell? ⟨gb295, 0, none⟩ = some (.slice Ao34 t296.length co34) ∧ w'.cell? ⟨gb295, 1, none⟩ = some (.int .i64 a3_1) ∧ w'.cell? ⟨gb295, 2, none⟩ = some (.int .i64 a3_2)) (ds := []) #[false, false, false, false, false, false, false, false, false, false, false, false, false] (by kernel_rfl) rfl rfl ⟨(blk_cell BK295.out 0).trans rfl, (blk_cell BK295.out 1).trans rfl, (blk_cell BK295.out 2).trans rfl⟩ (fun hHeld => ?_); refine with_tabW garboardlaw58_ApprovalMisses.tab7 garboardlaw58_ApprovalMisses.bits7 (fun HT_ HW_ => ?_)
       generalize w36.drew = w37 at HO298 BK292 BK295 HB hHeld ⊢
       refine pure_ (i := 0) (N := some 39) (v := ?_) (a' := ?_) #[true, false, false, false, false, false, false, false, false, false, false, false, false] rfl rfl (any_of HT_.out (by kernel_rfl)) (fun _ _ _ h => h) (Or.inl ⟨by rfl, ?_⟩) ?_ ?_
       rotate_left
       ·intro w'
        go_simp
        with_reducible rfl
       rotate_left
       ·simp only [Act.put, List.setIfInBounds_toArray, List.set_cons_zero, List.set_cons_succ, i64_w, i32_w]
        rfl
       refine pure_ (i := 2) (N := some 41) (v := ?_) (a' := ?_) #[true, false, true, false, false, false, false, false, false, false, false, false, false] rfl rfl (any_of HT_.out (by kernel_rfl)) (fun _ _ _ h => h) (Or.inl ⟨by rfl, ?_⟩) ?_ ?_
       rotate_left
       ·intro w'
        go_simp
        with_reducible rfl
       rotate_left
       ·simp only [Act.put, List.setIfInBounds_toArray, List.set_cons_zero, List.set_cons_succ, i64_w, i32_w]
        rfl
       refine pure_ (i := 4) (N := some 43) (v := ?_) (a' := ?_) #[true, false, true, false, true, false, false, false, false, false, false, false, false] rfl rfl (any_of HT_.out (by kernel_rfl)) (fun _ _ _ h => h) (Or.inl ⟨by rfl, ?_⟩) ?_ ?_
       rotate_left
       ·intro w'
        go_simp
        with_reducible rfl
       rotate_left
       ·simp only [Act.put, List.setIfInBounds_toArray, List.set_cons_zero, List.set_cons_succ, i64_w, i32_w]
        rfl
       refine pure_ (i := 6) (N := some 45) (v := ?_) (a' := ?_) #[true, false, true, false, true, false, true, false, false, false, false, false, false] rfl rfl (any_of HT_.out (by kernel_rfl)) (fun _ _ _ h => h) (Or.inl ⟨by rfl, ?_⟩) ?_ ?_
       rotate_left
       ·intro w'
        go_simp
        with_reducible rfl
       rotate_left
       ·simp only [Act.put, List.setIfInBounds_toArray, List.set_cons_zero, List.set_cons_succ, i64_w, i32_w]
        rfl
       refine take_ (i := 5) (N := some 44) (v := ?_) (a' := ?_) #[true, false, true, false, true, true, true, false, false, false, false, false, false] rfl rfl (take_ofW HT_.out HW_.out (by kernel_rfl)) (fun _ _ _ h => h) (Or.inl ⟨by rfl, ?_⟩) hHeld ?_ ?_
       rotate_left
       ·rintro w' ⟨s0, s1, s2⟩
        go_simp
        with_reducible rfl
       rotate_left
       ·simp only [Act.put, List.setIfInBounds_toArray, List.set_cons_zero, List.set_cons_succ, i64_w, i32_w]
        rfl
       refine one_ (i := 1) (N := some 40) #[true, true, true, false, true, true, true, false, false, false, false, false, false] rfl rfl (one_of HT_.out (by kernel_rfl)) (by decide) (fun K hK => ?_)
       refine goes_ Tryd.func12 (by kernel_rfl) rfl #[.slice A0 l0.length c0] (by rfl) rfl rfl (by (try simp only [List.map_toArray, List.map_cons, List.map_nil]); first | done | rfl | (simp only [List.length_drop, List.length_take]; rfl)) ?_
       with_reducible refine (api_Signer_12.calls _ _ l0 t299 _ ?side1 ?side2 A17.out).mono ?_
       (case side1 => repeat (first | exact (Kd.C_below HR0.out HB.out) | (with_reducible refine Kd.C_alloc ?_ _) | (with_reducible refine Kd.C_drewN ?_ _) | (with_reducible refine Kd.C_drew ?_)))
       (case side2 => exact HC0.out)
       rintro e w38 ⟨v300, rfl, ho0, hb⟩
       refine ⟨_, rfl, ?_⟩
       have n0_ := Aside0.mk (Kd.R_below (by (with_reducible repeat (first | apply Kd.R_alloc | apply Kd.R_drewN | apply Kd.R_drew)); exact HO298.out) hb)
       have n1_ := Aside0.mk (Kd.R_lower ho0 (below_size (by repeat (first | (with_reducible first | exact HB.out | apply below_alloc | apply pw_below_drewN | apply below_drew1 | refine below_set ?_ GE292.out | refine below_set ?_ GE295.out) | exact HB.out))))
       have n2_ := Aside0.mk (blk_below (g := gb292) (o := .cells #[.slice A3_0 l3_0.length c3_0, .int .i64 a3_1, .int .i64 a3_2] 41 (0, 0)) (by (with_reducible repeat (first | refine blk_drewN ?_ _ | refine blk_drew ?_ | refine blk_alloc ?_ _)); exact BK292.out) hb)
       have n3_ := Aside0.mk (blk_below (g := gb295) (o := .cells #[.slice Ao34 t296.length co34, .int .i64 a3_1, .int .i64 a3_2] 41 (0, 0)) (by (with_reducible repeat (first | refine blk_drewN ?_ _ | refine blk_drew ?_ | refine blk_alloc ?_ _)); exact BK295.out) hb)
       have n4_ := Aside0.mk (below_step (by repeat (first | (with_reducible first | exact HB.out | apply below_alloc | apply pw_below_drewN | apply below_drew1 | refine below_set ?_ GE292.out | refine below_set ?_ GE295.out) | exact HB.out)) hb)
       clear HO298
       clear BK292
       clear BK295
       clear HB
       have HO298 := n0_
       have HO301 := n1_
       have BK292 := n2_
       have BK295 := n3_
       have HB := n4_
       clear n0_ n1_ n2_ n3_ n4_
       (try clear hb)
       (try clear hb2)
       (try clear hk)
       (try clear hi)
       (try clear ho0)
       refine hK.out _ _ ⟨(blk_cell BK295.out 0).trans rfl, (blk_cell BK295.out 1).trans rfl, (blk_cell BK295.out 2).trans rfl⟩ (fun hHeld => ?_)
       clear hK K
       refine norm_ (a' := ?_) ?_ ?_
       rotate_left
       ·show Act.put _ (some 40) _ = _
        simp only [Act.put, List.setIfInBounds_toArray, List.set_cons_zero, List.set_cons_succ, i64_w, i32_w]
        rfl
       refine one_ (i := 3) (N := some 42) #[true, true, true, true, true, true, true, false, false, false, false, false, false] rfl rfl (one_of HT_.out (by kernel_rfl)) (by decide) (fun K hK => ?_)
       refine goes_ Tryd.func13 (by kernel_rfl) rfl #[.slice A1 l1.length c1] (by rfl) rfl rfl (by (try simp only [List.map_toArray, List.map_cons, List.map_nil]); first | done | rfl | (simp only [List.length_drop, List.length_take]; rfl)) ?_
       with_reducible refine (api_Approval_13.calls _ _ l1 t302 _ ?side1 ?side2 A18.out).mono ?_
       (case side1 => repeat (first | exact (Kd.C_below HR1.out HB.out) | (with_reducible refine Kd.C_alloc ?_ _) | (with_reducible refine Kd.C_drewN ?_ _) | (with_reducible refine Kd.C_drew ?_)))
       (case side2 => exact HC1.out)
       rintro e w39 ⟨v303, rfl, ho0, hb⟩
       refine ⟨_, rfl, ?_⟩
       have n0_ := Aside0.mk (Kd.R_below (by (with_reducible repeat (first | apply Kd.R_alloc | apply Kd.R_drewN | apply Kd.R_drew)); exact HO298.out) hb)
       have n1_ := Aside0.mk (Kd.R_below (by (with_reducible repeat (first | apply Kd.R_alloc | apply Kd.R_drewN | apply Kd.R_drew)); exact HO301.out) hb)
       have n2_ := Aside0.mk (Kd.R_lower ho0 (below_size (by repeat (first | (with_reducible first | exact HB.out | apply below_alloc | apply pw_below_drewN | apply below_drew1 | refine below_set ?_ GE292.out | refine below_set ?_ GE295.out) | exact HB.out))))
       have n3_ := Aside0.mk (blk_below (g := gb292) (o := .cells #[.slice A3_0 l3_0.length c3_0, .int .i64 a3_1, .int .i64 a3_2] 41 (0, 0)) (by (with_reducible repeat (first | refine blk_drewN ?_ _ | refine blk_drew ?_ | refine blk_alloc ?_ _)); exact BK292.out) hb)
       have n4_ := Aside0.mk (blk_below (g := gb295) (o := .cells #[.slice Ao34 t296.length co34, .int .i64 a3_1, .int .i64 a3_2] 41 (0, 0)) (by (with_reducible repeat (first | refine blk_drewN ?_ _ | refine blk_drew ?_ | refine blk_alloc ?_ _)); exact BK295.out) hb)
       have n5_ := Aside0.mk (below_step (by repeat (first | (with_reducible first | exact HB.out | apply below_alloc | apply pw_below_drewN | apply below_drew1 | refine below_set ?_ GE292.out | refine below_set ?_ GE295.out) | exact HB.out)) hb)
       clear HO298
       clear HO301
       clear BK292
       clear BK295
       clear HB
       have HO298 := n0_
       have HO301 := n1_
       have HO304 := n2_
       have BK292 := n3_
       have BK295 := n4_
       have HB := n5_
       clear n0_ n1_ n2_ n3_ n4_ n5_
       (try clear hb)
       (try clear hb2)
       (try clear hk)
       (try clear hi)
       (try clear ho0)
       obtain ⟨Ao40, co40, eo40⟩ := Kd.R_slice HO301.out
       (first | subst eo40 | (injection eo40 with f1_ f2_ f3_; have f4_ := f1_.symm; have f5_ := f3_.symm; clear f1_ f2_ f3_; subst f4_; subst f5_))
       obtain ⟨Ao41, co41, eo41⟩ := Kd.R_slice HO304.out
       (first | subst eo41 | (injection eo41 with f1_ f2_ f3_; have f4_ := f1_.symm; have f5_ := f3_.symm; clear f1_ f2_ f3_; subst f4_; subst f5_))
       refine hK.out _ _ ⟨(blk_cell BK295.out 0).trans rfl, (blk_cell BK295.out 1).trans rfl, (blk_cell BK295.out 2).trans rfl⟩ (fun hHeld => ?_)
       clear hK K
       refine norm_ (a' := ?_) ?_ ?_
       rotate_left
       ·show Act.put _ (some 42) _ = _
        simp only [Act.put, List.setIfInBounds_toArray, List.set_cons_zero, List.set_cons_succ, i64_w, i32_w]
        rfl
       refine one_ (i := 7) (N := some 46) #[true, true, true, true, true, true, true, true, false, false, false, false, false] rfl rfl (one_of HT_.out (by kernel_rfl)) (by decide) (fun K hK => ?_)
       refine goes_ Tryd.func19 (by kernel_rfl) rfl #[.slice Ao40 t299.length co40, .slice Ao41 t302.length co41, .string a2, .agg #[.slice Ao34 t296.length co34, .int .i64 a3_1, .int .i64 a3_2], .int .i64 a4] (by rfl) rfl rfl (by (try simp only [List.map_toArray, List.map_cons, List.map_nil]); first | done | rfl | (simp only [List.length_drop, List.length_take]; rfl)) ?_
       with_reducible refine (approval_Missing.calls _ _ t299 _ _ t302 a2 _ _ t296 a3_1 a3_2 a4 t305 t308 _ ?side1 ?side2 ?side3 ?side4 ?side5 ?side6 ?side7 A19.out).mono ?_
       (case side1 => repeat (first | exact (Kd.R_reads' HO301.out).2.2 | (with_reducible refine Kd.C_alloc ?_ _) | (with_reducible refine Kd.C_drewN ?_ _) | (with_reducible refine Kd.C_drew ?_)))
       (case side2 => exact (Kd.R_reads' HO301.out).2.1)
       (case side3 => repeat (first | exact (Kd.R_reads' HO304.out).2.2 | (with_reducible refine Kd.C_alloc ?_ _) | (with_reducible refine Kd.C_drewN ?_ _) | (with_reducible refine Kd.C_drew ?_)))
       (case side4 => exact (Kd.R_reads' HO304.out).2.1)
       (case side5 => repeat (first | exact (Kd.R_reads' HO298.out).2.2 | (with_reducible refine Kd.C_alloc ?_ _) | (with_reducible refine Kd.C_drewN ?_ _) | (with_reducible refine Kd.C_drew ?_)))
       (case side6 => exact (Kd.R_reads' HO298.out).2.1)
       (case side7 => exact HLW.out.below (by repeat (first | (with_reducible first | exact HB.out | apply below_alloc | apply pw_below_drewN | apply below_drew1 | refine below_set ?_ GE292.out | refine below_set ?_ GE295.out) | exact HB.out)))
       rintro e w42 ⟨v306, rfl, ho0, hb⟩
       refine ⟨_, rfl, ?_⟩
       have n0_ := Aside0.mk (Kd.R_elder' (by (with_reducible repeat (first | apply Kd.R_alloc | apply Kd.R_drewN | apply Kd.R_drew)); exact HO298.out) (Kd.R_base ho0) hb)
       have n1_ := Aside0.mk (Kd.R_below (by (with_reducible repeat (first | apply Kd.R_alloc | apply Kd.R_drewN | apply Kd.R_drew)); exact HO301.out) hb)
       have n2_ := Aside0.mk (Kd.R_below (by (with_reducible repeat (first | apply Kd.R_alloc | apply Kd.R_drewN | apply Kd.R_drew)); exact HO304.out) hb)
       have n3_ := Aside0.mk (Kd.R_lower (Kd.R_new' ho0 (Kd.R_lt (by (with_reducible repeat (first | apply Kd.R_alloc | apply Kd.R_drewN | apply Kd.R_drew)); exact HO298.out))) (below_size (by repeat (first | (with_reducible first | exact HB.out | apply below_alloc | apply pw_below_drewN | apply below_drew1 | refine below_set ?_ GE292.out | refine below_set ?_ GE295.out) | exact HB.out))))
       have n4_ := Aside0.mk (blk_below (g := gb292) (o := .cells #[.slice A3_0 l3_0.length c3_0, .int .i64 a3_1, .int .i64 a3_2] 41 (0, 0)) (by (with_reducible repeat (first | refine blk_drewN ?_ _ | refine blk_drew ?_ | refine blk_alloc ?_ _)); exact BK292.out) hb)
       have n5_ := Aside0.mk (blk_below (g := gb295) (o := .cells #[.slice Ao34 t296.length co34, .int .i64 a3_1, .int .i64 a3_2] 41 (0, 0)) (by (with_reducible repeat (first | refine blk_drewN ?_ _ | refine blk_drew ?_ | refine blk_alloc ?_ _)); exact BK295.out) hb)
       have n6_ := Aside0.mk (below_step (by repeat (first | (with_reducible first | exact HB.out | apply below_alloc | apply pw_below_drewN | apply below_drew1 | refine below_set ?_ GE292.out | refine below_set ?_ GE295.out) | exact HB.out)) hb)
       clear HO298
       clear HO301
       clear HO304
       clear BK292
       clear BK295
       clear HB
       have HO298 := n0_
       have HO301 := n1_
       have HO304 := n2_
       have HO307 := n3_
       have BK292 := n4_
       have BK295 := n5_
       have HB := n6_
       clear n0_ n1_ n2_ n3_ n4_ n5_ n6_
       (try clear hb)
       (try clear hb2)
       (try clear hk)
       (try clear hi)
       (try clear ho0)
       refine hK.out _ _ ⟨(blk_cell BK295.out 0).trans rfl, (blk_cell BK295.out 1).trans rfl, (blk_cell BK295.out 2).trans rfl⟩ (fun hHeld => ?_)
       clear hK K
       refine norm_ (a' := ?_) ?_ ?_
       rotate_left
       ·show Act.put _ (some 46) _ = _
        simp only [Act.put, List.setIfInBounds_toArray, List.set_cons_zero, List.set_cons_succ, i64_w, i32_w]
        rfl
       refine pure_ (i := 8) (N := some 38) (v := ?_) (a' := ?_) #[true, true, true, true, true, true, true, true, true, false, false, false, false] rfl rfl (any_of HT_.out (by kernel_rfl)) (fun _ _ _ h => h) (Or.inl ⟨by rfl, ?_⟩) ?_ ?_
       rotate_left
       ·intro w'
        go_simp
        with_reducible rfl
       rotate_left
       ·simp only [Act.put, List.setIfInBounds_toArray, List.set_cons_zero, List.set_cons_succ, i64_w, i32_w]
        rfl
       refine pure_ (i := 9) (N := some 47) (v := ?_) (a' := ?_) #[true, true, true, true, true, true, true, true, true, true, false, false, false] rfl rfl (any_of HT_.out (by kernel_rfl)) (fun _ _ _ h => h) (Or.inl ⟨by rfl, ?_⟩) ?_ ?_
       rotate_left
       ·intro w'
        go_simp
        with_reducible rfl
       rotate_left
       ·simp only [Act.put, List.setIfInBounds_toArray, List.set_cons_zero, List.set_cons_succ, i64_w, i32_w]
        rfl
       refine pure_ (i := 10) (N := some 48) (v := ?_) (a' := ?_) #[true, true, true, true, true, true, true, true, true, true, true, false, false] rfl rfl (any_of HT_.out (by kernel_rfl)) (fun _ _ _ h => h) (Or.inl ⟨by rfl, ?_⟩) ?_ ?_
       rotate_left
       ·intro w'
        go_simp
        with_reducible rfl
       rotate_left
       ·simp only [Act.put, List.setIfInBounds_toArray, List.set_cons_zero, List.set_cons_succ, i64_w, i32_w]
        rfl
       refine pure_ (i := 11) (N := some 12) (v := ?_) (a' := ?_) #[true, true, true, true, true, true, true, true, true, true, true, true, false] rfl rfl (any_of HT_.out (by kernel_rfl)) (fun _ _ _ h => h) (Or.inl ⟨by rfl, ?_⟩) ?_ ?_
       rotate_left
       ·intro w'
        go_simp
        with_reducible rfl
       rotate_left
       ·simp only [Act.put, List.setIfInBounds_toArray, List.set_cons_zero, List.set_cons_succ, i64_w, i32_w]
        rfl
       refine pure_ (i := 12) (N := some 13) (v := ?_) (a' := ?_) #[true, true, true, true, true, true, true, true, true, true, true, true, true] rfl rfl (any_of HT_.out (by kernel_rfl)) (fun _ _ _ h => h) (Or.inl ⟨by rfl, ?_⟩) ?_ ?_
       rotate_left
       ·intro w'
        go_simp
        with_reducible rfl
       rotate_left
       ·simp only [Act.put, List.setIfInBounds_toArray, List.set_cons_zero, List.set_cons_succ, i64_w, i32_w]
        rfl
       refine done_ (done_of HT_.out (by kernel_rfl)) ?_
       have hcz43_0 : w42.cell? ⟨gb292, 0, none⟩ = some (.slice A3_0 l3_0.length c3_0) := (blk_cell BK292.out 0).trans rfl
       have hcz43_1 : w42.cell? ⟨gb292, 1, none⟩ = some (.int .i64 a3_1) := (blk_cell BK292.out 1).trans rfl
       have hcz43_2 : w42.cell? ⟨gb292, 2, none⟩ = some (.int .i64 a3_2) := (blk_cell BK292.out 2).trans rfl
       have hfz43_0 := blk_frozen BK292.out 0
       have hfz43_1 := blk_frozen BK292.out 1
       have hfz43_2 := blk_frozen BK292.out 2
       try go_wp2_with (first | ((with_reducible refine gate_callee (f := 20) rfl ?_); refine goesL_ (some 55) rfl rfl Tryd.func20 (by kernel_rfl) rfl #[.slice A0 l0.length c0, .slice A1 l1.length c1, .string a2, .agg #[.slice A3_0 l3_0.length c3_0, .int .i64 a3_1, .int .i64 a3_2], .int .i64 a4] rfl (by (try simp only [List.map_toArray, List.map_cons, List.map_nil]); first | done | rfl | (simp only [List.length_drop, List.length_take]; rfl)) ?_; (with_reducible refine (garboardref58_Missing.calls kj7 _ _ l0 _ _ l1 a2 _ _ l3_0 a3_1 a3_2 a4 t309 t312 _ ?side1 ?side2 ?side3 ?side4 ?side5 ?side6 ?side7 A20.out).mono ?_); (case side1 => repeat (first | exact (Kd.C_below HR0.out HB.out) | (with_reducible refine Kd.C_alloc ?_ _) | (with_reducible refine Kd.C_drewN ?_ _) | (with_reducible refine Kd.C_drew ?_))); (case side2 => exact HC0.out); (case side3 => repeat (first | exact (Kd.C_below HR1.out HB.out) | (with_reducible refine Kd.C_alloc ?_ _) | (with_reducible refine Kd.C_drewN ?_ _) | (with_reducible refine Kd.C_drew ?_))); (case side4 => exact HC1.out); (case side5 => repeat (first | exact (Kd.C_below HR3_0.out HB.out) | (with_reducible refine Kd.C_alloc ?_ _) | (with_reducible refine Kd.C_drewN ?_ _) | (with_reducible refine Kd.C_drew ?_))); (case side6 => exact HC3_0.out); (case side7 => exact HLW.out.below (by repeat (first | (with_reducible first | exact HB.out | apply below_alloc | apply pw_below_drewN | apply below_drew1 | refine below_set ?_ GE292.out | refine below_set ?_ GE295.out) | exact HB.out))); rintro e w44 ⟨v310, rfl, ho0, hb⟩; refine ⟨_, rfl, ?_⟩; have n0_ := Aside0.mk (Kd.R_elder' (by (with_reducible repeat (first | apply Kd.R_alloc | apply Kd.R_drewN | apply Kd.R_drew)); exact HO298.out) (Kd.R_base ho0) hb); have n1_ := Aside0.mk (Kd.R_below (by (with_reducible repeat (first | apply Kd.R_alloc | apply Kd.R_drewN | apply Kd.R_drew)); exact HO301.out) hb); have n2_ := Aside0.mk (Kd.R_below (by (with_reducible repeat (first | apply Kd.R_alloc | apply Kd.R_drewN | apply Kd.R_drew)); exact HO304.out) hb); have n3_ := Aside0.mk (Kd.R_elder' (by (with_reducible repeat (first | apply Kd.R_alloc | apply Kd.R_drewN | apply Kd.R_drew)); exact HO307.out) (Kd.R_base ho0) hb); have n4_ := Aside0.mk (Kd.R_lower (Kd.R_new' (Kd.R_new' ho0 (Kd.R_lt (by (with_reducible repeat (first | apply Kd.R_alloc | apply Kd.R_drewN | apply Kd.R_drew)); exact HO298.out))) (Kd.R_lt (by (with_reducible repeat (first | apply Kd.R_alloc | apply Kd.R_drewN | apply Kd.R_drew)); exact HO307.out))) (below_size (by repeat (first | (with_reducible first | exact HB.out | apply below_alloc | apply pw_below_drewN | apply below_drew1 | refine below_set ?_ GE292.out | refine below_set ?_ GE295.out) | exact HB.out)))); have n5_ := Aside0.mk (blk_below (g := gb292) (o := .cells #[.slice A3_0 l3_0.length c3_0, .int .i64 a3_1, .int .i64 a3_2] 41 (0, 0)) (by (with_reducible repeat (first | refine blk_drewN ?_ _ | refine blk_drew ?_ | refine blk_alloc ?_ _)); exact BK292.out) hb); have n6_ := Aside0.mk (blk_below (g := gb295) (o := .cells #[.slice Ao34 t296.length co34, .int .i64 a3_1, .int .i64 a3_2] 41 (0, 0)) (by (with_reducible repeat (first | refine blk_drewN ?_ _ | refine blk_drew ?_ | refine blk_alloc ?_ _)); exact BK295.out) hb); have n7_ := Aside0.mk (below_step (by repeat (first | (with_reducible first | exact HB.out | apply below_alloc | apply pw_below_drewN | apply below_drew1 | refine below_set ?_ GE292.out | refine below_set ?_ GE295.out) | exact HB.out)) hb); clear HO298; clear HO301; clear HO304; clear HO307; clear BK292; clear BK295; clear HB; have HO298 := n0_; have HO301 := n1_; have HO304 := n2_; have HO307 := n3_; have HO311 := n4_; have BK292 := n5_; have BK295 := n6_; have HB := n7_; clear n0_ n1_ n2_ n3_ n4_ n5_ n6_ n7_; (try clear hb); (try clear hb2); (try clear hk); (try clear hi); (try clear ho0)))
       have n0_ := Aside0.mk (Kd.R_drew HO298.out)
       have n1_ := Aside0.mk (Kd.R_drew HO301.out)
       have n2_ := Aside0.mk (Kd.R_drew HO304.out)
       have n3_ := Aside0.mk (Kd.R_drew HO307.out)
       have n4_ := Aside0.mk (Kd.R_drew HO311.out)
       have n5_ := Aside0.mk (blk_drew BK292.out)
       have n6_ := Aside0.mk (blk_drew BK295.out)
       have n7_ := Aside0.mk (below_drew1 HB.out)
       clear HO298
       clear HO301
       clear HO304
       clear HO307
       clear HO311
       clear BK292
       clear BK295
       clear HB
       have HO298 := n0_
       have HO301 := n1_
       have HO304 := n2_
       have HO307 := n3_
       have HO311 := n4_
       have BK292 := n5_
       have BK295 := n6_
       have HB := n7_
       clear n0_ n1_ n2_ n3_ n4_ n5_ n6_ n7_
       obtain ⟨Ao46, co46, eo46⟩ := Kd.R_slice HO307.out
       (first | subst eo46 | (injection eo46 with f1_ f2_ f3_; have f4_ := f1_.symm; have f5_ := f3_.symm; clear f1_ f2_ f3_; subst f4_; subst f5_))
       obtain ⟨Ao47, co47, eo47⟩ := Kd.R_slice HO311.out
       (first | subst eo47 | (injection eo47 with f1_ f2_ f3_; have f4_ := f1_.symm; have f5_ := f3_.symm; clear f1_ f2_ f3_; subst f4_; subst f5_))
       refine start_ (n := 26) (S := fun w' => w'.cell? ⟨gb295, 0, none⟩ = some (.slice Ao34 t296.length co34) ∧ w'.cell? ⟨gb295, 1, none⟩ = some (.int .i64 a3_1) ∧ w'.cell? ⟨gb295, 2, none⟩ = some (.int .i64 a3_2) ∧ w'.cell? ⟨gb292, 0, none⟩ = some (.slice A3_0 l3_0.length c3_0) ∧ w'.cell? ⟨gb292, 1, none⟩ = some (.int .i64 a3_1) ∧ w'.cell? ⟨gb292, 2, none⟩ = some (.int .i64 a3_2)) (ds := []) #[false, false, false, false, false, false, false, false, false, false, false, false, false, false, false, false, false, false, false, false, false, false, false, false, false, false] (by kernel_rfl) rfl rfl ⟨(blk_cell BK295.out 0).trans rfl, (blk_cell BK295.out 1).trans rfl, (blk_cell BK295.out 2).trans rfl, (blk_cell BK292.out 0).trans rfl, (blk_cell BK292.out 1).trans rfl, (blk_cell BK292.out 2).trans rfl⟩ (fun hHeld => ?_); refine with_tabW garboardlaw58_ApprovalMisses.tab9 garboardlaw58_ApprovalMisses.bits9 (fun HT_ HW_ => ?_)
       generalize w44.drew = w45 at HO298 HO301 HO304 HO307 HO311 BK292 BK295 HB hHeld ⊢
       refine pure_ (i := 0) (N := some 58) (v := ?_) (a' := ?_) #[true, false, false, false, false, false, false, false, false, false, false, false, false, false, false, false, false, false, false, false, false, false, false, false, false, false] rfl rfl (any_of HT_.out (by kernel_rfl)) (fun _ _ _ h => h) (Or.inl ⟨by rfl, ?_⟩) ?_ ?_
       rotate_left
       ·intro w'
        go_simp
        with_reducible rfl
       rotate_left
       ·simp only [Act.put, List.setIfInBounds_toArray, List.set_cons_zero, List.set_cons_succ, i64_w, i32_w]
        rfl
       refine pure_ (i := 1) (N := some 59) (v := ?_) (a' := ?_) #[true, true, false, false, false, false, false, false, false, false, false, false, false, false, false, false, false, false, false, false, false, false, false, false, false, false] rfl rfl (any_of HT_.out (by kernel_rfl)) (fun _ _ _ h => h) (Or.inl ⟨by rfl, ?_⟩) ?_ ?_
       rotate_left
       ·intro w'
        go_simp
        with_reducible rfl
       rotate_left
       ·simp only [Act.put, List.setIfInBounds_toArray, List.set_cons_zero, List.set_cons_succ, i64_w, i32_w]
        rfl
       refine one_ (i := 2) (N := some 60) #[true, true, true, false, false, false, false, false, false, false, false, false, false, false, false, false, false, false, false, false, false, false, false, false, false, false] rfl rfl (one_of HT_.out (by kernel_rfl)) (by decide) (fun K hK => ?_)
       refine goes_ Tryd.func21 (by kernel_rfl) rfl #[.slice Ao46 t305.length co46, .slice Ao47 t309.length co47] (by rfl) rfl rfl (by (try simp only [List.map_toArray, List.map_cons, List.map_nil]); first | done | rfl | (simp only [List.length_drop, List.length_take]; rfl)) ?_
       with_reducible refine (slices_Equal_int_int.calls kj7 _ _ t305 _ _ t309 true _ ?side1 ?side2 ?side3 ?side4 A21.out).mono ?_
       (case side1 => repeat (first | exact (Kd.R_reads' HO307.out).2.2 | (with_reducible refine Kd.C_alloc ?_ _) | (with_reducible refine Kd.C_drewN ?_ _) | (with_reducible refine Kd.C_drew ?_)))
       (case side2 => exact (Kd.R_reads' HO307.out).2.1)
       (case side3 => repeat (first | exact (Kd.R_reads' HO311.out).2.2 | (with_reducible refine Kd.C_alloc ?_ _) | (with_reducible refine Kd.C_drewN ?_ _) | (with_reducible refine Kd.C_drew ?_)))
       (case side4 => exact (Kd.R_reads' HO311.out).2.1)
       rintro e w' ⟨rfl, ⟨nd, rfl⟩⟩
       refine ⟨_, rfl, ?_⟩
       refine hK.out _ _ ⟨(blk_cell BK295.out 0).trans rfl, (blk_cell BK295.out 1).trans rfl, (blk_cell BK295.out 2).trans rfl, (blk_cell BK292.out 0).trans rfl, (blk_cell BK292.out 1).trans rfl, (blk_cell BK292.out 2).trans rfl⟩ (fun hHeld => ?_)
       clear hK K
       refine norm_ (a' := ?_) ?_ ?_
       rotate_left
       ·show Act.put _ (some 60) _ = _
        simp only [Act.put, List.setIfInBounds_toArray, List.set_cons_zero, List.set_cons_succ, i64_w, i32_w]
        rfl
       refine pure_ (i := 3) (N := some 61) (v := ?_) (a' := ?_) #[true, true, true, true, false, false, false, false, false, false, false, false, false, false, false, false, false, false, false, false, false, false, false, false, false, false] rfl rfl (any_of HT_.out (by kernel_rfl)) (fun _ _ _ h => h) (Or.inl ⟨by rfl, ?_⟩) ?_ ?_
       rotate_left
       ·intro w'
        go_simp
        with_reducible rfl
       rotate_left
       ·simp only [Act.put, List.setIfInBounds_toArray, List.set_cons_zero, List.set_cons_succ, i64_w, i32_w]
        rfl
       refine pure_ (i := 4) (N := some 62) (v := ?_) (a' := ?_) #[true, true, true, true, true, false, false, false, false, false, false, false, false, false, false, false, false, false, false, false, false, false, false, false, false, false] rfl rfl (any_of HT_.out (by kernel_rfl)) (fun _ _ _ h => h) (Or.inl ⟨by rfl, ?_⟩) ?_ ?_
       rotate_left
       ·intro w'
        go_simp
        with_reducible rfl
       rotate_left
       ·simp only [Act.put, List.setIfInBounds_toArray, List.set_cons_zero, List.set_cons_succ, i64_w, i32_w]
        rfl
       refine pure_ (i := 5) (N := some 63) (v := ?_) (a' := ?_) #[true, true, true, true, true, true, false, false, false, false, false, false, false, false, false, false, false, false, false, false, false, false, false, false, false, false] rfl rfl (any_of HT_.out (by kernel_rfl)) (fun _ _ _ h => h) (Or.inl ⟨by rfl, ?_⟩) ?_ ?_
       rotate_left
       ·intro w'
        go_simp
        with_reducible rfl
       rotate_left
       ·simp only [Act.put, List.setIfInBounds_toArray, List.set_cons_zero, List.set_cons_succ, i64_w, i32_w]
        rfl
       refine pure_ (i := 6) (N := some 64) (v := ?_) (a' := ?_) #[true, true, true, true, true, true, true, false, false, false, false, false, false, false, false, false, false, false, false, false, false, false, false, false, false, false] rfl rfl (any_of HT_.out (by kernel_rfl)) (fun _ _ _ h => h) (Or.inl ⟨by rfl, ?_⟩) ?_ ?_
       rotate_left
       ·intro w'
        go_simp
        with_reducible rfl
       rotate_left
       ·simp only [Act.put, List.setIfInBounds_toArray, List.set_cons_zero, List.set_cons_succ, i64_w, i32_w]
        rfl
       refine pure_ (i := 7) (N := some 65) (v := ?_) (a' := ?_) #[true, true, true, true, true, true, true, true, false, false, false, false, false, false, false, false, false, false, false, false, false, false, false, false, false, false] rfl rfl (any_of HT_.out (by kernel_rfl)) (fun _ _ _ h => h) (Or.inl ⟨by rfl, ?_⟩) ?_ ?_
       rotate_left
       ·intro w'
        go_simp
        with_reducible rfl
       rotate_left
       ·simp only [Act.put, List.setIfInBounds_toArray, List.set_cons_zero, List.set_cons_succ, i64_w, i32_w]
        rfl
       refine pure_ (i := 8) (N := some 66) (v := ?_) (a' := ?_) #[true, true, true, true, true, true, true, true, true, false, false, false, false, false, false, false, false, false, false, false, false, false, false, false, false, false] rfl rfl (any_of HT_.out (by kernel_rfl)) (fun _ _ _ h => h) (Or.inl ⟨by rfl, ?_⟩) ?_ ?_
       rotate_left
       ·intro w'
        go_simp
        with_reducible rfl
       rotate_left
       ·simp only [Act.put, List.setIfInBounds_toArray, List.set_cons_zero, List.set_cons_succ, i64_w, i32_w]
        rfl
       refine pure_ (i := 9) (N := some 67) (v := ?_) (a' := ?_) #[true, true, true, true, true, true, true, true, true, true, false, false, false, false, false, false, false, false, false, false, false, false, false, false, false, false] rfl rfl (any_of HT_.out (by kernel_rfl)) (fun _ _ _ h => h) (Or.inl ⟨by rfl, ?_⟩) ?_ ?_
       rotate_left
       ·intro w'
        go_simp
        with_reducible rfl
       rotate_left
       ·simp only [Act.put, List.setIfInBounds_toArray, List.set_cons_zero, List.set_cons_succ, i64_w, i32_w]
        rfl
       refine pure_ (i := 11) (N := some 69) (v := ?_) (a' := ?_) #[true, true, true, true, true, true, true, true, true, true, false, true, false, false, false, false, false, false, false, false, false, false, false, false, false, false] rfl rfl (any_of HT_.out (by kernel_rfl)) (fun _ _ _ h => h) (Or.inl ⟨by rfl, ?_⟩) ?_ ?_
       rotate_left
       ·intro w'
        go_simp
        with_reducible rfl
       rotate_left
       ·simp only [Act.put, List.setIfInBounds_toArray, List.set_cons_zero, List.set_cons_succ, i64_w, i32_w]
        rfl
       refine pure_ (i := 13) (N := some 71) (v := ?_) (a' := ?_) #[true, true, true, true, true, true, true, true, true, true, false, true, false, true, false, false, false, false, false, false, false, false, false, false, false, false] rfl rfl (any_of HT_.out (by kernel_rfl)) (fun _ _ _ h => h) (Or.inl ⟨by rfl, ?_⟩) ?_ ?_
       rotate_left
       ·intro w'
        go_simp
        with_reducible rfl
       rotate_left
       ·simp only [Act.put, List.setIfInBounds_toArray, List.set_cons_zero, List.set_cons_succ, i64_w, i32_w]
        rfl
       refine pure_ (i := 15) (N := some 73) (v := ?_) (a' := ?_) #[true, true, true, true, true, true, true, true, true, true, false, true, false, true, false, true, false, false, false, false, false, false, false, false, false, false] rfl rfl (any_of HT_.out (by kernel_rfl)) (fun _ _ _ h => h) (Or.inl ⟨by rfl, ?_⟩) ?_ ?_
       rotate_left
       ·intro w'
        go_simp
        with_reducible rfl
       rotate_left
       ·simp only [Act.put, List.setIfInBounds_toArray, List.set_cons_zero, List.set_cons_succ, i64_w, i32_w]
        rfl
       refine pure_ (i := 17) (N := some 75) (v := ?_) (a' := ?_) #[true, true, true, true, true, true, true, true, true, true, false, true, false, true, false, true, false, true, false, false, false, false, false, false, false, false] rfl rfl (any_of HT_.out (by kernel_rfl)) (fun _ _ _ h => h) (Or.inl ⟨by rfl, ?_⟩) ?_ ?_
       rotate_left
       ·intro w'
        go_simp
        with_reducible rfl
       rotate_left
       ·simp only [Act.put, List.setIfInBounds_toArray, List.set_cons_zero, List.set_cons_succ, i64_w, i32_w]
        rfl
       refine pure_ (i := 18) (N := some 76) (v := ?_) (a' := ?_) #[true, true, true, true, true, true, true, true, true, true, false, true, false, true, false, true, false, true, true, false, false, false, false, false, false, false] rfl rfl (any_of HT_.out (by kernel_rfl)) (fun _ _ _ h => h) (Or.inl ⟨by rfl, ?_⟩) ?_ ?_
       rotate_left
       ·intro w'
        go_simp
        with_reducible rfl
       rotate_left
       ·simp only [Act.put, List.setIfInBounds_toArray, List.set_cons_zero, List.set_cons_succ, i64_w, i32_w]
        rfl
       refine pure_ (i := 19) (N := some 77) (v := ?_) (a' := ?_) #[true, true, true, true, true, true, true, true, true, true, false, true, false, true, false, true, false, true, true, true, false, false, false, false, false, false] rfl rfl (any_of HT_.out (by kernel_rfl)) (fun _ _ _ h => h) (Or.inl ⟨by rfl, ?_⟩) ?_ ?_
       rotate_left
       ·intro w'
        go_simp
        with_reducible rfl
       rotate_left
       ·simp only [Act.put, List.setIfInBounds_toArray, List.set_cons_zero, List.set_cons_succ, i64_w, i32_w]
        rfl
       refine pure_ (i := 21) (N := some 79) (v := ?_) (a' := ?_) #[true, true, true, true, true, true, true, true, true, true, false, true, false, true, false, true, false, true, true, true, false, true, false, false, false, false] rfl rfl (any_of HT_.out (by kernel_rfl)) (fun _ _ _ h => h) (Or.inl ⟨by rfl, ?_⟩) ?_ ?_
       rotate_left
       ·intro w'
        go_simp
        with_reducible rfl
       rotate_left
       ·simp only [Act.put, List.setIfInBounds_toArray, List.set_cons_zero, List.set_cons_succ, i64_w, i32_w]
        rfl
       refine take_ (i := 14) (N := some 72) (v := ?_) (a' := ?_) #[true, true, true, true, true, true, true, true, true, true, false, true, false, true, true, true, false, true, true, true, false, true, false, false, false, false] rfl rfl (take_ofW HT_.out HW_.out (by kernel_rfl)) (fun _ _ _ h => h) (Or.inl ⟨by rfl, ?_⟩) hHeld ?_ ?_
       rotate_left
       ·rintro w' ⟨s0, s1, s2, s3, s4, s5⟩
        go_simp
        with_reducible rfl
       rotate_left
       ·simp only [Act.put, List.setIfInBounds_toArray, List.set_cons_zero, List.set_cons_succ, i64_w, i32_w]
        rfl
       refine take_ (i := 20) (N := some 78) (v := ?_) (a' := ?_) #[true, true, true, true, true, true, true, true, true, true, false, true, false, true, true, true, false, true, true, true, true, true, false, false, false, false] rfl rfl (take_ofW HT_.out HW_.out (by kernel_rfl)) (fun _ _ _ h => h) (Or.inl ⟨by rfl, ?_⟩) hHeld ?_ ?_
       rotate_left
       ·rintro w' ⟨s0, s1, s2, s3, s4, s5⟩
        go_simp
        with_reducible rfl
       rotate_left
       ·simp only [Act.put, List.setIfInBounds_toArray, List.set_cons_zero, List.set_cons_succ, i64_w, i32_w]
        rfl
       refine one_ (i := 10) (N := some 68) #[true, true, true, true, true, true, true, true, true, true, true, true, false, true, true, true, false, true, true, true, true, true, false, false, false, false] rfl rfl (one_of HT_.out (by kernel_rfl)) (by decide) (fun K hK => ?_)
       refine goes_ Tryd.func12 (by kernel_rfl) rfl #[.slice A0 l0.length c0] (by rfl) rfl rfl (by (try simp only [List.map_toArray, List.map_cons, List.map_nil]); first | done | rfl | (simp only [List.length_drop, List.length_take]; rfl)) ?_
       with_reducible refine (api_Signer_12.calls _ _ l0 t314 _ ?side1 ?side2 A24.out).mono ?_
       (case side1 => repeat (first | exact (Kd.C_below HR0.out (by repeat (first | (with_reducible first | exact HB.out | apply below_alloc | apply pw_below_drewN | apply below_drew1 | refine below_set ?_ GE292.out | refine below_set ?_ GE295.out) | exact HB.out))) | (with_reducible refine Kd.C_alloc ?_ _) | (with_reducible refine Kd.C_drewN ?_ _) | (with_reducible refine Kd.C_drew ?_)))
       (case side2 => exact HC0.out)
       rintro e w48 ⟨v315, rfl, ho0, hb⟩
       refine ⟨_, rfl, ?_⟩
       have n0_ := Aside0.mk (Kd.R_below (by (with_reducible repeat (first | apply Kd.R_alloc | apply Kd.R_drewN | apply Kd.R_drew)); exact HO298.out) hb)
       have n1_ := Aside0.mk (Kd.R_elder' (by (with_reducible repeat (first | apply Kd.R_alloc | apply Kd.R_drewN | apply Kd.R_drew)); exact HO301.out) (Kd.R_base ho0) hb)
       have n2_ := Aside0.mk (Kd.R_below (by (with_reducible repeat (first | apply Kd.R_alloc | apply Kd.R_drewN | apply Kd.R_drew)); exact HO304.out) hb)
       have n3_ := Aside0.mk (Kd.R_below (by (with_reducible repeat (first | apply Kd.R_alloc | apply Kd.R_drewN | apply Kd.R_drew)); exact HO307.out) hb)
       have n4_ := Aside0.mk (Kd.R_below (by (with_reducible repeat (first | apply Kd.R_alloc | apply Kd.R_drewN | apply Kd.R_drew)); exact HO311.out) hb)
       have n5_ := Aside0.mk (Kd.R_lower (Kd.R_new' ho0 (Kd.R_lt (by (with_reducible repeat (first | apply Kd.R_alloc | apply Kd.R_drewN | apply Kd.R_drew)); exact HO301.out))) (below_size (by repeat (first | (with_reducible first | exact HB.out | apply below_alloc | apply pw_below_drewN | apply below_drew1 | refine below_set ?_ GE292.out | refine below_set ?_ GE295.out) | exact HB.out))))
       have n6_ := Aside0.mk (blk_below (g := gb292) (o := .cells #[.slice A3_0 l3_0.length c3_0, .int .i64 a3_1, .int .i64 a3_2] 41 (0, 0)) (by (with_reducible repeat (first | refine blk_drewN ?_ _ | refine blk_drew ?_ | refine blk_alloc ?_ _)); exact BK292.out) hb)
       have n7_ := Aside0.mk (blk_below (g := gb295) (o := .cells #[.slice Ao34 t296.length co34, .int .i64 a3_1, .int .i64 a3_2] 41 (0, 0)) (by (with_reducible repeat (first | refine blk_drewN ?_ _ | refine blk_drew ?_ | refine blk_alloc ?_ _)); exact BK295.out) hb)
       have n8_ := Aside0.mk (below_step (by repeat (first | (with_reducible first | exact HB.out | apply below_alloc | apply pw_below_drewN | apply below_drew1 | refine below_set ?_ GE292.out | refine below_set ?_ GE295.out) | exact HB.out)) hb)
       clear HO298
       clear HO301
       clear HO304
       clear HO307
       clear HO311
       clear BK292
       clear BK295
       clear HB
       have HO298 := n0_
       have HO301 := n1_
       have HO304 := n2_
       have HO307 := n3_
       have HO311 := n4_
       have HO316 := n5_
       have BK292 := n6_
       have BK295 := n7_
       have HB := n8_
       clear n0_ n1_ n2_ n3_ n4_ n5_ n6_ n7_ n8_
       (try clear hb)
       (try clear hb2)
       (try clear hk)
       (try clear hi)
       (try clear ho0)
       refine hK.out _ _ ⟨(blk_cell BK295.out 0).trans rfl, (blk_cell BK295.out 1).trans rfl, (blk_cell BK295.out 2).trans rfl, (blk_cell BK292.out 0).trans rfl, (blk_cell BK292.out 1).trans rfl, (blk_cell BK292.out 2).trans rfl⟩ (fun hHeld => ?_)
       clear hK K
       refine norm_ (a' := ?_) ?_ ?_
       rotate_left
       ·show Act.put _ (some 68) _ = _
        simp only [Act.put, List.setIfInBounds_toArray, List.set_cons_zero, List.set_cons_succ, i64_w, i32_w]
        rfl
       refine one_ (i := 12) (N := some 70) #[true, true, true, true, true, true, true, true, true, true, true, true, true, true, true, true, false, true, true, true, true, true, false, false, false, false] rfl rfl (one_of HT_.out (by kernel_rfl)) (by decide) (fun K hK => ?_)
       refine goes_ Tryd.func13 (by kernel_rfl) rfl #[.slice A1 l1.length c1] (by rfl) rfl rfl (by (try simp only [List.map_toArray, List.map_cons, List.map_nil]); first | done | rfl | (simp only [List.length_drop, List.length_take]; rfl)) ?_
       with_reducible refine (api_Approval_13.calls _ _ l1 t317 _ ?side1 ?side2 A25.out).mono ?_
       (case side1 => repeat (first | exact (Kd.C_below HR1.out HB.out) | (with_reducible refine Kd.C_alloc ?_ _) | (with_reducible refine Kd.C_drewN ?_ _) | (with_reducible refine Kd.C_drew ?_)))
       (case side2 => exact HC1.out)
       rintro e w49 ⟨v318, rfl, ho0, hb⟩
       refine ⟨_, rfl, ?_⟩
       have n0_ := Aside0.mk (Kd.R_below (by (with_reducible repeat (first | apply Kd.R_alloc | apply Kd.R_drewN | apply Kd.R_drew)); exact HO298.out) hb)
       have n1_ := Aside0.mk (Kd.R_below (by (with_reducible repeat (first | apply Kd.R_alloc | apply Kd.R_drewN | apply Kd.R_drew)); exact HO301.out) hb)
       have n2_ := Aside0.mk (Kd.R_elder' (by (with_reducible repeat (first | apply Kd.R_alloc | apply Kd.R_drewN | apply Kd.R_drew)); exact HO304.out) (Kd.R_base ho0) hb)
       have n3_ := Aside0.mk (Kd.R_below (by (with_reducible repeat (first | apply Kd.R_alloc | apply Kd.R_drewN | apply Kd.R_drew)); exact HO307.out) hb)
       have n4_ := Aside0.mk (Kd.R_below (by (with_reducible repeat (first | apply Kd.R_alloc | apply Kd.R_drewN | apply Kd.R_drew)); exact HO311.out) hb)
       have n5_ := Aside0.mk (Kd.R_below (by (with_reducible repeat (first | apply Kd.R_alloc | apply Kd.R_drewN | apply Kd.R_drew)); exact HO316.out) hb)
       have n6_ := Aside0.mk (Kd.R_lower (Kd.R_new' ho0 (Kd.R_lt (by (with_reducible repeat (first | apply Kd.R_alloc | apply Kd.R_drewN | apply Kd.R_drew)); exact HO304.out))) (below_size (by repeat (first | (with_reducible first | exact HB.out | apply below_alloc | apply pw_below_drewN | apply below_drew1 | refine below_set ?_ GE292.out | refine below_set ?_ GE295.out) | exact HB.out))))
       have n7_ := Aside0.mk (blk_below (g := gb292) (o := .cells #[.slice A3_0 l3_0.length c3_0, .int .i64 a3_1, .int .i64 a3_2] 41 (0, 0)) (by (with_reducible repeat (first | refine blk_drewN ?_ _ | refine blk_drew ?_ | refine blk_alloc ?_ _)); exact BK292.out) hb)
       have n8_ := Aside0.mk (blk_below (g := gb295) (o := .cells #[.slice Ao34 t296.length co34, .int .i64 a3_1, .int .i64 a3_2] 41 (0, 0)) (by (with_reducible repeat (first | refine blk_drewN ?_ _ | refine blk_drew ?_ | refine blk_alloc ?_ _)); exact BK295.out) hb)
       have n9_ := Aside0.mk (below_step (by repeat (first | (with_reducible first | exact HB.out | apply below_alloc | apply pw_below_drewN | apply below_drew1 | refine below_set ?_ GE292.out | refine below_set ?_ GE295.out) | exact HB.out)) hb)
       clear HO298
       clear HO301
       clear HO304
       clear HO307
       clear HO311
       clear HO316
       clear BK292
       clear BK295
       clear HB
       have HO298 := n0_
       have HO301 := n1_
       have HO304 := n2_
       have HO307 := n3_
       have HO311 := n4_
       have HO316 := n5_
       have HO319 := n6_
       have BK292 := n7_
       have BK295 := n8_
       have HB := n9_
       clear n0_ n1_ n2_ n3_ n4_ n5_ n6_ n7_ n8_ n9_
       (try clear hb)
       (try clear hb2)
       (try clear hk)
       (try clear hi)
       (try clear ho0)
       obtain ⟨Ao50, co50, eo50⟩ := Kd.R_slice HO316.out
       (first | subst eo50 | (injection eo50 with f1_ f2_ f3_; have f4_ := f1_.symm; have f5_ := f3_.symm; clear f1_ f2_ f3_; subst f4_; subst f5_))
       obtain ⟨Ao51, co51, eo51⟩ := Kd.R_slice HO319.out
       (first | subst eo51 | (injection eo51 with f1_ f2_ f3_; have f4_ := f1_.symm; have f5_ := f3_.symm; clear f1_ f2_ f3_; subst f4_; subst f5_))
       refine hK.out _ _ ⟨(blk_cell BK295.out 0).trans rfl, (blk_cell BK295.out 1).trans rfl, (blk_cell BK295.out 2).trans rfl, (blk_cell BK292.out 0).trans rfl, (blk_cell BK292.out 1).trans rfl, (blk_cell BK292.out 2).trans rfl⟩ (fun hHeld => ?_)
       clear hK K
       refine norm_ (a' := ?_) ?_ ?_
       rotate_left
       ·show Act.put _ (some 70) _ = _
        simp only [Act.put, List.setIfInBounds_toArray, List.set_cons_zero, List.set_cons_succ, i64_w, i32_w]
        rfl
       refine one_ (i := 16) (N := some 74) #[true, true, true, true, true, true, true, true, true, true, true, true, true, true, true, true, true, true, true, true, true, true, false, false, false, false] rfl rfl (one_of HT_.out (by kernel_rfl)) (by decide) (fun K hK => ?_)
       refine goes_ Tryd.func22 (by kernel_rfl) rfl #[.slice Ao50 t314.length co50, .slice Ao51 t317.length co51, .string a2, .agg #[.slice Ao34 t296.length co34, .int .i64 a3_1, .int .i64 a3_2], .int .i64 a4] (by rfl) rfl rfl (by (try simp only [List.map_toArray, List.map_cons, List.map_nil]); first | done | rfl | (simp only [List.length_drop, List.length_take]; rfl)) ?_
       with_reducible refine (approval_Granted.calls _ _ t314 _ _ t317 a2 _ _ t296 a3_1 a3_2 a4 t320 _ ?side1 ?side2 ?side3 ?side4 ?side5 ?side6 ?side7 A26.out).mono ?_
       (case side1 => repeat (first | exact (Kd.R_reads' HO316.out).2.2 | (with_reducible refine Kd.C_alloc ?_ _) | (with_reducible refine Kd.C_drewN ?_ _) | (with_reducible refine Kd.C_drew ?_)))
       (case side2 => exact (Kd.R_reads' HO316.out).2.1)
       (case side3 => repeat (first | exact (Kd.R_reads' HO319.out).2.2 | (with_reducible refine Kd.C_alloc ?_ _) | (with_reducible refine Kd.C_drewN ?_ _) | (with_reducible refine Kd.C_drew ?_)))
       (case side4 => exact (Kd.R_reads' HO319.out).2.1)
       (case side5 => repeat (first | exact (Kd.R_reads' HO298.out).2.2 | (with_reducible refine Kd.C_alloc ?_ _) | (with_reducible refine Kd.C_drewN ?_ _) | (with_reducible refine Kd.C_drew ?_)))
       (case side6 => exact (Kd.R_reads' HO298.out).2.1)
       (case side7 => exact HLW.out.below (by repeat (first | (with_reducible first | exact HB.out | apply below_alloc | apply pw_below_drewN | apply below_drew1 | refine below_set ?_ GE292.out | refine below_set ?_ GE295.out) | exact HB.out)))
       rintro e w52 ⟨rfl, hb⟩
       refine ⟨_, rfl, ?_⟩
       have n0_ := Aside0.mk (Kd.R_below (by (with_reducible repeat (first | apply Kd.R_alloc | apply Kd.R_drewN | apply Kd.R_drew)); exact HO298.out) hb)
       have n1_ := Aside0.mk (Kd.R_below (by (with_reducible repeat (first | apply Kd.R_alloc | apply Kd.R_drewN | apply Kd.R_drew)); exact HO301.out) hb)
       have n2_ := Aside0.mk (Kd.R_below (by (with_reducible repeat (first | apply Kd.R_alloc | apply Kd.R_drewN | apply Kd.R_drew)); exact HO304.out) hb)
       have n3_ := Aside0.mk (Kd.R_below (by (with_reducible repeat (first | apply Kd.R_alloc | apply Kd.R_drewN | apply Kd.R_drew)); exact HO307.out) hb)
       have n4_ := Aside0.mk (Kd.R_below (by (with_reducible repeat (first | apply Kd.R_alloc | apply Kd.R_drewN | apply Kd.R_drew)); exact HO311.out) hb)
       have n5_ := Aside0.mk (Kd.R_below (by (with_reducible repeat (first | apply Kd.R_alloc | apply Kd.R_drewN | apply Kd.R_drew)); exact HO316.out) hb)
       have n6_ := Aside0.mk (Kd.R_below (by (with_reducible repeat (first | apply Kd.R_alloc | apply Kd.R_drewN | apply Kd.R_drew)); exact HO319.out) hb)
       have n7_ := Aside0.mk (blk_below (g := gb292) (o := .cells #[.slice A3_0 l3_0.length c3_0, .int .i64 a3_1, .int .i64 a3_2] 41 (0, 0)) (by (with_reducible repeat (first | refine blk_drewN ?_ _ | refine blk_drew ?_ | refine blk_alloc ?_ _)); exact BK292.out) hb)
       have n8_ := Aside0.mk (blk_below (g := gb295) (o := .cells #[.slice Ao34 t296.length co34, .int .i64 a3_1, .int .i64 a3_2] 41 (0, 0)) (by (with_reducible repeat (first | refine blk_drewN ?_ _ | refine blk_drew ?_ | refine blk_alloc ?_ _)); exact BK295.out) hb)
       have n9_ := Aside0.mk (below_step (by repeat (first | (with_reducible first | exact HB.out | apply below_alloc | apply pw_below_drewN | apply below_drew1 | refine below_set ?_ GE292.out | refine below_set ?_ GE295.out) | exact HB.out)) hb)
       clear HO298
       clear HO301
       clear HO304
       clear HO307
       clear HO311
       clear HO316
       clear HO319
       clear BK292
       clear BK295
       clear HB
       have HO298 := n0_
       have HO301 := n1_
       have HO304 := n2_
       have HO307 := n3_
       have HO311 := n4_
       have HO316 := n5_
       have HO319 := n6_
       have BK292 := n7_
       have BK295 := n8_
       have HB := n9_
       clear n0_ n1_ n2_ n3_ n4_ n5_ n6_ n7_ n8_ n9_
       (try clear hb)
       (try clear hb2)
       (try clear hk)
       (try clear hi)
       refine hK.out _ _ ⟨(blk_cell BK295.out 0).trans rfl, (blk_cell BK295.out 1).trans rfl, (blk_cell BK295.out 2).trans rfl, (blk_cell BK292.out 0).trans rfl, (blk_cell BK292.out 1).trans rfl, (blk_cell BK292.out 2).trans rfl⟩ (fun hHeld => ?_)
       clear hK K
       refine norm_ (a' := ?_) ?_ ?_
       rotate_left
       ·show Act.put _ (some 74) _ = _
        simp only [Act.put, List.setIfInBounds_toArray, List.set_cons_zero, List.set_cons_succ, i64_w, i32_w]
        rfl
       refine one_ (i := 22) (N := some 80) #[true, true, true, true, true, true, true, true, true, true, true, true, true, true, true, true, true, true, true, true, true, true, true, false, false, false] rfl rfl (one_of HT_.out (by kernel_rfl)) (by decide) (fun K hK => ?_)
       refine goes_ Tryd.func23 (by kernel_rfl) rfl #[.slice A0 l0.length c0, .slice A1 l1.length c1, .string a2, .agg #[.slice A3_0 l3_0.length c3_0, .int .i64 a3_1, .int .i64 a3_2], .int .i64 a4] (by rfl) rfl rfl (by (try simp only [List.map_toArray, List.map_cons, List.map_nil]); first | done | rfl | (simp only [List.length_drop, List.length_take]; rfl)) ?_
       with_reducible refine (garboardref58_Granted.calls kj7 _ _ l0 _ _ l1 a2 _ _ l3_0 a3_1 a3_2 a4 t321 _ ?side1 ?side2 ?side3 ?side4 ?side5 ?side6 ?side7 A27.out).mono ?_
       (case side1 => repeat (first | exact (Kd.C_below HR0.out HB.out) | (with_reducible refine Kd.C_alloc ?_ _) | (with_reducible refine Kd.C_drewN ?_ _) | (with_reducible refine Kd.C_drew ?_)))
       (case side2 => exact HC0.out)
       (case side3 => repeat (first | exact (Kd.C_below HR1.out HB.out) | (with_reducible refine Kd.C_alloc ?_ _) | (with_reducible refine Kd.C_drewN ?_ _) | (with_reducible refine Kd.C_drew ?_)))
       (case side4 => exact HC1.out)
       (case side5 => repeat (first | exact (Kd.C_below HR3_0.out HB.out) | (with_reducible refine Kd.C_alloc ?_ _) | (with_reducible refine Kd.C_drewN ?_ _) | (with_reducible refine Kd.C_drew ?_)))
       (case side6 => exact HC3_0.out)
       (case side7 => exact HLW.out.below (by repeat (first | (with_reducible first | exact HB.out | apply below_alloc | apply pw_below_drewN | apply below_drew1 | refine below_set ?_ GE292.out | refine below_set ?_ GE295.out) | exact HB.out)))
       rintro e w53 ⟨rfl, hb⟩
       refine ⟨_, rfl, ?_⟩
       have n0_ := Aside0.mk (Kd.R_below (by (with_reducible repeat (first | apply Kd.R_alloc | apply Kd.R_drewN | apply Kd.R_drew)); exact HO298.out) hb)
       have n1_ := Aside0.mk (Kd.R_below (by (with_reducible repeat (first | apply Kd.R_alloc | apply Kd.R_drewN | apply Kd.R_drew)); exact HO301.out) hb)
       have n2_ := Aside0.mk (Kd.R_below (by (with_reducible repeat (first | apply Kd.R_alloc | apply Kd.R_drewN | apply Kd.R_drew)); exact HO304.out) hb)
       have n3_ := Aside0.mk (Kd.R_below (by (with_reducible repeat (first | apply Kd.R_alloc | apply Kd.R_drewN | apply Kd.R_drew)); exact HO307.out) hb)
       have n4_ := Aside0.mk (Kd.R_below (by (with_reducible repeat (first | apply Kd.R_alloc | apply Kd.R_drewN | apply Kd.R_drew)); exact HO311.out) hb)
       have n5_ := Aside0.mk (Kd.R_below (by (with_reducible repeat (first | apply Kd.R_alloc | apply Kd.R_drewN | apply Kd.R_drew)); exact HO316.out) hb)
       have n6_ := Aside0.mk (Kd.R_below (by (with_reducible repeat (first | apply Kd.R_alloc | apply Kd.R_drewN | apply Kd.R_drew)); exact HO319.out) hb)
       have n7_ := Aside0.mk (blk_below (g := gb292) (o := .cells #[.slice A3_0 l3_0.length c3_0, .int .i64 a3_1, .int .i64 a3_2] 41 (0, 0)) (by (with_reducible repeat (first | refine blk_drewN ?_ _ | refine blk_drew ?_ | refine blk_alloc ?_ _)); exact BK292.out) hb)
       have n8_ := Aside0.mk (blk_below (g := gb295) (o := .cells #[.slice Ao34 t296.length co34, .int .i64 a3_1, .int .i64 a3_2] 41 (0, 0)) (by (with_reducible repeat (first | refine blk_drewN ?_ _ | refine blk_drew ?_ | refine blk_alloc ?_ _)); exact BK295.out) hb)
       have n9_ := Aside0.mk (below_step (by repeat (first | (with_reducible first | exact HB.out | apply below_alloc | apply pw_below_drewN | apply below_drew1 | refine below_set ?_ GE292.out | refine below_set ?_ GE295.out) | exact HB.out)) hb)
       clear HO298
       clear HO301
       clear HO304
       clear HO307
       clear HO311
       clear HO316
       clear HO319
       clear BK292
       clear BK295
       clear HB
       have HO298 := n0_
       have HO301 := n1_
       have HO304 := n2_
       have HO307 := n3_
       have HO311 := n4_
       have HO316 := n5_
       have HO319 := n6_
       have BK292 := n7_
       have BK295 := n8_
       have HB := n9_
       clear n0_ n1_ n2_ n3_ n4_ n5_ n6_ n7_ n8_ n9_
       (try clear hb)
       (try clear hb2)
       (try clear hk)
       (try clear hi)
       refine hK.out _ _ ⟨(blk_cell BK295.out 0).trans rfl, (blk_cell BK295.out 1).trans rfl, (blk_cell BK295.out 2).trans rfl, (blk_cell BK292.out 0).trans rfl, (blk_cell BK292.out 1).trans rfl, (blk_cell BK292.out 2).trans rfl⟩ (fun hHeld => ?_)
       clear hK K
       refine norm_ (a' := ?_) ?_ ?_
       rotate_left
       ·show Act.put _ (some 80) _ = _
        simp only [Act.put, List.setIfInBounds_toArray, List.set_cons_zero, List.set_cons_succ, i64_w, i32_w]
        rfl
       refine pure_ (i := 23) (N := some 81) (v := ?_) (a' := ?_) #[true, true, true, true, true, true, true, true, true, true, true, true, true, true, true, true, true, true, true, true, true, true, true, true, false, false] rfl rfl (any_of HT_.out (by kernel_rfl)) (fun _ _ _ h => h) (Or.inl ⟨by rfl, ?_⟩) ?_ ?_
       rotate_left
       ·intro w'
        go_simp
        with_reducible rfl
       rotate_left
       ·simp only [Act.put, List.setIfInBounds_toArray, List.set_cons_zero, List.set_cons_succ, i64_w, i32_w]
        rfl
       refine pure_ (i := 24) (N := some 82) (v := ?_) (a' := ?_) #[true, true, true, true, true, true, true, true, true, true, true, true, true, true, true, true, true, true, true, true, true, true, true, true, true, false] rfl rfl (any_of HT_.out (by kernel_rfl)) (fun _ _ _ h => h) (Or.inl ⟨by rfl, ?_⟩) ?_ ?_
       rotate_left
       ·intro w'
        go_simp
        with_reducible rfl
       rotate_left
       ·simp only [Act.put, List.setIfInBounds_toArray, List.set_cons_zero, List.set_cons_succ, i64_w, i32_w]
        rfl
       refine pure_ (i := 25) (N := some 10) (v := ?_) (a' := ?_) #[true, true, true, true, true, true, true, true, true, true, true, true, true, true, true, true, true, true, true, true, true, true, true, true, true, true] rfl rfl (any_of HT_.out (by kernel_rfl)) (fun _ _ _ h => h) (Or.inl ⟨by rfl, ?_⟩) ?_ ?_
       rotate_left
       ·intro w'
        go_simp
        with_reducible rfl
       rotate_left
       ·simp only [Act.put, List.setIfInBounds_toArray, List.set_cons_zero, List.set_cons_succ, i64_w, i32_w]
        rfl
       refine done_ (done_of HT_.out (by kernel_rfl)) ?_
       try go_wp2
       go_ret
       exact ⟨by first | rfl | (simp [errW_none, errW_some] <;> rfl) | (simp [*, errW_none, errW_some] <;> rfl), by repeat (first | (with_reducible first | exact HB.out | apply below_alloc | apply pw_below_drewN | apply below_drew1 | refine below_set ?_ GE292.out | refine below_set ?_ GE295.out) | exact HB.out)⟩
      ·rw [if_neg c23] at H
       have c23b0 : (t308 == t312) = false := beq_eq_false_iff_ne.mpr c23
       have c23b1 : (t308 != t312) = true := bne_iff_ne.mpr c23
       obtain rfl := Option.some.inj H
       have hcz54_0 : wc.cell? ⟨gb292, 0, none⟩ = some (.slice A3_0 l3_0.length c3_0) := (blk_cell BK292.out 0).trans rfl
       have hcz54_1 : wc.cell? ⟨gb292, 1, none⟩ = some (.int .i64 a3_1) := (blk_cell BK292.out 1).trans rfl
       have hcz54_2 : wc.cell? ⟨gb292, 2, none⟩ = some (.int .i64 a3_2) := (blk_cell BK292.out 2).trans rfl
       have hfz54_0 := blk_frozen BK292.out 0
       have hfz54_1 := blk_frozen BK292.out 1
       have hfz54_2 := blk_frozen BK292.out 2
       try go_wp2_with (first | ((with_reducible refine gate_dst (N := 11) rfl ?_); (try (refine gate_guard (by rfl) ?_; dsimp only)); refine box_event ?hg (N := 11) ?hd (cs := #[.slice none 0 0, .int .i64 0, .int .i64 0]) (t := 41) ?hr ?_; (case hd => rfl); (case hg => rfl); (case hr => first | (go_simp; done) | (go_simp; rfl)); intro gb295 hg w55 hbox hb; have n0_ := Aside0.mk (blk_below (g := gb292) (o := .cells #[.slice A3_0 l3_0.length c3_0, .int .i64 a3_1, .int .i64 a3_2] 41 (0, 0)) (by (with_reducible repeat (first | refine blk_drewN ?_ _ | refine blk_drew ?_ | refine blk_alloc ?_ _)); exact BK292.out) hb); have n1_ := Aside0.mk (below_step (by repeat (first | (with_reducible first | exact HB.out | apply below_alloc | apply pw_below_drewN | apply below_drew1 | refine below_set ?_ GE292.out) | exact HB.out)) hb); have n2_ := Aside0.mk (hbox); have n3_ := Aside0.mk ((by rw [hg]; exact (below_size (by repeat (first | (with_reducible first | exact HB.out | apply below_alloc | apply pw_below_drewN | apply below_drew1 | refine below_set ?_ GE292.out) | exact HB.out))) : w.heap.size ≤ gb295)); have n4_ := Aside0.mk ((by rw [hg]; exact (below_size (by repeat (first | (with_reducible first | exact HB.out | apply below_alloc | apply pw_below_drewN | apply below_drew1 | refine below_set ?_ GE292.out) | exact HB.out))) : w.heap.size ≤ gb295)); have n5_ := Aside0.mk ((by rw [hg]; exact Nat.ne_of_lt (blk_lt (g := gb292) (o := .cells #[.slice A3_0 l3_0.length c3_0, .int .i64 a3_1, .int .i64 a3_2] 41 (0, 0)) (by (with_reducible repeat (first | refine blk_drewN ?_ _ | refine blk_drew ?_ | refine blk_alloc ?_ _)); exact BK292.out)) : gb292 ≠ gb295)); have n6_ := Aside0.mk ((by rw [hg]; exact Nat.ne_of_gt (blk_lt (g := gb292) (o := .cells #[.slice A3_0 l3_0.length c3_0, .int .i64 a3_1, .int .i64 a3_2] 41 (0, 0)) (by (with_reducible repeat (first | refine blk_drewN ?_ _ | refine blk_drew ?_ | refine blk_alloc ?_ _)); exact BK292.out)) : gb295 ≠ gb292)); clear BK292; clear HB; have BK292 := n0_; have HB := n1_; have BK295 := n2_; have GW295 := n3_; have GE295 := n4_; have NB292_295 := n5_; have NB295_292 := n6_; clear n0_ n1_ n2_ n3_ n4_ n5_ n6_; clear hb hbox hg; have hnb56 := NB295_292.out; have hnc56 := NB292_295.out; have hcz57_0 : w55.cell? ⟨gb295, 0, none⟩ = some (.slice none 0 0) := (blk_cell BK295.out 0).trans rfl; have hcz57_1 : w55.cell? ⟨gb295, 1, none⟩ = some (.int .i64 0) := (blk_cell BK295.out 1).trans rfl; have hcz57_2 : w55.cell? ⟨gb295, 2, none⟩ = some (.int .i64 0) := (blk_cell BK295.out 2).trans rfl; have hfz57_0 := blk_frozen BK295.out 0; have hfz57_1 := blk_frozen BK295.out 1; have hfz57_2 := blk_frozen BK295.out 2; have hcz58_0 : w55.cell? ⟨gb292, 0, none⟩ = some (.slice A3_0 l3_0.length c3_0) := (blk_cell BK292.out 0).trans rfl; have hcz58_1 : w55.cell? ⟨gb292, 1, none⟩ = some (.int .i64 a3_1) := (blk_cell BK292.out 1).trans rfl; have hcz58_2 : w55.cell? ⟨gb292, 2, none⟩ = some (.int .i64 a3_2) := (blk_cell BK292.out 2).trans rfl; have hfz58_0 := blk_frozen BK292.out 0; have hfz58_1 := blk_frozen BK292.out 1; have hfz58_2 := blk_frozen BK292.out 2) | ((with_reducible refine gate_callee (f := 18) rfl ?_); refine goesL_ (some 36) rfl rfl Tryd.func18 (by kernel_rfl) rfl #[.slice A3_0 l3_0.length c3_0] rfl (by (try simp only [List.map_toArray, List.map_cons, List.map_nil]); first | done | rfl | (simp only [List.length_drop, List.length_take]; rfl)) ?_; (with_reducible refine (slices_Clone_int_int.calls _ _ l3_0 t296 _ ?side1 ?side2 A16.out).mono ?_); (case side1 => exact Kd.C_below HR3_0.out (by repeat (first | (with_reducible first | exact HB.out | apply below_alloc | apply pw_below_drewN | apply below_drew1 | refine below_set ?_ GE292.out | refine below_set ?_ GE295.out) | exact HB.out))); (case side2 => exact HC3_0.out); rintro e w59 ⟨v297, rfl, ho0, hb⟩; refine ⟨_, rfl, ?_⟩; have n0_ := Aside0.mk (Kd.R_lower ho0 (below_size (by repeat (first | (with_reducible first | exact HB.out | apply below_alloc | apply pw_below_drewN | apply below_drew1 | refine below_set ?_ GE292.out | refine below_set ?_ GE295.out) | exact HB.out)))); have n1_ := Aside0.mk (blk_below (g := gb292) (o := .cells #[.slice A3_0 l3_0.length c3_0, .int .i64 a3_1, .int .i64 a3_2] 41 (0, 0)) (by (with_reducible repeat (first | refine blk_drewN ?_ _ | refine blk_drew ?_ | refine blk_alloc ?_ _)); refine blk_far ?_ NB292_295.out _; (with_reducible repeat (first | refine blk_drewN ?_ _ | refine blk_drew ?_ | refine blk_alloc ?_ _)); refine blk_far ?_ NB292_295.out _; (with_reducible repeat (first | refine blk_drewN ?_ _ | refine blk_drew ?_ | refine blk_alloc ?_ _)); refine blk_far ?_ NB292_295.out _; (with_reducible repeat (first | refine blk_drewN ?_ _ | refine blk_drew ?_ | refine blk_alloc ?_ _)); exact BK292.out) hb); have n2_ := Aside0.mk (blk_below (g := gb295) (o := .cells #[.slice A3_0 l3_0.length c3_0, .int .i64 a3_1, .int .i64 a3_2] 41 (0, 0)) (by (with_reducible repeat (first | refine blk_drewN ?_ _ | refine blk_drew ?_ | refine blk_alloc ?_ _)); refine blk_put (cs := #[.slice A3_0 l3_0.length c3_0, .int .i64 a3_1, .int .i64 0]) ?_ 2 _ rfl; (with_reducible repeat (first | refine blk_drewN ?_ _ | refine blk_drew ?_ | refine blk_alloc ?_ _)); refine blk_put (cs := #[.slice A3_0 l3_0.length c3_0, .int .i64 0, .int .i64 0]) ?_ 1 _ rfl; (with_reducible repeat (first | refine blk_drewN ?_ _ | refine blk_drew ?_ | refine blk_alloc ?_ _)); refine blk_put (cs := #[.slice none 0 0, .int .i64 0, .int .i64 0]) ?_ 0 _ rfl; (with_reducible repeat (first | refine blk_drewN ?_ _ | refine blk_drew ?_ | refine blk_alloc ?_ _)); exact BK295.out) hb); have n3_ := Aside0.mk (below_step (by repeat (first | (with_reducible first | exact HB.out | apply below_alloc | apply pw_below_drewN | apply below_drew1 | refine below_set ?_ GE292.out | refine below_set ?_ GE295.out) | exact HB.out)) hb); clear BK292; clear BK295; clear HB; have HO298 := n0_; have BK292 := n1_; have BK295 := n2_; have HB := n3_; clear n0_ n1_ n2_ n3_; (try clear hb); (try clear hb2); (try clear hk); (try clear hi); (try clear ho0); obtain ⟨Ao60, co60, eo60⟩ := Kd.R_slice HO298.out; subst eo60; have hcz61_0 : w59.cell? ⟨gb295, 0, none⟩ = some (.slice A3_0 l3_0.length c3_0) := (blk_cell BK295.out 0).trans rfl; have hcz61_1 : w59.cell? ⟨gb295, 1, none⟩ = some (.int .i64 a3_1) := (blk_cell BK295.out 1).trans rfl; have hcz61_2 : w59.cell? ⟨gb295, 2, none⟩ = some (.int .i64 a3_2) := (blk_cell BK295.out 2).trans rfl; have hfz61_0 := blk_frozen BK295.out 0; have hfz61_1 := blk_frozen BK295.out 1; have hfz61_2 := blk_frozen BK295.out 2))
       have n0_ : Aside0 (Kd.R (Kd.int .i64) 3 (w59.setCell ⟨gb295, 0, none⟩ (.slice Ao60 t296.length co60)) w.heap.size (fun _ => True) (.slice Ao60 t296.length co60) t296) := ⟨by (with_reducible repeat (first | apply Kd.R_alloc | apply Kd.R_drewN | apply Kd.R_drew)); exact Kd.R_mono (Kd.R_far (p := ⟨gb295, 0, none⟩) (Kd.R_types HO298.out BK295.out (by decide)) (fun _ hk => hk.2) (.slice Ao60 t296.length co60)) (fun _ hk => trivial)⟩
       have n1_ : Aside0 ((w59.setCell ⟨gb295, 0, none⟩ (.slice Ao60 t296.length co60)).heap[gb292]? = some (.cells #[.slice A3_0 l3_0.length c3_0, .int .i64 a3_1, .int .i64 a3_2] 41 (0, 0))) := ⟨by (with_reducible repeat (first | refine blk_drewN ?_ _ | refine blk_drew ?_ | refine blk_alloc ?_ _)); refine blk_far ?_ NB292_295.out _; (with_reducible repeat (first | refine blk_drewN ?_ _ | refine blk_drew ?_ | refine blk_alloc ?_ _)); exact BK292.out⟩
       have n2_ : Aside0 ((w59.setCell ⟨gb295, 0, none⟩ (.slice Ao60 t296.length co60)).heap[gb295]? = some (.cells #[.slice Ao60 t296.length co60, .int .i64 a3_1, .int .i64 a3_2] 41 (0, 0))) := ⟨by (with_reducible repeat (first | refine blk_drewN ?_ _ | refine blk_drew ?_ | refine blk_alloc ?_ _)); refine blk_put (cs := #[.slice A3_0 l3_0.length c3_0, .int .i64 a3_1, .int .i64 a3_2]) ?_ 0 _ rfl; (with_reducible repeat (first | refine blk_drewN ?_ _ | refine blk_drew ?_ | refine blk_alloc ?_ _)); exact BK295.out⟩
       have n3_ : Aside0 (Below w.heap.size w (w59.setCell ⟨gb295, 0, none⟩ (.slice Ao60 t296.length co60))) := ⟨by repeat (first | (with_reducible first | exact HB.out | apply below_alloc | apply pw_below_drewN | apply below_drew1 | refine below_set ?_ GE292.out | refine below_set ?_ GE295.out) | exact HB.out)⟩
       (try clear HO298)
       (try clear BK292)
       (try clear BK295)
       (try clear HB)
       generalize (w59.setCell ⟨gb295, 0, none⟩ (.slice Ao60 t296.length co60)) = w62 at n0_ n1_ n2_ n3_ ⊢
       have HO298 := n0_
       have BK292 := n1_
       have BK295 := n2_
       have HB := n3_
       clear n0_ n1_ n2_ n3_
       have n0_ := Aside0.mk (Kd.R_drew HO298.out)
       have n1_ := Aside0.mk (blk_drew BK292.out)
       have n2_ := Aside0.mk (blk_drew BK295.out)
       have n3_ := Aside0.mk (below_drew1 HB.out)
       clear HO298
       clear BK292
       clear BK295
       clear HB
       have HO298 := n0_
       have BK292 := n1_
       have BK295 := n2_
       have HB := n3_
       clear n0_ n1_ n2_ n3_
       refine start_ (n := 13) (S := fun w' => w'.cell? ⟨gb295, 0, none⟩ = some (.slice Ao60 t296.length co60) ∧ w'.cell? ⟨gb295, 1, none⟩ = some (.int .i64 a3_1) ∧ w'.cell? ⟨gb295, 2, none⟩ = some (.int .i64 a3_2)) (ds := []) #[false, false, false, false, false, false, false, false, false, false, false, false, false] (by kernel_rfl) rfl rfl ⟨(blk_cell BK295.out 0).trans rfl, (blk_cell BK295.out 1).trans rfl, (blk_cell BK295.out 2).trans rfl⟩ (fun hHeld => ?_); refine with_tabW garboardlaw58_ApprovalMisses.tab7 garboardlaw58_ApprovalMisses.bits7 (fun HT_ HW_ => ?_)
       generalize w62.drew = w63 at HO298 BK292 BK295 HB hHeld ⊢
       refine pure_ (i := 0) (N := some 39) (v := ?_) (a' := ?_) #[true, false, false, false, false, false, false, false, false, false, false, false, false] rfl rfl (any_of HT_.out (by kernel_rfl)) (fun _ _ _ h => h) (Or.inl ⟨by rfl, ?_⟩) ?_ ?_
       rotate_left
       ·intro w'
        go_simp
        with_reducible rfl
       rotate_left
       ·simp only [Act.put, List.setIfInBounds_toArray, List.set_cons_zero, List.set_cons_succ, i64_w, i32_w]
        rfl
       refine pure_ (i := 2) (N := some 41) (v := ?_) (a' := ?_) #[true, false, true, false, false, false, false, false, false, false, false, false, false] rfl rfl (any_of HT_.out (by kernel_rfl)) (fun _ _ _ h => h) (Or.inl ⟨by rfl, ?_⟩) ?_ ?_
       rotate_left
       ·intro w'
        go_simp
        with_reducible rfl
       rotate_left
       ·simp only [Act.put, List.setIfInBounds_toArray, List.set_cons_zero, List.set_cons_succ, i64_w, i32_w]
        rfl
       refine pure_ (i := 4) (N := some 43) (v := ?_) (a' := ?_) #[true, false, true, false, true, false, false, false, false, false, false, false, false] rfl rfl (any_of HT_.out (by kernel_rfl)) (fun _ _ _ h => h) (Or.inl ⟨by rfl, ?_⟩) ?_ ?_
       rotate_left
       ·intro w'
        go_simp
        with_reducible rfl
       rotate_left
       ·simp only [Act.put, List.setIfInBounds_toArray, List.set_cons_zero, List.set_cons_succ, i64_w, i32_w]
        rfl
       refine pure_ (i := 6) (N := some 45) (v := ?_) (a' := ?_) #[true, false, true, false, true, false, true, false, false, false, false, false, false] rfl rfl (any_of HT_.out (by kernel_rfl)) (fun _ _ _ h => h) (Or.inl ⟨by rfl, ?_⟩) ?_ ?_
       rotate_left
       ·intro w'
        go_simp
        with_reducible rfl
       rotate_left
       ·simp only [Act.put, List.setIfInBounds_toArray, List.set_cons_zero, List.set_cons_succ, i64_w, i32_w]
        rfl
       refine take_ (i := 5) (N := some 44) (v := ?_) (a' := ?_) #[true, false, true, false, true, true, true, false, false, false, false, false, false] rfl rfl (take_ofW HT_.out HW_.out (by kernel_rfl)) (fun _ _ _ h => h) (Or.inl ⟨by rfl, ?_⟩) hHeld ?_ ?_
       rotate_left
       ·rintro w' ⟨s0, s1, s2⟩
        go_simp
        with_reducible rfl
       rotate_left
       ·simp only [Act.put, List.setIfInBounds_toArray, List.set_cons_zero, List.set_cons_succ, i64_w, i32_w]
        rfl
       refine one_ (i := 1) (N := some 40) #[true, true, true, false, true, true, true, false, false, false, false, false, false] rfl rfl (one_of HT_.out (by kernel_rfl)) (by decide) (fun K hK => ?_)
       refine goes_ Tryd.func12 (by kernel_rfl) rfl #[.slice A0 l0.length c0] (by rfl) rfl rfl (by (try simp only [List.map_toArray, List.map_cons, List.map_nil]); first | done | rfl | (simp only [List.length_drop, List.length_take]; rfl)) ?_
       with_reducible refine (api_Signer_12.calls _ _ l0 t299 _ ?side1 ?side2 A17.out).mono ?_
       (case side1 => repeat (first | exact (Kd.C_below HR0.out HB.out) | (with_reducible refine Kd.C_alloc ?_ _) | (with_reducible refine Kd.C_drewN ?_ _) | (with_reducible refine Kd.C_drew ?_)))
       (case side2 => exact HC0.out)
       rintro e w64 ⟨v300, rfl, ho0, hb⟩
       refine ⟨_, rfl, ?_⟩
       have n0_ := Aside0.mk (Kd.R_below (by (with_reducible repeat (first | apply Kd.R_alloc | apply Kd.R_drewN | apply Kd.R_drew)); exact HO298.out) hb)
       have n1_ := Aside0.mk (Kd.R_lower ho0 (below_size (by repeat (first | (with_reducible first | exact HB.out | apply below_alloc | apply pw_below_drewN | apply below_drew1 | refine below_set ?_ GE292.out | refine below_set ?_ GE295.out) | exact HB.out))))
       have n2_ := Aside0.mk (blk_below (g := gb292) (o := .cells #[.slice A3_0 l3_0.length c3_0, .int .i64 a3_1, .int .i64 a3_2] 41 (0, 0)) (by (with_reducible repeat (first | refine blk_drewN ?_ _ | refine blk_drew ?_ | refine blk_alloc ?_ _)); exact BK292.out) hb)
       have n3_ := Aside0.mk (blk_below (g := gb295) (o := .cells #[.slice Ao60 t296.length co60, .int .i64 a3_1, .int .i64 a3_2] 41 (0, 0)) (by (with_reducible repeat (first | refine blk_drewN ?_ _ | refine blk_drew ?_ | refine blk_alloc ?_ _)); exact BK295.out) hb)
       have n4_ := Aside0.mk (below_step (by repeat (first | (with_reducible first | exact HB.out | apply below_alloc | apply pw_below_drewN | apply below_drew1 | refine below_set ?_ GE292.out | refine below_set ?_ GE295.out) | exact HB.out)) hb)
       clear HO298
       clear BK292
       clear BK295
       clear HB
       have HO298 := n0_
       have HO301 := n1_
       have BK292 := n2_
       have BK295 := n3_
       have HB := n4_
       clear n0_ n1_ n2_ n3_ n4_
       (try clear hb)
       (try clear hb2)
       (try clear hk)
       (try clear hi)
       (try clear ho0)
       refine hK.out _ _ ⟨(blk_cell BK295.out 0).trans rfl, (blk_cell BK295.out 1).trans rfl, (blk_cell BK295.out 2).trans rfl⟩ (fun hHeld => ?_)
       clear hK K
       refine norm_ (a' := ?_) ?_ ?_
       rotate_left
       ·show Act.put _ (some 40) _ = _
        simp only [Act.put, List.setIfInBounds_toArray, List.set_cons_zero, List.set_cons_succ, i64_w, i32_w]
        rfl
       refine one_ (i := 3) (N := some 42) #[true, true, true, true, true, true, true, false, false, false, false, false, false] rfl rfl (one_of HT_.out (by kernel_rfl)) (by decide) (fun K hK => ?_)
       refine goes_ Tryd.func13 (by kernel_rfl) rfl #[.slice A1 l1.length c1] (by rfl) rfl rfl (by (try simp only [List.map_toArray, List.map_cons, List.map_nil]); first | done | rfl | (simp only [List.length_drop, List.length_take]; rfl)) ?_
       with_reducible refine (api_Approval_13.calls _ _ l1 t302 _ ?side1 ?side2 A18.out).mono ?_
       (case side1 => repeat (first | exact (Kd.C_below HR1.out HB.out) | (with_reducible refine Kd.C_alloc ?_ _) | (with_reducible refine Kd.C_drewN ?_ _) | (with_reducible refine Kd.C_drew ?_)))
       (case side2 => exact HC1.out)
       rintro e w65 ⟨v303, rfl, ho0, hb⟩
       refine ⟨_, rfl, ?_⟩
       have n0_ := Aside0.mk (Kd.R_below (by (with_reducible repeat (first | apply Kd.R_alloc | apply Kd.R_drewN | apply Kd.R_drew)); exact HO298.out) hb)
       have n1_ := Aside0.mk (Kd.R_below (by (with_reducible repeat (first | apply Kd.R_alloc | apply Kd.R_drewN | apply Kd.R_drew)); exact HO301.out) hb)
       have n2_ := Aside0.mk (Kd.R_lower ho0 (below_size (by repeat (first | (with_reducible first | exact HB.out | apply below_alloc | apply pw_below_drewN | apply below_drew1 | refine below_set ?_ GE292.out | refine below_set ?_ GE295.out) | exact HB.out))))
       have n3_ := Aside0.mk (blk_below (g := gb292) (o := .cells #[.slice A3_0 l3_0.length c3_0, .int .i64 a3_1, .int .i64 a3_2] 41 (0, 0)) (by (with_reducible repeat (first | refine blk_drewN ?_ _ | refine blk_drew ?_ | refine blk_alloc ?_ _)); exact BK292.out) hb)
       have n4_ := Aside0.mk (blk_below (g := gb295) (o := .cells #[.slice Ao60 t296.length co60, .int .i64 a3_1, .int .i64 a3_2] 41 (0, 0)) (by (with_reducible repeat (first | refine blk_drewN ?_ _ | refine blk_drew ?_ | refine blk_alloc ?_ _)); exact BK295.out) hb)
       have n5_ := Aside0.mk (below_step (by repeat (first | (with_reducible first | exact HB.out | apply below_alloc | apply pw_below_drewN | apply below_drew1 | refine below_set ?_ GE292.out | refine below_set ?_ GE295.out) | exact HB.out)) hb)
       clear HO298
       clear HO301
       clear BK292
       clear BK295
       clear HB
       have HO298 := n0_
       have HO301 := n1_
       have HO304 := n2_
       have BK292 := n3_
       have BK295 := n4_
       have HB := n5_
       clear n0_ n1_ n2_ n3_ n4_ n5_
       (try clear hb)
       (try clear hb2)
       (try clear hk)
       (try clear hi)
       (try clear ho0)
       obtain ⟨Ao66, co66, eo66⟩ := Kd.R_slice HO301.out
       (first | subst eo66 | (injection eo66 with f1_ f2_ f3_; have f4_ := f1_.symm; have f5_ := f3_.symm; clear f1_ f2_ f3_; subst f4_; subst f5_))
       obtain ⟨Ao67, co67, eo67⟩ := Kd.R_slice HO304.out
       (first | subst eo67 | (injection eo67 with f1_ f2_ f3_; have f4_ := f1_.symm; have f5_ := f3_.symm; clear f1_ f2_ f3_; subst f4_; subst f5_))
       refine hK.out _ _ ⟨(blk_cell BK295.out 0).trans rfl, (blk_cell BK295.out 1).trans rfl, (blk_cell BK295.out 2).trans rfl⟩ (fun hHeld => ?_)
       clear hK K
       refine norm_ (a' := ?_) ?_ ?_
       rotate_left
       ·show Act.put _ (some 42) _ = _
        simp only [Act.put, List.setIfInBounds_toArray, List.set_cons_zero, List.set_cons_succ, i64_w, i32_w]
        rfl
       refine one_ (i := 7) (N := some 46) #[true, true, true, true, true, true, true, true, false, false, false, false, false] rfl rfl (one_of HT_.out (by kernel_rfl)) (by decide) (fun K hK => ?_)
       refine goes_ Tryd.func19 (by kernel_rfl) rfl #[.slice Ao66 t299.length co66, .slice Ao67 t302.length co67, .string a2, .agg #[.slice Ao60 t296.length co60, .int .i64 a3_1, .int .i64 a3_2], .int .i64 a4] (by rfl) rfl rfl (by (try simp only [List.map_toArray, List.map_cons, List.map_nil]); first | done | rfl | (simp only [List.length_drop, List.length_take]; rfl)) ?_
       with_reducible refine (approval_Missing.calls _ _ t299 _ _ t302 a2 _ _ t296 a3_1 a3_2 a4 t305 t308 _ ?side1 ?side2 ?side3 ?side4 ?side5 ?side6 ?side7 A19.out).mono ?_
       (case side1 => repeat (first | exact (Kd.R_reads' HO301.out).2.2 | (with_reducible refine Kd.C_alloc ?_ _) | (with_reducible refine Kd.C_drewN ?_ _) | (with_reducible refine Kd.C_drew ?_)))
       (case side2 => exact (Kd.R_reads' HO301.out).2.1)
       (case side3 => repeat (first | exact (Kd.R_reads' HO304.out).2.2 | (with_reducible refine Kd.C_alloc ?_ _) | (with_reducible refine Kd.C_drewN ?_ _) | (with_reducible refine Kd.C_drew ?_)))
       (case side4 => exact (Kd.R_reads' HO304.out).2.1)
       (case side5 => repeat (first | exact (Kd.R_reads' HO298.out).2.2 | (with_reducible refine Kd.C_alloc ?_ _) | (with_reducible refine Kd.C_drewN ?_ _) | (with_reducible refine Kd.C_drew ?_)))
       (case side6 => exact (Kd.R_reads' HO298.out).2.1)
       (case side7 => exact HLW.out.below (by repeat (first | (with_reducible first | exact HB.out | apply below_alloc | apply pw_below_drewN | apply below_drew1 | refine below_set ?_ GE292.out | refine below_set ?_ GE295.out) | exact HB.out)))
       rintro e w68 ⟨v306, rfl, ho0, hb⟩
       refine ⟨_, rfl, ?_⟩
       have n0_ := Aside0.mk (Kd.R_elder' (by (with_reducible repeat (first | apply Kd.R_alloc | apply Kd.R_drewN | apply Kd.R_drew)); exact HO298.out) (Kd.R_base ho0) hb)
       have n1_ := Aside0.mk (Kd.R_below (by (with_reducible repeat (first | apply Kd.R_alloc | apply Kd.R_drewN | apply Kd.R_drew)); exact HO301.out) hb)
       have n2_ := Aside0.mk (Kd.R_below (by (with_reducible repeat (first | apply Kd.R_alloc | apply Kd.R_drewN | apply Kd.R_drew)); exact HO304.out) hb)
       have n3_ := Aside0.mk (Kd.R_lower (Kd.R_new' ho0 (Kd.R_lt (by (with_reducible repeat (first | apply Kd.R_alloc | apply Kd.R_drewN | apply Kd.R_drew)); exact HO298.out))) (below_size (by repeat (first | (with_reducible first | exact HB.out | apply below_alloc | apply pw_below_drewN | apply below_drew1 | refine below_set ?_ GE292.out | refine below_set ?_ GE295.out) | exact HB.out))))
       have n4_ := Aside0.mk (blk_below (g := gb292) (o := .cells #[.slice A3_0 l3_0.length c3_0, .int .i64 a3_1, .int .i64 a3_2] 41 (0, 0)) (by (with_reducible repeat (first | refine blk_drewN ?_ _ | refine blk_drew ?_ | refine blk_alloc ?_ _)); exact BK292.out) hb)
       have n5_ := Aside0.mk (blk_below (g := gb295) (o := .cells #[.slice Ao60 t296.length co60, .int .i64 a3_1, .int .i64 a3_2] 41 (0, 0)) (by (with_reducible repeat (first | refine blk_drewN ?_ _ | refine blk_drew ?_ | refine blk_alloc ?_ _)); exact BK295.out) hb)
       have n6_ := Aside0.mk (below_step (by repeat (first | (with_reducible first | exact HB.out | apply below_alloc | apply pw_below_drewN | apply below_drew1 | refine below_set ?_ GE292.out | refine below_set ?_ GE295.out) | exact HB.out)) hb)
       clear HO298
       clear HO301
       clear HO304
       clear BK292
       clear BK295
       clear HB
       have HO298 := n0_
       have HO301 := n1_
       have HO304 := n2_
       have HO307 := n3_
       have BK292 := n4_
       have BK295 := n5_
       have HB := n6_
       clear n0_ n1_ n2_ n3_ n4_ n5_ n6_
       (try clear hb)
       (try clear hb2)
       (try clear hk)
       (try clear hi)
       (try clear ho0)
       refine hK.out _ _ ⟨(blk_cell BK295.out 0).trans rfl, (blk_cell BK295.out 1).trans rfl, (blk_cell BK295.out 2).trans rfl⟩ (fun hHeld => ?_)
       clear hK K
       refine norm_ (a' := ?_) ?_ ?_
       rotate_left
       ·show Act.put _ (some 46) _ = _
        simp only [Act.put, List.setIfInBounds_toArray, List.set_cons_zero, List.set_cons_succ, i64_w, i32_w]
        rfl
       refine pure_ (i := 8) (N := some 38) (v := ?_) (a' := ?_) #[true, true, true, true, true, true, true, true, true, false, false, false, false] rfl rfl (any_of HT_.out (by kernel_rfl)) (fun _ _ _ h => h) (Or.inl ⟨by rfl, ?_⟩) ?_ ?_
       rotate_left
       ·intro w'
        go_simp
        with_reducible rfl
       rotate_left
       ·simp only [Act.put, List.setIfInBounds_toArray, List.set_cons_zero, List.set_cons_succ, i64_w, i32_w]
        rfl
       refine pure_ (i := 9) (N := some 47) (v := ?_) (a' := ?_) #[true, true, true, true, true, true, true, true, true, true, false, false, false] rfl rfl (any_of HT_.out (by kernel_rfl)) (fun _ _ _ h => h) (Or.inl ⟨by rfl, ?_⟩) ?_ ?_
       rotate_left
       ·intro w'
        go_simp
        with_reducible rfl
       rotate_left
       ·simp only [Act.put, List.setIfInBounds_toArray, List.set_cons_zero, List.set_cons_succ, i64_w, i32_w]
        rfl
       refine pure_ (i := 10) (N := some 48) (v := ?_) (a' := ?_) #[true, true, true, true, true, true, true, true, true, true, true, false, false] rfl rfl (any_of HT_.out (by kernel_rfl)) (fun _ _ _ h => h) (Or.inl ⟨by rfl, ?_⟩) ?_ ?_
       rotate_left
       ·intro w'
        go_simp
        with_reducible rfl
       rotate_left
       ·simp only [Act.put, List.setIfInBounds_toArray, List.set_cons_zero, List.set_cons_succ, i64_w, i32_w]
        rfl
       refine pure_ (i := 11) (N := some 12) (v := ?_) (a' := ?_) #[true, true, true, true, true, true, true, true, true, true, true, true, false] rfl rfl (any_of HT_.out (by kernel_rfl)) (fun _ _ _ h => h) (Or.inl ⟨by rfl, ?_⟩) ?_ ?_
       rotate_left
       ·intro w'
        go_simp
        with_reducible rfl
       rotate_left
       ·simp only [Act.put, List.setIfInBounds_toArray, List.set_cons_zero, List.set_cons_succ, i64_w, i32_w]
        rfl
       refine pure_ (i := 12) (N := some 13) (v := ?_) (a' := ?_) #[true, true, true, true, true, true, true, true, true, true, true, true, true] rfl rfl (any_of HT_.out (by kernel_rfl)) (fun _ _ _ h => h) (Or.inl ⟨by rfl, ?_⟩) ?_ ?_
       rotate_left
       ·intro w'
        go_simp
        with_reducible rfl
       rotate_left
       ·simp only [Act.put, List.setIfInBounds_toArray, List.set_cons_zero, List.set_cons_succ, i64_w, i32_w]
        rfl
       refine done_ (done_of HT_.out (by kernel_rfl)) ?_
       have hcz69_0 : w68.cell? ⟨gb292, 0, none⟩ = some (.slice A3_0 l3_0.length c3_0) := (blk_cell BK292.out 0).trans rfl
       have hcz69_1 : w68.cell? ⟨gb292, 1, none⟩ = some (.int .i64 a3_1) := (blk_cell BK292.out 1).trans rfl
       have hcz69_2 : w68.cell? ⟨gb292, 2, none⟩ = some (.int .i64 a3_2) := (blk_cell BK292.out 2).trans rfl
       have hfz69_0 := blk_frozen BK292.out 0
       have hfz69_1 := blk_frozen BK292.out 1
       have hfz69_2 := blk_frozen BK292.out 2
       try go_wp2_with (first | ((with_reducible refine gate_callee (f := 20) rfl ?_); refine goesL_ (some 55) rfl rfl Tryd.func20 (by kernel_rfl) rfl #[.slice A0 l0.length c0, .slice A1 l1.length c1, .string a2, .agg #[.slice A3_0 l3_0.length c3_0, .int .i64 a3_1, .int .i64 a3_2], .int .i64 a4] rfl (by (try simp only [List.map_toArray, List.map_cons, List.map_nil]); first | done | rfl | (simp only [List.length_drop, List.length_take]; rfl)) ?_; (with_reducible refine (garboardref58_Missing.calls kj7 _ _ l0 _ _ l1 a2 _ _ l3_0 a3_1 a3_2 a4 t309 t312 _ ?side1 ?side2 ?side3 ?side4 ?side5 ?side6 ?side7 A20.out).mono ?_); (case side1 => repeat (first | exact (Kd.C_below HR0.out HB.out) | (with_reducible refine Kd.C_alloc ?_ _) | (with_reducible refine Kd.C_drewN ?_ _) | (with_reducible refine Kd.C_drew ?_))); (case side2 => exact HC0.out); (case side3 => repeat (first | exact (Kd.C_below HR1.out HB.out) | (with_reducible refine Kd.C_alloc ?_ _) | (with_reducible refine Kd.C_drewN ?_ _) | (with_reducible refine Kd.C_drew ?_))); (case side4 => exact HC1.out); (case side5 => repeat (first | exact (Kd.C_below HR3_0.out HB.out) | (with_reducible refine Kd.C_alloc ?_ _) | (with_reducible refine Kd.C_drewN ?_ _) | (with_reducible refine Kd.C_drew ?_))); (case side6 => exact HC3_0.out); (case side7 => exact HLW.out.below (by repeat (first | (with_reducible first | exact HB.out | apply below_alloc | apply pw_below_drewN | apply below_drew1 | refine below_set ?_ GE292.out | refine below_set ?_ GE295.out) | exact HB.out))); rintro e w70 ⟨v310, rfl, ho0, hb⟩; refine ⟨_, rfl, ?_⟩; have n0_ := Aside0.mk (Kd.R_elder' (by (with_reducible repeat (first | apply Kd.R_alloc | apply Kd.R_drewN | apply Kd.R_drew)); exact HO298.out) (Kd.R_base ho0) hb); have n1_ := Aside0.mk (Kd.R_below (by (with_reducible repeat (first | apply Kd.R_alloc | apply Kd.R_drewN | apply Kd.R_drew)); exact HO301.out) hb); have n2_ := Aside0.mk (Kd.R_below (by (with_reducible repeat (first | apply Kd.R_alloc | apply Kd.R_drewN | apply Kd.R_drew)); exact HO304.out) hb); have n3_ := Aside0.mk (Kd.R_elder' (by (with_reducible repeat (first | apply Kd.R_alloc | apply Kd.R_drewN | apply Kd.R_drew)); exact HO307.out) (Kd.R_base ho0) hb); have n4_ := Aside0.mk (Kd.R_lower (Kd.R_new' (Kd.R_new' ho0 (Kd.R_lt (by (with_reducible repeat (first | apply Kd.R_alloc | apply Kd.R_drewN | apply Kd.R_drew)); exact HO298.out))) (Kd.R_lt (by (with_reducible repeat (first | apply Kd.R_alloc | apply Kd.R_drewN | apply Kd.R_drew)); exact HO307.out))) (below_size (by repeat (first | (with_reducible first | exact HB.out | apply below_alloc | apply pw_below_drewN | apply below_drew1 | refine below_set ?_ GE292.out | refine below_set ?_ GE295.out) | exact HB.out)))); have n5_ := Aside0.mk (blk_below (g := gb292) (o := .cells #[.slice A3_0 l3_0.length c3_0, .int .i64 a3_1, .int .i64 a3_2] 41 (0, 0)) (by (with_reducible repeat (first | refine blk_drewN ?_ _ | refine blk_drew ?_ | refine blk_alloc ?_ _)); exact BK292.out) hb); have n6_ := Aside0.mk (blk_below (g := gb295) (o := .cells #[.slice Ao60 t296.length co60, .int .i64 a3_1, .int .i64 a3_2] 41 (0, 0)) (by (with_reducible repeat (first | refine blk_drewN ?_ _ | refine blk_drew ?_ | refine blk_alloc ?_ _)); exact BK295.out) hb); have n7_ := Aside0.mk (below_step (by repeat (first | (with_reducible first | exact HB.out | apply below_alloc | apply pw_below_drewN | apply below_drew1 | refine below_set ?_ GE292.out | refine below_set ?_ GE295.out) | exact HB.out)) hb); clear HO298; clear HO301; clear HO304; clear HO307; clear BK292; clear BK295; clear HB; have HO298 := n0_; have HO301 := n1_; have HO304 := n2_; have HO307 := n3_; have HO311 := n4_; have BK292 := n5_; have BK295 := n6_; have HB := n7_; clear n0_ n1_ n2_ n3_ n4_ n5_ n6_ n7_; (try clear hb); (try clear hb2); (try clear hk); (try clear hi); (try clear ho0)))
       have n0_ := Aside0.mk (Kd.R_drew HO298.out)
       have n1_ := Aside0.mk (Kd.R_drew HO301.out)
       have n2_ := Aside0.mk (Kd.R_drew HO304.out)
       have n3_ := Aside0.mk (Kd.R_drew HO307.out)
       have n4_ := Aside0.mk (Kd.R_drew HO311.out)
       have n5_ := Aside0.mk (blk_drew BK292.out)
       have n6_ := Aside0.mk (blk_drew BK295.out)
       have n7_ := Aside0.mk (below_drew1 HB.out)
       clear HO298
       clear HO301
       clear HO304
       clear HO307
       clear HO311
       clear BK292
       clear BK295
       clear HB
       have HO298 := n0_
       have HO301 := n1_
       have HO304 := n2_
       have HO307 := n3_
       have HO311 := n4_
       have BK292 := n5_
       have BK295 := n6_
       have HB := n7_
       clear n0_ n1_ n2_ n3_ n4_ n5_ n6_ n7_
       obtain ⟨Ao72, co72, eo72⟩ := Kd.R_slice HO307.out
       (first | subst eo72 | (injection eo72 with f1_ f2_ f3_; have f4_ := f1_.symm; have f5_ := f3_.symm; clear f1_ f2_ f3_; subst f4_; subst f5_))
       obtain ⟨Ao73, co73, eo73⟩ := Kd.R_slice HO311.out
       (first | subst eo73 | (injection eo73 with f1_ f2_ f3_; have f4_ := f1_.symm; have f5_ := f3_.symm; clear f1_ f2_ f3_; subst f4_; subst f5_))
       refine start_ (n := 26) (S := fun w' => True) (ds := []) #[false, false, false, false, false, false, false, false, false, false, false, false, false, false, false, false, false, false, false, false, false, false, false, false, false, false] (by kernel_rfl) rfl rfl trivial (fun hHeld => ?_); refine with_tabW garboardlaw58_ApprovalMisses.tab9 garboardlaw58_ApprovalMisses.bits9 (fun HT_ HW_ => ?_)
       generalize w70.drew = w71 at HO298 HO301 HO304 HO307 HO311 BK292 BK295 HB hHeld ⊢
       refine pure_ (i := 0) (N := some 58) (v := ?_) (a' := ?_) #[true, false, false, false, false, false, false, false, false, false, false, false, false, false, false, false, false, false, false, false, false, false, false, false, false, false] rfl rfl (any_of HT_.out (by kernel_rfl)) (fun _ _ _ h => h) (Or.inl ⟨by rfl, ?_⟩) ?_ ?_
       rotate_left
       ·intro w'
        go_simp
        with_reducible rfl
       rotate_left
       ·simp only [Act.put, List.setIfInBounds_toArray, List.set_cons_zero, List.set_cons_succ, i64_w, i32_w]
        rfl
       refine pure_ (i := 1) (N := some 59) (v := ?_) (a' := ?_) #[true, true, false, false, false, false, false, false, false, false, false, false, false, false, false, false, false, false, false, false, false, false, false, false, false, false] rfl rfl (any_of HT_.out (by kernel_rfl)) (fun _ _ _ h => h) (Or.inl ⟨by rfl, ?_⟩) ?_ ?_
       rotate_left
       ·intro w'
        go_simp
        with_reducible rfl
       rotate_left
       ·simp only [Act.put, List.setIfInBounds_toArray, List.set_cons_zero, List.set_cons_succ, i64_w, i32_w]
        rfl
       refine one_ (i := 2) (N := some 60) #[true, true, true, false, false, false, false, false, false, false, false, false, false, false, false, false, false, false, false, false, false, false, false, false, false, false] rfl rfl (one_of HT_.out (by kernel_rfl)) (by decide) (fun K hK => ?_)
       refine goes_ Tryd.func21 (by kernel_rfl) rfl #[.slice Ao72 t305.length co72, .slice Ao73 t309.length co73] (by rfl) rfl rfl (by (try simp only [List.map_toArray, List.map_cons, List.map_nil]); first | done | rfl | (simp only [List.length_drop, List.length_take]; rfl)) ?_
       with_reducible refine (slices_Equal_int_int.calls kj7 _ _ t305 _ _ t309 true _ ?side1 ?side2 ?side3 ?side4 A21.out).mono ?_
       (case side1 => repeat (first | exact (Kd.R_reads' HO307.out).2.2 | (with_reducible refine Kd.C_alloc ?_ _) | (with_reducible refine Kd.C_drewN ?_ _) | (with_reducible refine Kd.C_drew ?_)))
       (case side2 => exact (Kd.R_reads' HO307.out).2.1)
       (case side3 => repeat (first | exact (Kd.R_reads' HO311.out).2.2 | (with_reducible refine Kd.C_alloc ?_ _) | (with_reducible refine Kd.C_drewN ?_ _) | (with_reducible refine Kd.C_drew ?_)))
       (case side4 => exact (Kd.R_reads' HO311.out).2.1)
       rintro e w' ⟨rfl, ⟨nd, rfl⟩⟩
       refine ⟨_, rfl, ?_⟩
       refine hK.out _ _ trivial (fun hHeld => ?_)
       clear hK K
       refine norm_ (a' := ?_) ?_ ?_
       rotate_left
       ·show Act.put _ (some 60) _ = _
        simp only [Act.put, List.setIfInBounds_toArray, List.set_cons_zero, List.set_cons_succ, i64_w, i32_w]
        rfl
       refine pure_ (i := 3) (N := some 61) (v := ?_) (a' := ?_) #[true, true, true, true, false, false, false, false, false, false, false, false, false, false, false, false, false, false, false, false, false, false, false, false, false, false] rfl rfl (any_of HT_.out (by kernel_rfl)) (fun _ _ _ h => h) (Or.inl ⟨by rfl, ?_⟩) ?_ ?_
       rotate_left
       ·intro w'
        go_simp
        with_reducible rfl
       rotate_left
       ·simp only [Act.put, List.setIfInBounds_toArray, List.set_cons_zero, List.set_cons_succ, i64_w, i32_w]
        rfl
       refine pure_ (i := 4) (N := some 62) (v := ?_) (a' := ?_) #[true, true, true, true, true, false, false, false, false, false, false, false, false, false, false, false, false, false, false, false, false, false, false, false, false, false] rfl rfl (any_of HT_.out (by kernel_rfl)) (fun _ _ _ h => h) (Or.inl ⟨by rfl, ?_⟩) ?_ ?_
       rotate_left
       ·intro w'
        go_simp
        with_reducible rfl
       rotate_left
       ·simp only [Act.put, List.setIfInBounds_toArray, List.set_cons_zero, List.set_cons_succ, i64_w, i32_w]
        rfl
       refine pure_ (i := 5) (N := some 63) (v := ?_) (a' := ?_) #[true, true, true, true, true, true, false, false, false, false, false, false, false, false, false, false, false, false, false, false, false, false, false, false, false, false] rfl rfl (any_of HT_.out (by kernel_rfl)) (fun _ _ _ h => h) (Or.inl ⟨by rfl, ?_⟩) ?_ ?_
       rotate_left
       ·intro w'
        go_simp
        with_reducible rfl
       rotate_left
       ·simp only [Act.put, List.setIfInBounds_toArray, List.set_cons_zero, List.set_cons_succ, i64_w, i32_w]
        rfl
       refine pure_ (i := 6) (N := some 64) (v := ?_) (a' := ?_) #[true, true, true, true, true, true, true, false, false, false, false, false, false, false, false, false, false, false, false, false, false, false, false, false, false, false] rfl rfl (any_of HT_.out (by kernel_rfl)) (fun _ _ _ h => h) (Or.inl ⟨by rfl, ?_⟩) ?_ ?_
       rotate_left
       ·intro w'
        go_simp
        with_reducible rfl
       rotate_left
       ·simp only [Act.put, List.setIfInBounds_toArray, List.set_cons_zero, List.set_cons_succ, i64_w, i32_w]
        rfl
       refine pure_ (i := 7) (N := some 65) (v := ?_) (a' := ?_) #[true, true, true, true, true, true, true, true, false, false, false, false, false, false, false, false, false, false, false, false, false, false, false, false, false, false] rfl rfl (any_of HT_.out (by kernel_rfl)) (fun _ _ _ h => h) (Or.inl ⟨by rfl, ?_⟩) ?_ ?_
       rotate_left
       ·intro w'
        go_simp
        with_reducible rfl
       rotate_left
       ·simp only [Act.put, List.setIfInBounds_toArray, List.set_cons_zero, List.set_cons_succ, i64_w, i32_w]
        rfl
       refine pure_ (i := 8) (N := some 66) (v := ?_) (a' := ?_) #[true, true, true, true, true, true, true, true, true, false, false, false, false, false, false, false, false, false, false, false, false, false, false, false, false, false] rfl rfl (any_of HT_.out (by kernel_rfl)) (fun _ _ _ h => h) (Or.inl ⟨by rfl, ?_⟩) ?_ ?_
       rotate_left
       ·intro w'
        go_simp
        with_reducible rfl
       rotate_left
       ·simp only [Act.put, List.setIfInBounds_toArray, List.set_cons_zero, List.set_cons_succ, i64_w, i32_w]
        rfl
       refine pure_ (i := 9) (N := some 67) (v := undef) (a' := ?_) #[true, true, true, true, true, true, true, true, true, true, false, false, false, false, false, false, false, false, false, false, false, false, false, false, false, false] rfl rfl (any_of HT_.out (by kernel_rfl)) (fun _ _ _ h => h) (Or.inr ⟨by rfl, rfl⟩) ?_ ?_
       rotate_left
       ·simp only [Act.put, List.setIfInBounds_toArray, List.set_cons_zero, List.set_cons_succ, i64_w, i32_w]
        rfl
       refine pure_ (i := 10) (N := some 68) (v := undef) (a' := ?_) #[true, true, true, true, true, true, true, true, true, true, true, false, false, false, false, false, false, false, false, false, false, false, false, false, false, false] rfl rfl (any_of HT_.out (by kernel_rfl)) (fun _ _ _ h => h) (Or.inr ⟨by rfl, rfl⟩) ?_ ?_
       rotate_left
       ·simp only [Act.put, List.setIfInBounds_toArray, List.set_cons_zero, List.set_cons_succ, i64_w, i32_w]
        rfl
       refine pure_ (i := 11) (N := some 69) (v := undef) (a' := ?_) #[true, true, true, true, true, true, true, true, true, true, true, true, false, false, false, false, false, false, false, false, false, false, false, false, false, false] rfl rfl (any_of HT_.out (by kernel_rfl)) (fun _ _ _ h => h) (Or.inr ⟨by rfl, rfl⟩) ?_ ?_
       rotate_left
       ·simp only [Act.put, List.setIfInBounds_toArray, List.set_cons_zero, List.set_cons_succ, i64_w, i32_w]
        rfl
       refine pure_ (i := 12) (N := some 70) (v := undef) (a' := ?_) #[true, true, true, true, true, true, true, true, true, true, true, true, true, false, false, false, false, false, false, false, false, false, false, false, false, false] rfl rfl (any_of HT_.out (by kernel_rfl)) (fun _ _ _ h => h) (Or.inr ⟨by rfl, rfl⟩) ?_ ?_
       rotate_left
       ·simp only [Act.put, List.setIfInBounds_toArray, List.set_cons_zero, List.set_cons_succ, i64_w, i32_w]
        rfl
       refine pure_ (i := 13) (N := some 71) (v := undef) (a' := ?_) #[true, true, true, true, true, true, true, true, true, true, true, true, true, true, false, false, false, false, false, false, false, false, false, false, false, false] rfl rfl (any_of HT_.out (by kernel_rfl)) (fun _ _ _ h => h) (Or.inr ⟨by rfl, rfl⟩) ?_ ?_
       rotate_left
       ·simp only [Act.put, List.setIfInBounds_toArray, List.set_cons_zero, List.set_cons_succ, i64_w, i32_w]
        rfl
       refine pure_ (i := 14) (N := some 72) (v := undef) (a' := ?_) #[true, true, true, true, true, true, true, true, true, true, true, true, true, true, true, false, false, false, false, false, false, false, false, false, false, false] rfl rfl (any_of HT_.out (by kernel_rfl)) (fun _ _ _ h => h) (Or.inr ⟨by rfl, rfl⟩) ?_ ?_
       rotate_left
       ·simp only [Act.put, List.setIfInBounds_toArray, List.set_cons_zero, List.set_cons_succ, i64_w, i32_w]
        rfl
       refine pure_ (i := 15) (N := some 73) (v := undef) (a' := ?_) #[true, true, true, true, true, true, true, true, true, true, true, true, true, true, true, true, false, false, false, false, false, false, false, false, false, false] rfl rfl (any_of HT_.out (by kernel_rfl)) (fun _ _ _ h => h) (Or.inr ⟨by rfl, rfl⟩) ?_ ?_
       rotate_left
       ·simp only [Act.put, List.setIfInBounds_toArray, List.set_cons_zero, List.set_cons_succ, i64_w, i32_w]
        rfl
       refine pure_ (i := 16) (N := some 74) (v := undef) (a' := ?_) #[true, true, true, true, true, true, true, true, true, true, true, true, true, true, true, true, true, false, false, false, false, false, false, false, false, false] rfl rfl (any_of HT_.out (by kernel_rfl)) (fun _ _ _ h => h) (Or.inr ⟨by rfl, rfl⟩) ?_ ?_
       rotate_left
       ·simp only [Act.put, List.setIfInBounds_toArray, List.set_cons_zero, List.set_cons_succ, i64_w, i32_w]
        rfl
       refine pure_ (i := 17) (N := some 75) (v := undef) (a' := ?_) #[true, true, true, true, true, true, true, true, true, true, true, true, true, true, true, true, true, true, false, false, false, false, false, false, false, false] rfl rfl (any_of HT_.out (by kernel_rfl)) (fun _ _ _ h => h) (Or.inr ⟨by rfl, rfl⟩) ?_ ?_
       rotate_left
       ·simp only [Act.put, List.setIfInBounds_toArray, List.set_cons_zero, List.set_cons_succ, i64_w, i32_w]
        rfl
       refine pure_ (i := 18) (N := some 76) (v := undef) (a' := ?_) #[true, true, true, true, true, true, true, true, true, true, true, true, true, true, true, true, true, true, true, false, false, false, false, false, false, false] rfl rfl (any_of HT_.out (by kernel_rfl)) (fun _ _ _ h => h) (Or.inr ⟨by rfl, rfl⟩) ?_ ?_
       rotate_left
       ·simp only [Act.put, List.setIfInBounds_toArray, List.set_cons_zero, List.set_cons_succ, i64_w, i32_w]
        rfl
       refine pure_ (i := 19) (N := some 77) (v := undef) (a' := ?_) #[true, true, true, true, true, true, true, true, true, true, true, true, true, true, true, true, true, true, true, true, false, false, false, false, false, false] rfl rfl (any_of HT_.out (by kernel_rfl)) (fun _ _ _ h => h) (Or.inr ⟨by rfl, rfl⟩) ?_ ?_
       rotate_left
       ·simp only [Act.put, List.setIfInBounds_toArray, List.set_cons_zero, List.set_cons_succ, i64_w, i32_w]
        rfl
       refine pure_ (i := 20) (N := some 78) (v := undef) (a' := ?_) #[true, true, true, true, true, true, true, true, true, true, true, true, true, true, true, true, true, true, true, true, true, false, false, false, false, false] rfl rfl (any_of HT_.out (by kernel_rfl)) (fun _ _ _ h => h) (Or.inr ⟨by rfl, rfl⟩) ?_ ?_
       rotate_left
       ·simp only [Act.put, List.setIfInBounds_toArray, List.set_cons_zero, List.set_cons_succ, i64_w, i32_w]
        rfl
       refine pure_ (i := 21) (N := some 79) (v := undef) (a' := ?_) #[true, true, true, true, true, true, true, true, true, true, true, true, true, true, true, true, true, true, true, true, true, true, false, false, false, false] rfl rfl (any_of HT_.out (by kernel_rfl)) (fun _ _ _ h => h) (Or.inr ⟨by rfl, rfl⟩) ?_ ?_
       rotate_left
       ·simp only [Act.put, List.setIfInBounds_toArray, List.set_cons_zero, List.set_cons_succ, i64_w, i32_w]
        rfl
       refine pure_ (i := 22) (N := some 80) (v := undef) (a' := ?_) #[true, true, true, true, true, true, true, true, true, true, true, true, true, true, true, true, true, true, true, true, true, true, true, false, false, false] rfl rfl (any_of HT_.out (by kernel_rfl)) (fun _ _ _ h => h) (Or.inr ⟨by rfl, rfl⟩) ?_ ?_
       rotate_left
       ·simp only [Act.put, List.setIfInBounds_toArray, List.set_cons_zero, List.set_cons_succ, i64_w, i32_w]
        rfl
       refine pure_ (i := 23) (N := some 81) (v := undef) (a' := ?_) #[true, true, true, true, true, true, true, true, true, true, true, true, true, true, true, true, true, true, true, true, true, true, true, true, false, false] rfl rfl (any_of HT_.out (by kernel_rfl)) (fun _ _ _ h => h) (Or.inr ⟨by rfl, rfl⟩) ?_ ?_
       rotate_left
       ·simp only [Act.put, List.setIfInBounds_toArray, List.set_cons_zero, List.set_cons_succ, i64_w, i32_w]
        rfl
       refine pure_ (i := 24) (N := some 82) (v := ?_) (a' := ?_) #[true, true, true, true, true, true, true, true, true, true, true, true, true, true, true, true, true, true, true, true, true, true, true, true, true, false] rfl rfl (any_of HT_.out (by kernel_rfl)) (fun _ _ _ h => h) (Or.inl ⟨by rfl, ?_⟩) ?_ ?_
       rotate_left
       ·intro w'
        go_simp
        with_reducible rfl
       rotate_left
       ·simp only [Act.put, List.setIfInBounds_toArray, List.set_cons_zero, List.set_cons_succ, i64_w, i32_w]
        rfl
       refine pure_ (i := 25) (N := some 10) (v := ?_) (a' := ?_) #[true, true, true, true, true, true, true, true, true, true, true, true, true, true, true, true, true, true, true, true, true, true, true, true, true, true] rfl rfl (any_of HT_.out (by kernel_rfl)) (fun _ _ _ h => h) (Or.inl ⟨by rfl, ?_⟩) ?_ ?_
       rotate_left
       ·intro w'
        go_simp
        with_reducible rfl
       rotate_left
       ·simp only [Act.put, List.setIfInBounds_toArray, List.set_cons_zero, List.set_cons_succ, i64_w, i32_w]
        rfl
       refine done_ (done_of HT_.out (by kernel_rfl)) ?_
       try go_wp2
       go_ret
       exact ⟨by first | rfl | (simp [errW_none, errW_some] <;> rfl) | (simp [*, errW_none, errW_some] <;> rfl), by repeat (first | (with_reducible first | exact HB.out | apply below_alloc | apply pw_below_drewN | apply below_drew1 | refine below_set ?_ GE292.out | refine below_set ?_ GE295.out) | exact HB.out)⟩
     ·replace c22 := Bool.eq_false_iff.mpr c22
      subst c22
      have H1 : (some false) = some r := by rw [if_neg (show ¬ (false = true) by decide)] at H; exact H
      clear H
      have H := H1
      clear H1
      obtain rfl := Option.some.inj H
      have hcz74_0 : wc.cell? ⟨gb292, 0, none⟩ = some (.slice A3_0 l3_0.length c3_0) := (blk_cell BK292.out 0).trans rfl
      have hcz74_1 : wc.cell? ⟨gb292, 1, none⟩ = some (.int .i64 a3_1) := (blk_cell BK292.out 1).trans rfl
      have hcz74_2 : wc.cell? ⟨gb292, 2, none⟩ = some (.int .i64 a3_2) := (blk_cell BK292.out 2).trans rfl
      have hfz74_0 := blk_frozen BK292.out 0
      have hfz74_1 := blk_frozen BK292.out 1
      have hfz74_2 := blk_frozen BK292.out 2
      try go_wp2_with (first | ((with_reducible refine gate_dst (N := 11) rfl ?_); (try (refine gate_guard (by rfl) ?_; dsimp only)); refine box_event ?hg (N := 11) ?hd (cs := #[.slice none 0 0, .int .i64 0, .int .i64 0]) (t := 41) ?hr ?_; (case hd => rfl); (case hg => rfl); (case hr => first | (go_simp; done) | (go_simp; rfl)); intro gb295 hg w75 hbox hb; have n0_ := Aside0.mk (blk_below (g := gb292) (o := .cells #[.slice A3_0 l3_0.length c3_0, .int .i64 a3_1, .int .i64 a3_2] 41 (0, 0)) (by (with_reducible repeat (first | refine blk_drewN ?_ _ | refine blk_drew ?_ | refine blk_alloc ?_ _)); exact BK292.out) hb); have n1_ := Aside0.mk (below_step (by repeat (first | (with_reducible first | exact HB.out | apply below_alloc | apply pw_below_drewN | apply below_drew1 | refine below_set ?_ GE292.out) | exact HB.out)) hb); have n2_ := Aside0.mk (hbox); have n3_ := Aside0.mk ((by rw [hg]; exact (below_size (by repeat (first | (with_reducible first | exact HB.out | apply below_alloc | apply pw_below_drewN | apply below_drew1 | refine below_set ?_ GE292.out) | exact HB.out))) : w.heap.size ≤ gb295)); have n4_ := Aside0.mk ((by rw [hg]; exact (below_size (by repeat (first | (with_reducible first | exact HB.out | apply below_alloc | apply pw_below_drewN | apply below_drew1 | refine below_set ?_ GE292.out) | exact HB.out))) : w.heap.size ≤ gb295)); have n5_ := Aside0.mk ((by rw [hg]; exact Nat.ne_of_lt (blk_lt (g := gb292) (o := .cells #[.slice A3_0 l3_0.length c3_0, .int .i64 a3_1, .int .i64 a3_2] 41 (0, 0)) (by (with_reducible repeat (first | refine blk_drewN ?_ _ | refine blk_drew ?_ | refine blk_alloc ?_ _)); exact BK292.out)) : gb292 ≠ gb295)); have n6_ := Aside0.mk ((by rw [hg]; exact Nat.ne_of_gt (blk_lt (g := gb292) (o := .cells #[.slice A3_0 l3_0.length c3_0, .int .i64 a3_1, .int .i64 a3_2] 41 (0, 0)) (by (with_reducible repeat (first | refine blk_drewN ?_ _ | refine blk_drew ?_ | refine blk_alloc ?_ _)); exact BK292.out)) : gb295 ≠ gb292)); clear BK292; clear HB; have BK292 := n0_; have HB := n1_; have BK295 := n2_; have GW295 := n3_; have GE295 := n4_; have NB292_295 := n5_; have NB295_292 := n6_; clear n0_ n1_ n2_ n3_ n4_ n5_ n6_; clear hb hbox hg; have hnb76 := NB295_292.out; have hnc76 := NB292_295.out; have hcz77_0 : w75.cell? ⟨gb295, 0, none⟩ = some (.slice none 0 0) := (blk_cell BK295.out 0).trans rfl; have hcz77_1 : w75.cell? ⟨gb295, 1, none⟩ = some (.int .i64 0) := (blk_cell BK295.out 1).trans rfl; have hcz77_2 : w75.cell? ⟨gb295, 2, none⟩ = some (.int .i64 0) := (blk_cell BK295.out 2).trans rfl; have hfz77_0 := blk_frozen BK295.out 0; have hfz77_1 := blk_frozen BK295.out 1; have hfz77_2 := blk_frozen BK295.out 2; have hcz78_0 : w75.cell? ⟨gb292, 0, none⟩ = some (.slice A3_0 l3_0.length c3_0) := (blk_cell BK292.out 0).trans rfl; have hcz78_1 : w75.cell? ⟨gb292, 1, none⟩ = some (.int .i64 a3_1) := (blk_cell BK292.out 1).trans rfl; have hcz78_2 : w75.cell? ⟨gb292, 2, none⟩ = some (.int .i64 a3_2) := (blk_cell BK292.out 2).trans rfl; have hfz78_0 := blk_frozen BK292.out 0; have hfz78_1 := blk_frozen BK292.out 1; have hfz78_2 := blk_frozen BK292.out 2) | ((with_reducible refine gate_callee (f := 18) rfl ?_); refine goesL_ (some 36) rfl rfl Tryd.func18 (by kernel_rfl) rfl #[.slice A3_0 l3_0.length c3_0] rfl (by (try simp only [List.map_toArray, List.map_cons, List.map_nil]); first | done | rfl | (simp only [List.length_drop, List.length_take]; rfl)) ?_; (with_reducible refine (slices_Clone_int_int.calls _ _ l3_0 t296 _ ?side1 ?side2 A16.out).mono ?_); (case side1 => exact Kd.C_below HR3_0.out (by repeat (first | (with_reducible first | exact HB.out | apply below_alloc | apply pw_below_drewN | apply below_drew1 | refine below_set ?_ GE292.out | refine below_set ?_ GE295.out) | exact HB.out))); (case side2 => exact HC3_0.out); rintro e w79 ⟨v297, rfl, ho0, hb⟩; refine ⟨_, rfl, ?_⟩; have n0_ := Aside0.mk (Kd.R_lower ho0 (below_size (by repeat (first | (with_reducible first | exact HB.out | apply below_alloc | apply pw_below_drewN | apply below_drew1 | refine below_set ?_ GE292.out | refine below_set ?_ GE295.out) | exact HB.out)))); have n1_ := Aside0.mk (blk_below (g := gb292) (o := .cells #[.slice A3_0 l3_0.length c3_0, .int .i64 a3_1, .int .i64 a3_2] 41 (0, 0)) (by (with_reducible repeat (first | refine blk_drewN ?_ _ | refine blk_drew ?_ | refine blk_alloc ?_ _)); refine blk_far ?_ NB292_295.out _; (with_reducible repeat (first | refine blk_drewN ?_ _ | refine blk_drew ?_ | refine blk_alloc ?_ _)); refine blk_far ?_ NB292_295.out _; (with_reducible repeat (first | refine blk_drewN ?_ _ | refine blk_drew ?_ | refine blk_alloc ?_ _)); refine blk_far ?_ NB292_295.out _; (with_reducible repeat (first | refine blk_drewN ?_ _ | refine blk_drew ?_ | refine blk_alloc ?_ _)); exact BK292.out) hb); have n2_ := Aside0.mk (blk_below (g := gb295) (o := .cells #[.slice A3_0 l3_0.length c3_0, .int .i64 a3_1, .int .i64 a3_2] 41 (0, 0)) (by (with_reducible repeat (first | refine blk_drewN ?_ _ | refine blk_drew ?_ | refine blk_alloc ?_ _)); refine blk_put (cs := #[.slice A3_0 l3_0.length c3_0, .int .i64 a3_1, .int .i64 0]) ?_ 2 _ rfl; (with_reducible repeat (first | refine blk_drewN ?_ _ | refine blk_drew ?_ | refine blk_alloc ?_ _)); refine blk_put (cs := #[.slice A3_0 l3_0.length c3_0, .int .i64 0, .int .i64 0]) ?_ 1 _ rfl; (with_reducible repeat (first | refine blk_drewN ?_ _ | refine blk_drew ?_ | refine blk_alloc ?_ _)); refine blk_put (cs := #[.slice none 0 0, .int .i64 0, .int .i64 0]) ?_ 0 _ rfl; (with_reducible repeat (first | refine blk_drewN ?_ _ | refine blk_drew ?_ | refine blk_alloc ?_ _)); exact BK295.out) hb); have n3_ := Aside0.mk (below_step (by repeat (first | (with_reducible first | exact HB.out | apply below_alloc | apply pw_below_drewN | apply below_drew1 | refine below_set ?_ GE292.out | refine below_set ?_ GE295.out) | exact HB.out)) hb); clear BK292; clear BK295; clear HB; have HO298 := n0_; have BK292 := n1_; have BK295 := n2_; have HB := n3_; clear n0_ n1_ n2_ n3_; (try clear hb); (try clear hb2); (try clear hk); (try clear hi); (try clear ho0); obtain ⟨Ao80, co80, eo80⟩ := Kd.R_slice HO298.out; subst eo80; have hcz81_0 : w79.cell? ⟨gb295, 0, none⟩ = some (.slice A3_0 l3_0.length c3_0) := (blk_cell BK295.out 0).trans rfl; have hcz81_1 : w79.cell? ⟨gb295, 1, none⟩ = some (.int .i64 a3_1) := (blk_cell BK295.out 1).trans rfl; have hcz81_2 : w79.cell? ⟨gb295, 2, none⟩ = some (.int .i64 a3_2) := (blk_cell BK295.out 2).trans rfl; have hfz81_0 := blk_frozen BK295.out 0; have hfz81_1 := blk_frozen BK295.out 1; have hfz81_2 := blk_frozen BK295.out 2))
      have n0_ : Aside0 (Kd.R (Kd.int .i64) 3 (w79.setCell ⟨gb295, 0, none⟩ (.slice Ao80 t296.length co80)) w.heap.size (fun _ => True) (.slice Ao80 t296.length co80) t296) := ⟨by (with_reducible repeat (first | apply Kd.R_alloc | apply Kd.R_drewN | apply Kd.R_drew)); exact Kd.R_mono (Kd.R_far (p := ⟨gb295, 0, none⟩) (Kd.R_types HO298.out BK295.out (by decide)) (fun _ hk => hk.2) (.slice Ao80 t296.length co80)) (fun _ hk => trivial)⟩
      have n1_ : Aside0 ((w79.setCell ⟨gb295, 0, none⟩ (.slice Ao80 t296.length co80)).heap[gb292]? = some (.cells #[.slice A3_0 l3_0.length c3_0, .int .i64 a3_1, .int .i64 a3_2] 41 (0, 0))) := ⟨by (with_reducible repeat (first | refine blk_drewN ?_ _ | refine blk_drew ?_ | refine blk_alloc ?_ _)); refine blk_far ?_ NB292_295.out _; (with_reducible repeat (first | refine blk_drewN ?_ _ | refine blk_drew ?_ | refine blk_alloc ?_ _)); exact BK292.out⟩
      have n2_ : Aside0 ((w79.setCell ⟨gb295, 0, none⟩ (.slice Ao80 t296.length co80)).heap[gb295]? = some (.cells #[.slice Ao80 t296.length co80, .int .i64 a3_1, .int .i64 a3_2] 41 (0, 0))) := ⟨by (with_reducible repeat (first | refine blk_drewN ?_ _ | refine blk_drew ?_ | refine blk_alloc ?_ _)); refine blk_put (cs := #[.slice A3_0 l3_0.length c3_0, .int .i64 a3_1, .int .i64 a3_2]) ?_ 0 _ rfl; (with_reducible repeat (first | refine blk_drewN ?_ _ | refine blk_drew ?_ | refine blk_alloc ?_ _)); exact BK295.out⟩
      have n3_ : Aside0 (Below w.heap.size w (w79.setCell ⟨gb295, 0, none⟩ (.slice Ao80 t296.length co80))) := ⟨by repeat (first | (with_reducible first | exact HB.out | apply below_alloc | apply pw_below_drewN | apply below_drew1 | refine below_set ?_ GE292.out | refine below_set ?_ GE295.out) | exact HB.out)⟩
      (try clear HO298)
      (try clear BK292)
      (try clear BK295)
      (try clear HB)
      generalize (w79.setCell ⟨gb295, 0, none⟩ (.slice Ao80 t296.length co80)) = w82 at n0_ n1_ n2_ n3_ ⊢
      have HO298 := n0_
      have BK292 := n1_
      have BK295 := n2_
      have HB := n3_
      clear n0_ n1_ n2_ n3_
      have n0_ := Aside0.mk (Kd.R_drew HO298.out)
      have n1_ := Aside0.mk (blk_drew BK292.out)
      have n2_ := Aside0.mk (blk_drew BK295.out)
      have n3_ := Aside0.mk (below_drew1 HB.out)
      clear HO298
      clear BK292
      clear BK295
      clear HB
      have HO298 := n0_
      have BK292 := n1_
      have BK295 := n2_
      have HB := n3_
      clear n0_ n1_ n2_ n3_
      refine start_ (n := 13) (S := fun w' => w'.cell? ⟨gb295, 0, none⟩ = some (.slice Ao80 t296.length co80) ∧ w'.cell? ⟨gb295, 1, none⟩ = some (.int .i64 a3_1) ∧ w'.cell? ⟨gb295, 2, none⟩ = some (.int .i64 a3_2)) (ds := []) #[false, false, false, false, false, false, false, false, false, false, false, false, false] (by kernel_rfl) rfl rfl ⟨(blk_cell BK295.out 0).trans rfl, (blk_cell BK295.out 1).trans rfl, (blk_cell BK295.out 2).trans rfl⟩ (fun hHeld => ?_); refine with_tabW garboardlaw58_ApprovalMisses.tab7 garboardlaw58_ApprovalMisses.bits7 (fun HT_ HW_ => ?_)
      generalize w82.drew = w83 at HO298 BK292 BK295 HB hHeld ⊢
      refine pure_ (i := 0) (N := some 39) (v := ?_) (a' := ?_) #[true, false, false, false, false, false, false, false, false, false, false, false, false] rfl rfl (any_of HT_.out (by kernel_rfl)) (fun _ _ _ h => h) (Or.inl ⟨by rfl, ?_⟩) ?_ ?_
      rotate_left
      ·intro w'
       go_simp
       with_reducible rfl
      rotate_left
      ·simp only [Act.put, List.setIfInBounds_toArray, List.set_cons_zero, List.set_cons_succ, i64_w, i32_w]
       rfl
      refine pure_ (i := 2) (N := some 41) (v := ?_) (a' := ?_) #[true, false, true, false, false, false, false, false, false, false, false, false, false] rfl rfl (any_of HT_.out (by kernel_rfl)) (fun _ _ _ h => h) (Or.inl ⟨by rfl, ?_⟩) ?_ ?_
      rotate_left
      ·intro w'
       go_simp
       with_reducible rfl
      rotate_left
      ·simp only [Act.put, List.setIfInBounds_toArray, List.set_cons_zero, List.set_cons_succ, i64_w, i32_w]
       rfl
      refine pure_ (i := 4) (N := some 43) (v := ?_) (a' := ?_) #[true, false, true, false, true, false, false, false, false, false, false, false, false] rfl rfl (any_of HT_.out (by kernel_rfl)) (fun _ _ _ h => h) (Or.inl ⟨by rfl, ?_⟩) ?_ ?_
      rotate_left
      ·intro w'
       go_simp
       with_reducible rfl
      rotate_left
      ·simp only [Act.put, List.setIfInBounds_toArray, List.set_cons_zero, List.set_cons_succ, i64_w, i32_w]
       rfl
      refine pure_ (i := 6) (N := some 45) (v := ?_) (a' := ?_) #[true, false, true, false, true, false, true, false, false, false, false, false, false] rfl rfl (any_of HT_.out (by kernel_rfl)) (fun _ _ _ h => h) (Or.inl ⟨by rfl, ?_⟩) ?_ ?_
      rotate_left
      ·intro w'
       go_simp
       with_reducible rfl
      rotate_left
      ·simp only [Act.put, List.setIfInBounds_toArray, List.set_cons_zero, List.set_cons_succ, i64_w, i32_w]
       rfl
      refine take_ (i := 5) (N := some 44) (v := ?_) (a' := ?_) #[true, false, true, false, true, true, true, false, false, false, false, false, false] rfl rfl (take_ofW HT_.out HW_.out (by kernel_rfl)) (fun _ _ _ h => h) (Or.inl ⟨by rfl, ?_⟩) hHeld ?_ ?_
      rotate_left
      ·rintro w' ⟨s0, s1, s2⟩
       go_simp
       with_reducible rfl
      rotate_left
      ·simp only [Act.put, List.setIfInBounds_toArray, List.set_cons_zero, List.set_cons_succ, i64_w, i32_w]
       rfl
      refine one_ (i := 1) (N := some 40) #[true, true, true, false, true, true, true, false, false, false, false, false, false] rfl rfl (one_of HT_.out (by kernel_rfl)) (by decide) (fun K hK => ?_)
      refine goes_ Tryd.func12 (by kernel_rfl) rfl #[.slice A0 l0.length c0] (by rfl) rfl rfl (by (try simp only [List.map_toArray, List.map_cons, List.map_nil]); first | done | rfl | (simp only [List.length_drop, List.length_take]; rfl)) ?_
      with_reducible refine (api_Signer_12.calls _ _ l0 t299 _ ?side1 ?side2 A17.out).mono ?_
      (case side1 => repeat (first | exact (Kd.C_below HR0.out HB.out) | (with_reducible refine Kd.C_alloc ?_ _) | (with_reducible refine Kd.C_drewN ?_ _) | (with_reducible refine Kd.C_drew ?_)))
      (case side2 => exact HC0.out)
      rintro e w84 ⟨v300, rfl, ho0, hb⟩
      refine ⟨_, rfl, ?_⟩
      have n0_ := Aside0.mk (Kd.R_below (by (with_reducible repeat (first | apply Kd.R_alloc | apply Kd.R_drewN | apply Kd.R_drew)); exact HO298.out) hb)
      have n1_ := Aside0.mk (Kd.R_lower ho0 (below_size (by repeat (first | (with_reducible first | exact HB.out | apply below_alloc | apply pw_below_drewN | apply below_drew1 | refine below_set ?_ GE292.out | refine below_set ?_ GE295.out) | exact HB.out))))
      have n2_ := Aside0.mk (blk_below (g := gb292) (o := .cells #[.slice A3_0 l3_0.length c3_0, .int .i64 a3_1, .int .i64 a3_2] 41 (0, 0)) (by (with_reducible repeat (first | refine blk_drewN ?_ _ | refine blk_drew ?_ | refine blk_alloc ?_ _)); exact BK292.out) hb)
      have n3_ := Aside0.mk (blk_below (g := gb295) (o := .cells #[.slice Ao80 t296.length co80, .int .i64 a3_1, .int .i64 a3_2] 41 (0, 0)) (by (with_reducible repeat (first | refine blk_drewN ?_ _ | refine blk_drew ?_ | refine blk_alloc ?_ _)); exact BK295.out) hb)
      have n4_ := Aside0.mk (below_step (by repeat (first | (with_reducible first | exact HB.out | apply below_alloc | apply pw_below_drewN | apply below_drew1 | refine below_set ?_ GE292.out | refine below_set ?_ GE295.out) | exact HB.out)) hb)
      clear HO298
      clear BK292
      clear BK295
      clear HB
      have HO298 := n0_
      have HO301 := n1_
      have BK292 := n2_
      have BK295 := n3_
      have HB := n4_
      clear n0_ n1_ n2_ n3_ n4_
      (try clear hb)
      (try clear hb2)
      (try clear hk)
      (try clear hi)
      (try clear ho0)
      refine hK.out _ _ ⟨(blk_cell BK295.out 0).trans rfl, (blk_cell BK295.out 1).trans rfl, (blk_cell BK295.out 2).trans rfl⟩ (fun hHeld => ?_)
      clear hK K
      refine norm_ (a' := ?_) ?_ ?_
      rotate_left
      ·show Act.put _ (some 40) _ = _
       simp only [Act.put, List.setIfInBounds_toArray, List.set_cons_zero, List.set_cons_succ, i64_w, i32_w]
       rfl
      refine one_ (i := 3) (N := some 42) #[true, true, true, true, true, true, true, false, false, false, false, false, false] rfl rfl (one_of HT_.out (by kernel_rfl)) (by decide) (fun K hK => ?_)
      refine goes_ Tryd.func13 (by kernel_rfl) rfl #[.slice A1 l1.length c1] (by rfl) rfl rfl (by (try simp only [List.map_toArray, List.map_cons, List.map_nil]); first | done | rfl | (simp only [List.length_drop, List.length_take]; rfl)) ?_
      with_reducible refine (api_Approval_13.calls _ _ l1 t302 _ ?side1 ?side2 A18.out).mono ?_
      (case side1 => repeat (first | exact (Kd.C_below HR1.out HB.out) | (with_reducible refine Kd.C_alloc ?_ _) | (with_reducible refine Kd.C_drewN ?_ _) | (with_reducible refine Kd.C_drew ?_)))
      (case side2 => exact HC1.out)
      rintro e w85 ⟨v303, rfl, ho0, hb⟩
      refine ⟨_, rfl, ?_⟩
      have n0_ := Aside0.mk (Kd.R_below (by (with_reducible repeat (first | apply Kd.R_alloc | apply Kd.R_drewN | apply Kd.R_drew)); exact HO298.out) hb)
      have n1_ := Aside0.mk (Kd.R_below (by (with_reducible repeat (first | apply Kd.R_alloc | apply Kd.R_drewN | apply Kd.R_drew)); exact HO301.out) hb)
      have n2_ := Aside0.mk (Kd.R_lower ho0 (below_size (by repeat (first | (with_reducible first | exact HB.out | apply below_alloc | apply pw_below_drewN | apply below_drew1 | refine below_set ?_ GE292.out | refine below_set ?_ GE295.out) | exact HB.out))))
      have n3_ := Aside0.mk (blk_below (g := gb292) (o := .cells #[.slice A3_0 l3_0.length c3_0, .int .i64 a3_1, .int .i64 a3_2] 41 (0, 0)) (by (with_reducible repeat (first | refine blk_drewN ?_ _ | refine blk_drew ?_ | refine blk_alloc ?_ _)); exact BK292.out) hb)
      have n4_ := Aside0.mk (blk_below (g := gb295) (o := .cells #[.slice Ao80 t296.length co80, .int .i64 a3_1, .int .i64 a3_2] 41 (0, 0)) (by (with_reducible repeat (first | refine blk_drewN ?_ _ | refine blk_drew ?_ | refine blk_alloc ?_ _)); exact BK295.out) hb)
      have n5_ := Aside0.mk (below_step (by repeat (first | (with_reducible first | exact HB.out | apply below_alloc | apply pw_below_drewN | apply below_drew1 | refine below_set ?_ GE292.out | refine below_set ?_ GE295.out) | exact HB.out)) hb)
      clear HO298
      clear HO301
      clear BK292
      clear BK295
      clear HB
      have HO298 := n0_
      have HO301 := n1_
      have HO304 := n2_
      have BK292 := n3_
      have BK295 := n4_
      have HB := n5_
      clear n0_ n1_ n2_ n3_ n4_ n5_
      (try clear hb)
      (try clear hb2)
      (try clear hk)
      (try clear hi)
      (try clear ho0)
      obtain ⟨Ao86, co86, eo86⟩ := Kd.R_slice HO301.out
      (first | subst eo86 | (injection eo86 with f1_ f2_ f3_; have f4_ := f1_.symm; have f5_ := f3_.symm; clear f1_ f2_ f3_; subst f4_; subst f5_))
      obtain ⟨Ao87, co87, eo87⟩ := Kd.R_slice HO304.out
      (first | subst eo87 | (injection eo87 with f1_ f2_ f3_; have f4_ := f1_.symm; have f5_ := f3_.symm; clear f1_ f2_ f3_; subst f4_; subst f5_))
      refine hK.out _ _ ⟨(blk_cell BK295.out 0).trans rfl, (blk_cell BK295.out 1).trans rfl, (blk_cell BK295.out 2).trans rfl⟩ (fun hHeld => ?_)
      clear hK K
      refine norm_ (a' := ?_) ?_ ?_
      rotate_left
      ·show Act.put _ (some 42) _ = _
       simp only [Act.put, List.setIfInBounds_toArray, List.set_cons_zero, List.set_cons_succ, i64_w, i32_w]
       rfl
      refine one_ (i := 7) (N := some 46) #[true, true, true, true, true, true, true, true, false, false, false, false, false] rfl rfl (one_of HT_.out (by kernel_rfl)) (by decide) (fun K hK => ?_)
      refine goes_ Tryd.func19 (by kernel_rfl) rfl #[.slice Ao86 t299.length co86, .slice Ao87 t302.length co87, .string a2, .agg #[.slice Ao80 t296.length co80, .int .i64 a3_1, .int .i64 a3_2], .int .i64 a4] (by rfl) rfl rfl (by (try simp only [List.map_toArray, List.map_cons, List.map_nil]); first | done | rfl | (simp only [List.length_drop, List.length_take]; rfl)) ?_
      with_reducible refine (approval_Missing.calls _ _ t299 _ _ t302 a2 _ _ t296 a3_1 a3_2 a4 t305 t308 _ ?side1 ?side2 ?side3 ?side4 ?side5 ?side6 ?side7 A19.out).mono ?_
      (case side1 => repeat (first | exact (Kd.R_reads' HO301.out).2.2 | (with_reducible refine Kd.C_alloc ?_ _) | (with_reducible refine Kd.C_drewN ?_ _) | (with_reducible refine Kd.C_drew ?_)))
      (case side2 => exact (Kd.R_reads' HO301.out).2.1)
      (case side3 => repeat (first | exact (Kd.R_reads' HO304.out).2.2 | (with_reducible refine Kd.C_alloc ?_ _) | (with_reducible refine Kd.C_drewN ?_ _) | (with_reducible refine Kd.C_drew ?_)))
      (case side4 => exact (Kd.R_reads' HO304.out).2.1)
      (case side5 => repeat (first | exact (Kd.R_reads' HO298.out).2.2 | (with_reducible refine Kd.C_alloc ?_ _) | (with_reducible refine Kd.C_drewN ?_ _) | (with_reducible refine Kd.C_drew ?_)))
      (case side6 => exact (Kd.R_reads' HO298.out).2.1)
      (case side7 => exact HLW.out.below (by repeat (first | (with_reducible first | exact HB.out | apply below_alloc | apply pw_below_drewN | apply below_drew1 | refine below_set ?_ GE292.out | refine below_set ?_ GE295.out) | exact HB.out)))
      rintro e w88 ⟨v306, rfl, ho0, hb⟩
      refine ⟨_, rfl, ?_⟩
      have n0_ := Aside0.mk (Kd.R_elder' (by (with_reducible repeat (first | apply Kd.R_alloc | apply Kd.R_drewN | apply Kd.R_drew)); exact HO298.out) (Kd.R_base ho0) hb)
      have n1_ := Aside0.mk (Kd.R_below (by (with_reducible repeat (first | apply Kd.R_alloc | apply Kd.R_drewN | apply Kd.R_drew)); exact HO301.out) hb)
      have n2_ := Aside0.mk (Kd.R_below (by (with_reducible repeat (first | apply Kd.R_alloc | apply Kd.R_drewN | apply Kd.R_drew)); exact HO304.out) hb)
      have n3_ := Aside0.mk (Kd.R_lower (Kd.R_new' ho0 (Kd.R_lt (by (with_reducible repeat (first | apply Kd.R_alloc | apply Kd.R_drewN | apply Kd.R_drew)); exact HO298.out))) (below_size (by repeat (first | (with_reducible first | exact HB.out | apply below_alloc | apply pw_below_drewN | apply below_drew1 | refine below_set ?_ GE292.out | refine below_set ?_ GE295.out) | exact HB.out))))
      have n4_ := Aside0.mk (blk_below (g := gb292) (o := .cells #[.slice A3_0 l3_0.length c3_0, .int .i64 a3_1, .int .i64 a3_2] 41 (0, 0)) (by (with_reducible repeat (first | refine blk_drewN ?_ _ | refine blk_drew ?_ | refine blk_alloc ?_ _)); exact BK292.out) hb)
      have n5_ := Aside0.mk (blk_below (g := gb295) (o := .cells #[.slice Ao80 t296.length co80, .int .i64 a3_1, .int .i64 a3_2] 41 (0, 0)) (by (with_reducible repeat (first | refine blk_drewN ?_ _ | refine blk_drew ?_ | refine blk_alloc ?_ _)); exact BK295.out) hb)
      have n6_ := Aside0.mk (below_step (by repeat (first | (with_reducible first | exact HB.out | apply below_alloc | apply pw_below_drewN | apply below_drew1 | refine below_set ?_ GE292.out | refine below_set ?_ GE295.out) | exact HB.out)) hb)
      clear HO298
      clear HO301
      clear HO304
      clear BK292
      clear BK295
      clear HB
      have HO298 := n0_
      have HO301 := n1_
      have HO304 := n2_
      have HO307 := n3_
      have BK292 := n4_
      have BK295 := n5_
      have HB := n6_
      clear n0_ n1_ n2_ n3_ n4_ n5_ n6_
      (try clear hb)
      (try clear hb2)
      (try clear hk)
      (try clear hi)
      (try clear ho0)
      refine hK.out _ _ ⟨(blk_cell BK295.out 0).trans rfl, (blk_cell BK295.out 1).trans rfl, (blk_cell BK295.out 2).trans rfl⟩ (fun hHeld => ?_)
      clear hK K
      refine norm_ (a' := ?_) ?_ ?_
      rotate_left
      ·show Act.put _ (some 46) _ = _
       simp only [Act.put, List.setIfInBounds_toArray, List.set_cons_zero, List.set_cons_succ, i64_w, i32_w]
       rfl
      refine pure_ (i := 8) (N := some 38) (v := ?_) (a' := ?_) #[true, true, true, true, true, true, true, true, true, false, false, false, false] rfl rfl (any_of HT_.out (by kernel_rfl)) (fun _ _ _ h => h) (Or.inl ⟨by rfl, ?_⟩) ?_ ?_
      rotate_left
      ·intro w'
       go_simp
       with_reducible rfl
      rotate_left
      ·simp only [Act.put, List.setIfInBounds_toArray, List.set_cons_zero, List.set_cons_succ, i64_w, i32_w]
       rfl
      refine pure_ (i := 9) (N := some 47) (v := ?_) (a' := ?_) #[true, true, true, true, true, true, true, true, true, true, false, false, false] rfl rfl (any_of HT_.out (by kernel_rfl)) (fun _ _ _ h => h) (Or.inl ⟨by rfl, ?_⟩) ?_ ?_
      rotate_left
      ·intro w'
       go_simp
       with_reducible rfl
      rotate_left
      ·simp only [Act.put, List.setIfInBounds_toArray, List.set_cons_zero, List.set_cons_succ, i64_w, i32_w]
       rfl
      refine pure_ (i := 10) (N := some 48) (v := ?_) (a' := ?_) #[true, true, true, true, true, true, true, true, true, true, true, false, false] rfl rfl (any_of HT_.out (by kernel_rfl)) (fun _ _ _ h => h) (Or.inl ⟨by rfl, ?_⟩) ?_ ?_
      rotate_left
      ·intro w'
       go_simp
       with_reducible rfl
      rotate_left
      ·simp only [Act.put, List.setIfInBounds_toArray, List.set_cons_zero, List.set_cons_succ, i64_w, i32_w]
       rfl
      refine pure_ (i := 11) (N := some 12) (v := ?_) (a' := ?_) #[true, true, true, true, true, true, true, true, true, true, true, true, false] rfl rfl (any_of HT_.out (by kernel_rfl)) (fun _ _ _ h => h) (Or.inl ⟨by rfl, ?_⟩) ?_ ?_
      rotate_left
      ·intro w'
       go_simp
       with_reducible rfl
      rotate_left
      ·simp only [Act.put, List.setIfInBounds_toArray, List.set_cons_zero, List.set_cons_succ, i64_w, i32_w]
       rfl
      refine pure_ (i := 12) (N := some 13) (v := ?_) (a' := ?_) #[true, true, true, true, true, true, true, true, true, true, true, true, true] rfl rfl (any_of HT_.out (by kernel_rfl)) (fun _ _ _ h => h) (Or.inl ⟨by rfl, ?_⟩) ?_ ?_
      rotate_left
      ·intro w'
       go_simp
       with_reducible rfl
      rotate_left
      ·simp only [Act.put, List.setIfInBounds_toArray, List.set_cons_zero, List.set_cons_succ, i64_w, i32_w]
       rfl
      refine done_ (done_of HT_.out (by kernel_rfl)) ?_
      have hcz89_0 : w88.cell? ⟨gb292, 0, none⟩ = some (.slice A3_0 l3_0.length c3_0) := (blk_cell BK292.out 0).trans rfl
      have hcz89_1 : w88.cell? ⟨gb292, 1, none⟩ = some (.int .i64 a3_1) := (blk_cell BK292.out 1).trans rfl
      have hcz89_2 : w88.cell? ⟨gb292, 2, none⟩ = some (.int .i64 a3_2) := (blk_cell BK292.out 2).trans rfl
      have hfz89_0 := blk_frozen BK292.out 0
      have hfz89_1 := blk_frozen BK292.out 1
      have hfz89_2 := blk_frozen BK292.out 2
      try go_wp2_with (first | ((with_reducible refine gate_callee (f := 20) rfl ?_); refine goesL_ (some 55) rfl rfl Tryd.func20 (by kernel_rfl) rfl #[.slice A0 l0.length c0, .slice A1 l1.length c1, .string a2, .agg #[.slice A3_0 l3_0.length c3_0, .int .i64 a3_1, .int .i64 a3_2], .int .i64 a4] rfl (by (try simp only [List.map_toArray, List.map_cons, List.map_nil]); first | done | rfl | (simp only [List.length_drop, List.length_take]; rfl)) ?_; (with_reducible refine (garboardref58_Missing.calls kj7 _ _ l0 _ _ l1 a2 _ _ l3_0 a3_1 a3_2 a4 t309 t312 _ ?side1 ?side2 ?side3 ?side4 ?side5 ?side6 ?side7 A20.out).mono ?_); (case side1 => repeat (first | exact (Kd.C_below HR0.out HB.out) | (with_reducible refine Kd.C_alloc ?_ _) | (with_reducible refine Kd.C_drewN ?_ _) | (with_reducible refine Kd.C_drew ?_))); (case side2 => exact HC0.out); (case side3 => repeat (first | exact (Kd.C_below HR1.out HB.out) | (with_reducible refine Kd.C_alloc ?_ _) | (with_reducible refine Kd.C_drewN ?_ _) | (with_reducible refine Kd.C_drew ?_))); (case side4 => exact HC1.out); (case side5 => repeat (first | exact (Kd.C_below HR3_0.out HB.out) | (with_reducible refine Kd.C_alloc ?_ _) | (with_reducible refine Kd.C_drewN ?_ _) | (with_reducible refine Kd.C_drew ?_))); (case side6 => exact HC3_0.out); (case side7 => exact HLW.out.below (by repeat (first | (with_reducible first | exact HB.out | apply below_alloc | apply pw_below_drewN | apply below_drew1 | refine below_set ?_ GE292.out | refine below_set ?_ GE295.out) | exact HB.out))); rintro e w90 ⟨v310, rfl, ho0, hb⟩; refine ⟨_, rfl, ?_⟩; have n0_ := Aside0.mk (Kd.R_elder' (by (with_reducible repeat (first | apply Kd.R_alloc | apply Kd.R_drewN | apply Kd.R_drew)); exact HO298.out) (Kd.R_base ho0) hb); have n1_ := Aside0.mk (Kd.R_below (by (with_reducible repeat (first | apply Kd.R_alloc | apply Kd.R_drewN | apply Kd.R_drew)); exact HO301.out) hb); have n2_ := Aside0.mk (Kd.R_below (by (with_reducible repeat (first | apply Kd.R_alloc | apply Kd.R_drewN | apply Kd.R_drew)); exact HO304.out) hb); have n3_ := Aside0.mk (Kd.R_elder' (by (with_reducible repeat (first | apply Kd.R_alloc | apply Kd.R_drewN | apply Kd.R_drew)); exact HO307.out) (Kd.R_base ho0) hb); have n4_ := Aside0.mk (Kd.R_lower (Kd.R_new' (Kd.R_new' ho0 (Kd.R_lt (by (with_reducible repeat (first | apply Kd.R_alloc | apply Kd.R_drewN | apply Kd.R_drew)); exact HO298.out))) (Kd.R_lt (by (with_reducible repeat (first | apply Kd.R_alloc | apply Kd.R_drewN | apply Kd.R_drew)); exact HO307.out))) (below_size (by repeat (first | (with_reducible first | exact HB.out | apply below_alloc | apply pw_below_drewN | apply below_drew1 | refine below_set ?_ GE292.out | refine below_set ?_ GE295.out) | exact HB.out)))); have n5_ := Aside0.mk (blk_below (g := gb292) (o := .cells #[.slice A3_0 l3_0.length c3_0, .int .i64 a3_1, .int .i64 a3_2] 41 (0, 0)) (by (with_reducible repeat (first | refine blk_drewN ?_ _ | refine blk_drew ?_ | refine blk_alloc ?_ _)); exact BK292.out) hb); have n6_ := Aside0.mk (blk_below (g := gb295) (o := .cells #[.slice Ao80 t296.length co80, .int .i64 a3_1, .int .i64 a3_2] 41 (0, 0)) (by (with_reducible repeat (first | refine blk_drewN ?_ _ | refine blk_drew ?_ | refine blk_alloc ?_ _)); exact BK295.out) hb); have n7_ := Aside0.mk (below_step (by repeat (first | (with_reducible first | exact HB.out | apply below_alloc | apply pw_below_drewN | apply below_drew1 | refine below_set ?_ GE292.out | refine below_set ?_ GE295.out) | exact HB.out)) hb); clear HO298; clear HO301; clear HO304; clear HO307; clear BK292; clear BK295; clear HB; have HO298 := n0_; have HO301 := n1_; have HO304 := n2_; have HO307 := n3_; have HO311 := n4_; have BK292 := n5_; have BK295 := n6_; have HB := n7_; clear n0_ n1_ n2_ n3_ n4_ n5_ n6_ n7_; (try clear hb); (try clear hb2); (try clear hk); (try clear hi); (try clear ho0)))
      have n0_ := Aside0.mk (Kd.R_drew HO298.out)
      have n1_ := Aside0.mk (Kd.R_drew HO301.out)
      have n2_ := Aside0.mk (Kd.R_drew HO304.out)
      have n3_ := Aside0.mk (Kd.R_drew HO307.out)
      have n4_ := Aside0.mk (Kd.R_drew HO311.out)
      have n5_ := Aside0.mk (blk_drew BK292.out)
      have n6_ := Aside0.mk (blk_drew BK295.out)
      have n7_ := Aside0.mk (below_drew1 HB.out)
      clear HO298
      clear HO301
      clear HO304
      clear HO307
      clear HO311
      clear BK292
      clear BK295
      clear HB
      have HO298 := n0_
      have HO301 := n1_
      have HO304 := n2_
      have HO307 := n3_
      have HO311 := n4_
      have BK292 := n5_
      have BK295 := n6_
      have HB := n7_
      clear n0_ n1_ n2_ n3_ n4_ n5_ n6_ n7_
      obtain ⟨Ao92, co92, eo92⟩ := Kd.R_slice HO307.out
      (first | subst eo92 | (injection eo92 with f1_ f2_ f3_; have f4_ := f1_.symm; have f5_ := f3_.symm; clear f1_ f2_ f3_; subst f4_; subst f5_))
      obtain ⟨Ao93, co93, eo93⟩ := Kd.R_slice HO311.out
      (first | subst eo93 | (injection eo93 with f1_ f2_ f3_; have f4_ := f1_.symm; have f5_ := f3_.symm; clear f1_ f2_ f3_; subst f4_; subst f5_))
      refine start_ (n := 26) (S := fun w' => True) (ds := []) #[false, false, false, false, false, false, false, false, false, false, false, false, false, false, false, false, false, false, false, false, false, false, false, false, false, false] (by kernel_rfl) rfl rfl trivial (fun hHeld => ?_); refine with_tabW garboardlaw58_ApprovalMisses.tab9 garboardlaw58_ApprovalMisses.bits9 (fun HT_ HW_ => ?_)
      generalize w90.drew = w91 at HO298 HO301 HO304 HO307 HO311 BK292 BK295 HB hHeld ⊢
      refine pure_ (i := 0) (N := some 58) (v := ?_) (a' := ?_) #[true, false, false, false, false, false, false, false, false, false, false, false, false, false, false, false, false, false, false, false, false, false, false, false, false, false] rfl rfl (any_of HT_.out (by kernel_rfl)) (fun _ _ _ h => h) (Or.inl ⟨by rfl, ?_⟩) ?_ ?_
      rotate_left
      ·intro w'
       go_simp
       with_reducible rfl
      rotate_left
      ·simp only [Act.put, List.setIfInBounds_toArray, List.set_cons_zero, List.set_cons_succ, i64_w, i32_w]
       rfl
      refine pure_ (i := 1) (N := some 59) (v := ?_) (a' := ?_) #[true, true, false, false, false, false, false, false, false, false, false, false, false, false, false, false, false, false, false, false, false, false, false, false, false, false] rfl rfl (any_of HT_.out (by kernel_rfl)) (fun _ _ _ h => h) (Or.inl ⟨by rfl, ?_⟩) ?_ ?_
      rotate_left
      ·intro w'
       go_simp
       with_reducible rfl
      rotate_left
      ·simp only [Act.put, List.setIfInBounds_toArray, List.set_cons_zero, List.set_cons_succ, i64_w, i32_w]
       rfl
      refine one_ (i := 2) (N := some 60) #[true, true, true, false, false, false, false, false, false, false, false, false, false, false, false, false, false, false, false, false, false, false, false, false, false, false] rfl rfl (one_of HT_.out (by kernel_rfl)) (by decide) (fun K hK => ?_)
      refine goes_ Tryd.func21 (by kernel_rfl) rfl #[.slice Ao92 t305.length co92, .slice Ao93 t309.length co93] (by rfl) rfl rfl (by (try simp only [List.map_toArray, List.map_cons, List.map_nil]); first | done | rfl | (simp only [List.length_drop, List.length_take]; rfl)) ?_
      with_reducible refine (slices_Equal_int_int.calls kj7 _ _ t305 _ _ t309 false _ ?side1 ?side2 ?side3 ?side4 A21.out).mono ?_
      (case side1 => repeat (first | exact (Kd.R_reads' HO307.out).2.2 | (with_reducible refine Kd.C_alloc ?_ _) | (with_reducible refine Kd.C_drewN ?_ _) | (with_reducible refine Kd.C_drew ?_)))
      (case side2 => exact (Kd.R_reads' HO307.out).2.1)
      (case side3 => repeat (first | exact (Kd.R_reads' HO311.out).2.2 | (with_reducible refine Kd.C_alloc ?_ _) | (with_reducible refine Kd.C_drewN ?_ _) | (with_reducible refine Kd.C_drew ?_)))
      (case side4 => exact (Kd.R_reads' HO311.out).2.1)
      rintro e w' ⟨rfl, ⟨nd, rfl⟩⟩
      refine ⟨_, rfl, ?_⟩
      refine hK.out _ _ trivial (fun hHeld => ?_)
      clear hK K
      refine norm_ (a' := ?_) ?_ ?_
      rotate_left
      ·show Act.put _ (some 60) _ = _
       simp only [Act.put, List.setIfInBounds_toArray, List.set_cons_zero, List.set_cons_succ, i64_w, i32_w]
       rfl
      refine pure_ (i := 3) (N := some 61) (v := ?_) (a' := ?_) #[true, true, true, true, false, false, false, false, false, false, false, false, false, false, false, false, false, false, false, false, false, false, false, false, false, false] rfl rfl (any_of HT_.out (by kernel_rfl)) (fun _ _ _ h => h) (Or.inl ⟨by rfl, ?_⟩) ?_ ?_
      rotate_left
      ·intro w'
       go_simp
       with_reducible rfl
      rotate_left
      ·simp only [Act.put, List.setIfInBounds_toArray, List.set_cons_zero, List.set_cons_succ, i64_w, i32_w]
       rfl
      refine pure_ (i := 4) (N := some 62) (v := undef) (a' := ?_) #[true, true, true, true, true, false, false, false, false, false, false, false, false, false, false, false, false, false, false, false, false, false, false, false, false, false] rfl rfl (any_of HT_.out (by kernel_rfl)) (fun _ _ _ h => h) (Or.inr ⟨by rfl, rfl⟩) ?_ ?_
      rotate_left
      ·simp only [Act.put, List.setIfInBounds_toArray, List.set_cons_zero, List.set_cons_succ, i64_w, i32_w]
       rfl
      refine pure_ (i := 5) (N := some 63) (v := undef) (a' := ?_) #[true, true, true, true, true, true, false, false, false, false, false, false, false, false, false, false, false, false, false, false, false, false, false, false, false, false] rfl rfl (any_of HT_.out (by kernel_rfl)) (fun _ _ _ h => h) (Or.inr ⟨by rfl, rfl⟩) ?_ ?_
      rotate_left
      ·simp only [Act.put, List.setIfInBounds_toArray, List.set_cons_zero, List.set_cons_succ, i64_w, i32_w]
       rfl
      refine pure_ (i := 6) (N := some 64) (v := undef) (a' := ?_) #[true, true, true, true, true, true, true, false, false, false, false, false, false, false, false, false, false, false, false, false, false, false, false, false, false, false] rfl rfl (any_of HT_.out (by kernel_rfl)) (fun _ _ _ h => h) (Or.inr ⟨by rfl, rfl⟩) ?_ ?_
      rotate_left
      ·simp only [Act.put, List.setIfInBounds_toArray, List.set_cons_zero, List.set_cons_succ, i64_w, i32_w]
       rfl
      refine pure_ (i := 7) (N := some 65) (v := ?_) (a' := ?_) #[true, true, true, true, true, true, true, true, false, false, false, false, false, false, false, false, false, false, false, false, false, false, false, false, false, false] rfl rfl (any_of HT_.out (by kernel_rfl)) (fun _ _ _ h => h) (Or.inl ⟨by rfl, ?_⟩) ?_ ?_
      rotate_left
      ·intro w'
       go_simp
       with_reducible rfl
      rotate_left
      ·simp only [Act.put, List.setIfInBounds_toArray, List.set_cons_zero, List.set_cons_succ, i64_w, i32_w]
       rfl
      refine pure_ (i := 8) (N := some 66) (v := ?_) (a' := ?_) #[true, true, true, true, true, true, true, true, true, false, false, false, false, false, false, false, false, false, false, false, false, false, false, false, false, false] rfl rfl (any_of HT_.out (by kernel_rfl)) (fun _ _ _ h => h) (Or.inl ⟨by rfl, ?_⟩) ?_ ?_
      rotate_left
      ·intro w'
       go_simp
       with_reducible rfl
      rotate_left
      ·simp only [Act.put, List.setIfInBounds_toArray, List.set_cons_zero, List.set_cons_succ, i64_w, i32_w]
       rfl
      refine pure_ (i := 9) (N := some 67) (v := undef) (a' := ?_) #[true, true, true, true, true, true, true, true, true, true, false, false, false, false, false, false, false, false, false, false, false, false, false, false, false, false] rfl rfl (any_of HT_.out (by kernel_rfl)) (fun _ _ _ h => h) (Or.inr ⟨by rfl, rfl⟩) ?_ ?_
      rotate_left
      ·simp only [Act.put, List.setIfInBounds_toArray, List.set_cons_zero, List.set_cons_succ, i64_w, i32_w]
       rfl
      refine pure_ (i := 10) (N := some 68) (v := undef) (a' := ?_) #[true, true, true, true, true, true, true, true, true, true, true, false, false, false, false, false, false, false, false, false, false, false, false, false, false, false] rfl rfl (any_of HT_.out (by kernel_rfl)) (fun _ _ _ h => h) (Or.inr ⟨by rfl, rfl⟩) ?_ ?_
      rotate_left
      ·simp only [Act.put, List.setIfInBounds_toArray, List.set_cons_zero, List.set_cons_succ, i64_w, i32_w]
       rfl
      refine pure_ (i := 11) (N := some 69) (v := undef) (a' := ?_) #[true, true, true, true, true, true, true, true, true, true, true, true, false, false, false, false, false, false, false, false, false, false, false, false, false, false] rfl rfl (any_of HT_.out (by kernel_rfl)) (fun _ _ _ h => h) (Or.inr ⟨by rfl, rfl⟩) ?_ ?_
      rotate_left
      ·simp only [Act.put, List.setIfInBounds_toArray, List.set_cons_zero, List.set_cons_succ, i64_w, i32_w]
       rfl
      refine pure_ (i := 12) (N := some 70) (v := undef) (a' := ?_) #[true, true, true, true, true, true, true, true, true, true, true, true, true, false, false, false, false, false, false, false, false, false, false, false, false, false] rfl rfl (any_of HT_.out (by kernel_rfl)) (fun _ _ _ h => h) (Or.inr ⟨by rfl, rfl⟩) ?_ ?_
      rotate_left
      ·simp only [Act.put, List.setIfInBounds_toArray, List.set_cons_zero, List.set_cons_succ, i64_w, i32_w]
       rfl
      refine pure_ (i := 13) (N := some 71) (v := undef) (a' := ?_) #[true, true, true, true, true, true, true, true, true, true, true, true, true, true, false, false, false, false, false, false, false, false, false, false, false, false] rfl rfl (any_of HT_.out (by kernel_rfl)) (fun _ _ _ h => h) (Or.inr ⟨by rfl, rfl⟩) ?_ ?_
      rotate_left
      ·simp only [Act.put, List.setIfInBounds_toArray, List.set_cons_zero, List.set_cons_succ, i64_w, i32_w]
       rfl
      refine pure_ (i := 14) (N := some 72) (v := undef) (a' := ?_) #[true, true, true, true, true, true, true, true, true, true, true, true, true, true, true, false, false, false, false, false, false, false, false, false, false, false] rfl rfl (any_of HT_.out (by kernel_rfl)) (fun _ _ _ h => h) (Or.inr ⟨by rfl, rfl⟩) ?_ ?_
      rotate_left
      ·simp only [Act.put, List.setIfInBounds_toArray, List.set_cons_zero, List.set_cons_succ, i64_w, i32_w]
       rfl
      refine pure_ (i := 15) (N := some 73) (v := undef) (a' := ?_) #[true, true, true, true, true, true, true, true, true, true, true, true, true, true, true, true, false, false, false, false, false, false, false, false, false, false] rfl rfl (any_of HT_.out (by kernel_rfl)) (fun _ _ _ h => h) (Or.inr ⟨by rfl, rfl⟩) ?_ ?_
      rotate_left
      ·simp only [Act.put, List.setIfInBounds_toArray, List.set_cons_zero, List.set_cons_succ, i64_w, i32_w]
       rfl
      refine pure_ (i := 16) (N := some 74) (v := undef) (a' := ?_) #[true, true, true, true, true, true, true, true, true, true, true, true, true, true, true, true, true, false, false, false, false, false, false, false, false, false] rfl rfl (any_of HT_.out (by kernel_rfl)) (fun _ _ _ h => h) (Or.inr ⟨by rfl, rfl⟩) ?_ ?_
      rotate_left
      ·simp only [Act.put, List.setIfInBounds_toArray, List.set_cons_zero, List.set_cons_succ, i64_w, i32_w]
       rfl
      refine pure_ (i := 17) (N := some 75) (v := undef) (a' := ?_) #[true, true, true, true, true, true, true, true, true, true, true, true, true, true, true, true, true, true, false, false, false, false, false, false, false, false] rfl rfl (any_of HT_.out (by kernel_rfl)) (fun _ _ _ h => h) (Or.inr ⟨by rfl, rfl⟩) ?_ ?_
      rotate_left
      ·simp only [Act.put, List.setIfInBounds_toArray, List.set_cons_zero, List.set_cons_succ, i64_w, i32_w]
       rfl
      refine pure_ (i := 18) (N := some 76) (v := undef) (a' := ?_) #[true, true, true, true, true, true, true, true, true, true, true, true, true, true, true, true, true, true, true, false, false, false, false, false, false, false] rfl rfl (any_of HT_.out (by kernel_rfl)) (fun _ _ _ h => h) (Or.inr ⟨by rfl, rfl⟩) ?_ ?_
      rotate_left
      ·simp only [Act.put, List.setIfInBounds_toArray, List.set_cons_zero, List.set_cons_succ, i64_w, i32_w]
       rfl
      refine pure_ (i := 19) (N := some 77) (v := undef) (a' := ?_) #[true, true, true, true, true, true, true, true, true, true, true, true, true, true, true, true, true, true, true, true, false, false, false, false, false, false] rfl rfl (any_of HT_.out (by kernel_rfl)) (fun _ _ _ h => h) (Or.inr ⟨by rfl, rfl⟩) ?_ ?_
      rotate_left
      ·simp only [Act.put, List.setIfInBounds_toArray, List.set_cons_zero, List.set_cons_succ, i64_w, i32_w]
       rfl
      refine pure_ (i := 20) (N := some 78) (v := undef) (a' := ?_) #[true, true, true, true, true, true, true, true, true, true, true, true, true, true, true, true, true, true, true, true, true, false, false, false, false, false] rfl rfl (any_of HT_.out (by kernel_rfl)) (fun _ _ _ h => h) (Or.inr ⟨by rfl, rfl⟩) ?_ ?_
      rotate_left
      ·simp only [Act.put, List.setIfInBounds_toArray, List.set_cons_zero, List.set_cons_succ, i64_w, i32_w]
       rfl
      refine pure_ (i := 21) (N := some 79) (v := undef) (a' := ?_) #[true, true, true, true, true, true, true, true, true, true, true, true, true, true, true, true, true, true, true, true, true, true, false, false, false, false] rfl rfl (any_of HT_.out (by kernel_rfl)) (fun _ _ _ h => h) (Or.inr ⟨by rfl, rfl⟩) ?_ ?_
      rotate_left
      ·simp only [Act.put, List.setIfInBounds_toArray, List.set_cons_zero, List.set_cons_succ, i64_w, i32_w]
       rfl
      refine pure_ (i := 22) (N := some 80) (v := undef) (a' := ?_) #[true, true, true, true, true, true, true, true, true, true, true, true, true, true, true, true, true, true, true, true, true, true, true, false, false, false] rfl rfl (any_of HT_.out (by kernel_rfl)) (fun _ _ _ h => h) (Or.inr ⟨by rfl, rfl⟩) ?_ ?_
      rotate_left
      ·simp only [Act.put, List.setIfInBounds_toArray, List.set_cons_zero, List.set_cons_succ, i64_w, i32_w]
       rfl
      refine pure_ (i := 23) (N := some 81) (v := undef) (a' := ?_) #[true, true, true, true, true, true, true, true, true, true, true, true, true, true, true, true, true, true, true, true, true, true, true, true, false, false] rfl rfl (any_of HT_.out (by kernel_rfl)) (fun _ _ _ h => h) (Or.inr ⟨by rfl, rfl⟩) ?_ ?_
      rotate_left
      ·simp only [Act.put, List.setIfInBounds_toArray, List.set_cons_zero, List.set_cons_succ, i64_w, i32_w]
       rfl
      refine pure_ (i := 24) (N := some 82) (v := ?_) (a' := ?_) #[true, true, true, true, true, true, true, true, true, true, true, true, true, true, true, true, true, true, true, true, true, true, true, true, true, false] rfl rfl (any_of HT_.out (by kernel_rfl)) (fun _ _ _ h => h) (Or.inl ⟨by rfl, ?_⟩) ?_ ?_
      rotate_left
      ·intro w'
       go_simp
       with_reducible rfl
      rotate_left
      ·simp only [Act.put, List.setIfInBounds_toArray, List.set_cons_zero, List.set_cons_succ, i64_w, i32_w]
       rfl
      refine pure_ (i := 25) (N := some 10) (v := ?_) (a' := ?_) #[true, true, true, true, true, true, true, true, true, true, true, true, true, true, true, true, true, true, true, true, true, true, true, true, true, true] rfl rfl (any_of HT_.out (by kernel_rfl)) (fun _ _ _ h => h) (Or.inl ⟨by rfl, ?_⟩) ?_ ?_
      rotate_left
      ·intro w'
       go_simp
       with_reducible rfl
      rotate_left
      ·simp only [Act.put, List.setIfInBounds_toArray, List.set_cons_zero, List.set_cons_succ, i64_w, i32_w]
       rfl
      refine done_ (done_of HT_.out (by kernel_rfl)) ?_
      try go_wp2
      go_ret
      exact ⟨by first | rfl | (simp [errW_none, errW_some] <;> rfl) | (simp [*, errW_none, errW_some] <;> rfl), by repeat (first | (with_reducible first | exact HB.out | apply below_alloc | apply pw_below_drewN | apply below_drew1 | refine below_set ?_ GE292.out | refine below_set ?_ GE295.out) | exact HB.out)⟩
 ·replace c7 := Bool.eq_false_iff.mpr c7
  subst c7
  have H1 : (some false) = some r := by rw [if_neg (show ¬ (false = true) by decide)] at H; exact H
  clear H
  have H := H1
  clear H1
  obtain rfl := Option.some.inj H
  go_enter Tryd.func4, Tryd.ntmps4
  go_wp2_with (first | ((with_reducible refine gate_dst (N := 8) rfl ?_); (try (refine gate_guard (by rfl) ?_; dsimp only)); refine box_event ?hg (N := 8) ?hd (cs := #[.slice A3_0 l3_0.length c3_0, .int .i64 a3_1, .int .i64 a3_2]) (t := 41) ?hr ?_; (case hd => rfl); (case hg => rfl); (case hr => first | (go_simp; done) | (go_simp; rfl)); intro gb292 hg w94 hbox hb; have n0_ := Aside0.mk (below_step (by repeat (first | (with_reducible first | exact HB.out | apply below_alloc | apply pw_below_drewN | apply below_drew1) | exact HB.out)) hb); have n1_ := Aside0.mk (hbox); have n2_ := Aside0.mk ((by rw [hg]; exact (below_size (by repeat (first | (with_reducible first | exact HB.out | apply below_alloc | apply pw_below_drewN | apply below_drew1) | exact HB.out))) : w.heap.size ≤ gb292)); have n3_ := Aside0.mk ((by rw [hg]; exact (below_size (by repeat (first | (with_reducible first | exact HB.out | apply below_alloc | apply pw_below_drewN | apply below_drew1) | exact HB.out))) : w.heap.size ≤ gb292)); clear HB; have HB := n0_; have BK292 := n1_; have GW292 := n2_; have GE292 := n3_; clear n0_ n1_ n2_ n3_; clear hb hbox hg) | ((with_reducible refine gate_callee (f := 9) rfl ?_); refine goesL_ (some 16) rfl rfl Tryd.func9 (by kernel_rfl) rfl #[] rfl (by (try simp only [List.map_toArray, List.map_cons, List.map_nil]); first | done | rfl | (simp only [List.length_drop, List.length_take]; rfl)) ?_; (with_reducible refine (garboardlaw58_awake.calls  false _ ?side1 A6.out).mono ?_); (case side1 => exact HLW.out.below (by repeat (first | (with_reducible first | exact HB.out | apply below_alloc | apply pw_below_drewN | apply below_drew1 | refine below_set ?_ GE292.out) | exact HB.out))); rintro e w95 ⟨rfl, hb⟩; refine ⟨_, rfl, ?_⟩; have n0_ := Aside0.mk (blk_below (g := gb292) (o := .cells #[.slice A3_0 l3_0.length c3_0, .int .i64 a3_1, .int .i64 a3_2] 41 (0, 0)) (by (with_reducible repeat (first | refine blk_drewN ?_ _ | refine blk_drew ?_ | refine blk_alloc ?_ _)); exact BK292.out) hb); have n1_ := Aside0.mk (below_step (by repeat (first | (with_reducible first | exact HB.out | apply below_alloc | apply pw_below_drewN | apply below_drew1 | refine below_set ?_ GE292.out) | exact HB.out)) hb); clear BK292; clear HB; have BK292 := n0_; have HB := n1_; clear n0_ n1_; (try clear hb); (try clear hb2); (try clear hk); (try clear hi)))
  go_ret
  exact ⟨by first | rfl | (simp [errW_none, errW_some] <;> rfl) | (simp [*, errW_none, errW_some] <;> rfl), by repeat (first | (with_reducible first | exact HB.out | apply below_alloc | apply pw_below_drewN | apply below_drew1 | refine below_set ?_ GE292.out) | exact HB.out)⟩
end Go.Proofs.YtbfimjncophcaaaDoor.Pr
namespace Go.Proofs.YtbfimjncophcaaaDoor.Pr
set_option linter.unusedVariables false
set_option linter.unusedSimpArgs false
open Go.RowKit Go.Proofs.YtbfimjncophcaaaDoorW.PrintWords
theorem wf_of_few2 {l0 : List S33} {l1 : List S25} (hf : FewP l0 l1) (hi : ∀ a ∈ l1, i64B a.f0 ∧ i64B a.f1) : ∀ a ∈ l1, Wf25 a := fun a ha => by
 have h1 := (hf.2.1 a ha).1
 exact ⟨(hi a ha).1, (hi a ha).2, by omega⟩
theorem missR_len (e : Int) (l0 : List S33) (l1 : List S25) (sub : ByteArray) (l3 : List Int) (win exc at_ : Int) : (missR e l0 l1 sub l3 win exc at_).1.length ≤ 9 * l3.length := by
 unfold missR
 split
 ·split
  ·refine missOut_lenb _ l3.length (fun r => ?_) 9
   have h1 := needOf_bounds l3 r
   have h2 := haveOf_bounds l0 l1 sub win exc at_ r
   unfold missF
   omega
  ·simp
 ·simp
theorem misses_true (l0 : List S33) (l1 : List S25) (sub : ByteArray) (l3 : List Int) (win exc at_ : Int) (hl0 : l0.length ≤ 9223372036854775807) (hl1 : l1.length ≤ 9223372036854775807) (hi : ∀ a ∈ l1, i64B a.f0 ∧ i64B a.f1) :
  ∃ k, garboardlaw58_ApprovalMisses.f k l0 l1 sub l3 win exc at_ = some true := by
 refine ⟨(20 * l0.length + 20 * l1.length + 20 * l3.length + 1000) + 1, ?_⟩
 unfold garboardlaw58_ApprovalMisses.f garboardlaw58_awake.f
 simp only [Option.bind_some, if_true]
 obtain ⟨b, hb, hf⟩ := few_f l0 l1 ((20 * l0.length + 20 * l1.length + 20 * l3.length + 1000) + 1) hl0 hl1 (by omega)
 rw [hb]
 simp only [Option.bind_some]
 have skip : garboardlaw58_ApprovalMisses.j0 ((20 * l0.length + 20 * l1.length + 20 * l3.length + 1000) + 1) l0 l1 sub at_ true l3 win exc = some true := by
  simp only [garboardlaw58_ApprovalMisses.j0, if_true]
 by_cases hbt : b = true
 ·rw [if_pos hbt]
  have hfew := hf hbt
  have hw := wf_of_few2 hfew hi
  obtain ⟨_, _, h17, h12⟩ := hfew
  by_cases hs : (sub.size : Int) > 40
  ·rw [if_pos hs, skip]
  rw [if_neg hs]
  by_cases h3 : (l3.length : Int) > 12
  ·rw [decide_eq_true h3, skip]
  rw [decide_eq_false h3]
  simp only [garboardlaw58_ApprovalMisses.j0]
  rw [if_neg (by simp)]
  unfold api_Signer_12.f api_Approval_13.f slices_Clone_int_int.f
  rw [if_pos (by omega), if_pos (by omega), if_pos (by omega)]
  simp only [Option.bind_some]
  unfold approval_Granted.f garboardref58_Granted.f
  rw [amiss_f l0 l1 sub l3 win exc at_ (by omega) hw, rmiss_f l0 l1 sub l3 win exc at_ _ (by omega) (by omega) (by omega) hw (by omega)]
  simp only [Option.bind_some]
  have hlen := missR_len (checkR l0 l1).2 l0 l1 sub l3 win exc at_
  rw [equal_f _ _ (by omega) (by omega)]
  simp only [Option.bind_some, if_true]
  split
  ·simp
  ·simp
 ·rw [if_neg hbt, skip]
end Go.Proofs.YtbfimjncophcaaaDoor.Pr
