/- Part 1 of 1: garboardlaw58.ApprovalForged (an approval of a right list that becomes one of another signer, tick or subject is refused at its place, or two texts with one code are shown; at most 17 signers, 12 approvals) answers true for every input, and each argument reads behind the call as before. The library's table of powers of ten is tied to the program's text by the card. -/
import Derived.Deep.RegionHeld3
import Derived.StillTailTactics
import Derived.SevenTiedAt
import Derived.Test.YtbfimjncophcaaaDoorCb3
namespace Go.Proofs.YtbfimjncophcaaaDoor.Pr
set_option linter.unusedVariables false
set_option linter.unusedSimpArgs false
open Go.RowKit Go.Proofs.YtbfimjncophcaaaDoorW.PrintWords Go.Proofs.YtbfimjncophcaaaDoorW.PrintLast Go.Proofs.YtbfimjncophcaaaDoorW.PrintMore
attribute [local go_sem high] eqA25
theorem R_at5 {α : Type} {d : Kd α} {e : TypeId} {w : World} {base : Nat} {ok : Nat → Prop} {A : Option Addr} {n c : Nat} {xs : List α} (h : d.R e w base ok (.slice A n c) xs) (hn : 0 < n) : ∃ g, A = some ⟨g, 0, none⟩ := by
 obtain ⟨_, inner, hown, _⟩ := h
 rcases hown.2 with ⟨hv, _⟩ | ⟨g, cap, cur, hv, _⟩
 ·injection hv
  omega
 ·injection hv with ha
  exact ⟨g, ha⟩
theorem cells4 {w : World} {g i : Nat} {v0 v1 v2 v3 : Value} (q0 : w.cell? ⟨g, i * 4, none⟩ = some v0) (q1 : w.cell? ⟨g, i * 4 + 1, none⟩ = some v1) (q2 : w.cell? ⟨g, i * 4 + 2, none⟩ = some v2) (q3 : w.cell? ⟨g, i * 4 + 3, none⟩ = some v3) :
  ∀ j u, ([v0, v1, v2, v3] : List Value)[j]? = some u → w.cell? ⟨g, (i : Int).toNat * 4 + j, none⟩ = some u := by
 intro j u hj
 rw [Int.toNat_natCast]
 rcases j with _ | _ | _ | _ | j
 ·simp at hj; subst hj; exact q0
 ·simp at hj; subst hj; exact q1
 ·simp at hj; subst hj; exact q2
 ·simp at hj; subst hj; exact q3
 ·simp at hj
theorem chk_skip (l0 : List S33) (l1 : List S25) : ∀ m i, (chkV l0 l1 m i).2 = 0 → ∀ j, i ≤ j → j < i + m → faultC l0 (l1.take j) (rd_T25 l1 (j : Int)) = 0
 | 0, i, _, j, h1, h2 => by omega
 | m + 1, i, h, j, h1, h2 => by
  unfold chkV at h
  by_cases c : faultC l0 (l1.take i) (rd_T25 l1 (i : Int)) = 0
  ·rw [if_pos c] at h
   by_cases e : j = i
   ·subst e; exact c
   ·exact chk_skip l0 l1 m (i + 1) h j (by omega) (by omega)
  ·rw [if_neg c] at h
   exact absurd h c
theorem chk_to (l0 : List S33) (l2 : List S25) (i : Nat) : ∀ n m j, j + n = i → (∀ q, j ≤ q → q < i → faultC l0 (l2.take q) (rd_T25 l2 (q : Int)) = 0) → chkV l0 l2 (m + n) j = chkV l0 l2 m i
 | 0, m, j, hj, h => by
  obtain rfl : j = i := by omega
  rfl
 | n + 1, m, j, hj, h => by
  rw [← Nat.add_assoc]
  conv => lhs; unfold chkV
  rw [if_pos (h j (Nat.le_refl _) (by omega))]
  exact chk_to l0 l2 i n m (j + 1) (by omega) (fun q h1 h2 => h q (by omega) h2)
theorem forged_plain (l0 : List S33) (l1 : List S25) (e1 : Int) (h : checkR l0 l1 = (e1, 0)) (i : Nat) (hi : i < l1.length) (h12 : l1.length ≤ 12) (a : S25) (hn : ¬ ((checkR l0 (l1.set i a)).2 ≠ 0 ∧ (checkR l0 (l1.set i a)).1 = (i : Int))) : rightB l0 = true ∧ faultC l0 (l1.take i) a = 0 := by
 have hr := checkR_right l0 l1 (by rw [h])
 refine ⟨hr, ?_⟩
 have hc : (chkV l0 l1 l1.length 0).2 = 0 := by
  unfold checkR at h
  rw [if_pos hr, if_neg (by omega)] at h
  rw [h]
 have hs := chk_skip l0 l1 l1.length 0 hc
 have h2 : checkR l0 (l1.set i a) = chkV l0 (l1.set i a) ((l1.length - i) + i) 0 := by
  unfold checkR
  rw [if_pos hr, if_neg (by rw [List.length_set]; omega), List.length_set, show l1.length - i + i = l1.length by omega]
 rw [chk_to l0 (l1.set i a) i i (l1.length - i) 0 (by omega) (fun q h1 h2 => by
  have := hs q (by omega) (by omega)
  rw [rd25_get _ q (by rw [List.length_set]; omega), List.getElem_set_ne (by omega), List.take_set_of_le (by omega)]
  rwa [rd25_get _ q (by omega)] at this)] at h2
 obtain ⟨m, hm⟩ : ∃ m, l1.length - i = m + 1 := ⟨l1.length - i - 1, by omega⟩
 rw [hm] at h2
 unfold chkV at h2
 rw [rd25_get _ i (by rw [List.length_set]; omega), List.getElem_set_self, List.take_set_of_le (by omega)] at h2
 by_cases c : faultC l0 (l1.take i) a = 0
 ·exact c
 ·rw [if_neg c] at h2
  rw [h2] at hn
  exact absurd ⟨c, rfl⟩ hn
theorem faultC_zero (l0 : List S33) (l1 : List S25) (a : S25) (h : faultC l0 l1 a = 0) : 0 ≤ fidx (fun x => x.f0 == a.f0) l0 0 ∧ a.f3.toList = (codeOf (keyOf l0 a.f0) a.f0 a.f1 a.f2).toList := by
 unfold faultC at h
 by_cases c : faultA l0 l1 a.f0 a.f1 a.f2 = 0
 ·rw [if_pos c] at h
  refine ⟨faultA_found l0 l1 a c, ?_⟩
  by_cases e : a.f3.toList = (codeOf (keyOf l0 a.f0) a.f0 a.f1 a.f2).toList
  ·exact e
  ·rw [if_neg e] at h
   omega
 ·rw [if_neg c] at h
  exact absurd h c
theorem Code_f (key : ByteArray) (s t : Int) (sub c : ByteArray) (hk1 : 1 ≤ key.size) (hk2 : key.size ≤ 64) (hs : i64B s) (ht : i64B t) (hsub : sub.size ≤ 1000000) : approval_Code.f key s t sub c = some (codeOf key s t sub, 0) := by
 unfold approval_Code.f
 rw [if_neg (by omega), if_neg (by omega), code_f _ _ _ _ _ (by omega) hs ht hsub]
 rfl
set_option maxRecDepth 100000 in
theorem pred25 (id : Int) (B : Nat) (w : World) (hB : B < w.heap.size) (hcell : w.cell? ⟨B, 0, none⟩ = some (.int .i64 id)) :
  PredB Tryd.prog 25 #[.pointer (some ⟨B, 0, none⟩)] (fun x : S33 => .agg #[.int .i64 x.f0, .int .i64 x.f1, .string x.f2, .string x.f3]) (fun x => x.f0 == id) w := fun W x hb => by
 have hc : W.cell? ⟨B, 0, none⟩ = some (.int .i64 id) := (hb.cell (p := ⟨B, 0, none⟩) hB).trans hcell
 have hBW : B < W.heap.size := Nat.lt_of_lt_of_le hB hb.size
 have hne : B ≠ W.heap.size := by omega
 clear hcell
 show Calls Tryd.prog 25 #[.agg #[.int .i64 x.f0, .int .i64 x.f1, .string x.f2, .string x.f3], .pointer (some ⟨B, 0, none⟩)] W _
 go_enter Tryd.func25, Tryd.ntmps25
 go_wp2
 all_goals (go_ret; exact ⟨rfl, hb.alloc hb.size _⟩)
theorem wf_few5 {l0 : List S33} {l1 : List S25} (hf : FewP l0 l1) (hi : ∀ a ∈ l1, i64B a.f0 ∧ i64B a.f1) : ∀ a ∈ l1, Wf25 a := fun a ha => by
 have h1 := (hf.2.1 a ha).1
 exact ⟨(hi a ha).1, (hi a ha).2, by omega⟩
set_option maxHeartbeats 4000000 in
set_option maxRecDepth 100000 in
theorem forged_walk (A0 : Option Addr) (c0 : Nat) (l0 : List S33) (A1 : Option Addr) (c1 : Nat) (l1 : List S25) (at_ : Int) (s t : Int) (sub c : ByteArray) (w : World)
  (hr0 : Kd.C k33 w A0 l0.length l0) (hc0 : l0.length ≤ c0) (hr1 : Kd.C k25 w A1 l1.length l1) (hc1 : l1.length ≤ c1) (hat : 0 ≤ at_ ∧ at_ ≤ 255) (hi : ∀ a ∈ l1, i64B a.f0 ∧ i64B a.f1) (ha : i64B s ∧ i64B t) (hL : LaidW w) :
  Calls Tryd.prog 5 #[.slice A0 l0.length c0, .slice A1 l1.length c1, .int .u8 at_, .agg #[.int .i64 s, .int .i64 t, .string sub, .string c]] w fun e w' => e = .returned (.bool true) ∧ Below w.heap.size w w' := by
 have hm0 := hr0.2.1
 have hm1 := hr1.2.1
 obtain ⟨b, hb, hF⟩ := few_f l0 l1 (l0.length + l1.length + 2) hm0 hm1 (by omega)
 have HFW := Aside0.mk (fun W (hW : Below w.heap.size w W) => garboardref58_Few.calls (l0.length + l1.length + 2) A0 c0 l0 A1 c1 l1 b W (Kd.C_below hr0 hW) hc0 (Kd.C_below hr1 hW) hc1 hb)
 have HF := Aside0.mk hF
 have HR0 := Aside0.mk hr0
 have HR1 := Aside0.mk hr1
 have HL := Aside0.mk hL
 have HI := Aside0.mk hi
 have HA := Aside0.mk ha
 have HC0 := Aside0.mk hc0
 have HC1 := Aside0.mk hc1
 clear hb hF hr0 hr1 hL hi ha hc0 hc1
 go_enter Tryd.func5, Tryd.ntmps5
 go_wp2_with fail
 have hB0 : Below w.heap.size w (w.alloc (.cells #[.int .i64 s, .int .i64 t, .string sub, .string c] 25)) := below_alloc (Below.refl _ _) _
 refine (garboardlaw58_awake.calls true _ (HL.out.below hB0) rfl).mono ?_
 rintro e w1 ⟨rfl, hb1⟩
 have M := Aside0.mk (blk_below (blk_new w (.cells #[.int .i64 s, .int .i64 t, .string sub, .string c] 25)) hb1)
 have HB := Aside0.mk (below_step hB0 hb1)
 clear hB0 hb1
 go_wp2_with fail
 refine (HFW.out _ HB.out).mono ?_
 rintro e w2 ⟨rfl, ⟨n2, rfl⟩⟩
 replace HB := Aside0.mk (pw_below_drewN HB.out n2)
 replace M := Aside0.mk (blk_drewN M.out n2)
 generalize w1.drewN n2 = w2 at HB M ⊢
 clear HFW
 cases b with
 | false =>
  clear HF
  go_wp2_with fail
  go_ret
  exact ⟨rfl, HB.out⟩
 | true =>
  have hfew := HF.out rfl
  have HW := Aside0.mk (wf_few5 hfew HI.out)
  obtain ⟨_, _, h17, h12⟩ := hfew
  have k2 : w2.cell? ⟨w.heap.size, 2, none⟩ = some (.string sub) := blk_cell M.out 2
  by_cases h40 : (sub.size : Int) > 40
  ·have h40' : 40 < (sub.size : Int) := h40
   go_wp2_with fail
   go_ret
   exact ⟨rfl, HB.out⟩
  have h40' : ¬ 40 < (sub.size : Int) := h40
  by_cases hz : l1.length = 0
  ·have hz' : (l1.length : Int) = 0 := by omega
   go_wp2_with fail
   go_ret
   exact ⟨rfl, HB.out⟩
  have hz' : ¬ (l1.length : Int) = 0 := by omega
  have hz2 : ((l1.length : Int) == 0) = false := by simpa using hz
  go_wp2_with fail
  clear k2 HF
  have hcl0 : api_Signer_12.f l0 = some l0 := by unfold api_Signer_12.f; rw [if_pos (by omega)]
  have hcl1 : api_Approval_13.f l1 = some l1 := by unfold api_Approval_13.f; rw [if_pos (by omega)]
  refine (api_Signer_12.calls A0 c0 l0 l0 _ (Kd.C_below HR0.out HB.out) HC0.out hcl0).mono ?_
  rintro e w3 ⟨v3, rfl, ho3, hb3⟩
  replace HB := Aside0.mk (below_step HB.out hb3)
  replace M := Aside0.mk (blk_below M.out hb3)
  clear hb3
  obtain ⟨A3, c3, hv3⟩ := Kd.R_slice ho3
  subst hv3
  have hc3 := (Kd.R_reads' ho3).2.1
  have HC3 := Aside0.mk (Kd.R_reads' ho3).2.2
  clear ho3
  go_wp2_with fail
  refine (api_Approval_13.calls A1 c1 l1 l1 _ (Kd.C_below HR1.out HB.out) HC1.out hcl1).mono ?_
  rintro e w4 ⟨v4, rfl, ho4, hb4⟩
  replace HB := Aside0.mk (below_step HB.out hb4)
  replace M := Aside0.mk (blk_below M.out hb4)
  replace HC3 := Aside0.mk (Kd.C_below HC3.out hb4)
  clear hb4
  obtain ⟨A4, c4, hv4⟩ := Kd.R_slice ho4
  subst hv4
  have hc4 := (Kd.R_reads' ho4).2.1
  have HC4 := Aside0.mk (Kd.R_reads' ho4).2.2
  clear ho4
  go_wp2_with fail
  obtain ⟨e1, e2, hE⟩ : ∃ e1 e2, checkR l0 l1 = (e1, e2) := ⟨_, _, rfl⟩
  have HE := Aside0.mk hE
  have hck : approval_Check.f (l1.length + 2) l0 l1 = some (e1, e2) := by rw [acheck_f l0 l1 _ (by omega) HW.out (by omega), hE]
  clear hE
  refine (approval_Check.calls (l1.length + 2) A3 c3 l0 A4 c4 l1 e1 e2 _ HC3.out hc3 HC4.out hc4 (HL.out.below HB.out) hck).mono ?_
  rintro e w5 ⟨rfl, hb5⟩
  replace HB := Aside0.mk (below_step HB.out hb5)
  replace M := Aside0.mk (blk_below M.out hb5)
  clear hb5 HC3 HC4 hc3 hc4 hck
  by_cases h2 : e2 = 0
  case neg =>
   go_wp2_with fail
   go_ret
   exact ⟨rfl, HB.out⟩
  subst h2
  obtain ⟨i, hi, hil⟩ : ∃ i : Nat, Int.tmod at_ (l1.length : Int) = (i : Int) ∧ i < l1.length := by
   refine ⟨(Int.tmod at_ (l1.length : Int)).toNat, ?_, ?_⟩
   ·have := Int.tmod_nonneg (l1.length : Int) hat.1
    omega
   ·have h1 := Int.tmod_nonneg (l1.length : Int) hat.1
    have h2 := Int.tmod_lt_of_pos at_ (show 0 < (l1.length : Int) by omega)
    omega
  have hilz : (i : Int) < (l1.length : Int) := by omega
  obtain ⟨ad, e, q0, q1, q2, q3⟩ := at_T25 (Kd.C_below HR1.out HB.out) i (by omega) hilz
  cases e
  simp only [Int.toNat_natCast] at q0 q1 q2 q3
  generalize hx : rd_T25 l1 (i : Int) = x at q0 q1 q2 q3
  obtain ⟨x0, x1, x2, x3⟩ := x
  simp only at q0 q1 q2 q3
  have HX := Aside0.mk hx
  clear hx
  have k3 : w5.cell? ⟨w.heap.size, 3, none⟩ = some (.string c) := blk_cell M.out 3
  have kf : w5.frozen? ⟨w.heap.size, 3, none⟩ = false := blk_frozen M.out 3
  go_wp2_with fail
  have hb6 : Below w.heap.size w (w5.setCell ⟨w.heap.size, 3, none⟩ (.string x3)) := below_set HB.out (Nat.le_refl _)
  have hm6 := blk_put M.out 3 (.string x3) (cs' := #[.int .i64 s, .int .i64 t, .string sub, .string x3]) rfl
  clear M HB k3 kf q0 q1 q2 q3
  generalize w5.setCell ⟨w.heap.size, 3, none⟩ (.string x3) = w6 at hb6 hm6 ⊢
  have M := Aside0.mk hm6
  have HB := Aside0.mk hb6
  clear hm6 hb6
  have q := at_T25 (Kd.C_below HR1.out HB.out) i (by omega) hilz
  rw [HX.out] at q
  obtain ⟨ad', e, q0, q1, q2, q3⟩ := q
  cases e
  simp only [Int.toNat_natCast] at q0 q1 q2 q3
  have k0 : w6.cell? ⟨w.heap.size, 0, none⟩ = some (.int .i64 s) := blk_cell M.out 0
  have k1 : w6.cell? ⟨w.heap.size, 1, none⟩ = some (.int .i64 t) := blk_cell M.out 1
  have k2 : w6.cell? ⟨w.heap.size, 2, none⟩ = some (.string sub) := blk_cell M.out 2
  have k3 : w6.cell? ⟨w.heap.size, 3, none⟩ = some (.string x3) := blk_cell M.out 3
  go_quiet (fail)
  replace M := Aside0.mk (blk_drewN M.out nq)
  replace HB := Aside0.mk (pw_below_drewN HB.out nq)
  clear q0 q1 q2 q3 k0 k1 k2 k3
  generalize w6.drewN nq = w7 at M HB ⊢
  generalize hsame : (s == x0 && (t == x1 && (sub.toList == x2.toList))) = z
  clear hsame
  cases z with
  | true =>
   go_wp2_with fail
   go_ret
   exact ⟨rfl, HB.out⟩
  | false =>
  go_wp2_with fail
  refine (api_Approval_13.calls (some ad) c1 l1 l1 _ (Kd.C_below HR1.out HB.out) HC1.out hcl1).mono ?_
  rintro e w8 ⟨v8, rfl, ho8, hb8⟩
  have M7 := M
  replace M := Aside0.mk (blk_below M.out hb8)
  obtain ⟨A8, c8, hv8⟩ := Kd.R_slice ho8
  subst hv8
  obtain ⟨g, hg⟩ := R_at5 ho8 (by omega)
  subst hg
  have HC8 := Aside0.mk (Kd.R_reads' ho8).2.2
  have hc8 := (Kd.R_reads' ho8).2.1
  have q := at_T25 HC8.out i (by omega) hilz
  rw [HX.out] at q
  obtain ⟨ad', e, q0, q1, q2, q3⟩ := q
  cases e
  have hadd : (⟨g, 0, none⟩ : Addr).add (i * 4) = ⟨g, i * 4, none⟩ := by unfold Addr.add; split <;> simp <;> omega
  simp only [Int.toNat_natCast, hadd] at q0 q1 q2 q3
  have k0 : w8.cell? ⟨w.heap.size, 0, none⟩ = some (.int .i64 s) := blk_cell M.out 0
  have k1 : w8.cell? ⟨w.heap.size, 1, none⟩ = some (.int .i64 t) := blk_cell M.out 1
  have k2 : w8.cell? ⟨w.heap.size, 2, none⟩ = some (.string sub) := blk_cell M.out 2
  have k3 : w8.cell? ⟨w.heap.size, 3, none⟩ = some (.string x3) := blk_cell M.out 3
  go_wp2_with (first | ((with_reducible refine gate_ (.store 25 (.tmp 67) (.tmp 66)) rfl ?_); go_loud (refine Kd.R_store k25 (w0 := w7) w7.heap.size rfl rfl 25 (.tmp 67) (.tmp 66) rfl 25 (g := g) (n := l1.length) (cap := c8) (o' := i * 4) (i : Int) 0 l1 ⟨s, t, sub, x3⟩ (.agg #[.int .i64 s, .int .i64 t, .string sub, .string x3]) [.int .i64 s, .int .i64 t, .string sub, .string x3] [.int .i64 x0, .int .i64 x1, .string x2, .string x3] (fun _ => True) (fun _ => False) ?haddr ?hoff ?hx rfl (by kernel_rfl) (by simp [Value.oneCell']) ho8 (by omega) hilz rfl ?hcc (show 4 ≤ 4 from Nat.le_refl _) (k25_mkM _ _ _ _) (fun _ h => h.elim) hb8 ?_); (case haddr => first | (go_simp; done) | (go_simp; rfl)); (case hoff => show i * 4 = (i : Int).toNat * 4 + 0; omega); (case hx => first | (go_simp; done) | (go_simp; rfl)); (case hcc => exact cells4 q0 q1 q2 q3); intro w9 ho9 hb9 hg9))
  replace HB := Aside0.mk (below_step HB.out hb9)
  replace M := Aside0.mk (blk_below M7.out hb9)
  clear M7 hb8 hb9 hg9 ho8 HC8 k0 k1 k2 k3 q0 q1 q2 q3
  rw [Int.toNat_natCast] at ho9
  obtain ⟨e3, e4, hE2⟩ : ∃ e3 e4, checkR l0 (l1.set i ⟨s, t, sub, x3⟩) = (e3, e4) := ⟨_, _, rfl⟩
  have hlen : (l1.set i ⟨s, t, sub, x3⟩).length = l1.length := List.length_set
  have hW2 : ∀ a ∈ l1.set i ⟨s, t, sub, x3⟩, Wf25 a := fun a ha => by
   rcases List.mem_or_eq_of_mem_set ha with h | rfl
   ·exact HW.out a h
   ·exact ⟨HA.out.1, HA.out.2, by show sub.size ≤ 1000000; omega⟩
  have hck : approval_Check.f (l1.length + 2) l0 (l1.set i ⟨s, t, sub, x3⟩) = some (e3, e4) := by rw [acheck_f l0 _ _ (by omega) hW2 (by omega), hE2]
  have hP := Aside0.mk (forged_plain l0 l1 e1 HE.out i hil h12 ⟨s, t, sub, x3⟩)
  rw [hE2] at hP
  clear hE2 hW2
  have HR9 := Aside0.mk (Kd.R_reads' ho9).2.2
  clear ho9
  generalize l1.set i ⟨s, t, sub, x3⟩ = l2 at hck HR9 hlen
  refine (api_Signer_12.calls A0 c0 l0 l0 _ (Kd.C_below HR0.out HB.out) HC0.out hcl0).mono ?_
  rintro e w10 ⟨v10, rfl, ho10, hb10⟩
  replace HB := Aside0.mk (below_step HB.out hb10)
  replace M := Aside0.mk (blk_below M.out hb10)
  replace HR9 := Aside0.mk (Kd.C_below HR9.out hb10)
  clear hb10
  obtain ⟨A10, c10, hv10⟩ := Kd.R_slice ho10
  subst hv10
  have hc10 := (Kd.R_reads' ho10).2.1
  have HC10 := Aside0.mk (Kd.R_reads' ho10).2.2
  clear ho10
  go_wp2_with fail
  have hcall := approval_Check.calls (l1.length + 2) A10 c10 l0 (some ⟨g, 0, none⟩) c8 l2 e3 e4 _ HC10.out hc10 HR9.out (by omega) (HL.out.below HB.out) hck
  rw [hlen] at hcall
  refine hcall.mono ?_
  clear hcall
  rintro e w11 ⟨rfl, hb11⟩
  replace HB := Aside0.mk (below_step HB.out hb11)
  replace M := Aside0.mk (blk_below M.out hb11)
  clear hb11 HR9 HC10 hc10 hck
  have eg25 : ∀ args w, (callFunc 25 args).run Tryd.prog w = .ok (.enter 25 args) w := enters_of Tryd.func25 (by kernel_rfl) rfl
  have HE4 := Aside0.mk eg25
  clear eg25
  by_cases hret : e4 ≠ 0 ∧ e3 = (i : Int)
  ·obtain ⟨h4, h3⟩ := hret
   subst h3
   go_wp2_with fail
   go_ret
   exact ⟨rfl, HB.out⟩
  have hfc := hP.out hret
  have hft := faultC_zero _ _ _ hfc.2
  have hks := key_size l0 s hfc.1 hft.1
  have hcd := Code_f (keyOf l0 s) s t sub x3 hks.1 hks.2 HA.out.1 HA.out.2 (by omega)
  have hx3 : (codeOf (keyOf l0 s) s t sub).toList = x3.toList := hft.2.symm
  unfold keyOf at hcd hx3
  obtain ⟨n, hn⟩ : ∃ n : Nat, fidx (fun x : S33 => x.f0 == s) l0 0 = (n : Int) := ⟨(fidx (fun x : S33 => x.f0 == s) l0 0).toNat, by have := hft.1; simp only at this; omega⟩
  have hnl : (n : Int) < (l0.length : Int) := by
   rcases fidx_bound l0 (fun x => x.f0 == s) with h | h
   ·omega
   ·have := hft.1; simp only at this; omega
  rw [hn] at hcd hx3
  have HN := Aside0.mk hn
  generalize hkey : (rd_T33 l0 (n : Int)).f3 = key at hcd hx3
  generalize codeOf key s t sub = code at hcd hx3
  have hn0 : ¬ (n : Int) < 0 := by omega
  have HK := Aside0.mk hkey
  have HCD := Aside0.mk hcd
  clear hkey hcd hfc hft hks hP hn
  have hcases : e4 = 0 ∨ (¬ e4 = 0 ∧ ¬ e3 = (i : Int)) := by
   by_cases h : e4 = 0
   ·exact .inl h
   ·exact .inr ⟨h, fun h2 => hret ⟨h, h2⟩⟩
  clear hret
  rcases hcases with h4 | ⟨h4, h3⟩
  all_goals
   try subst h4
   try (have h3b : (e3 == (i : Int)) = false := by simpa using h3)
   go_wp2_with fail
   refine (idxFunc24 (fun x => x.f0 == s) 25 #[.pointer (some ⟨w.heap.size, 0, none⟩)] HE4.out A0 c0 l0 _ (Kd.C_below HR0.out HB.out) (pred25 s w.heap.size _ (blk_lt M.out) (blk_cell M.out 0))).mono ?_
   rw [HN.out]
   rintro e w12 ⟨rfl, hb12⟩
   replace HB := Aside0.mk (below_step HB.out hb12)
   replace M := Aside0.mk (blk_below M.out hb12)
   clear hb12
   obtain ⟨ad0, e, z0, z1, z2, z3⟩ := at_T33 (Kd.C_below HR0.out HB.out) n (by omega) hnl
   cases e
   rw [HK.out] at z3
   simp only [Int.toNat_natCast] at z0 z1 z2 z3
   clear z0 z1 z2
   have k0 : w12.cell? ⟨w.heap.size, 0, none⟩ = some (.int .i64 s) := blk_cell M.out 0
   have k1 : w12.cell? ⟨w.heap.size, 1, none⟩ = some (.int .i64 t) := blk_cell M.out 1
   have k2 : w12.cell? ⟨w.heap.size, 2, none⟩ = some (.string sub) := blk_cell M.out 2
   have k3 : w12.cell? ⟨w.heap.size, 3, none⟩ = some (.string x3) := blk_cell M.out 3
   go_wp2_with fail
   go_region_held3 (fun w' => w'.cell? ⟨(ad0.add (n * 4)).block, (ad0.add (n * 4)).off + 3, none⟩ = some (.string key) ∧ w'.cell? ⟨w.heap.size, 0, none⟩ = some (.int .i64 s) ∧ w'.cell? ⟨w.heap.size, 1, none⟩ = some (.int .i64 t) ∧ w'.cell? ⟨w.heap.size, 2, none⟩ = some (.string sub) ∧ w'.cell? ⟨w.heap.size, 3, none⟩ = some (.string x3))
    (first | exact ⟨z3, k0, k1, k2, k3⟩ | exact ⟨y3, p0, p1, p2, p3⟩)
    (first | (go_at_call 26; refine (approval_Code.calls key s t sub x3 code 0 _ (HL.out.below (below_drew1 HB.out)) HCD.out).mono ?_; rintro e w14 ⟨rfl, hb14⟩; have y3 := (hb14.cell (World.block_lt_of_cell? _ _ z3)).trans z3; have p0 := (hb14.cell (p := ⟨w.heap.size, 0, none⟩) (blk_lt M.out)).trans k0; have p1 := (hb14.cell (p := ⟨w.heap.size, 1, none⟩) (blk_lt M.out)).trans k1; have p2 := (hb14.cell (p := ⟨w.heap.size, 2, none⟩) (blk_lt M.out)).trans k2; have p3 := (hb14.cell (p := ⟨w.heap.size, 3, none⟩) (blk_lt M.out)).trans k3; have HB14 := Aside0.mk (below_step (below_drew1 HB.out) hb14); have M14 := Aside0.mk (blk_below (blk_drew M.out) hb14); clear hb14))
   replace HB := HB14
   replace M := M14
   clear HB14 M14 y3 p0 p1 p2 p3 k0 k1 k2 k3 z3
   have q := at_T25 (Kd.C_below HR1.out HB.out) i (by omega) hilz
   rw [HX.out] at q
   obtain ⟨ad', e, q0, q1, q2, q3⟩ := q
   cases e
   simp only [Int.toNat_natCast] at q0 q1 q2 q3
   have hcx : (code.toList == x3.toList) = true := by simpa using hx3
   go_wp2_with fail
   go_ret
   exact ⟨rfl, HB.out⟩
end Go.Proofs.YtbfimjncophcaaaDoor.Pr
namespace Go.Proofs.YtbfimjncophcaaaDoor.Pr
set_option linter.unusedVariables false
set_option linter.unusedSimpArgs false
open Go.ChangeShapes Go.WideShapes Go.ChangeAt Go.RowKit
set_option maxRecDepth 100000 in
theorem openU {H : Type} {enc : TypeId × Value → H} {W : World} {r : Reach} {b0 : Nat} {v : Value} {d : DataW H} {p : List MemPlace} (hv : Value.okWide Tryd.prog W r b0 5 v) (h : DataW.Trod enc Tryd.prog W 0 (fun _ => true) true 5 v d p) : ∃ s, v = .int .u8 s ∧ 0 ≤ s ∧ s ≤ 255 := by
 obtain ⟨s, e, _, _, hw⟩ := open_int Tryd.underlying5 hv h
 have := (Lit.wf_int_iff .u8 s).1 hw
 exact ⟨s, e, this⟩
set_option maxRecDepth 100000 in
theorem forged_lifted (os : Os) (started : os.Started) (H : Type) (enc : TypeId × Value → H) :
  ReturnsInHanded {} Tryd.checked os 5 .any (fun w args => (Rows.approvalForgedSpec.pre enc Tryd.prog Tryd.f5 [] false w args ∧ laidMetH Tryd.prog laid3 w) ∧ sizedMet enc Tryd.prog Tryd.f5 (OpenSpec.ofChange Rows.approvalForgedSpec) false w args)
   (Rows.approvalForgedSpec.post enc Tryd.prog Tryd.f5 false true false false) := by
 refine returnsInHanded_of_change_and (C := Tryd.checked) (X := fun w _ => laidMetH Tryd.prog laid3 w) (fun _ _ _ hh h => h.of_heap hh) own started (by kernel_rfl) Tryd.func5
  (ChangeSpec.witness_shaped (enc := enc) (C := Tryd.checked) (os := os) (X := fun w _ => laidMetH Tryd.prog laid3 w) false (World.doorLaid Tryd.prog 400 os) #[.slice none 0 0, .slice none 0 0, .int .u8 0, .agg #[.int .i64 0, .int .i64 0, .string ⟨#[]⟩, .string ⟨#[]⟩]] 8 rfl (World.shaped_of_RefB (by kernel_rfl) (by kernel_rfl)) (by kernel_rfl) (by kernel_rfl) (by kernel_rfl) (door_met os _)) ?_
 intro W base args ds gs before hval0 hW _ _ hL _
 have hval : ∀ (j : Nat) t v, Tryd.f5.params[j]? = some t → args[j]? = some v → Value.okWide Tryd.prog W .any base t v := hval0
 have hW' := hW
 obtain ⟨p, q, hA0, hV, rfl, hfz, hnd⟩ := hW
 have hA : DataW.TrodAll enc Tryd.prog W 0 (fun _ => true) true Tryd.f5.params.toList args.toList ds p := hA0
 rw [Tryd.params5] at hA hval
 obtain ⟨v0, vs0, d0, ds0, p0, q0, hargs, rfl, rfl, h0, r0⟩ := trodAll_cons hA
 obtain ⟨v1, vs1, d1, ds1, p1, q1, rfl, rfl, rfl, h1, r1⟩ := trodAll_cons r0
 obtain ⟨v2, vs2, d2, ds2, p2, q2, rfl, rfl, rfl, h2, r2⟩ := trodAll_cons r1
 obtain ⟨v3, vs3, d3, ds3, p3, q3, rfl, rfl, rfl, h3, r3⟩ := trodAll_cons r2
 obtain ⟨rfl, rfl, rfl⟩ := trodAll_nil r3
 obtain rfl : args = #[v0, v1, v2, v3] := by cases args; simp_all
 obtain ⟨rfl, rfl⟩ := trodVars_none hV
 have lt0 : ∀ x ∈ p0, x.block < W.heap.size := by obtain ⟨m, hm⟩ := h0; exact DataW.trod_lt m _ _ _ hm
 have lt1 : ∀ x ∈ p1, x.block < W.heap.size := by obtain ⟨m, hm⟩ := h1; exact DataW.trod_lt m _ _ _ hm
 have lt2 : ∀ x ∈ p2, x.block < W.heap.size := by obtain ⟨m, hm⟩ := h2; exact DataW.trod_lt m _ _ _ hm
 have lt3 : ∀ x ∈ p3, x.block < W.heap.size := by obtain ⟨m, hm⟩ := h3; exact DataW.trod_lt m _ _ _ hm
 have k0 := h0
 have k1 := h1
 have k2 := h2
 have k3 := h3
 obtain ⟨a0, len0, cap0, rfl⟩ := okWide_slice Tryd.underlying22 (hval 0 22 v0 rfl rfl)
 obtain ⟨a1, len1, cap1, rfl⟩ := okWide_slice Tryd.underlying23 (hval 1 23 v1 rfl rfl)
 obtain ⟨at_, rfl, wat⟩ := openU (hval 2 5 v2 rfl rfl) h2
 obtain ⟨s, t, u, c, rfl, ws, wt, wu, wc⟩ := openA (hval 3 25 v3 rfl rfl) h3
 obtain ⟨fuel0, hf0⟩ := h0
 obtain ⟨fuel1, hf1⟩ := h1
 obtain ⟨hl0, hm0, xs, rfl, hC0, hx0⟩ := open33 hf0
 obtain ⟨hl1, hm1, ys, rfl, hC1, hx1⟩ := open25 hf1
 have hT := laid_tab hL
 clear hA0 hval0 hval
 refine (forged_walk a0 cap0 xs a1 cap1 ys at_ s t u c W hC0 hl0 hC1 hl1 wat (fun a ha => ⟨i64_of_wf (hx1 a ha).1, i64_of_wf (hx1 a ha).2.1⟩) ⟨i64_of_wf ws, i64_of_wf wt⟩ hT).mono fun e W' ⟨he, bel⟩ => ?_
 subst he
 exact ⟨_, rfl, _, _, _, [], _, [], hW', trodAll_mk1 (shut_bool Tryd.underlying4 _), (trodAll_cons_mk (Below.trod laidOut (by kernel_rfl) (of_decide_eq_true (by kernel_rfl)) k0 bel lt0) (trodAll_cons_mk (Below.trod laidOut (by kernel_rfl) (of_decide_eq_true (by kernel_rfl)) k1 bel lt1) (trodAll_cons_mk (Below.trod laidOut (by kernel_rfl) (of_decide_eq_true (by kernel_rfl)) k2 bel lt2) (trodAll_cons_mk (Below.trod laidOut (by kernel_rfl) (of_decide_eq_true (by kernel_rfl)) k3 bel lt3) trodAll_mk0)))), rfl, bel.frame _, fun h => by cases h⟩
theorem forged_row : Rows.ApprovalForgedSaid :=
 OpenClaim.holds_of_wide 5 Tryd.f5 rfl rfl rfl rfl rfl rfl rfl ⟨rfl, rfl, rfl, rfl, rfl⟩ rfl rfl rfl rfl rfl (by kernel_rfl) Tryd.func5 (by kernel_rfl)
  (of_decide_eq_true (by kernel_rfl)) (by unfold Func.isWrapper; first | (rw [if_pos (by decide +kernel)]; kernel_rfl) | (rw [if_neg (by decide +kernel)]; exact ⟨rfl, rfl⟩))
  (fun os started H enc _ => forged_lifted os started H enc)
end Go.Proofs.YtbfimjncophcaaaDoor.Pr
namespace Go.Proofs.YtbfimjncophcaaaDoor
open Go
theorem approvalForged_card_holds : Rows.ApprovalForgedCardSaid :=
 Claim7.holds_tied_plain_at .later [] [.data, .data, .data] true (true, "ce235c4e514d4b9682cfb6f7306d1b58979f00263ffa218bc38fad6034842ff5") false
  Pr.forged_row (fun _ h => by cases h) (by kernel_rfl) (fun _ h => by cases h) approvalForged_row_tie rfl ⟨rfl, rfl⟩ (by kernel_rfl) rfl
  (fun f fn hf hfn => by
   obtain rfl : f = 5 := Option.some.inj ((show Tryd.prog.funcNamed "garboard/garboardlaw58.ApprovalForged" = some 5 by kernel_rfl).symm.trans hf) |>.symm
   obtain rfl : fn = Tryd.f5 := (Option.some.inj (Tryd.func5.symm.trans hfn)).symm
   exact ⟨by kernel_rfl, fun j t ht => by
    rw [Tryd.params5] at ht
    have hm : t ∈ [22, 23, 5, 25] := by simpa using Array.mem_of_getElem? ht
    have hall : ([22, 23, 5, 25].all fun u => !Tryd.prog.wantsStandIn u) = true := by kernel_rfl
    exact (show Tryd.prog.wantsStandIn t = false by simpa using List.all_eq_true.1 hall t hm)⟩)
  (by kernel_rfl)
end Go.Proofs.YtbfimjncophcaaaDoor
