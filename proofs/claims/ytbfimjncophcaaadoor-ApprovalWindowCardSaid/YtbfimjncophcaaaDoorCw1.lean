/- Part 1 of 1: garboardlaw58.ApprovalWindow (approvals that are too old, come later, or are of other subjects do not matter; at most 17 signers, 12 approvals, 12 roles) answers true for every input, and each argument reads behind the call as before. The library's table of powers of ten is tied to the program's text by the card. -/
import Derived.Laws.IdiomCopy
import Derived.Lib.SliceRun
import Derived.Deep.RegionHeld3
import Derived.SevenTiedAt
import Derived.Test.YtbfimjncophcaaaDoorCb3
namespace Go.Proofs.YtbfimjncophcaaaDoor.Pr
set_option linter.unusedVariables false
set_option linter.unusedSimpArgs false
open Go.RowKit Go.Proofs.YtbfimjncophcaaaDoorW.PrintWords
def baseA (l0 : List S33) (a : S25) : Prop := 0 ≤ fidx (fun x => x.f0 == a.f0) l0 0 ∧ (0 ≤ a.f1 ∧ a.f1 ≤ 1073741824) ∧ a.f2.size = 32 ∧ a.f3.toList = (codeOf (keyOf l0 a.f0) a.f0 a.f1 a.f2).toList
def pairA (b a : S25) : Prop := b.f1 ≤ a.f1 ∧ (b.f0 == a.f0 && (b.f2.toList == a.f2.toList && b.f1 == a.f1)) = false
theorem faultC_iff (l0 : List S33) (l : List S25) (a : S25) : faultC l0 l a = 0 ↔ baseA l0 a ∧ (0 < l.length → (rd_T25 l ((l.length : Int) - 1)).f1 ≤ a.f1) ∧ l.any (fun x => x.f0 == a.f0 && (x.f2.toList == a.f2.toList && x.f1 == a.f1)) = false := by
 unfold faultC faultA baseA
 by_cases c1 : fidx (fun x => x.f0 == a.f0) l0 0 < 0
 ·simp only [if_pos c1]
  constructor
  ·intro h; simp at h
  ·intro h; omega
 simp only [if_neg c1]
 by_cases c2 : ¬ (decide (0 ≤ a.f1) && decide (a.f1 ≤ 1073741824)) = true ∨ ¬ a.f2.size = 32
 ·simp only [if_pos c2]
  constructor
  ·intro h; simp at h
  ·intro h
   rcases c2 with c2 | c2
   ·exact absurd (by simp; omega) c2
   ·exact absurd h.1.2.2.1 c2
 simp only [if_neg c2]
 have c2' : (0 ≤ a.f1 ∧ a.f1 ≤ 1073741824) ∧ a.f2.size = 32 := by
  constructor
  ·by_cases h : (decide (0 ≤ a.f1) && decide (a.f1 ≤ 1073741824)) = true
   ·simpa using h
   ·exact absurd (Or.inl h) c2
  ·by_cases h : a.f2.size = 32
   ·exact h
   ·exact absurd (Or.inr h) c2
 by_cases c3 : 0 < l.length ∧ a.f1 < (rd_T25 l ((l.length : Int) - 1)).f1
 ·simp only [if_pos c3]
  constructor
  ·intro h; simp at h
  ·intro h
   have := h.2.1 c3.1
   omega
 simp only [if_neg c3]
 cases c4 : l.any (fun x => x.f0 == a.f0 && (x.f2.toList == a.f2.toList && x.f1 == a.f1)) with
 | true =>
  simp
 | false =>
  simp only [Bool.false_eq_true, if_false, if_true]
  constructor
  ·intro h
   have h4 : a.f3.toList = (codeOf (keyOf l0 a.f0) a.f0 a.f1 a.f2).toList := by
    by_cases e : a.f3.toList = (codeOf (keyOf l0 a.f0) a.f0 a.f1 a.f2).toList
    ·exact e
    ·rw [if_neg e] at h
     omega
   refine ⟨⟨by omega, c2'.1, c2'.2, h4⟩, fun hp => ?_, trivial⟩
   by_cases hx : a.f1 < (rd_T25 l ((l.length : Int) - 1)).f1
   ·exact absurd ⟨hp, hx⟩ c3
   ·omega
  ·intro h
   rw [if_pos h.1.2.2.2]
def goodL (l0 : List S33) (l : List S25) : Prop := (∀ a ∈ l, baseA l0 a) ∧ l.Pairwise pairA
theorem good_of (l0 : List S33) (l : List S25) (h : ∀ i (hi : i < l.length), faultC l0 (l.take i) l[i] = 0) : goodL l0 l := by
 refine ⟨fun a ha => ?_, ?_⟩
 ·obtain ⟨i, hi, rfl⟩ := List.getElem_of_mem ha
  exact ((faultC_iff _ _ _).1 (h i hi)).1
 ·have step : ∀ j (hj : j + 1 < l.length), l[j].f1 ≤ l[j + 1].f1 := fun j hj => by
   have := ((faultC_iff _ _ _).1 (h (j + 1) hj)).2.1 (by rw [List.length_take]; omega)
   rw [List.length_take, show ((min (j + 1) l.length : Nat) : Int) - 1 = (j : Int) by omega, rd25_get _ j (by rw [List.length_take]; omega), List.getElem_take] at this
   exact this
  have mono : ∀ i j (hj : j < l.length) (hij : i < j), (l[i]'(by omega)).f1 ≤ l[j].f1 := fun i j => by
   induction j with
   | zero => intro _ h; omega
   | succ j ih =>
    intro hj hij
    by_cases e : i = j
    ·subst e
     exact step i hj
    ·exact Int.le_trans (ih (by omega) (by omega)) (step j hj)
  rw [List.pairwise_iff_getElem]
  intro i j hi hj hij
  refine ⟨mono i j hj hij, ?_⟩
  have := ((faultC_iff _ _ _).1 (h j hj)).2.2
  rw [List.any_eq_false] at this
  have h2 := this l[i] (by rw [List.mem_take_iff_getElem]; exact ⟨i, by omega, rfl⟩)
  simpa using h2
theorem of_good (l0 : List S33) (l : List S25) (h : goodL l0 l) : ∀ i (hi : i < l.length), faultC l0 (l.take i) l[i] = 0 := fun i hi => by
 have hp := List.pairwise_iff_getElem.1 h.2
 rw [faultC_iff]
 refine ⟨h.1 _ (List.getElem_mem hi), fun hl => ?_, ?_⟩
 ·rw [List.length_take] at hl ⊢
  obtain ⟨j, rfl⟩ : ∃ j, i = j + 1 := ⟨i - 1, by omega⟩
  rw [show ((min (j + 1) l.length : Nat) : Int) - 1 = (j : Int) by omega, rd25_get _ j (by rw [List.length_take]; omega), List.getElem_take]
  exact (hp j (j + 1) (by omega) hi (by omega)).1
 ·rw [List.any_eq_false]
  intro x hx
  rw [List.mem_take_iff_getElem] at hx
  obtain ⟨j, hj, rfl⟩ := hx
  have := (hp j i (by omega) hi (by omega)).2
  rw [this]
  simp
theorem chkG_skip (l0 : List S33) (l1 : List S25) : ∀ m i, (chkV l0 l1 m i).2 = 0 → ∀ j, i ≤ j → j < i + m → faultC l0 (l1.take j) (rd_T25 l1 (j : Int)) = 0
 | 0, i, _, j, h1, h2 => by omega
 | m + 1, i, h, j, h1, h2 => by
  unfold chkV at h
  by_cases c : faultC l0 (l1.take i) (rd_T25 l1 (i : Int)) = 0
  ·rw [if_pos c] at h
   by_cases e : j = i
   ·subst e; exact c
   ·exact chkG_skip l0 l1 m (i + 1) h j (by omega) (by omega)
  ·rw [if_neg c] at h
   exact absurd h c
theorem chkG_all (l0 : List S33) (l2 : List S25) : ∀ m j, j + m = l2.length → (∀ q, j ≤ q → q < l2.length → faultC l0 (l2.take q) (rd_T25 l2 (q : Int)) = 0) → chkV l0 l2 m j = (-1, 0)
 | 0, j, hj, h => rfl
 | m + 1, j, hj, h => by
  unfold chkV
  rw [if_pos (h j (Nat.le_refl _) (by omega))]
  exact chkG_all l0 l2 m (j + 1) (by omega) (fun q h1 h2 => h q (by omega) h2)
theorem check_good (l0 : List S33) (l : List S25) (hl : l.length ≤ 1024) : (checkR l0 l).2 = 0 ↔ rightB l0 = true ∧ goodL l0 l := by
 constructor
 ·intro h
  have hr := checkR_right l0 l h
  refine ⟨hr, good_of l0 l fun i hi => ?_⟩
  unfold checkR at h
  rw [if_pos hr, if_neg (by omega)] at h
  have := chkG_skip l0 l l.length 0 h i (by omega) (by omega)
  rwa [rd25_get l i hi] at this
 ·intro h
  unfold checkR
  rw [if_pos h.1, if_neg (by omega), chkG_all l0 l l.length 0 (by omega) (fun q h1 h2 => by
   rw [rd25_get l q h2]
   exact of_good l0 l h.2 q h2)]
theorem good_filter (l0 : List S33) (l : List S25) (p : S25 → Bool) (h : goodL l0 l) : goodL l0 (l.filter p) := ⟨fun a ha => h.1 a (List.mem_filter.1 ha).1, h.2.filter p⟩
def strikeB (sub : ByteArray) (win at_ : Int) (x : S25) : Bool := !(x.f2.toList == sub.toList) || (decide (at_ < x.f1) || decide (x.f1 < at_ - win))
theorem counts_kept (sub : ByteArray) (win exc at_ id : Int) (l : List S25) : (l.filter fun x => !strikeB sub win at_ x).any (countsB sub win exc at_ id) = l.any (countsB sub win exc at_ id) := by
 induction l with
 | nil => rfl
 | cons a l ih =>
  rw [List.filter_cons, List.any_cons]
  by_cases h : (!strikeB sub win at_ a) = true
  ·rw [if_pos h, List.any_cons, ih]
  ·rw [if_neg h, ih]
   have : countsB sub win exc at_ id a = false := by
    unfold strikeB at h
    unfold countsB
    cases c1 : (a.f2.toList == sub.toList)
    ·simp
    ·by_cases c2 : a.f1 ≤ at_
     ·by_cases c3 : at_ - win ≤ a.f1
      ·exact absurd (by simp [c1]; omega) h
      ·simp [c3]
     ·simp [c2]
   rw [this, Bool.false_or]
theorem window_plain (l0 : List S33) (l1 : List S25) (sub : ByteArray) (l3 : List Int) (win exc at_ : Int) (hl : l1.length ≤ 12) (h : (missR (checkR l0 l1).2 l0 l1 sub l3 win exc at_).2 = 0) :
  missR (checkR l0 (l1.filter fun x => !strikeB sub win at_ x)).2 l0 (l1.filter fun x => !strikeB sub win at_ x) sub l3 win exc at_ = missR (checkR l0 l1).2 l0 l1 sub l3 win exc at_ := by
 have hc : (checkR l0 l1).2 = 0 := by
  by_cases c : (checkR l0 l1).2 = 0
  ·exact c
  ·unfold missR at h
   rw [if_neg (fun h => c h.1)] at h
   exact absurd h (by decide)
 have hg := (check_good l0 l1 (by omega)).1 hc
 have hc2 : (checkR l0 (l1.filter fun x => !strikeB sub win at_ x)).2 = 0 := (check_good l0 _ (by have := List.length_filter_le (fun x => !strikeB sub win at_ x) l1; omega)).2 ⟨hg.1, good_filter l0 l1 _ hg.2⟩
 rw [hc, hc2]
 unfold missR
 have hF : missF l0 (l1.filter fun x => !strikeB sub win at_ x) sub l3 win exc at_ = missF l0 l1 sub l3 win exc at_ := by
  funext r
  unfold missF haveOf
  simp only [counts_kept]
 rw [hF]
theorem missR_err (e : Int) (l0 : List S33) (l1 : List S25) (sub : ByteArray) (l3 : List Int) (win exc at_ : Int) (h : (missR e l0 l1 sub l3 win exc at_).2 ≠ 0) : (missR e l0 l1 sub l3 win exc at_).1 = [] := by
 unfold missR at h ⊢
 split
 ·rename_i h1
  rw [if_pos h1] at h
  split
  ·rename_i h2
   rw [if_pos h2] at h
   exact absurd rfl h
  ·rfl
 ·rfl
theorem missR_win (e : Int) (l0 : List S33) (l1 : List S25) (sub : ByteArray) (l3 : List Int) (win exc at_ : Int) (h : (missR e l0 l1 sub l3 win exc at_).2 = 0) : 0 ≤ win ∧ win ≤ 1073741824 ∧ 0 ≤ at_ ∧ at_ ≤ 1073741824 := by
 unfold missR at h
 split at h
 ·rename_i h1
  split at h
  ·rename_i h2
   have hv := h1.2
   have ht := h2.2
   unfold validB tickB at hv
   unfold tickB at ht
   simp only [Bool.and_eq_true, decide_eq_true_eq] at hv ht
   omega
  ·exact absurd h (by decide)
 ·exact absurd h (by decide)
end Go.Proofs.YtbfimjncophcaaaDoor.Pr
namespace Go.Proofs.YtbfimjncophcaaaDoor.Pr
set_option linter.unusedVariables false
set_option linter.unusedSimpArgs false
open Go.RowKit Go.Proofs.YtbfimjncophcaaaDoorW.PrintWords Go.Proofs.YtbfimjncophcaaaDoorW.PrintLast Go.Proofs.YtbfimjncophcaaaDoorW.PrintMore
theorem zero25 (w : World) : (zeroValue 25).run Tryd.prog w = .ok (.agg #[.int .i64 0, .int .i64 0, .string ⟨#[]⟩, .string ⟨#[]⟩]) w := by kernel_rfl
theorem run_clear25 (w : World) (ty : TypeId) (b o n c : Nat) (hn : 0 < n) (hc : ∀ j, j < n * 4 → (w.cell? ⟨b, o + j, none⟩).isSome = true) (hf : ∀ j, j < n * 4 → w.frozen? ⟨b, o + j, none⟩ = false) :
  (Builtin.clear_ #[23] ty #[.slice (some ⟨b, o, none⟩) n c]).run Tryd.prog w = .ok (.tuple #[]) (w.setCells b o (Builtin.zeroCells #[.int .i64 0, .int .i64 0, .string ⟨#[]⟩, .string ⟨#[]⟩] n).toList) := by
 have hl : (Builtin.zeroCells #[.int .i64 0, .int .i64 0, .string ⟨#[]⟩, .string ⟨#[]⟩] n).toList.length = n * 4 := by
  simp [Builtin.zeroCells]
 have h1 : ∀ v ∈ (Builtin.zeroCells #[.int .i64 0, .int .i64 0, .string ⟨#[]⟩, .string ⟨#[]⟩] n).toList, v.oneCell' = true := by
  intro v hv
  simp only [Builtin.zeroCells, Array.toList_map, List.mem_map] at hv
  obtain ⟨i, _, rfl⟩ := hv
  have e : i % 4 = 0 ∨ i % 4 = 1 ∨ i % 4 = 2 ∨ i % 4 = 3 := by omega
  rcases e with e | e | e | e <;> simp [e, Value.oneCell']
 have hst := run_storeCells_cells (P := Tryd.prog) b o (Builtin.zeroCells #[.int .i64 0, .int .i64 0, .string ⟨#[]⟩, .string ⟨#[]⟩] n).toList 0 w (by rw [hl]; simpa using hc) (by rw [hl]; simpa using hf) h1
 simp only [Nat.add_zero] at hst
 obtain ⟨m, rfl⟩ : ∃ m, n = m + 1 := ⟨n - 1, by omega⟩
 simp [Builtin.clear_, run_underlying Tryd.underlying23, zero25, Value.cells, hst]
theorem filt_take {p : S25 → Bool} {xs : List S25} {k : Nat} (hk : k < xs.length) (h : ∀ j z, j < k → xs[j]? = some z → p z = false) (hp : p (xs[k]'hk) = true) : (xs.take (k + 1)).filter (fun x => !p x) = xs.take k := by
 rw [List.take_add_one, List.getElem?_eq_getElem hk, List.filter_append]
 have h1 : (xs.take k).filter (fun x => !p x) = xs.take k := by
  rw [List.filter_eq_self]
  intro x hx
  obtain ⟨j, hj⟩ := List.getElem?_of_mem hx
  have hjl := (List.getElem?_eq_some_iff.1 hj).1
  rw [List.length_take] at hjl
  rw [List.getElem?_take_of_lt (by omega)] at hj
  rw [h j x (by omega) hj]
  rfl
 rw [h1]
 simp [hp]
theorem fidx_cases {α : Type} (p : α → Bool) : ∀ (xs : List α) (i : Nat), (fidx p xs i = -1 ∧ ∀ x ∈ xs, p x = false) ∨ ∃ k, ∃ hk : k < xs.length, fidx p xs i = ((i + k : Nat) : Int) ∧ p xs[k] = true ∧ ∀ j z, j < k → xs[j]? = some z → p z = false
 | [], i => .inl ⟨rfl, fun x hx => by simp at hx⟩
 | x :: xs, i => by
  cases h : p x with
  | true => exact .inr ⟨0, by simp, by unfold fidx; rw [if_pos h]; rfl, by simpa using h, fun j z hj => by omega⟩
  | false =>
   rcases fidx_cases p xs (i + 1) with ⟨e, ha⟩ | ⟨k, hk, e, ht, ha⟩
   ·refine .inl ⟨by unfold fidx; rw [if_neg (by rw [h]; simp), e], fun y hy => ?_⟩
    rcases List.mem_cons.1 hy with rfl | hy
    ·exact h
    ·exact ha y hy
   ·refine .inr ⟨k + 1, by simpa using hk, by unfold fidx; rw [if_neg (by rw [h]; simp), e]; congr 1; omega, by simpa using ht, fun j z hj hz => ?_⟩
    cases j with
    | zero =>
     simp at hz
     rw [← hz]
     exact h
    | succ j => exact ha j z (by omega) (by simpa using hz)
def PredW {α : Type} (P : Program) (g : Nat) (lb : Array Value) (enc : α → Value) (p : α → Bool) (w : World) : Prop :=
 ∀ (W : World) (x : α), Below w.heap.size w W → Calls P g (#[enc x] ++ lb) W fun e w' => e = .returned (.bool (p x)) ∧ Below W.heap.size W w'
theorem PredW.predB {α : Type} {P : Program} {g : Nat} {lb : Array Value} {enc : α → Value} {p : α → Bool} {w w1 : World} (h : PredW P g lb enc p w) (hb : Below w.heap.size w w1) : PredB P g lb enc p w1 := fun W x hW => by
 refine (h W x (below_step hb hW)).mono fun e w' ⟨h1, h2⟩ => ⟨h1, below_step hW h2⟩
theorem R_blk27 {α : Type} {d : Kd α} {e : TypeId} {w : World} {base : Nat} {ok : Nat → Prop} {b n c : Nat} {xs : List α} (h : d.R e w base ok (.slice (some ⟨b, 0, none⟩) n c) xs) (hn : 0 < n) : ∃ cur, w.heap[b]? = some (.cells cur e (0, 0)) ∧ cur.size = c * d.sz := by
 obtain ⟨_, inner, hown, _⟩ := h
 rcases hown.2 with ⟨hv, _⟩ | ⟨g, cap, cur, hv, hb, hh, hnc, hcm, hcs, _⟩
 ·cases hv
 ·injection hv with ha _ hc
  injection ha with ha
  injection ha with hg
  subst hg
  subst hc
  exact ⟨cur, hh, hcs⟩
theorem rd25_get' (l : List S25) (i : Nat) (h : i < l.length) : rd_T25 l (i : Int) = l[i] := by
 unfold rd_T25
 simp [List.getD, h]
theorem cells4' {w : World} {g i : Nat} {v0 v1 v2 v3 : Value} (q0 : w.cell? ⟨g, i * 4, none⟩ = some v0) (q1 : w.cell? ⟨g, i * 4 + 1, none⟩ = some v1) (q2 : w.cell? ⟨g, i * 4 + 2, none⟩ = some v2) (q3 : w.cell? ⟨g, i * 4 + 3, none⟩ = some v3) :
  ∀ j u, ([v0, v1, v2, v3] : List Value)[j]? = some u → w.cell? ⟨g, (i : Int).toNat * 4 + j, none⟩ = some u := by
 intro j u hj
 rw [Int.toNat_natCast]
 rcases j with _ | _ | _ | _ | j
 ·simp at hj; subst hj; exact q0
 ·simp at hj; subst hj; exact q1
 ·simp at hj; subst hj; exact q2
 ·simp at hj; subst hj; exact q3
 ·simp at hj
set_option maxHeartbeats 4000000 in
set_option maxRecDepth 100000 in
theorem deleteFunc27 (p : S25 → Bool) (g : Nat) (lb : Array Value) (eg : ∀ args w, (callFunc g args).run Tryd.prog w = .ok (.enter g args) w) (b c : Nat) (xs : List S25) (w0 w : World)
  (HO : Kd.R k25 25 w w0.heap.size (fun _ => True) (.slice (some ⟨b, 0, none⟩) xs.length c) xs) (HB : Below w0.heap.size w0 w)
  (hp : PredW Tryd.prog g lb (fun x : S25 => .agg #[.int .i64 x.f0, .int .i64 x.f1, .string x.f2, .string x.f3]) p w0) :
  Calls Tryd.prog 27 #[.slice (some ⟨b, 0, none⟩) xs.length c, .func (.func g) #[] lb] w
   fun e w' => ∃ n, e = .returned (.slice (some ⟨b, 0, none⟩) n c) ∧ n = (xs.filter fun x => !p x).length ∧ n ≤ c ∧ Kd.C k25 w' (some ⟨b, 0, none⟩) n (xs.filter fun x => !p x) ∧ Below w0.heap.size w0 w' := by
 have hmax := (Kd.R_reads' HO).2.2.2.1
 have hcap := (Kd.R_reads' HO).2.1
 have HC := Aside0.mk (Kd.R_reads' HO).2.2
 have hbg : w0.heap.size ≤ b := Kd.R_base HO b (by simp [Value.ownBlock])
 have HIX := Aside0.mk (idxFunc49 p g lb eg (some ⟨b, 0, none⟩) c xs w HC.out (hp.predB HB))
 have HR := Aside0.mk HO
 have HW := Aside0.mk HB
 have HP := Aside0.mk hp
 clear HO HB hp
 rcases fidx_cases p xs 0 with ⟨e1, hall⟩ | ⟨k0, hk0, e1, ht, hall⟩
 ·rw [e1] at HIX
  go_enter Tryd.func27, Tryd.ntmps27
  go_wp2_with fail
  refine HIX.out.mono ?_
  rintro e w1 ⟨rfl, hb1⟩
  go_wp2_with fail
  go_ret
  have hf : xs.filter (fun x => !p x) = xs := by
   rw [List.filter_eq_self]
   intro x hx
   rw [hall x hx]
   rfl
  rw [hf]
  exact ⟨_, rfl, rfl, hcap, Kd.C_below HC.out hb1, below_step HW.out hb1⟩
 ·rw [e1, Nat.zero_add] at HIX
  have hne : ((k0 : Int) == -1) = false := beq_eq_false_iff_ne.2 (by omega)
  have hk64 : k0 + 1 < 9223372036854775808 := by omega
  have hf0 := filt_take hk0 hall ht
  have HF0 := Aside0.mk hf0
  clear hf0 ht hall e1
  go_enter Tryd.func27, Tryd.ntmps27
  go_wp2_with fail
  refine HIX.out.mono ?_
  rintro e w1 ⟨rfl, hb1⟩
  replace HR := Aside0.mk (Kd.R_step HR.out (fun k _ hk => hb1.block k hk))
  replace HW := Aside0.mk (below_step HW.out hb1)
  clear hb1 HIX HC
  go_wp2_with fail
  go_loopg [5, 6, 7] xs.length (fun gg s5 s6 _ wr => ∃ (i j : Nat) (ys : List S25), s5 = .int .i64 i ∧ s6 = .int .i64 j ∧ j ≤ xs.length ∧ xs.length - j ≤ gg ∧ i < j ∧ ys.length = xs.length ∧ Aside0 (ys.take i = (xs.take j).filter (fun x => !p x)) ∧ Aside0 (ys.drop j = xs.drop j) ∧ Aside0 (Kd.R k25 25 wr w0.heap.size (fun _ => True) (.slice (some ⟨b, 0, none⟩) xs.length c) ys) ∧ Aside0 (Below w0.heap.size w0 wr))
  case atStart => exact ⟨k0, k0 + 1, xs, rfl, by go_num, by omega, by omega, by omega, rfl, ⟨HF0.out.symm⟩, ⟨rfl⟩, HR, HW⟩
  case round =>
   obtain ⟨i, j, ys, rfl, rfl, hj, hg, hij, hlen, HT, HD, HR, HW⟩ := hrel
   by_cases hlt : j < xs.length
   ·have hltz : (j : Int) < (xs.length : Int) := by omega
    have hadd : ∀ m : Nat, (⟨b, 0, none⟩ : Addr).add (m * 4) = ⟨b, m * 4, none⟩ := fun m => by unfold Addr.add; split <;> simp <;> omega
    obtain ⟨ad, e, q0, q1, q2, q3⟩ := at_T25 (Kd.R_reads' HR.out).2.2 j (by omega) (by omega)
    cases e
    simp only [Int.toNat_natCast, hadd] at q0 q1 q2 q3
    have hyx : ys.drop j = rd_T25 ys (j : Int) :: xs.drop (j + 1) ∧ xs[j]? = some (rd_T25 ys (j : Int)) := by
     have h1 := HD.out
     rw [List.drop_eq_getElem_cons (show j < ys.length by omega), List.drop_eq_getElem_cons hlt] at h1
     injection h1 with h1 h2
     rw [rd25_get' ys j (by omega), List.drop_eq_getElem_cons (show j < ys.length by omega), List.getElem?_eq_getElem hlt, h1, h2]
     exact ⟨rfl, rfl⟩
    have HYX := Aside0.mk hyx
    clear hyx hadd
    generalize rd_T25 ys (j : Int) = x at q0 q1 q2 q3 HYX
    obtain ⟨x0, x1, x2, x3⟩ := x
    simp only at q0 q1 q2 q3
    have htk : xs.take (j + 1) = xs.take j ++ [⟨x0, x1, x2, x3⟩] := by
     rw [List.take_add_one, HYX.out.2]
     rfl
    have hdk : ys.drop (j + 1) = xs.drop (j + 1) := by
     have h1 := HYX.out.1
     rw [← List.drop_drop, h1]
     rfl
    have HTK := Aside0.mk htk
    have HDK := Aside0.mk hdk
    clear htk hdk HYX
    have hcalls := fun (W : World) (hW : Below w0.heap.size w0 W) => HP.out W ⟨x0, x1, x2, x3⟩ hW
    have HCA := Aside0.mk hcalls
    clear hcalls
    cases hq : p ⟨x0, x1, x2, x3⟩ with
    | true =>
     have HQ := Aside0.mk hq
     clear hq
     go_wp2_with (first
      | ((with_reducible refine gate_dst (N := 7) rfl ?_); refine box_event rfl (N := 7) rfl (cs := #[.int .i64 0, .int .i64 0, .string ⟨#[]⟩, .string ⟨#[]⟩]) (t := 25) (by first | (go_simp; done) | (go_simp; rfl)) ?_; intro S hS w5 hb5 hB5; have hSlt : wr.heap.size ≤ S := (by rw [hS]; exact Nat.le_refl _); clear hS)
      | ((with_reducible refine gate_store (t := 25) (p := 7) (v := .tmp 25) rfl ?_); refine store_event rfl 25 (.tmp 7) (.tmp 25) rfl rfl S #[.int .i64 x0, .int .i64 x1, .string x2, .string x3] rfl rfl 25 _ hb5 (by kernel_rfl) (by rfl) (by simp [Value.oneCell']) ?_; intro w6 hb6 hG6; have hBl : Below wr.heap.size wr w6 := pw_below_grown hB5 _ hB5.size hG6 (fun k hk => by injection hk with hk; omega); have HR6 := Aside0.mk (Kd.R_step HR.out (fun k _ hk => hBl.block k hk)); have HW6 := Aside0.mk (below_step HW.out hBl); have BS := Aside0.mk hb6; have z0 : w6.cell? ⟨S, 0, none⟩ = some (.int .i64 x0) := blk_cell hb6 0; have z1 : w6.cell? ⟨S, 1, none⟩ = some (.int .i64 x1) := blk_cell hb6 1; have z2 : w6.cell? ⟨S, 2, none⟩ = some (.string x2) := blk_cell hb6 2; have z3 : w6.cell? ⟨S, 3, none⟩ = some (.string x3) := blk_cell hb6 3; clear hb5 hB5 hb6 hBl hG6 q0 q1 q2 q3))
     refine (HCA.out _ HW6.out).mono ?_
     rintro e w7 ⟨rfl, hb7⟩
     rw [HQ.out]
     replace HR6 := Aside0.mk (Kd.R_step HR6.out (fun k _ hk => hb7.block k hk))
     replace HW6 := Aside0.mk (below_step HW6.out hb7)
     clear hb7 z0 z1 z2 z3 BS
     go_wp2_with fail
     go_roundg (xs.length - (j + 1))
     case measure => omega
     case rel =>
      refine ⟨i, j + 1, ys, rfl, by go_num, by omega, by omega, by omega, hlen, ⟨?_⟩, HDK, HR6, HW6⟩
      rw [HTK.out, List.filter_append, ← HT.out]
      simp [HQ.out]
    | false =>
     have HQ := Aside0.mk hq
     clear hq
     go_wp2_with (first
      | ((with_reducible refine gate_dst (N := 7) rfl ?_); refine box_event rfl (N := 7) rfl (cs := #[.int .i64 0, .int .i64 0, .string ⟨#[]⟩, .string ⟨#[]⟩]) (t := 25) (by first | (go_simp; done) | (go_simp; rfl)) ?_; intro S hS w5 hb5 hB5; have hSlt : wr.heap.size ≤ S := (by rw [hS]; exact Nat.le_refl _); clear hS)
      | ((with_reducible refine gate_store (t := 25) (p := 7) (v := .tmp 25) rfl ?_); refine store_event rfl 25 (.tmp 7) (.tmp 25) rfl rfl S #[.int .i64 x0, .int .i64 x1, .string x2, .string x3] rfl rfl 25 _ hb5 (by kernel_rfl) (by rfl) (by simp [Value.oneCell']) ?_; intro w6 hb6 hG6; have hBl : Below wr.heap.size wr w6 := pw_below_grown hB5 _ hB5.size hG6 (fun k hk => by injection hk with hk; omega); have HR6 := Aside0.mk (Kd.R_step HR.out (fun k _ hk => hBl.block k hk)); have HW6 := Aside0.mk (below_step HW.out hBl); have BS := Aside0.mk hb6; have z0 : w6.cell? ⟨S, 0, none⟩ = some (.int .i64 x0) := blk_cell hb6 0; have z1 : w6.cell? ⟨S, 1, none⟩ = some (.int .i64 x1) := blk_cell hb6 1; have z2 : w6.cell? ⟨S, 2, none⟩ = some (.string x2) := blk_cell hb6 2; have z3 : w6.cell? ⟨S, 3, none⟩ = some (.string x3) := blk_cell hb6 3; clear hb5 hB5 hb6 hBl hG6 q0 q1 q2 q3))
     refine (HCA.out _ HW6.out).mono ?_
     rintro e w7 ⟨rfl, hb7⟩
     rw [HQ.out]
     replace HR6 := Aside0.mk (Kd.R_step HR6.out (fun k _ hk => hb7.block k hk))
     replace HW6 := Aside0.mk (below_step HW6.out hb7)
     replace BS := Aside0.mk (blk_below BS.out hb7)
     clear hb7 z0 z1 z2 z3
     have z0 : w7.cell? ⟨S, 0, none⟩ = some (.int .i64 x0) := blk_cell BS.out 0
     have z1 : w7.cell? ⟨S, 1, none⟩ = some (.int .i64 x1) := blk_cell BS.out 1
     have z2 : w7.cell? ⟨S, 2, none⟩ = some (.string x2) := blk_cell BS.out 2
     have z3 : w7.cell? ⟨S, 3, none⟩ = some (.string x3) := blk_cell BS.out 3
     have hiz : (i : Int) < (xs.length : Int) := by omega
     have hadd : ∀ m : Nat, (⟨b, 0, none⟩ : Addr).add (m * 4) = ⟨b, m * 4, none⟩ := fun m => by unfold Addr.add; split <;> simp <;> omega
     obtain ⟨ad, e, q0, q1, q2, q3⟩ := at_T25 (Kd.R_reads' HR6.out).2.2 i (by omega) (by omega)
     cases e
     simp only [Int.toNat_natCast, hadd] at q0 q1 q2 q3
     clear hadd
     generalize rd_T25 ys (i : Int) = o at q0 q1 q2 q3
     obtain ⟨o0, o1, o2, o3⟩ := o
     simp only at q0 q1 q2 q3
     go_wp2_with (first | ((with_reducible refine gate_ (.store 25 (.tmp 33) (.tmp 32)) rfl ?_); go_loud (refine Kd.R_store k25 (w0 := w0) w0.heap.size rfl rfl 25 (.tmp 33) (.tmp 32) rfl 25 (g := b) (n := xs.length) (cap := c) (o' := i * 4) (i : Int) 0 ys ⟨x0, x1, x2, x3⟩ (.agg #[.int .i64 x0, .int .i64 x1, .string x2, .string x3]) [.int .i64 x0, .int .i64 x1, .string x2, .string x3] [.int .i64 o0, .int .i64 o1, .string o2, .string o3] (fun _ => True) (fun _ => False) ?haddr ?hoff ?hx rfl (by kernel_rfl) (by simp [Value.oneCell']) HR6.out (by omega) hiz rfl ?hcc (show 4 ≤ 4 from Nat.le_refl _) (k25_mkM _ _ _ _) (fun _ h => h.elim) HW6.out ?_); (case haddr => first | (go_simp; done) | (go_simp; rfl)); (case hoff => show i * 4 = (i : Int).toNat * 4 + 0; omega); (case hx => first | (go_simp; done) | (go_simp; rfl)); (case hcc => exact cells4' q0 q1 q2 q3); intro w9 hR9 hW9 hG9; clear hG9 q0 q1 q2 q3 z0 z1 z2 z3))
     go_roundg (xs.length - (j + 1))
     case measure => omega
     case rel =>
      rw [Int.toNat_natCast] at hR9
      refine ⟨i + 1, j + 1, ys.set i ⟨x0, x1, x2, x3⟩, by go_num, by go_num, by omega, by omega, by omega, by rw [List.length_set]; exact hlen, ⟨?_⟩, ⟨?_⟩, ⟨hR9⟩, ⟨hW9⟩⟩
      ·rw [HTK.out, List.filter_append, ← HT.out, List.take_add_one, List.getElem?_set_self (by omega), List.take_set_of_le (Nat.le_refl _)]
       simp [HQ.out]
      ·rw [List.drop_set_of_lt (by omega)]
       exact HDK.out
   ·obtain rfl : j = xs.length := by omega
    have hltz : ¬ (xs.length : Int) < (xs.length : Int) := by omega
    obtain ⟨cur, hcur, hsz0⟩ := R_blk27 HR.out (by omega)
    have hsz : cur.size = c * 4 := hsz0
    clear hsz0
    have hcl := fun ty => run_clear25 wr ty b (i * 4) (xs.length - i) (c - i) (by omega) (fun m hm => by
     rw [cell_of_row wr b _ cur 25 (0, 0) hcur]
     simp
     omega) (fun m _ => blk_frozen hcur _)
    obtain ⟨Z, hZ⟩ : ∃ Z, Z = (Builtin.zeroCells #[.int .i64 0, .int .i64 0, .string ⟨#[]⟩, .string ⟨#[]⟩] (xs.length - i)).toList := ⟨_, rfl⟩
    rw [← hZ] at hcl
    clear hZ hcur hsz
    have hiz : (i : Int) ≤ (xs.length : Int) := by omega
    have hiz2 : (0 : Int) ≤ (i : Int) := by omega
    have hil : i ≤ xs.length := by omega
    have hic : ¬ c = i := by omega
    have hadd : (⟨b, 0, none⟩ : Addr).add (i * 4) = ⟨b, i * 4, none⟩ := by unfold Addr.add; split <;> simp <;> omega
    go_wp2_with fail
    go_ret
    rw [List.take_length] at HT
    rw [← HT.out]
    have hC := (Kd.R_reads' HR.out).2.2
    refine ⟨i, rfl, by rw [List.length_take]; omega, by omega, ⟨by rw [List.length_take]; omega, by omega, fun _ => ⟨_, rfl, fun j q hj => ?_⟩⟩, ?_⟩
    ·have hji : j < i := by
      have := (List.getElem?_eq_some_iff.1 hj).1
      rw [List.length_take] at this
      omega
     rw [List.getElem?_take_of_lt hji] at hj
     obtain ⟨ad, e, hc⟩ := hC.2.2 (by omega)
     cases e
     obtain ⟨cs, hcl, hK, hcell⟩ := hc j q hj
     refine ⟨cs, hcl, hK, fun m u hm => ?_⟩
     rw [World.cell?_setCells_out]
     ·exact hcell m u hm
     ·intro _ _
      left
      have hm4 : m < 4 := by
       have h1 := (List.getElem?_eq_some_iff.1 hm).1
       have h2 : cs.length = 4 := hcl
       omega
      show ((⟨b, 0, none⟩ : Addr).add (j * 4 + m)).off < i * 4
      unfold Addr.add
      split
      ·simp; omega
      ·simp; omega
    ·obtain ⟨s1, s2, s3, s4⟩ := setCells_same b Z (i * 4) wr
     exact ⟨s1.trans HW.out.os, s2.trans HW.out.tape, s3.trans HW.out.output, by rw [s4]; exact HW.out.size, fun k hk => (setCells_far Z _ k (by omega)).trans (HW.out.block k hk)⟩
theorem R_at27 {α : Type} {d : Kd α} {e : TypeId} {w : World} {base : Nat} {ok : Nat → Prop} {A : Option Addr} {n c : Nat} {xs : List α} (h : d.R e w base ok (.slice A n c) xs) (hn : 0 < n) : ∃ g, A = some ⟨g, 0, none⟩ := by
 obtain ⟨_, inner, hown, _⟩ := h
 rcases hown.2 with ⟨hv, _⟩ | ⟨g, cap, cur, hv, _⟩
 ·injection hv
  omega
 ·injection hv with ha
  exact ⟨g, ha⟩
set_option maxHeartbeats 4000000 in
set_option maxRecDepth 100000 in
theorem deleteFunc27g (p : S25 → Bool) (g : Nat) (lb : Array Value) (eg : ∀ args w, (callFunc g args).run Tryd.prog w = .ok (.enter g args) w) (A : Option Addr) (c : Nat) (xs : List S25) (w0 w : World)
  (HO : Kd.R k25 25 w w0.heap.size (fun _ => True) (.slice A xs.length c) xs) (HB : Below w0.heap.size w0 w)
  (hp : PredW Tryd.prog g lb (fun x : S25 => .agg #[.int .i64 x.f0, .int .i64 x.f1, .string x.f2, .string x.f3]) p w0) :
  Calls Tryd.prog 27 #[.slice A xs.length c, .func (.func g) #[] lb] w
   fun e w' => e = .returned (.slice A (xs.filter fun x => !p x).length c) ∧ (xs.filter fun x => !p x).length ≤ c ∧ Kd.C k25 w' A (xs.filter fun x => !p x).length (xs.filter fun x => !p x) ∧ Below w0.heap.size w0 w' := by
 by_cases hl : 0 < xs.length
 ·obtain ⟨b, rfl⟩ := R_at27 HO hl
  refine (deleteFunc27 p g lb eg b c xs w0 w HO HB hp).mono fun e w' h => ?_
  obtain ⟨n, h1, h2, h3, h4, h5⟩ := h
  subst h2
  exact ⟨h1, h3, h4, h5⟩
 ·have hx : xs = [] := List.eq_nil_of_length_eq_zero (by omega)
  subst hx
  have HC := Aside0.mk (Kd.R_reads' HO).2.2
  have HIX := Aside0.mk (idxFunc49 p g lb eg A c [] w HC.out (hp.predB HB))
  have HW := Aside0.mk HB
  clear HO HB hp hl
  simp only [fidx, List.length_nil, List.filter_nil] at HIX ⊢
  go_enter Tryd.func27, Tryd.ntmps27
  go_wp2_with fail
  refine HIX.out.mono ?_
  rintro e w1 ⟨rfl, hb1⟩
  go_wp2_with fail
  go_ret
  exact ⟨rfl, Nat.zero_le _, Kd.C_below HC.out hb1, below_step HW.out hb1⟩
end Go.Proofs.YtbfimjncophcaaaDoor.Pr
namespace Go.Proofs.YtbfimjncophcaaaDoor.Pr
set_option linter.unusedVariables false
set_option linter.unusedSimpArgs false
open Go.RowKit Go.Proofs.YtbfimjncophcaaaDoorW.PrintWords Go.Proofs.YtbfimjncophcaaaDoorW.PrintLast Go.Proofs.YtbfimjncophcaaaDoorW.PrintMore
theorem missR_len7 (e : Int) (l0 : List S33) (l1 : List S25) (sub : ByteArray) (l3 : List Int) (win exc at_ : Int) : (missR e l0 l1 sub l3 win exc at_).1.length ≤ 9 * l3.length := by
 unfold missR
 split
 ·split
  ·refine missOut_lenb _ l3.length (fun r => ?_) 9
   have h1 := needOf_bounds l3 r
   have h2 := haveOf_bounds l0 l1 sub win exc at_ r
   unfold missF
   omega
  ·simp
 ·simp
theorem wf_few7 {l0 : List S33} {l1 : List S25} (hf : FewP l0 l1) (hi : ∀ a ∈ l1, i64B a.f0 ∧ i64B a.f1) : ∀ a ∈ l1, Wf25 a := fun a ha => by
 have h1 := (hf.2.1 a ha).1
 exact ⟨(hi a ha).1, (hi a ha).2, by omega⟩
set_option maxRecDepth 100000 in
set_option maxHeartbeats 1000000 in
theorem pred28 (sub : ByteArray) (A : Option Addr) (n c : Nat) (win exc at_ : Int) (B0 : Nat) (w : World) (hB : B0 + 2 < w.heap.size)
  (hw0 : 0 ≤ win) (hw1 : win ≤ 1073741824) (ha0 : 0 ≤ at_) (ha1 : at_ ≤ 1073741824)
  (h0 : w.heap[B0]? = some (.cells #[.string sub] 9 (0, 0))) (h1 : w.heap[B0 + 1]? = some (.cells #[.slice A n c, .int .i64 win, .int .i64 exc] 41 (0, 0))) (h2 : w.heap[B0 + 2]? = some (.cells #[.int .i64 at_] 3 (0, 0))) :
  PredW Tryd.prog 28 #[.pointer (some ⟨B0, 0, none⟩), .pointer (some ⟨B0 + 2, 0, none⟩), .pointer (some ⟨B0 + 1, 0, none⟩)]
   (fun x : S25 => .agg #[.int .i64 x.f0, .int .i64 x.f1, .string x.f2, .string x.f3]) (strikeB sub win at_) w := fun W x hb => by
 have c1 : W.cell? ⟨B0, 0, none⟩ = some (.string sub) := (hb.cell (p := ⟨B0, 0, none⟩) (by show B0 < _; omega)).trans (blk_cell h0 0)
 have c2 : W.cell? ⟨B0 + 2, 0, none⟩ = some (.int .i64 at_) := (hb.cell (p := ⟨B0 + 2, 0, none⟩) (by show B0 + 2 < _; omega)).trans (blk_cell h2 0)
 have c3 : W.cell? ⟨B0 + 1, 1, none⟩ = some (.int .i64 win) := (hb.cell (p := ⟨B0 + 1, 1, none⟩) (by show B0 + 1 < _; omega)).trans (blk_cell h1 1)
 have hBW : B0 + 2 < W.heap.size := Nat.lt_of_lt_of_le hB hb.size
 have hwr : wrap64 (at_ - win) = at_ - win := wrap_id _ (by omega) (by omega)
 clear h0 h1 h2 hb
 show Calls Tryd.prog 28 #[.agg #[.int .i64 x.f0, .int .i64 x.f1, .string x.f2, .string x.f3], .pointer (some ⟨B0, 0, none⟩), .pointer (some ⟨B0 + 2, 0, none⟩), .pointer (some ⟨B0 + 1, 0, none⟩)] W _
 go_enter Tryd.func28, Tryd.ntmps28
 go_wp2_with ((with_reducible refine gate_dst (N := 4) rfl ?_); refine box_event rfl (N := 4) rfl (cs := #[.int .i64 x.f0, .int .i64 x.f1, .string x.f2, .string x.f3]) (t := 25) (by first | (go_simp; done) | (go_simp; rfl)) ?_; intro g5 hg5 w5 hb5 hB5; replace c1 := (hB5.cell (p := ⟨B0, 0, none⟩) (by show B0 < _; omega)).trans c1; replace c2 := (hB5.cell (p := ⟨B0 + 2, 0, none⟩) (by show B0 + 2 < _; omega)).trans c2; replace c3 := (hB5.cell (p := ⟨B0 + 1, 1, none⟩) (by show B0 + 1 < _; omega)).trans c3; have c6 := (blk_cell hb5 1).trans (show _ = some (Value.int .i64 x.f1) from rfl); have c7 := (blk_cell hb5 2).trans (show _ = some (Value.string x.f2) from rfl); have HB5 := Aside0.mk hB5; clear hg5 hb5 hB5 hB hBW)
 all_goals (go_ret; refine ⟨?_, HB5.out⟩; clear c1 c2 c3 c6 c7; unfold strikeB; first | (simp_all; done) | (simp_all [bne]; done) | (simp_all [bne]; omega) | (simp_all [bne]; intros; omega))
set_option maxHeartbeats 8000000 in
set_option maxRecDepth 100000 in
theorem window_walk (A0 : Option Addr) (c0 : Nat) (l0 : List S33) (A1 : Option Addr) (c1 : Nat) (l1 : List S25) (sub : ByteArray) (A3 : Option Addr) (c3 : Nat) (l3 : List Int) (win exc at_ : Int) (w : World)
  (hr0 : Kd.C k33 w A0 l0.length l0) (hc0 : l0.length ≤ c0) (hr1 : Kd.C k25 w A1 l1.length l1) (hc1 : l1.length ≤ c1) (hr3 : Kd.C (Kd.int .i64) w A3 l3.length l3) (hc3 : l3.length ≤ c3) (hi : ∀ a ∈ l1, i64B a.f0 ∧ i64B a.f1) (hL : LaidW w) :
  Calls Tryd.prog 7 #[.slice A0 l0.length c0, .slice A1 l1.length c1, .string sub, .agg #[.slice A3 l3.length c3, .int .i64 win, .int .i64 exc], .int .i64 at_] w fun e w' => e = .returned (.bool true) ∧ Below w.heap.size w w' := by
 have hm0 := hr0.2.1
 have hm1 := hr1.2.1
 obtain ⟨b, hb, hF⟩ := few_f l0 l1 (l0.length + l1.length + 2) hm0 hm1 (by omega)
 have HFW := Aside0.mk (fun W (hW : Below w.heap.size w W) => garboardref58_Few.calls (l0.length + l1.length + 2) A0 c0 l0 A1 c1 l1 b W (Kd.C_below hr0 hW) hc0 (Kd.C_below hr1 hW) hc1 hb)
 have HF := Aside0.mk hF
 have HR0 := Aside0.mk hr0
 have HR1 := Aside0.mk hr1
 have HR3 := Aside0.mk hr3
 have HL := Aside0.mk hL
 have HI := Aside0.mk hi
 have HC0 := Aside0.mk hc0
 have HC1 := Aside0.mk hc1
 have HC3 := Aside0.mk hc3
 clear hb hF hr0 hr1 hr3 hL hi hc0 hc1 hc3
 go_enter Tryd.func7, Tryd.ntmps7
 go_wp2_with fail
 have hB0 : Below w.heap.size w (((w.alloc (.cells #[.string sub] 9)).alloc (.cells #[.slice A3 l3.length c3, .int .i64 win, .int .i64 exc] 41)).alloc (.cells #[.int .i64 at_] 3)) := below_alloc (below_alloc (below_alloc (Below.refl _ _) _) _) _
 refine (garboardlaw58_awake.calls true _ (HL.out.below hB0) rfl).mono ?_
 rintro e w1 ⟨rfl, hb1⟩
 have M0 := Aside0.mk (blk_below (blk_alloc (blk_alloc (blk_new w (.cells #[.string sub] 9)) (.cells #[.slice A3 l3.length c3, .int .i64 win, .int .i64 exc] 41)) (.cells #[.int .i64 at_] 3)) hb1)
 have M1 := Aside0.mk (show w1.heap[w.heap.size + 1]? = some (.cells #[.slice A3 l3.length c3, .int .i64 win, .int .i64 exc] 41 (0, 0)) from by
  have h0 := blk_new (w.alloc (.cells #[.string sub] 9)) (.cells #[.slice A3 l3.length c3, .int .i64 win, .int .i64 exc] 41)
  rw [show (w.alloc (.cells #[.string sub] 9)).heap.size = w.heap.size + 1 from by simp] at h0
  exact blk_below (blk_alloc h0 _) hb1)
 have M2 := Aside0.mk (show w1.heap[w.heap.size + 2]? = some (.cells #[.int .i64 at_] 3 (0, 0)) from by
  have h0 := blk_new ((w.alloc (.cells #[.string sub] 9)).alloc (.cells #[.slice A3 l3.length c3, .int .i64 win, .int .i64 exc] 41)) (.cells #[.int .i64 at_] 3)
  rw [show ((w.alloc (.cells #[.string sub] 9)).alloc (.cells #[.slice A3 l3.length c3, .int .i64 win, .int .i64 exc] 41)).heap.size = w.heap.size + 2 from by simp] at h0
  exact blk_below h0 hb1)
 have HB := Aside0.mk (below_step hB0 hb1)
 clear hB0 hb1
 go_wp2_with fail
 refine (HFW.out _ HB.out).mono ?_
 rintro e w2 ⟨rfl, ⟨n2, rfl⟩⟩
 replace HB := Aside0.mk (pw_below_drewN HB.out n2)
 replace M0 := Aside0.mk (blk_drewN M0.out n2)
 replace M1 := Aside0.mk (blk_drewN M1.out n2)
 replace M2 := Aside0.mk (blk_drewN M2.out n2)
 generalize w1.drewN n2 = w2 at HB M0 M1 M2 ⊢
 clear HFW
 cases b with
 | false =>
  clear HF
  go_wp2_with fail
  go_ret
  exact ⟨rfl, HB.out⟩
 | true =>
  have hfew := HF.out rfl
  have HW := Aside0.mk (wf_few7 hfew HI.out)
  obtain ⟨_, _, h17, h12⟩ := hfew
  have k0 : w2.cell? ⟨w.heap.size, 0, none⟩ = some (.string sub) := blk_cell M0.out 0
  have k1 : w2.cell? ⟨w.heap.size + 1, 0, none⟩ = some (.slice A3 l3.length c3) := blk_cell M1.out 0
  by_cases h40 : (sub.size : Int) > 40
  ·have h40' : 40 < (sub.size : Int) := h40
   go_wp2_with fail
   go_ret
   exact ⟨rfl, HB.out⟩
  have h40' : ¬ 40 < (sub.size : Int) := h40
  by_cases h3 : (l3.length : Int) > 12
  ·have h3' : 12 < (l3.length : Int) := h3
   go_wp2_with fail
   go_ret
   exact ⟨rfl, HB.out⟩
  have h3' : ¬ 12 < (l3.length : Int) := h3
  go_wp2_with fail
  clear HF
  have hcl0 : api_Signer_12.f l0 = some l0 := by unfold api_Signer_12.f; rw [if_pos (by omega)]
  have hcl1 : api_Approval_13.f l1 = some l1 := by unfold api_Approval_13.f; rw [if_pos (by omega)]
  obtain ⟨x, e1, hE⟩ : ∃ x e1, missR (checkR l0 l1).2 l0 l1 sub l3 win exc at_ = (x, e1) := ⟨_, _, rfl⟩
  have HE := Aside0.mk hE
  have hms : approval_Missing.f l0 l1 sub l3 win exc at_ = some (x, e1) := by rw [amiss_f l0 l1 sub l3 win exc at_ (by omega) HW.out, hE]
  have HMS := Aside0.mk hms
  clear hE hms
  have k2 : w2.cell? ⟨w.heap.size + 1, 1, none⟩ = some (.int .i64 win) := blk_cell M1.out 1
  have k3 : w2.cell? ⟨w.heap.size + 1, 2, none⟩ = some (.int .i64 exc) := blk_cell M1.out 2
  have k4 : w2.cell? ⟨w.heap.size + 2, 0, none⟩ = some (.int .i64 at_) := blk_cell M2.out 0
  have L0 : w.heap.size < w2.heap.size := blk_lt M0.out
  have L1 : w.heap.size + 1 < w2.heap.size := blk_lt M1.out
  have L2 : w.heap.size + 2 < w2.heap.size := blk_lt M2.out
  go_region_held3 (fun w' => w'.cell? ⟨w.heap.size, 0, none⟩ = some (.string sub) ∧ w'.cell? ⟨w.heap.size + 1, 0, none⟩ = some (.slice A3 l3.length c3) ∧ w'.cell? ⟨w.heap.size + 1, 1, none⟩ = some (.int .i64 win) ∧ w'.cell? ⟨w.heap.size + 1, 2, none⟩ = some (.int .i64 exc) ∧ w'.cell? ⟨w.heap.size + 2, 0, none⟩ = some (.int .i64 at_))
   (first | exact ⟨k0, k1, k2, k3, k4⟩ | exact ⟨p0, p1, p2, p3, p4⟩ | exact ⟨q0, q1, q2, q3, q4⟩ | exact ⟨r0, r1, r2, r3, r4⟩)
   (first
    | (go_at_call 12; refine (api_Signer_12.calls A0 c0 l0 l0 _ (Kd.C_below HR0.out (below_drew1 HB.out)) HC0.out hcl0).mono ?_; rintro e wa ⟨va, rfl, hoa, hba⟩; (obtain ⟨Aa, ca, hva⟩ := Kd.R_slice hoa); subst hva; have hca := (Kd.R_reads' hoa).2.1; have HCa := Aside0.mk (Kd.R_reads' hoa).2.2; have HBa := Aside0.mk (below_step (below_drew1 HB.out) hba); have p0 := (hba.cell (p := ⟨w.heap.size, 0, none⟩) L0).trans k0; have p1 := (hba.cell (p := ⟨w.heap.size + 1, 0, none⟩) L1).trans k1; have p2 := (hba.cell (p := ⟨w.heap.size + 1, 1, none⟩) L1).trans k2; have p3 := (hba.cell (p := ⟨w.heap.size + 1, 2, none⟩) L1).trans k3; have p4 := (hba.cell (p := ⟨w.heap.size + 2, 0, none⟩) L2).trans k4; have La0 := Nat.lt_of_lt_of_le L0 hba.size; have La1 := Nat.lt_of_lt_of_le L1 hba.size; have La2 := Nat.lt_of_lt_of_le L2 hba.size; have Ma0 := Aside0.mk (blk_below (blk_drew M0.out) hba); have Ma1 := Aside0.mk (blk_below (blk_drew M1.out) hba); have Ma2 := Aside0.mk (blk_below (blk_drew M2.out) hba); clear hoa hba)
    | (go_at_call 13; refine (api_Approval_13.calls A1 c1 l1 l1 _ (Kd.C_below HR1.out HBa.out) HC1.out hcl1).mono ?_; rintro e wb ⟨vb, rfl, hob, hbb⟩; (obtain ⟨Ab, cb, hvb⟩ := Kd.R_slice hob); subst hvb; have hcb := (Kd.R_reads' hob).2.1; have HCb := Aside0.mk (Kd.R_reads' hob).2.2; have HBb := Aside0.mk (below_step HBa.out hbb); have HCa2 := Aside0.mk (Kd.C_below HCa.out hbb); have q0 := (hbb.cell (p := ⟨w.heap.size, 0, none⟩) La0).trans p0; have q1 := (hbb.cell (p := ⟨w.heap.size + 1, 0, none⟩) La1).trans p1; have q2 := (hbb.cell (p := ⟨w.heap.size + 1, 1, none⟩) La1).trans p2; have q3 := (hbb.cell (p := ⟨w.heap.size + 1, 2, none⟩) La1).trans p3; have q4 := (hbb.cell (p := ⟨w.heap.size + 2, 0, none⟩) La2).trans p4; have Lb0 := Nat.lt_of_lt_of_le La0 hbb.size; have Lb1 := Nat.lt_of_lt_of_le La1 hbb.size; have Lb2 := Nat.lt_of_lt_of_le La2 hbb.size; have Mb0 := Aside0.mk (blk_below Ma0.out hbb); have Mb1 := Aside0.mk (blk_below Ma1.out hbb); have Mb2 := Aside0.mk (blk_below Ma2.out hbb); clear hob hbb)
    | (go_at_call 19; refine (approval_Missing.calls Aa ca l0 Ab cb l1 sub A3 c3 l3 win exc at_ x e1 _ HCa2.out hca HCb.out hcb (Kd.C_below HR3.out HBb.out) HC3.out (HL.out.below HBb.out) HMS.out).mono ?_; rintro e wc ⟨vc, rfl, hoc, hbc⟩; have HBc := Aside0.mk (below_step HBb.out hbc); have r0 := (hbc.cell (p := ⟨w.heap.size, 0, none⟩) Lb0).trans q0; have r1 := (hbc.cell (p := ⟨w.heap.size + 1, 0, none⟩) Lb1).trans q1; have r2 := (hbc.cell (p := ⟨w.heap.size + 1, 1, none⟩) Lb1).trans q2; have r3 := (hbc.cell (p := ⟨w.heap.size + 1, 2, none⟩) Lb1).trans q3; have r4 := (hbc.cell (p := ⟨w.heap.size + 2, 0, none⟩) Lb2).trans q4; have Lc0 := Nat.lt_of_lt_of_le Lb0 hbc.size; have Lc1 := Nat.lt_of_lt_of_le Lb1 hbc.size; have Lc2 := Nat.lt_of_lt_of_le Lb2 hbc.size; have Mc0 := Aside0.mk (blk_below Mb0.out hbc); have Mc1 := Aside0.mk (blk_below Mb1.out hbc); have Mc2 := Aside0.mk (blk_below Mb2.out hbc); have HOc := Aside0.mk hoc; clear hoc hbc))
  replace HB := HBc
  replace M0 := Mc0
  replace M1 := Mc1
  replace M2 := Mc2
  obtain ⟨Ax, cx, hvx⟩ := Kd.R_slice HOc.out
  subst hvx
  have hcx := (Kd.R_reads' HOc.out).2.1
  have HX := Aside0.mk (Kd.R_reads' HOc.out).2.2
  clear k0 k1 k2 k3 k4 p0 p1 p2 p3 p4 q0 q1 q2 q3 q4 r0 r1 r2 r3 r4 L0 L1 L2 La0 La1 La2 Lb0 Lb1 Lb2 Lc0 Lc1 Lc2 Ma0 Ma1 Ma2 Mb0 Mb1 Mb2 Mc0 Mc1 Mc2 HBa HBb HBc HCa HCa2 HCb hca hcb HOc
  by_cases he : e1 = 0
  case neg =>
   have hx0 : x = [] := by
    have := missR_err (checkR l0 l1).2 l0 l1 sub l3 win exc at_ (by rw [HE.out]; exact he)
    rw [HE.out] at this
    exact this
   subst hx0
   go_wp2_with fail
   go_ret
   exact ⟨rfl, HB.out⟩
  subst he
  have hwin := missR_win (checkR l0 l1).2 l0 l1 sub l3 win exc at_ (by rw [HE.out])
  have hpl := window_plain l0 l1 sub l3 win exc at_ h12 (by rw [HE.out])
  rw [HE.out] at hpl
  have hfl := List.length_filter_le (fun y => !strikeB sub win at_ y) l1
  have hms2 : approval_Missing.f l0 (l1.filter fun y => !strikeB sub win at_ y) sub l3 win exc at_ = some (x, 0) := by
   rw [amiss_f l0 _ sub l3 win exc at_ (by omega) (fun a ha => HW.out a (List.mem_filter.1 ha).1), hpl]
  have HMS2 := Aside0.mk hms2
  clear hms2 hpl
  have hxl : x.length ≤ 108 := by
   have := missR_len7 (checkR l0 l1).2 l0 l1 sub l3 win exc at_
   rw [HE.out] at this
   simp only at this
   omega
  go_wp2_with fail
  refine (api_Approval_13.calls A1 c1 l1 l1 _ (Kd.C_below HR1.out HB.out) HC1.out hcl1).mono ?_
  rintro e w8 ⟨v8, rfl, ho8, hb8⟩
  obtain ⟨A8, c8, hv8⟩ := Kd.R_slice ho8
  subst hv8
  have eg28 : ∀ args w, (callFunc 28 args).run Tryd.prog w = .ok (.enter 28 args) w := enters_of Tryd.func28 (by kernel_rfl) rfl
  have hdel := deleteFunc27g (strikeB sub win at_) 28 #[.pointer (some ⟨w.heap.size, 0, none⟩), .pointer (some ⟨w.heap.size + 2, 0, none⟩), .pointer (some ⟨w.heap.size + 1, 0, none⟩)] eg28 A8 c8 l1 _ w8 ho8 hb8 (pred28 sub A3 l3.length c3 win exc at_ w.heap.size _ (blk_lt M2.out) hwin.1 hwin.2.1 hwin.2.2.1 hwin.2.2.2 M0.out M1.out M2.out)
  have HDEL := Aside0.mk hdel
  clear hdel eg28 ho8 hb8
  go_wp2_with fail
  refine HDEL.out.mono ?_
  clear HDEL
  rintro e w9 ⟨rfl, hn9, hC9, hb9⟩
  replace HB := Aside0.mk (below_step HB.out hb9)
  replace M0 := Aside0.mk (blk_below M0.out hb9)
  replace M1 := Aside0.mk (blk_below M1.out hb9)
  replace M2 := Aside0.mk (blk_below M2.out hb9)
  replace HX := Aside0.mk (Kd.C_below HX.out hb9)
  have HN := Aside0.mk hC9
  clear hb9 hC9 HE
  generalize l1.filter (fun y => !strikeB sub win at_ y) = own at HMS2 hn9 HN hfl
  have k0 : w9.cell? ⟨w.heap.size, 0, none⟩ = some (.string sub) := blk_cell M0.out 0
  have k1 : w9.cell? ⟨w.heap.size + 1, 0, none⟩ = some (.slice A3 l3.length c3) := blk_cell M1.out 0
  have k2 : w9.cell? ⟨w.heap.size + 1, 1, none⟩ = some (.int .i64 win) := blk_cell M1.out 1
  have k3 : w9.cell? ⟨w.heap.size + 1, 2, none⟩ = some (.int .i64 exc) := blk_cell M1.out 2
  have k4 : w9.cell? ⟨w.heap.size + 2, 0, none⟩ = some (.int .i64 at_) := blk_cell M2.out 0
  have L0 : w.heap.size < w9.heap.size := blk_lt M0.out
  have L1 : w.heap.size + 1 < w9.heap.size := blk_lt M1.out
  have L2 : w.heap.size + 2 < w9.heap.size := blk_lt M2.out
  go_wp2_with fail
  go_region_held3 (fun w' => w'.cell? ⟨w.heap.size, 0, none⟩ = some (.string sub) ∧ w'.cell? ⟨w.heap.size + 1, 0, none⟩ = some (.slice A3 l3.length c3) ∧ w'.cell? ⟨w.heap.size + 1, 1, none⟩ = some (.int .i64 win) ∧ w'.cell? ⟨w.heap.size + 1, 2, none⟩ = some (.int .i64 exc) ∧ w'.cell? ⟨w.heap.size + 2, 0, none⟩ = some (.int .i64 at_))
   (first | exact ⟨k0, k1, k2, k3, k4⟩ | exact ⟨p0, p1, p2, p3, p4⟩ | exact ⟨q0, q1, q2, q3, q4⟩ | exact ⟨r0, r1, r2, r3, r4⟩)
   (first
    | (go_at_call 12; refine (api_Signer_12.calls A0 c0 l0 l0 _ (Kd.C_below HR0.out (below_drew1 HB.out)) HC0.out hcl0).mono ?_; rintro e wa ⟨va, rfl, hoa, hba⟩; (obtain ⟨Aa, ca, hva⟩ := Kd.R_slice hoa); subst hva; have hca := (Kd.R_reads' hoa).2.1; have HCa := Aside0.mk (Kd.R_reads' hoa).2.2; have HBa := Aside0.mk (below_step (below_drew1 HB.out) hba); have HXa := Aside0.mk (Kd.C_below (Kd.C_drew HX.out) hba); have HNa := Aside0.mk (Kd.C_below (Kd.C_drew HN.out) hba); have p0 := (hba.cell (p := ⟨w.heap.size, 0, none⟩) L0).trans k0; have p1 := (hba.cell (p := ⟨w.heap.size + 1, 0, none⟩) L1).trans k1; have p2 := (hba.cell (p := ⟨w.heap.size + 1, 1, none⟩) L1).trans k2; have p3 := (hba.cell (p := ⟨w.heap.size + 1, 2, none⟩) L1).trans k3; have p4 := (hba.cell (p := ⟨w.heap.size + 2, 0, none⟩) L2).trans k4; have La0 := Nat.lt_of_lt_of_le L0 hba.size; have La1 := Nat.lt_of_lt_of_le L1 hba.size; have La2 := Nat.lt_of_lt_of_le L2 hba.size; have Ma0 := Aside0.mk (blk_below (blk_drew M0.out) hba); have Ma1 := Aside0.mk (blk_below (blk_drew M1.out) hba); have Ma2 := Aside0.mk (blk_below (blk_drew M2.out) hba); clear hoa hba)
    | (go_at_call 19; refine (approval_Missing.calls Aa ca l0 A8 c8 own sub A3 c3 l3 win exc at_ x 0 _ HCa.out hca HNa.out hn9 (Kd.C_below HR3.out HBa.out) HC3.out (HL.out.below HBa.out) HMS2.out).mono ?_; rintro e wb ⟨vb, rfl, hob, hbb⟩; have HBb := Aside0.mk (below_step HBa.out hbb); have HXb := Aside0.mk (Kd.C_below HXa.out hbb); have q0 := (hbb.cell (p := ⟨w.heap.size, 0, none⟩) La0).trans p0; have q1 := (hbb.cell (p := ⟨w.heap.size + 1, 0, none⟩) La1).trans p1; have q2 := (hbb.cell (p := ⟨w.heap.size + 1, 1, none⟩) La1).trans p2; have q3 := (hbb.cell (p := ⟨w.heap.size + 1, 2, none⟩) La1).trans p3; have q4 := (hbb.cell (p := ⟨w.heap.size + 2, 0, none⟩) La2).trans p4; have Lb0 := Nat.lt_of_lt_of_le La0 hbb.size; have Lb1 := Nat.lt_of_lt_of_le La1 hbb.size; have Lb2 := Nat.lt_of_lt_of_le La2 hbb.size; have Mb0 := Aside0.mk (blk_below Ma0.out hbb); have Mb1 := Aside0.mk (blk_below Ma1.out hbb); have Mb2 := Aside0.mk (blk_below Ma2.out hbb); have HOb := Aside0.mk hob; clear hob hbb))
  obtain ⟨Ay, cy, hvy⟩ := Kd.R_slice HOb.out
  subst hvy
  have hcy := (Kd.R_reads' HOb.out).2.1
  have HY := Aside0.mk (Kd.R_reads' HOb.out).2.2
  clear k0 k1 k2 k3 k4 p0 p1 p2 p3 p4 q0 q1 q2 q3 q4 L0 L1 L2 La0 La1 La2 Lb0 Lb1 Lb2 Ma0 Ma1 Ma2 Mb0 Mb1 Mb2 HBa HCa hca HXa HNa HOb HX HN HB M0 M1 M2
  go_wp2_with fail
  refine (slices_Equal_int_int.calls (x.length + 1) Ax cx x Ay cy x true _ HXb.out hcx HY.out hcy (equal_f x _ (by omega) (by omega))).mono ?_
  rintro e w12 ⟨rfl, ⟨n12, rfl⟩⟩
  go_wp2_with fail
  go_ret
  exact ⟨rfl, pw_below_drewN HBb.out n12⟩
end Go.Proofs.YtbfimjncophcaaaDoor.Pr
namespace Go.Proofs.YtbfimjncophcaaaDoor.Pr
set_option linter.unusedVariables false
set_option linter.unusedSimpArgs false
open Go.ChangeShapes Go.WideShapes Go.ChangeAt Go.RowKit
set_option maxRecDepth 100000 in
theorem window_lifted (os : Os) (started : os.Started) (H : Type) (enc : TypeId × Value → H) :
  ReturnsInHanded {} Tryd.checked os 7 .any (fun w args => (Rows.approvalWindowSpec.pre enc Tryd.prog Tryd.f7 [] false w args ∧ laidMetH Tryd.prog laid3 w) ∧ sizedMet enc Tryd.prog Tryd.f7 (OpenSpec.ofChange Rows.approvalWindowSpec) false w args)
   (Rows.approvalWindowSpec.post enc Tryd.prog Tryd.f7 false true false false) := by
 refine returnsInHanded_of_change_and (C := Tryd.checked) (X := fun w _ => laidMetH Tryd.prog laid3 w) (fun _ _ _ hh h => h.of_heap hh) own started (by kernel_rfl) Tryd.func7
  (ChangeSpec.witness_shaped (enc := enc) (C := Tryd.checked) (os := os) (X := fun w _ => laidMetH Tryd.prog laid3 w) false (World.doorLaid Tryd.prog 400 os) #[.slice none 0 0, .slice none 0 0, .string ⟨#[]⟩, .agg #[.slice none 0 0, .int .i64 0, .int .i64 0], .int .i64 0] 8 rfl (World.shaped_of_RefB (by kernel_rfl) (by kernel_rfl)) (by kernel_rfl) (by kernel_rfl) (by kernel_rfl) (door_met os _)) ?_
 intro W base args ds gs before hval0 hW _ _ hL _
 have hval : ∀ (j : Nat) t v, Tryd.f7.params[j]? = some t → args[j]? = some v → Value.okWide Tryd.prog W .any base t v := hval0
 have hW' := hW
 obtain ⟨p, q, hA0, hV, rfl, hfz, hnd⟩ := hW
 have hA : DataW.TrodAll enc Tryd.prog W 0 (fun _ => true) true Tryd.f7.params.toList args.toList ds p := hA0
 rw [Tryd.params7] at hA hval
 obtain ⟨v0, vs0, d0, ds0, p0, q0, hargs, rfl, rfl, h0, r0⟩ := trodAll_cons hA
 obtain ⟨v1, vs1, d1, ds1, p1, q1, rfl, rfl, rfl, h1, r1⟩ := trodAll_cons r0
 obtain ⟨v2, vs2, d2, ds2, p2, q2, rfl, rfl, rfl, h2, r2⟩ := trodAll_cons r1
 obtain ⟨v3, vs3, d3, ds3, p3, q3, rfl, rfl, rfl, h3, r3⟩ := trodAll_cons r2
 obtain ⟨v4, vs4, d4, ds4, p4, q4, rfl, rfl, rfl, h4, r4⟩ := trodAll_cons r3
 obtain ⟨rfl, rfl, rfl⟩ := trodAll_nil r4
 obtain rfl : args = #[v0, v1, v2, v3, v4] := by cases args; simp_all
 obtain ⟨rfl, rfl⟩ := trodVars_none hV
 have lt0 : ∀ x ∈ p0, x.block < W.heap.size := by obtain ⟨m, hm⟩ := h0; exact DataW.trod_lt m _ _ _ hm
 have lt1 : ∀ x ∈ p1, x.block < W.heap.size := by obtain ⟨m, hm⟩ := h1; exact DataW.trod_lt m _ _ _ hm
 have lt2 : ∀ x ∈ p2, x.block < W.heap.size := by obtain ⟨m, hm⟩ := h2; exact DataW.trod_lt m _ _ _ hm
 have lt3 : ∀ x ∈ p3, x.block < W.heap.size := by obtain ⟨m, hm⟩ := h3; exact DataW.trod_lt m _ _ _ hm
 have lt4 : ∀ x ∈ p4, x.block < W.heap.size := by obtain ⟨m, hm⟩ := h4; exact DataW.trod_lt m _ _ _ hm
 have k0 := h0
 have k1 := h1
 have k2 := h2
 have k3 := h3
 have k4 := h4
 obtain ⟨a0, len0, cap0, rfl⟩ := okWide_slice Tryd.underlying22 (hval 0 22 v0 rfl rfl)
 obtain ⟨a1, len1, cap1, rfl⟩ := okWide_slice Tryd.underlying23 (hval 1 23 v1 rfl rfl)
 obtain ⟨sub, rfl⟩ := openS (hval 2 9 v2 rfl rfl) h2
 obtain ⟨A, len, cap, win, exc, rfl, hl3, hm3, ww, we, zs, rfl, hC3, hx3⟩ := openN (hval 3 41 v3 rfl rfl) h3
 obtain ⟨at_, rfl, wat⟩ := openT (hval 4 3 v4 rfl rfl) h4
 obtain ⟨fuel0, hf0⟩ := h0
 obtain ⟨fuel1, hf1⟩ := h1
 obtain ⟨hl0, hm0, xs, rfl, hC0, hx0⟩ := open33 hf0
 obtain ⟨hl1, hm1, ys, rfl, hC1, hx1⟩ := open25 hf1
 have hT := laid_tab hL
 clear hA0 hval0 hval
 refine (window_walk a0 cap0 xs a1 cap1 ys sub A cap zs win exc at_ W hC0 hl0 hC1 hl1 hC3 hl3 (fun a ha => ⟨i64_of_wf (hx1 a ha).1, i64_of_wf (hx1 a ha).2.1⟩) hT).mono fun e W' ⟨he, bel⟩ => ?_
 subst he
 exact ⟨_, rfl, _, _, _, [], _, [], hW', trodAll_mk1 (shut_bool Tryd.underlying4 _), (trodAll_cons_mk (Below.trod laidOut (by kernel_rfl) (of_decide_eq_true (by kernel_rfl)) k0 bel lt0) (trodAll_cons_mk (Below.trod laidOut (by kernel_rfl) (of_decide_eq_true (by kernel_rfl)) k1 bel lt1) (trodAll_cons_mk (Below.trod laidOut (by kernel_rfl) (of_decide_eq_true (by kernel_rfl)) k2 bel lt2) (trodAll_cons_mk (Below.trod laidOut (by kernel_rfl) (of_decide_eq_true (by kernel_rfl)) k3 bel lt3) (trodAll_cons_mk (Below.trod laidOut (by kernel_rfl) (of_decide_eq_true (by kernel_rfl)) k4 bel lt4) trodAll_mk0))))), rfl, bel.frame _, fun h => by cases h⟩
theorem window_row : Rows.ApprovalWindowSaid :=
 OpenClaim.holds_of_wide 7 Tryd.f7 rfl rfl rfl rfl rfl rfl rfl ⟨rfl, rfl, rfl, rfl, rfl⟩ rfl rfl rfl rfl rfl (by kernel_rfl) Tryd.func7 (by kernel_rfl)
  (of_decide_eq_true (by kernel_rfl)) (by unfold Func.isWrapper; first | (rw [if_pos (by decide +kernel)]; kernel_rfl) | (rw [if_neg (by decide +kernel)]; exact ⟨rfl, rfl⟩))
  (fun os started H enc _ => window_lifted os started H enc)
end Go.Proofs.YtbfimjncophcaaaDoor.Pr
namespace Go.Proofs.YtbfimjncophcaaaDoor
open Go
theorem approvalWindow_card_holds : Rows.ApprovalWindowCardSaid :=
 Claim7.holds_tied_plain_at .later [] [.data, .data, .data] true (true, "ce235c4e514d4b9682cfb6f7306d1b58979f00263ffa218bc38fad6034842ff5") false
  Pr.window_row (fun _ h => by cases h) (by kernel_rfl) (fun _ h => by cases h) approvalWindow_row_tie rfl ⟨rfl, rfl⟩ (by kernel_rfl) rfl
  (fun f fn hf hfn => by
   obtain rfl : f = 7 := Option.some.inj ((show Tryd.prog.funcNamed "garboard/garboardlaw58.ApprovalWindow" = some 7 by kernel_rfl).symm.trans hf) |>.symm
   obtain rfl : fn = Tryd.f7 := (Option.some.inj (Tryd.func7.symm.trans hfn)).symm
   exact ⟨by kernel_rfl, fun j t ht => by
    rw [Tryd.params7] at ht
    have hm : t ∈ [22, 23, 9, 41, 3] := by simpa using Array.mem_of_getElem? ht
    have hall : ([22, 23, 9, 41, 3].all fun u => !Tryd.prog.wantsStandIn u) = true := by kernel_rfl
    exact (show Tryd.prog.wantsStandIn t = false by simpa using List.all_eq_true.1 hall t hm)⟩)
  (by kernel_rfl)
end Go.Proofs.YtbfimjncophcaaaDoor
