/- Part 1 of 1: garboardlaw58.ApprovalMore (a further approval never takes anything away: nothing more is missing; at most 17 signers, 12 approvals, 12 roles) answers true for every input, and each argument reads behind the call as before. The library's table of powers of ten is tied to the program's text by the card. -/
import Derived.Shelf.Lays2
import Derived.Shelf.Slices.Cells
import Derived.Laws.IdiomCopy
import Derived.Deep.RegionHeld3
import Derived.SevenTiedAt
import Derived.Test.YtbfimjncophcaaaDoorCb3
namespace Go.Proofs.YtbfimjncophcaaaDoor.Pr
set_option linter.unusedVariables false
set_option linter.unusedSimpArgs false
open Go.RowKit Go.Maps Go.Proofs.YtbfimjncophcaaaDoorW.PrintWords Go.Proofs.YtbfimjncophcaaaDoorW.PrintLast Go.Proofs.YtbfimjncophcaaaDoorW.PrintMore
def MapK (W : World) (b n : Nat) (ks : Int → Prop) : Prop :=
 ∃ D : DataW Unit, W.ownsMap Tryd.prog 3 (plainElem Tryd.prog 4) b n D ∧ ∀ k, ks k → Maps.has D (.int .i64 k) = true
theorem MapK.same {W W1 : World} {b n : Nat} {f : Int → Prop} (h : MapK W b n f) (hb : W1.heap[b]? = W.heap[b]?) : MapK W1 b n f := by
 obtain ⟨D, ⟨es, clock, h1, h2, h3, h4⟩, hD⟩ := h
 exact ⟨D, ⟨es, clock, hb.trans h1, h2, h3, h4⟩, hD⟩
theorem MapK.lt {W : World} {b n : Nat} {f : Int → Prop} (h : MapK W b n f) : b < W.heap.size := by
 obtain ⟨D, ⟨es, clock, h1, _⟩, _⟩ := h
 exact blk_lt h1
theorem MapK.below {W W1 : World} {b n : Nat} {f : Int → Prop} (h : MapK W b n f) (hb : Below W.heap.size W W1) : MapK W1 b n f := h.same (hb.block b h.lt)
theorem MapK.mono {W : World} {b n m : Nat} {f g : Int → Prop} (h : MapK W b n f) (hn : n ≤ m) (hf : ∀ k, g k → f k) : MapK W b m g := by
 obtain ⟨D, ho, hD⟩ := h
 exact ⟨D, ho.mono hn, fun k hk => hD k (hf k hk)⟩
theorem makeMap52_event {W : World} {ops : Array Oper} {rest : List Oper} {o : Oper} {a : Act} {Q : Exit → Act → World → Prop} (hgd : o.guard = none) (ho : o.op = .makeMap 52 none)
  (h : ∀ g, g = W.heap.size → ∀ w1, MapK w1 g 0 (fun _ => False) → Below W.heap.size W w1 → wpList Tryd.prog ops Q rest (a.put o.dst (.map (some g))) w1) : wpList Tryd.prog ops Q (o :: rest) a W := by
 refine Kd.event_run hgd (v := .map (some W.heap.size)) (w1 := W.alloc (.map #[] 0)) ?_ (h _ rfl _ ⟨_, World.ownsMap_made _ _ _ _, fun _ h => h.elim⟩ (below_alloc (Below.refl _ _) _))
 rw [show execOp a.eval o = (Next.value <$> Instr.makeMap 52 none) from by simp [execOp, ho]]
 rfl
theorem MapK.put {W : World} {ops : Array Oper} {rest : List Oper} {o : Oper} {a : Act} {Q : Exit → Act → World → Prop} {b n : Nat} {f : Int → Prop} (h : MapK W b n f)
  (hg : o.guard = none) (m x v : Operand) (hop : o.op = Op.mapUpdate 52 m x v) (hm : a.eval m = .map (some b)) (hn : n < 1000000) (k : Int) (y : Bool) (hx : a.eval x = .int .i64 k) (hv : a.eval v = .bool y)
  (hk : (Lit.int .i64 k).wf = true)
  (hK : ∀ w', MapK w' b (n + 1) (fun j => j = k ∨ f j) → W.grownBy w' (some b) → wpList Tryd.prog ops Q rest (a.put o.dst undef) w') : wpList Tryd.prog ops Q (o :: rest) a W := by
 obtain ⟨D, hown, hD⟩ := h
 refine wpList_mapUpdate_own W hg m x v 52 hop 3 4 key3 Tryd.underlying52 _ b n D hm hown (by unfold maxLen; omega) _ _ _ hx hv (keyOf_int_mk Tryd.underlying3 hk) _ [] (plainElem_bool Tryd.underlying4 y) ?_
 intro w' hown' hgr
 refine hK w' ⟨_, hown', fun j hj => ?_⟩ hgr
 by_cases e : j = k
 ·subst e
  exact Maps.has_put_same hown.isMap (show WideAt.IsKeyLit (.int .i64 j) from trivial) _
 ·rw [Maps.has_put_other (fun h => e (by injection h))]
  exact hD j (hj.resolve_left e)
theorem pigeon : ∀ (es : List (Lit × DataW Unit)) (L : List Int), L.Nodup → (∀ x ∈ L, es.any (fun p => p.1.sameKey (.int .i64 x)) = true) → L.length ≤ es.length
 | [], L, _, h => by
  cases L with
  | nil => simp
  | cons x L => have := h x (by simp); simp at this
 | p :: es, L, hn, h => by
  by_cases hk : ∃ k ∈ L, p.1.sameKey (.int .i64 k) = true
  ·obtain ⟨k, hkL, hs⟩ := hk
   have ih := pigeon es (L.erase k) (hn.erase k) (fun x hx => by
    have hx2 := (List.Nodup.mem_erase_iff hn).1 hx
    have h1 := h x hx2.2
    rw [List.any_cons, Bool.or_eq_true] at h1
    rcases h1 with h1 | h1
    ·have e1 := WideAt.sameKey_eq h1
     have e2 := WideAt.sameKey_eq hs
     rw [e1] at e2
     injection e2 with _ e3
     exact absurd e3 hx2.1
    ·exact h1)
   rw [List.length_erase_of_mem hkL] at ih
   rw [List.length_cons]
   omega
  ·have ih := pigeon es L hn (fun x hx => by
    have h1 := h x hx
    rw [List.any_cons, Bool.or_eq_true] at h1
    rcases h1 with h1 | h1
    ·exact absurd ⟨x, hx, h1⟩ hk
    ·exact h1)
   rw [List.length_cons]
   omega
theorem MapK.len {W : World} {ops : Array Oper} {rest : List Oper} {o : Oper} {a : Act} {Q : Exit → Act → World → Prop} {b n : Nat} {f : Int → Prop} (h : MapK W b n f)
  (hg : o.guard = none) (m : Operand) (hop : o.op = Op.call { callee := Callee.builtin Builtin.len, args := #[m], argTypes := #[52] }) (hm : a.eval m = .map (some b))
  (hK : ∀ z : Nat, z ≤ n → (∀ L : List Int, L.Nodup → (∀ x ∈ L, f x) → L.length ≤ z) → wpList Tryd.prog ops Q rest (a.put o.dst (.int .i64 (z : Int))) W) : wpList Tryd.prog ops Q (o :: rest) a W := by
 obtain ⟨D, hown, hD⟩ := h
 refine wpList_len_own _ hg m 52 hop 3 4 Tryd.underlying52 _ b n D hm hown (hK _ hown.size_le fun L hn hL => ?_)
 obtain ⟨es, rfl⟩ := hown.isMap
 exact pigeon es L hn (fun x hx => hD x (hL x hx))
def eyeB (sub : ByteArray) (win exc at_ : Int) (a : S25) : Bool := a.f2.toList == sub.toList && (decide (a.f1 ≤ at_) && (decide (at_ - win ≤ a.f1) && !(a.f0 == exc)))
theorem ids_lt (l : List S33) (h : ∀ i : Nat, i < l.length → okAt l (i : Int) = true) (i : Nat) : ∀ j (hj : j < l.length) (hij : i < j), (l[i]'(by omega)).f0 < l[j].f0
 | 0, hj, hij => by omega
 | j + 1, hj, hij => by
  have hok := h (j + 1) hj
  unfold okAt at hok
  rw [show ((j + 1 : Nat) : Int) - 1 = (j : Int) by omega, rd33_get l (j + 1) hj, rd33_get l j (by omega)] at hok
  simp only [Bool.not_eq_true', Bool.or_eq_false_iff, Bool.and_eq_false_iff, decide_eq_false_iff_not] at hok
  have hs : l[j].f0 < l[j + 1].f0 := by
   have := hok.2.2.2.2.2.2
   omega
  by_cases e : i = j
  ·subst e
   exact hs
  ·exact Int.lt_trans (ids_lt l h i j (by omega) (by omega)) hs
theorem ids_nodup (l : List S33) (hr : rightB l = true) (p : S33 → Bool) : ((l.filter p).map (·.f0)).Nodup := by
 unfold rightB at hr
 rw [Bool.and_eq_true] at hr
 have h := fun i (hi : i < l.length) => List.all_eq_true.1 hr.1 i (List.mem_range.2 hi)
 have hp : l.Pairwise (fun a b => a.f0 ≠ b.f0) := by
  rw [List.pairwise_iff_getElem]
  intro i j hi hj hij
  exact Int.ne_of_lt (ids_lt l h i j hj hij)
 have := hp.filter p
 rw [List.Nodup, List.pairwise_map]
 exact this
theorem roles_sum : ∀ l : List Int, (∀ x ∈ l, 1 ≤ x ∧ x ≤ 9) → (l.length : Int) = needOf l 1 + needOf l 2 + needOf l 3 + needOf l 4 + needOf l 5 + needOf l 6 + needOf l 7 + needOf l 8 + needOf l 9
 | [], _ => by simp [needOf]
 | x :: l, h => by
  have ih := roles_sum l (fun y hy => h y (by simp [hy]))
  have hx := h x (by simp)
  have e : x = 1 ∨ x = 2 ∨ x = 3 ∨ x = 4 ∨ x = 5 ∨ x = 6 ∨ x = 7 ∨ x = 8 ∨ x = 9 := by omega
  unfold needOf at ih ⊢
  rw [List.length_cons]
  rcases e with rfl | rfl | rfl | rfl | rfl | rfl | rfl | rfl | rfl <;> simp [List.count_cons] <;> omega
theorem have_sum (l1 : List S25) (sub : ByteArray) (win exc at_ : Int) : ∀ l0 : List S33, haveOf l0 l1 sub win exc at_ 1 + haveOf l0 l1 sub win exc at_ 2 + haveOf l0 l1 sub win exc at_ 3 + haveOf l0 l1 sub win exc at_ 4 + haveOf l0 l1 sub win exc at_ 5 + haveOf l0 l1 sub win exc at_ 6 + haveOf l0 l1 sub win exc at_ 7 + haveOf l0 l1 sub win exc at_ 8 + haveOf l0 l1 sub win exc at_ 9 ≤ ((l0.filter fun s => l1.any (countsB sub win exc at_ s.f0)).length : Int)
 | [] => by simp [haveOf]
 | s :: l0 => by
  have ih := have_sum l1 sub win exc at_ l0
  simp only [have_cons]
  rw [List.filter_cons]
  by_cases c : l1.any (countsB sub win exc at_ s.f0) = true
  ·rw [if_pos c, List.length_cons]
   simp only [c, Bool.true_and, beq_iff_eq]
   have e : s.f1 = 1 ∨ s.f1 = 2 ∨ s.f1 = 3 ∨ s.f1 = 4 ∨ s.f1 = 5 ∨ s.f1 = 6 ∨ s.f1 = 7 ∨ s.f1 = 8 ∨ s.f1 = 9 ∨ (s.f1 < 1 ∨ 9 < s.f1) := by omega
   rcases e with e | e | e | e | e | e | e | e | e | e
   ·simp [e]; omega
   ·simp [e]; omega
   ·simp [e]; omega
   ·simp [e]; omega
   ·simp [e]; omega
   ·simp [e]; omega
   ·simp [e]; omega
   ·simp [e]; omega
   ·simp [e]; omega
   ·rw [if_neg (by omega), if_neg (by omega), if_neg (by omega), if_neg (by omega), if_neg (by omega), if_neg (by omega), if_neg (by omega), if_neg (by omega), if_neg (by omega)]
    omega
  ·rw [if_neg c]
   simp only [show l1.any (countsB sub win exc at_ s.f0) = false from by simpa using c, Bool.false_and, Bool.false_eq_true, if_false, Int.zero_add]
   exact ih
theorem missOut_nil (f : Int → Int) : ∀ n, (missOut f n).length = 0 → ∀ j, j < n → f ((j + 1 : Nat) : Int) ≤ 0
 | 0, _, j, hj => by omega
 | n + 1, h, j, hj => by
  rw [missOut_succ, List.length_append, List.length_replicate] at h
  by_cases e : j = n
  ·subst e
   omega
  ·exact missOut_nil f n (by omega) j (by omega)
theorem eyes_plain (l0 : List S33) (l1 : List S25) (sub : ByteArray) (l3 : List Int) (win exc at_ : Int) (hl : l1.length < 1000000) (hw : ∀ a ∈ l1, Wf25 a) (h : approval_Granted.f l0 l1 sub l3 win exc at_ = some true) :
  (0 ≤ win ∧ win ≤ 1073741824 ∧ 0 ≤ at_ ∧ at_ ≤ 1073741824) ∧ ∃ L : List Int, L.Nodup ∧ (∀ x ∈ L, ∃ a ∈ l1, eyeB sub win exc at_ a = true ∧ a.f0 = x) ∧ l3.length ≤ L.length := by
 unfold approval_Granted.f at h
 rw [amiss_f l0 l1 sub l3 win exc at_ hl hw] at h
 simp only [Option.bind_some] at h
 by_cases h0 : (missR (checkR l0 l1).2 l0 l1 sub l3 win exc at_).2 = 0
 ·rw [if_pos h0] at h
  have h1 := Option.some.inj h
  unfold missR at h0 h1
  by_cases hc : (checkR l0 l1).2 = 0 ∧ validB l3 win exc = true
  ·rw [if_pos hc] at h0 h1
   by_cases hs : sub.size = 32 ∧ tickB at_ = true
   ·rw [if_pos hs] at h1
    have hr := checkR_right l0 l1 hc.1
    have hv := hc.2
    have ht := hs.2
    unfold validB tickB at hv
    unfold tickB at ht
    simp only [Bool.and_eq_true, decide_eq_true_eq, Bool.not_eq_true', List.any_eq_false] at hv ht
    refine ⟨⟨hv.2.2.2.1.1, hv.2.2.2.1.2, ht.1, ht.2⟩, (l0.filter fun s => l1.any (countsB sub win exc at_ s.f0)).map (·.f0), ids_nodup l0 hr _, fun x hx => ?_, ?_⟩
    ·obtain ⟨s, hs, rfl⟩ := List.mem_map.1 hx
     obtain ⟨a, ha, hca⟩ := List.any_eq_true.1 (List.mem_filter.1 hs).2
     refine ⟨a, ha, ?_, ?_⟩
     ·unfold countsB at hca
      unfold eyeB
      simp only [Bool.and_eq_true, beq_iff_eq, decide_eq_true_eq, Bool.not_eq_true'] at hca ⊢
      rw [hca.1]
      exact hca.2
     ·unfold countsB at hca
      simp only [Bool.and_eq_true, beq_iff_eq] at hca
      exact hca.1
    ·have hz : (missOut (missF l0 l1 sub l3 win exc at_) 9).length = 0 := by simpa using h1
     have hn := missOut_nil _ 9 hz
     have h1 : missF l0 l1 sub l3 win exc at_ 1 ≤ 0 := hn 0 (by omega)
     have h2 : missF l0 l1 sub l3 win exc at_ 2 ≤ 0 := hn 1 (by omega)
     have h3 : missF l0 l1 sub l3 win exc at_ 3 ≤ 0 := hn 2 (by omega)
     have h4 : missF l0 l1 sub l3 win exc at_ 4 ≤ 0 := hn 3 (by omega)
     have h5 : missF l0 l1 sub l3 win exc at_ 5 ≤ 0 := hn 4 (by omega)
     have h6 : missF l0 l1 sub l3 win exc at_ 6 ≤ 0 := hn 5 (by omega)
     have h7 : missF l0 l1 sub l3 win exc at_ 7 ≤ 0 := hn 6 (by omega)
     have h8 : missF l0 l1 sub l3 win exc at_ 8 ≤ 0 := hn 7 (by omega)
     have h9 : missF l0 l1 sub l3 win exc at_ 9 ≤ 0 := hn 8 (by omega)
     have hsum := roles_sum l3 (fun x hx => by
      have := hv.2.2.1 x hx
      unfold roleBad at this
      simp at this
      omega)
     have hhave := have_sum l1 sub win exc at_ l0
     unfold missF at h1 h2 h3 h4 h5 h6 h7 h8 h9
     rw [List.length_map]
     omega
   ·rw [if_neg hs] at h0
    exact absurd h0 (by decide)
  ·rw [if_neg hc] at h0
   exact absurd h0 (by decide)
 ·rw [if_neg h0] at h
  injection h with h
  cases h
end Go.Proofs.YtbfimjncophcaaaDoor.Pr
namespace Go.Proofs.YtbfimjncophcaaaDoor.Pr
set_option linter.unusedVariables false
set_option linter.unusedSimpArgs false
open Go.RowKit Go.Proofs.YtbfimjncophcaaaDoorW.PrintWords
def baseA (l0 : List S33) (a : S25) : Prop := 0 ≤ fidx (fun x => x.f0 == a.f0) l0 0 ∧ (0 ≤ a.f1 ∧ a.f1 ≤ 1073741824) ∧ a.f2.size = 32 ∧ a.f3.toList = (codeOf (keyOf l0 a.f0) a.f0 a.f1 a.f2).toList
def pairA (b a : S25) : Prop := b.f1 ≤ a.f1 ∧ (b.f0 == a.f0 && (b.f2.toList == a.f2.toList && b.f1 == a.f1)) = false
theorem faultC_iff (l0 : List S33) (l : List S25) (a : S25) : faultC l0 l a = 0 ↔ baseA l0 a ∧ (0 < l.length → (rd_T25 l ((l.length : Int) - 1)).f1 ≤ a.f1) ∧ l.any (fun x => x.f0 == a.f0 && (x.f2.toList == a.f2.toList && x.f1 == a.f1)) = false := by
 unfold faultC faultA baseA
 by_cases c1 : fidx (fun x => x.f0 == a.f0) l0 0 < 0
 ·simp only [if_pos c1]
  constructor
  ·intro h; simp at h
  ·intro h; omega
 simp only [if_neg c1]
 by_cases c2 : ¬ (decide (0 ≤ a.f1) && decide (a.f1 ≤ 1073741824)) = true ∨ ¬ a.f2.size = 32
 ·simp only [if_pos c2]
  constructor
  ·intro h; simp at h
  ·intro h
   rcases c2 with c2 | c2
   ·exact absurd (by simp; omega) c2
   ·exact absurd h.1.2.2.1 c2
 simp only [if_neg c2]
 have c2' : (0 ≤ a.f1 ∧ a.f1 ≤ 1073741824) ∧ a.f2.size = 32 := by
  constructor
  ·by_cases h : (decide (0 ≤ a.f1) && decide (a.f1 ≤ 1073741824)) = true
   ·simpa using h
   ·exact absurd (Or.inl h) c2
  ·by_cases h : a.f2.size = 32
   ·exact h
   ·exact absurd (Or.inr h) c2
 by_cases c3 : 0 < l.length ∧ a.f1 < (rd_T25 l ((l.length : Int) - 1)).f1
 ·simp only [if_pos c3]
  constructor
  ·intro h; simp at h
  ·intro h
   have := h.2.1 c3.1
   omega
 simp only [if_neg c3]
 cases c4 : l.any (fun x => x.f0 == a.f0 && (x.f2.toList == a.f2.toList && x.f1 == a.f1)) with
 | true =>
  simp
 | false =>
  simp only [Bool.false_eq_true, if_false, if_true]
  constructor
  ·intro h
   have h4 : a.f3.toList = (codeOf (keyOf l0 a.f0) a.f0 a.f1 a.f2).toList := by
    by_cases e : a.f3.toList = (codeOf (keyOf l0 a.f0) a.f0 a.f1 a.f2).toList
    ·exact e
    ·rw [if_neg e] at h
     omega
   refine ⟨⟨by omega, c2'.1, c2'.2, h4⟩, fun hp => ?_, trivial⟩
   by_cases hx : a.f1 < (rd_T25 l ((l.length : Int) - 1)).f1
   ·exact absurd ⟨hp, hx⟩ c3
   ·omega
  ·intro h
   rw [if_pos h.1.2.2.2]
def goodL (l0 : List S33) (l : List S25) : Prop := (∀ a ∈ l, baseA l0 a) ∧ l.Pairwise pairA
theorem good_of (l0 : List S33) (l : List S25) (h : ∀ i (hi : i < l.length), faultC l0 (l.take i) l[i] = 0) : goodL l0 l := by
 refine ⟨fun a ha => ?_, ?_⟩
 ·obtain ⟨i, hi, rfl⟩ := List.getElem_of_mem ha
  exact ((faultC_iff _ _ _).1 (h i hi)).1
 ·have step : ∀ j (hj : j + 1 < l.length), l[j].f1 ≤ l[j + 1].f1 := fun j hj => by
   have := ((faultC_iff _ _ _).1 (h (j + 1) hj)).2.1 (by rw [List.length_take]; omega)
   rw [List.length_take, show ((min (j + 1) l.length : Nat) : Int) - 1 = (j : Int) by omega, rd25_get _ j (by rw [List.length_take]; omega), List.getElem_take] at this
   exact this
  have mono : ∀ i j (hj : j < l.length) (hij : i < j), (l[i]'(by omega)).f1 ≤ l[j].f1 := fun i j => by
   induction j with
   | zero => intro _ h; omega
   | succ j ih =>
    intro hj hij
    by_cases e : i = j
    ·subst e
     exact step i hj
    ·exact Int.le_trans (ih (by omega) (by omega)) (step j hj)
  rw [List.pairwise_iff_getElem]
  intro i j hi hj hij
  refine ⟨mono i j hj hij, ?_⟩
  have := ((faultC_iff _ _ _).1 (h j hj)).2.2
  rw [List.any_eq_false] at this
  have h2 := this l[i] (by rw [List.mem_take_iff_getElem]; exact ⟨i, by omega, rfl⟩)
  simpa using h2
theorem of_good (l0 : List S33) (l : List S25) (h : goodL l0 l) : ∀ i (hi : i < l.length), faultC l0 (l.take i) l[i] = 0 := fun i hi => by
 have hp := List.pairwise_iff_getElem.1 h.2
 rw [faultC_iff]
 refine ⟨h.1 _ (List.getElem_mem hi), fun hl => ?_, ?_⟩
 ·rw [List.length_take] at hl ⊢
  obtain ⟨j, rfl⟩ : ∃ j, i = j + 1 := ⟨i - 1, by omega⟩
  rw [show ((min (j + 1) l.length : Nat) : Int) - 1 = (j : Int) by omega, rd25_get _ j (by rw [List.length_take]; omega), List.getElem_take]
  exact (hp j (j + 1) (by omega) hi (by omega)).1
 ·rw [List.any_eq_false]
  intro x hx
  rw [List.mem_take_iff_getElem] at hx
  obtain ⟨j, hj, rfl⟩ := hx
  have := (hp j i (by omega) hi (by omega)).2
  rw [this]
  simp
theorem chkG_skip (l0 : List S33) (l1 : List S25) : ∀ m i, (chkV l0 l1 m i).2 = 0 → ∀ j, i ≤ j → j < i + m → faultC l0 (l1.take j) (rd_T25 l1 (j : Int)) = 0
 | 0, i, _, j, h1, h2 => by omega
 | m + 1, i, h, j, h1, h2 => by
  unfold chkV at h
  by_cases c : faultC l0 (l1.take i) (rd_T25 l1 (i : Int)) = 0
  ·rw [if_pos c] at h
   by_cases e : j = i
   ·subst e; exact c
   ·exact chkG_skip l0 l1 m (i + 1) h j (by omega) (by omega)
  ·rw [if_neg c] at h
   exact absurd h c
theorem chkG_all (l0 : List S33) (l2 : List S25) : ∀ m j, j + m = l2.length → (∀ q, j ≤ q → q < l2.length → faultC l0 (l2.take q) (rd_T25 l2 (q : Int)) = 0) → chkV l0 l2 m j = (-1, 0)
 | 0, j, hj, h => rfl
 | m + 1, j, hj, h => by
  unfold chkV
  rw [if_pos (h j (Nat.le_refl _) (by omega))]
  exact chkG_all l0 l2 m (j + 1) (by omega) (fun q h1 h2 => h q (by omega) h2)
theorem check_good (l0 : List S33) (l : List S25) (hl : l.length ≤ 1024) : (checkR l0 l).2 = 0 ↔ rightB l0 = true ∧ goodL l0 l := by
 constructor
 ·intro h
  have hr := checkR_right l0 l h
  refine ⟨hr, good_of l0 l fun i hi => ?_⟩
  unfold checkR at h
  rw [if_pos hr, if_neg (by omega)] at h
  have := chkG_skip l0 l l.length 0 h i (by omega) (by omega)
  rwa [rd25_get l i hi] at this
 ·intro h
  unfold checkR
  rw [if_pos h.1, if_neg (by omega), chkG_all l0 l l.length 0 (by omega) (fun q h1 h2 => by
   rw [rd25_get l q h2]
   exact of_good l0 l h.2 q h2)]
theorem good_filter (l0 : List S33) (l : List S25) (p : S25 → Bool) (h : goodL l0 l) : goodL l0 (l.filter p) := ⟨fun a ha => h.1 a (List.mem_filter.1 ha).1, h.2.filter p⟩
def strikeB (sub : ByteArray) (win at_ : Int) (x : S25) : Bool := !(x.f2.toList == sub.toList) || (decide (at_ < x.f1) || decide (x.f1 < at_ - win))
theorem counts_kept (sub : ByteArray) (win exc at_ id : Int) (l : List S25) : (l.filter fun x => !strikeB sub win at_ x).any (countsB sub win exc at_ id) = l.any (countsB sub win exc at_ id) := by
 induction l with
 | nil => rfl
 | cons a l ih =>
  rw [List.filter_cons, List.any_cons]
  by_cases h : (!strikeB sub win at_ a) = true
  ·rw [if_pos h, List.any_cons, ih]
  ·rw [if_neg h, ih]
   have : countsB sub win exc at_ id a = false := by
    unfold strikeB at h
    unfold countsB
    cases c1 : (a.f2.toList == sub.toList)
    ·simp
    ·by_cases c2 : a.f1 ≤ at_
     ·by_cases c3 : at_ - win ≤ a.f1
      ·exact absurd (by simp [c1]; omega) h
      ·simp [c3]
     ·simp [c2]
   rw [this, Bool.false_or]
theorem window_plain (l0 : List S33) (l1 : List S25) (sub : ByteArray) (l3 : List Int) (win exc at_ : Int) (hl : l1.length ≤ 12) (h : (missR (checkR l0 l1).2 l0 l1 sub l3 win exc at_).2 = 0) :
  missR (checkR l0 (l1.filter fun x => !strikeB sub win at_ x)).2 l0 (l1.filter fun x => !strikeB sub win at_ x) sub l3 win exc at_ = missR (checkR l0 l1).2 l0 l1 sub l3 win exc at_ := by
 have hc : (checkR l0 l1).2 = 0 := by
  by_cases c : (checkR l0 l1).2 = 0
  ·exact c
  ·unfold missR at h
   rw [if_neg (fun h => c h.1)] at h
   exact absurd h (by decide)
 have hg := (check_good l0 l1 (by omega)).1 hc
 have hc2 : (checkR l0 (l1.filter fun x => !strikeB sub win at_ x)).2 = 0 := (check_good l0 _ (by have := List.length_filter_le (fun x => !strikeB sub win at_ x) l1; omega)).2 ⟨hg.1, good_filter l0 l1 _ hg.2⟩
 rw [hc, hc2]
 unfold missR
 have hF : missF l0 (l1.filter fun x => !strikeB sub win at_ x) sub l3 win exc at_ = missF l0 l1 sub l3 win exc at_ := by
  funext r
  unfold missF haveOf
  simp only [counts_kept]
 rw [hF]
theorem missR_err (e : Int) (l0 : List S33) (l1 : List S25) (sub : ByteArray) (l3 : List Int) (win exc at_ : Int) (h : (missR e l0 l1 sub l3 win exc at_).2 ≠ 0) : (missR e l0 l1 sub l3 win exc at_).1 = [] := by
 unfold missR at h ⊢
 split
 ·rename_i h1
  rw [if_pos h1] at h
  split
  ·rename_i h2
   rw [if_pos h2] at h
   exact absurd rfl h
  ·rfl
 ·rfl
theorem missR_win (e : Int) (l0 : List S33) (l1 : List S25) (sub : ByteArray) (l3 : List Int) (win exc at_ : Int) (h : (missR e l0 l1 sub l3 win exc at_).2 = 0) : 0 ≤ win ∧ win ≤ 1073741824 ∧ 0 ≤ at_ ∧ at_ ≤ 1073741824 := by
 unfold missR at h
 split at h
 ·rename_i h1
  split at h
  ·rename_i h2
   have hv := h1.2
   have ht := h2.2
   unfold validB tickB at hv
   unfold tickB at ht
   simp only [Bool.and_eq_true, decide_eq_true_eq] at hv ht
   omega
  ·exact absurd h (by decide)
 ·exact absurd h (by decide)
end Go.Proofs.YtbfimjncophcaaaDoor.Pr
namespace Go.Proofs.YtbfimjncophcaaaDoor.Pr
open Go.RowKit Go.Proofs.YtbfimjncophcaaaDoorW.PrintWords Go.Proofs.YtbfimjncophcaaaDoorW.PrintLast Go.Proofs.YtbfimjncophcaaaDoorW.PrintMore
attribute [local go_sem] max2_int min2_int max_two min_two max_three min_three max_four min_four
set_option linter.unusedVariables false
set_option linter.unusedSimpArgs false
def slices_Index_int_int.l0 : Nat → List Int → Int → Int → Int → Option (Int)
 | 0, _, _, _, _ => none
 | k + 1, x0, x1, x7, x8 => if x8 < x7 then (if 0 ≤ x8 then (if x8 < (x0.length : Int) then (if x1 = (rd x0 x8) then (some x8) else (slices_Index_int_int.l0 k x0 x1 x7 (wrap64 (x8 + 1)))) else (none)) else (none)) else (some (-1))
def slices_Index_int_int.f (k : Nat) (l0 : List Int) (a1 : Int) : Option (Int) := slices_Index_int_int.l0 k l0 a1 (l0.length : Int) 0
set_option maxHeartbeats 8000000 in
set_option maxRecDepth 100000 in
theorem slices_Index_int_int.calls (k : Nat) (A0 : Option Addr) (c0 : Nat) (l0 : List Int) (a1 : Int) (r : Int) (w : World) (hr0 : Kd.C (Kd.int .i64) w A0 l0.length l0) (hc0 : l0.length ≤ c0) (h : slices_Index_int_int.f k l0 a1 = some r) :
  Calls Tryd.prog 29 #[.slice A0 l0.length c0, .int .i64 a1] w fun e w' => e = .returned (.int .i64 r) ∧ Drawn0 w w' := by
 have HR0 := Aside0.mk hr0
 have HC0 := Aside0.mk hc0
 clear hr0 hc0
 have H : (slices_Index_int_int.l0 k l0 a1 (l0.length : Int) 0) = some r := h
 clear h
 have H' := Aside0.mk H
 clear H
 go_enter Tryd.func29, Tryd.ntmps29
 go_wp2
 go_loopg [8] k (fun kq v8 w' => ∃ (x8_1 : Int), v8 = .int .i64 x8_1 ∧ Aside0 (slices_Index_int_int.l0 kq l0 a1 (l0.length : Int) x8_1 = some r) ∧ Aside0 (kq ≤ k) ∧ Drawn0 w w')
 case atStart => exact ⟨(0), (by first | rfl | (simp; done) | (simp [*]; done)), H', ⟨Nat.le_refl _⟩, by repeat (first | exact Drawn0.refl _ | apply Drawn0.step)⟩
 case round =>
  clear H'
  try clear c2
  try clear p2
  obtain ⟨x8_1, rfl, HA, HK1, ⟨m1, rfl⟩⟩ := hrel
  cases gk with
  | zero => exact absurd HA.out (by simp [slices_Index_int_int.l0])
  | succ k1 =>
   have H := HA.out
   clear HA
   simp only [slices_Index_int_int.l0] at H
   by_cases c3 : x8_1 < (l0.length : Int)
   ·rw [if_pos c3] at H
    have c3b0 : decide (x8_1 < (l0.length : Int)) = true := decide_eq_true c3
    clear c3
    by_cases c4 : 0 ≤ x8_1
    ·rw [if_pos c4] at H
     have c4b0 : decide (0 ≤ x8_1) = true := decide_eq_true c4
     clear c4
     by_cases c5 : x8_1 < (l0.length : Int)
     ·rw [if_pos c5] at H
      have c5b0 : decide (x8_1 < (l0.length : Int)) = true := decide_eq_true c5
      clear c5
      by_cases c6 : a1 = (rd l0 x8_1)
      ·rw [if_pos c6] at H
       have c6b0 : (a1 == (rd l0 x8_1)) = true := beq_iff_eq.mpr c6
       have c6b1 : (a1 != (rd l0 x8_1)) = false := bne_eq_false_iff_eq.mpr c6
       clear c6
       obtain rfl := Option.some.inj H
       have p354 : 0 ≤ (x8_1 : Int) := of_decide_eq_true (by first | (with_reducible assumption) | assumption)
       have q354 : x8_1 < (l0.length : Int) := of_decide_eq_true (by first | (with_reducible assumption) | assumption)
       obtain ⟨ad354, e354, hx354_0⟩ := Kd.at_int HR0.out x8_1 p354 q354
       cases e354
       replace p354 := eq_true p354
       replace q354 := eq_true q354
       go_wp2
       go_ret
       exact ⟨by first | rfl | (simp; done) | (simp [*]; done), by repeat (first | exact Drawn0.refl _ | apply Drawn0.step)⟩
      ·rw [if_neg c6] at H
       have c6b0 : (a1 == (rd l0 x8_1)) = false := beq_eq_false_iff_ne.mpr c6
       have c6b1 : (a1 != (rd l0 x8_1)) = true := bne_iff_ne.mpr c6
       have H' := Aside0.mk H
       clear H
       have p354 : 0 ≤ (x8_1 : Int) := of_decide_eq_true (by first | (with_reducible assumption) | assumption)
       have q354 : x8_1 < (l0.length : Int) := of_decide_eq_true (by first | (with_reducible assumption) | assumption)
       obtain ⟨ad354, e354, hx354_0⟩ := Kd.at_int HR0.out x8_1 p354 q354
       cases e354
       replace p354 := eq_true p354
       replace q354 := eq_true q354
       go_wp2
       go_roundg k1
       case measure => have := HK1.out; omega
       case rel => exact ⟨(wrap64 (x8_1 + 1)), (by first | rfl | (simp; done) | (simp [*]; done)), H', ⟨by have := HK1.out; omega⟩, by repeat (first | exact Drawn0.refl _ | apply Drawn0.step)⟩
     ·rw [if_neg c5] at H
      exact absurd H (by simp)
    ·rw [if_neg c4] at H
     exact absurd H (by simp)
   ·rw [if_neg c3] at H
    have c3b0 : decide (x8_1 < (l0.length : Int)) = false := decide_eq_false c3
    clear c3
    obtain rfl := Option.some.inj H
    go_wp2
    go_ret
    exact ⟨by first | rfl | (simp; done) | (simp [*]; done), by repeat (first | exact Drawn0.refl _ | apply Drawn0.step)⟩
end Go.Proofs.YtbfimjncophcaaaDoor.Pr
namespace Go.Proofs
open Go.Shelf
def Tryd.laysNm223_ren : Go.Shelf.Ren := ⟨fun | 23 => 30 | n => n, fun | 22 => 39 | 3 => 3 | 4 => 4 | 0 => 0 | n => n, fun | n => n⟩
theorem Tryd.laysNm223 : Go.Proofs.Lays2.n23 Tryd.prog Tryd.laysNm223_ren := {
 mixed := by kernel_rfl
 f23 := Tryd.func30.trans (congrArg some (by kernel_rfl))
 t0 := Tryd.underlying0
 a0 := Tryd.isAgg0
 z0 := Tryd.sizeOf0
 v0 := Tryd.zeroValue0
 t3 := Tryd.underlying3
 a3 := Tryd.isAgg3
 z3 := Tryd.sizeOf3
 v3 := Tryd.zeroValue3
 t4 := Tryd.underlying4
 a4 := Tryd.isAgg4
 z4 := Tryd.sizeOf4
 v4 := Tryd.zeroValue4
 t22 := Tryd.underlying39
 a22 := Tryd.isAgg39
 z22 := Tryd.sizeOf39
 v22 := Tryd.zeroValue39
 i3 := by kernel_rfl }
end Go.Proofs
namespace Go.Proofs.YtbfimjncophcaaaDoor.Pr
set_option linter.unusedVariables false
set_option linter.unusedSimpArgs false
open Go.RowKit Go.Proofs.YtbfimjncophcaaaDoorW.PrintWords Go.Proofs.YtbfimjncophcaaaDoorW.PrintLast Go.Proofs.YtbfimjncophcaaaDoorW.PrintMore
def RowI (W : World) (A : Option Addr) (n c : Nat) (xs : List Int) (base : Nat) : Prop :=
 xs.length = n ∧ n ≤ c ∧ c ≤ 9223372036854775807 ∧ (0 < n → ∃ g, A = some ⟨g, 0, none⟩ ∧ base ≤ g ∧ ∀ j, j < n → W.cell? ⟨g, j, none⟩ = some (.int .i64 (xs.getD j 0)) ∧ W.frozen? ⟨g, j, none⟩ = false)
theorem RowI.C {W : World} {A : Option Addr} {n c : Nat} {xs : List Int} {base : Nat} (h : RowI W A n c xs base) : Kd.C (Kd.int .i64) W A n xs := by
 obtain ⟨h1, h2, h3, h4⟩ := h
 refine ⟨h1, by omega, fun hn => ?_⟩
 obtain ⟨g, hA, _, hc⟩ := h4 hn
 refine ⟨_, hA, fun j p hj => ⟨[.int .i64 p], rfl, rfl, fun i u hu => ?_⟩⟩
 have hjn : j < n := by
  have := (List.getElem?_eq_some_iff.1 hj).1
  omega
 cases i with
 | zero =>
  have hu' : Value.int .i64 p = u := by simpa using hu
  subst hu'
  have := (hc j hjn).1
  rw [show xs.getD j 0 = p from by simp [List.getD, hj]] at this
  show W.cell? ((⟨g, 0, none⟩ : Addr).add (j * 1 + 0)) = _
  have e : (⟨g, 0, none⟩ : Addr).add (j * 1 + 0) = ⟨g, j, none⟩ := by unfold Addr.add; split <;> simp <;> omega
  rw [e]
  exact this
 | succ i => simp at hu
theorem RowI.of_R {W : World} {A : Option Addr} {n c : Nat} {xs : List Int} {base : Nat} {ok : Nat → Prop} (h : Kd.R (Kd.int .i64) 3 W base ok (.slice A n c) xs) : RowI W A n c xs base := by
 have hrd := Kd.R_reads' h
 have hb := Kd.R_base h
 obtain ⟨_, inner, hown, hr⟩ := h
 have hC := hrd.2.2
 have hlen : xs.length = n := hrd.1.symm
 rcases hown.2 with ⟨hv, hn⟩ | ⟨g, cap, cur, hv, hb', hh, hnc, hcm, hcs, _⟩
 ·injection hv with ha hb2 hc2
  exact ⟨hlen, hrd.2.1, by omega, fun hp => by omega⟩
 ·injection hv with ha hb2 hc2
  subst ha
  subst hc2
  refine ⟨hlen, hrd.2.1, by unfold maxLen at hcm; omega, fun hp => ⟨g, rfl, hb g (by simp [Value.ownBlock]), fun j hj => ⟨?_, blk_frozen hh j⟩⟩⟩
  obtain ⟨ad, e, hc⟩ := hC.2.2 (by omega)
  cases e
  obtain ⟨cs, hcl, hK, hcell⟩ := hc j xs[j] (List.getElem?_eq_getElem (by omega))
  have hK' : cs = [.int .i64 xs[j]] := hK
  have := hcell 0 (.int .i64 xs[j]) (by rw [hK']; rfl)
  have e : (⟨g, 0, none⟩ : Addr).add (j * (Kd.int .i64).sz + 0) = ⟨g, j, none⟩ := by
   show (⟨g, 0, none⟩ : Addr).add (j * 1 + 0) = _
   unfold Addr.add
   split <;> simp <;> omega
  rw [e] at this
  rw [this]
  simp [List.getD, show j < xs.length by omega]
theorem RowI.below {W W' : World} {A : Option Addr} {n c : Nat} {xs : List Int} {base : Nat} (h : RowI W A n c xs base) (hb : Below W.heap.size W W') : RowI W' A n c xs base := by
 obtain ⟨h1, h2, h3, h4⟩ := h
 refine ⟨h1, h2, h3, fun hn => ?_⟩
 obtain ⟨g, hA, hg, hc⟩ := h4 hn
 refine ⟨g, hA, hg, fun j hj => ?_⟩
 have hlt := World.block_lt_of_cell? _ _ (hc j hj).1
 exact ⟨(hb.cell (p := ⟨g, j, none⟩) hlt).trans (hc j hj).1, (hb.frozen (p := ⟨g, j, none⟩) hlt).trans (hc j hj).2⟩
theorem RowI.drewN {W : World} {A : Option Addr} {n c : Nat} {xs : List Int} {base : Nat} (h : RowI W A n c xs base) (k : Nat) : RowI (W.drewN k) A n c xs base := h.below (pw_below_drewN (Below.refl _ _) k)
theorem RowI.lt {W : World} {A : Option Addr} {n c : Nat} {xs : List Int} {base : Nat} (h : RowI W A n c xs base) (hn : 0 < n) : ∀ q, A.map (·.block) = some q → q < W.heap.size := fun q hq => by
 obtain ⟨h1, h2, h3, h4⟩ := h
 obtain ⟨g, hA, hg, hc⟩ := h4 hn
 rw [hA] at hq
 injection hq with hq
 subst hq
 exact World.block_lt_of_cell? _ _ (hc 0 hn).1
theorem RowI.other {W W' : World} {A B : Option Addr} {n c : Nat} {xs : List Int} {base : Nat} (h : RowI W A n c xs base) (hg : W.grownBy W' (B.map (·.block))) (hne : ∀ g, B.map (·.block) = some g → g < base) : RowI W' A n c xs base := by
 obtain ⟨h1, h2, h3, h4⟩ := h
 refine ⟨h1, h2, h3, fun hn => ?_⟩
 obtain ⟨g, hA, hgb, hc⟩ := h4 hn
 refine ⟨g, hA, hgb, fun j hj => ?_⟩
 have hlt : g < W.heap.size := World.block_lt_of_cell? _ _ (hc j hj).1
 have hh : W'.heap[g]? = W.heap[g]? := hg.block g hlt (fun e => by
  have := hne g e.symm
  omega)
 have hcell : W'.cell? ⟨g, j, none⟩ = W.cell? ⟨g, j, none⟩ := by
  unfold World.cell?
  rw [hh]
 have hfr : W'.frozen? ⟨g, j, none⟩ = W.frozen? ⟨g, j, none⟩ := World.frozen?_of_block (a := ⟨g, j, none⟩) hh
 exact ⟨hcell.trans (hc j hj).1, hfr.trans (hc j hj).2⟩
theorem getD_erase (xs : List Int) (i j : Nat) (hi : i < xs.length) (hj : j < xs.length - 1) : (xs.take i ++ xs.drop (i + 1) ++ [0]).getD j 0 = (xs.eraseIdx i).getD j 0 := by
 have hl : (xs.take i ++ xs.drop (i + 1)).length = xs.length - 1 := by
  rw [List.length_append, List.length_take, List.length_drop]
  omega
 rw [List.eraseIdx_eq_take_drop_succ]
 simp only [List.getD_eq_getElem?_getD]
 rw [List.getElem?_append_left (by omega)]
theorem delete30 (A : Option Addr) (c : Nat) (xs : List Int) (i : Nat) (base : Nat) (w0 W : World) (h : RowI W A xs.length c xs base) (hb : Below w0.heap.size w0 W) (h0 : w0.heap.size ≤ base) (hi : i < xs.length) :
  Calls Tryd.prog 30 #[.slice A xs.length c, .int .i64 (i : Int), .int .i64 ((i + 1 : Nat) : Int)] W fun e w' => e = .returned (.slice A (xs.length - 1) c) ∧ RowI w' A (xs.length - 1) c (xs.eraseIdx i) base ∧ Below w0.heap.size w0 w' ∧ W.grownBy w' (A.map (·.block)) := by
 obtain ⟨h1, h2, h3, h4⟩ := h
 obtain ⟨g, rfl, hg, hc⟩ := h4 (by omega)
 have hcall := Any.slices_Delete_int_cells Tryd.laysNm223 g 0 xs.length c i (i + 1) xs W (Nat.le_refl _) h2 h3 (by omega) (by omega) (fun j hj => by rw [Nat.zero_add]; exact (hc j hj).1) (fun j hj => by rw [Nat.zero_add]; exact (hc j hj).2)
 refine hcall.mono fun e w' ⟨he, q, hw⟩ => ?_
 rw [List.take_length, show i + 1 - i = 1 by omega, show List.replicate 1 (0 : Int) = [0] from rfl] at hw
 rw [show xs.length - (i + 1 - i) = xs.length - 1 by omega] at he
 have hl : ((xs.take i ++ xs.drop (i + 1) ++ [0]).map (Value.int .i64)).length = xs.length := by
  rw [List.length_map, List.length_append, List.length_append, List.length_take, List.length_drop, List.length_singleton]
  omega
 obtain ⟨s1, s2, s3, s4⟩ := setCells_same g ((xs.take i ++ xs.drop (i + 1) ++ [0]).map (Value.int .i64)) 0 (W.drewN q)
 have far : ∀ k, k ≠ g → w'.heap[k]? = W.heap[k]? := fun k hk => by
  rw [hw]
  exact setCells_far _ _ k hk
 have hsz : W.heap.size ≤ w'.heap.size := by rw [hw, s4]; exact Nat.le_refl _
 refine ⟨he, ⟨by rw [List.length_eraseIdx_of_lt hi], by omega, h3, fun hn => ⟨g, rfl, hg, fun j hj => ?_⟩⟩, ⟨by rw [hw]; exact s1.trans hb.os, by rw [hw]; exact s2.trans hb.tape, by rw [hw]; exact s3.trans hb.output, Nat.le_trans hb.size hsz, fun k hk => (far k (by omega)).trans (hb.block k hk)⟩, ⟨by rw [hw]; exact s1, by rw [hw]; exact s2, by rw [hw]; exact s3, hsz, fun k hk hne => far k (fun e => hne (by rw [e]; rfl))⟩⟩
 constructor
 ·have := World.cell?_setCells_in g ((xs.take i ++ xs.drop (i + 1) ++ [0]).map (Value.int .i64)) 0 (W.drewN q) (fun m hm => by
   rw [hl] at hm
   rw [Nat.zero_add]
   show (W.cell? ⟨g, m, none⟩).isSome = true
   rw [(hc m hm).1]
   rfl) j (by rw [hl]; omega)
  rw [Nat.zero_add] at this
  rw [hw, this, ← getD_erase xs i j hi hj]
  simp only [List.getElem_map]
  congr 2
  rw [List.getD_eq_getElem?_getD, List.getElem?_eq_getElem (by rw [List.length_map] at hl; omega)]
  rfl
 ·rw [hw, World.frozen?_setCells]
  exact (hc j (by omega)).2
theorem index_l0 (xs : List Int) (r : Int) (hl : xs.length < 9223372036854775807) : ∀ (m i k : Nat), i + m = xs.length → m < k → (∀ j, j < i → xs[j]? ≠ some r) → (r ∈ xs → ∃ n, ∃ hn : n < xs.length, slices_Index_int_int.l0 k xs r (xs.length : Int) (i : Int) = some (n : Int) ∧ xs[n] = r ∧ ∀ j, j < n → xs[j]? ≠ some r)
 | 0, i, k, hi, hk, hj => fun hr => by
  obtain ⟨j, hjl, e⟩ := List.getElem_of_mem hr
  exact absurd (by rw [List.getElem?_eq_getElem hjl, e]) (hj j (by omega))
 | m + 1, i, k, hi, hk, hj => fun hr => by
  obtain ⟨k, rfl⟩ : ∃ k', k = k' + 1 := ⟨k - 1, by omega⟩
  simp only [slices_Index_int_int.l0]
  rw [if_pos (by omega), if_pos (by omega), if_pos (by omega), rd_get xs i (by omega)]
  by_cases e : r = xs[i]
  ·rw [if_pos e]
   exact ⟨i, by omega, rfl, e.symm, hj⟩
  ·rw [if_neg e, wrap_succ i (by omega)]
   exact index_l0 xs r hl m (i + 1) k (by omega) (by omega) (fun j hj2 => by
    by_cases e2 : j = i
    ·subst e2
     rw [List.getElem?_eq_getElem (by omega)]
     exact fun h => e (Option.some.inj h).symm
    ·exact hj j (by omega)) hr
theorem erase_first : ∀ (xs : List Int) (n : Nat) (hn : n < xs.length) (r : Int), xs[n] = r → (∀ j, j < n → xs[j]? ≠ some r) → xs.eraseIdx n = xs.erase r
 | x :: xs, 0, _, r, h, _ => by
  have e : x = r := h
  subst e
  simp
 | x :: xs, n + 1, hn, r, h, hj => by
  have hx : x ≠ r := fun e => hj 0 (by omega) (by rw [e]; rfl)
  rw [List.eraseIdx_cons_succ, List.erase_cons_tail (by simpa using hx), erase_first xs n (by simpa using hn) r (by simpa using h) (fun j hj2 => by simpa using hj (j + 1) (by omega))]
theorem index_f (xs : List Int) (r : Int) (k : Nat) (hl : xs.length < 9223372036854775807) (hk : xs.length < k) (hr : r ∈ xs) : ∃ n, n < xs.length ∧ slices_Index_int_int.f k xs r = some (n : Int) ∧ xs.eraseIdx n = xs.erase r := by
 unfold slices_Index_int_int.f
 obtain ⟨n, hn, h1, h2, h3⟩ := index_l0 xs r hl xs.length 0 k (by omega) hk (fun j hj => by omega) hr
 refine ⟨n, hn, h1, ?_⟩
 exact erase_first xs n hn r h2 h3
end Go.Proofs.YtbfimjncophcaaaDoor.Pr
namespace Go.Proofs.YtbfimjncophcaaaDoor.Pr
set_option linter.unusedVariables false
set_option linter.unusedSimpArgs false
open Go.RowKit Go.Proofs.YtbfimjncophcaaaDoorW.PrintWords
def strikeAll (xs ys : List Int) : List Int := ys.foldl (fun l r => l.erase r) xs
theorem strikeAll_snoc (xs ys : List Int) (r : Int) : strikeAll xs (ys ++ [r]) = (strikeAll xs ys).erase r := by
 unfold strikeAll
 rw [List.foldl_append]
 rfl
theorem strikeAll_count (r : Int) : ∀ (ys xs : List Int), (strikeAll xs ys).count r = xs.count r - ys.count r
 | [], xs => by simp [strikeAll]
 | y :: ys, xs => by
  have ih := strikeAll_count r ys (xs.erase y)
  unfold strikeAll at ih ⊢
  rw [List.foldl_cons, ih, List.count_erase, List.count_cons]
  by_cases e : y = r
  ·subst e
   simp
   omega
  ·have e1 : (y == r) = false := by simpa using e
   rw [e1]
   simp
theorem strike_mem (xs ys : List Int) (h : ∀ r, ys.count r ≤ xs.count r) (k : Nat) (hk : k < ys.length) : ys[k] ∈ strikeAll xs (ys.take k) := by
 rw [← List.count_pos_iff, strikeAll_count]
 have h1 := h ys[k]
 have h2 : ∀ v : Int, ys[k] = v → (ys.take k).count v < ys.count v := fun v hv => by
  have e : ys = ys.take k ++ ys.drop k := (List.take_append_drop k ys).symm
  have e2 : ys.count v = (ys.take k).count v + (ys.drop k).count v := by
   conv => lhs; rw [e]
   rw [List.count_append]
  rw [e2, List.drop_eq_getElem_cons hk, hv, List.count_cons_self]
  omega
 have := h2 _ rfl
 omega
theorem strike_len (xs ys : List Int) (h : ∀ r, ys.count r ≤ xs.count r) : ∀ k, k ≤ ys.length → (strikeAll xs (ys.take k)).length + k = xs.length
 | 0, _ => by simp [strikeAll]
 | k + 1, hk => by
  have ih := strike_len xs ys h k (by omega)
  rw [List.take_add_one, List.getElem?_eq_getElem (by omega), Option.toList_some, strikeAll_snoc, List.length_erase_of_mem (strike_mem xs ys h k (by omega))]
  have hp : 0 < (strikeAll xs (ys.take k)).length := List.length_pos_of_mem (strike_mem xs ys h k (by omega))
  omega
theorem good_snoc (l0 : List S33) (l : List S25) (a : S25) (hg : goodL l0 l) (hf : faultC l0 l a = 0) : goodL l0 (l ++ [a]) := by
 refine good_of l0 _ fun i hi => ?_
 rw [List.length_append, List.length_singleton] at hi
 by_cases e : i < l.length
 ·rw [List.take_append_of_le_length (by omega), List.getElem_append_left e]
  exact of_good l0 l hg i e
 ·obtain rfl : i = l.length := by omega
  rw [List.take_left, List.getElem_append_right (Nat.le_refl _)]
  simpa using hf
theorem sign_ok (l0 : List S33) (l1 : List S25) (a : S25) (h12 : l1.length ≤ 12) (h : (signR l0 l1 a).2 = 0) :
  ∃ a' : S25, (signR l0 l1 a).1 = l1 ++ [a'] ∧ a'.f0 = a.f0 ∧ a'.f1 = a.f1 ∧ a'.f2 = a.f2 ∧ (checkR l0 l1).2 = 0 ∧ (checkR l0 (l1 ++ [a'])).2 = 0 := by
 unfold signR at h ⊢
 by_cases hc : (checkR l0 l1).2 = 0
 ·rw [if_pos hc, if_neg (by omega)] at h ⊢
  by_cases e : faultA l0 l1 a.f0 a.f1 a.f2 = 0
  ·rw [if_pos e]
   refine ⟨_, rfl, rfl, rfl, rfl, hc, ?_⟩
   have hg := (check_good l0 l1 (by omega)).1 hc
   refine (check_good l0 _ (by rw [List.length_append, List.length_singleton]; omega)).2 ⟨hg.1, good_snoc l0 l1 _ hg.2 ?_⟩
   unfold faultC
   simp only [e, if_true]
  ·rw [if_neg e] at h
   exact absurd h e
 ·rw [if_neg hc] at h
  exact absurd h (by decide)
theorem sign_err (l0 : List S33) (l1 : List S25) (a : S25) (h : (signR l0 l1 a).2 ≠ 0) : (signR l0 l1 a).1 = [] := by
 unfold signR at h ⊢
 by_cases hc : (checkR l0 l1).2 = 0
 ·rw [if_pos hc] at h ⊢
  by_cases hl : (l1.length : Int) = 1024
  ·rw [if_pos hl]
  ·rw [if_neg hl] at h ⊢
   by_cases e : faultA l0 l1 a.f0 a.f1 a.f2 = 0
   ·rw [if_pos e] at h
    exact absurd rfl h
   ·rw [if_neg e]
 ·rw [if_neg hc]
theorem have_all (l1 : List S25) (sub : ByteArray) (win exc at_ : Int) : ∀ l0 : List S33, (∀ s ∈ l0, 1 ≤ s.f1 ∧ s.f1 ≤ 9) → haveOf l0 l1 sub win exc at_ 1 + haveOf l0 l1 sub win exc at_ 2 + haveOf l0 l1 sub win exc at_ 3 + haveOf l0 l1 sub win exc at_ 4 + haveOf l0 l1 sub win exc at_ 5 + haveOf l0 l1 sub win exc at_ 6 + haveOf l0 l1 sub win exc at_ 7 + haveOf l0 l1 sub win exc at_ 8 + haveOf l0 l1 sub win exc at_ 9 = ((l0.filter fun s => l1.any (countsB sub win exc at_ s.f0)).length : Int)
 | [], _ => by simp [haveOf]
 | s :: l0, h => by
  have ih := have_all l1 sub win exc at_ l0 (fun y hy => h y (by simp [hy]))
  have hs := h s (by simp)
  simp only [have_cons]
  rw [List.filter_cons]
  by_cases c : l1.any (countsB sub win exc at_ s.f0) = true
  ·rw [if_pos c, List.length_cons]
   simp only [c, Bool.true_and, beq_iff_eq]
   have e : s.f1 = 1 ∨ s.f1 = 2 ∨ s.f1 = 3 ∨ s.f1 = 4 ∨ s.f1 = 5 ∨ s.f1 = 6 ∨ s.f1 = 7 ∨ s.f1 = 8 ∨ s.f1 = 9 := by omega
   rcases e with e | e | e | e | e | e | e | e | e <;> simp [e] <;> omega
  ·rw [if_neg c]
   simp only [show l1.any (countsB sub win exc at_ s.f0) = false from by simpa using c, Bool.false_and, Bool.false_eq_true, if_false, Int.zero_add]
   exact ih
theorem have_more (l0 : List S33) (l1 : List S25) (a : S25) (sub : ByteArray) (win exc at_ r : Int) : haveOf l0 l1 sub win exc at_ r ≤ haveOf l0 (l1 ++ [a]) sub win exc at_ r := by
 induction l0 with
 | nil => simp [haveOf]
 | cons s l0 ih =>
  rw [have_cons, have_cons, List.any_append]
  by_cases c : (l1.any (countsB sub win exc at_ s.f0) && s.f1 == r) = true
  ·rw [if_pos c]
   rw [Bool.and_eq_true] at c
   rw [if_pos (by rw [c.1, c.2]; rfl)]
   omega
  ·rw [if_neg c]
   split <;> omega
theorem filt_more (l0 : List S33) (l1 : List S25) (a : S25) (sub : ByteArray) (win exc at_ : Int) : (l0.filter fun s => (l1 ++ [a]).any (countsB sub win exc at_ s.f0)).length ≤ (l0.filter fun s => l1.any (countsB sub win exc at_ s.f0)).length + (l0.filter fun s => s.f0 == a.f0).length := by
 induction l0 with
 | nil => simp
 | cons s l0 ih =>
  rw [List.filter_cons, List.filter_cons, List.filter_cons]
  by_cases c1 : l1.any (countsB sub win exc at_ s.f0) = true
  ·rw [if_pos (by rw [List.any_append, c1]; rfl), if_pos c1]
   split <;> simp only [List.length_cons] <;> omega
  ·rw [if_neg c1]
   by_cases c2 : (s.f0 == a.f0) = true
   ·rw [if_pos c2]
    split <;> simp only [List.length_cons] <;> omega
   ·rw [if_neg c2, if_neg (by
     rw [List.any_append, show l1.any (countsB sub win exc at_ s.f0) = false from by simpa using c1]
     unfold countsB
     have : (a.f0 == s.f0) = false := by
      simp only [beq_iff_eq] at c2
      simpa using fun h : a.f0 = s.f0 => c2 h.symm
     simp [this])]
    exact ih
theorem one_id (l0 : List S33) (hr : rightB l0 = true) (id : Int) : (l0.filter fun s => s.f0 == id).length ≤ 1 := by
 have hn := ids_nodup l0 hr (fun s => s.f0 == id)
 match h : l0.filter (fun s => s.f0 == id) with
 | [] => rw [h]; simp
 | [_] => rw [h]; simp
 | x :: y :: r =>
  have hx : x ∈ l0.filter (fun s => s.f0 == id) := by rw [h]; simp
  have hy : y ∈ l0.filter (fun s => s.f0 == id) := by rw [h]; simp
  have ex : x.f0 = id := by simpa using (List.mem_filter.1 hx).2
  have ey : y.f0 = id := by simpa using (List.mem_filter.1 hy).2
  rw [h, List.map_cons, List.map_cons, List.nodup_cons] at hn
  exact absurd (by rw [ex, ey]; simp) hn.1
theorem count_missOut (f : Int → Int) (r : Int) : ∀ n : Nat, (missOut f n).count r = if 1 ≤ r ∧ r ≤ (n : Int) then (f r).toNat else 0
 | 0 => by
  rw [if_neg (by omega)]
  rfl
 | n + 1 => by
  rw [missOut_succ, List.count_append, count_missOut f r n, List.count_replicate]
  by_cases e : ((n + 1 : Nat) : Int) = r
  ·subst e
   rw [if_neg (by omega), if_pos (by simp), if_pos (by omega)]
   omega
  ·rw [show (((n + 1 : Nat) : Int) == r) = false from beq_eq_false_iff_ne.2 e]
   simp only [Bool.false_eq_true, if_false, Nat.add_zero]
   by_cases h : 1 ≤ r ∧ r ≤ (n : Int)
   ·rw [if_pos h, if_pos (by omega)]
   ·rw [if_neg h, if_neg (by omega)]
theorem missOut_len9 (f : Int → Int) : ((missOut f 9).length : Int) = (f 1).toNat + (f 2).toNat + (f 3).toNat + (f 4).toNat + (f 5).toNat + (f 6).toNat + (f 7).toNat + (f 8).toNat + (f 9).toNat := by
 rw [missOut_succ, missOut_succ, missOut_succ, missOut_succ, missOut_succ, missOut_succ, missOut_succ, missOut_succ, missOut_succ]
 simp only [List.length_append, List.length_replicate, missOut, List.range_zero, List.flatMap_nil, List.length_nil]
 have e1 : f ((0 + 1 : Nat) : Int) = f 1 := rfl
 have e2 : f ((1 + 1 : Nat) : Int) = f 2 := rfl
 have e3 : f ((2 + 1 : Nat) : Int) = f 3 := rfl
 have e4 : f ((3 + 1 : Nat) : Int) = f 4 := rfl
 have e5 : f ((4 + 1 : Nat) : Int) = f 5 := rfl
 have e6 : f ((5 + 1 : Nat) : Int) = f 6 := rfl
 have e7 : f ((6 + 1 : Nat) : Int) = f 7 := rfl
 have e8 : f ((7 + 1 : Nat) : Int) = f 8 := rfl
 have e9 : f ((8 + 1 : Nat) : Int) = f 9 := rfl
 rw [e1, e2, e3, e4, e5, e6, e7, e8, e9]
 omega
theorem nine_le (p q : Nat) (n1 n2 n3 n4 n5 n6 n7 n8 n9 a1 a2 a3 a4 a5 a6 a7 a8 a9 b1 b2 b3 b4 b5 b6 b7 b8 b9 : Int)
  (e1 : (p : Int) = (n1 - a1).toNat + (n2 - a2).toNat + (n3 - a3).toNat + (n4 - a4).toNat + (n5 - a5).toNat + (n6 - a6).toNat + (n7 - a7).toNat + (n8 - a8).toNat + (n9 - a9).toNat)
  (e2 : (q : Int) = (n1 - b1).toNat + (n2 - b2).toNat + (n3 - b3).toNat + (n4 - b4).toNat + (n5 - b5).toNat + (n6 - b6).toNat + (n7 - b7).toNat + (n8 - b8).toNat + (n9 - b9).toNat)
  (m1 : a1 ≤ b1) (m2 : a2 ≤ b2) (m3 : a3 ≤ b3) (m4 : a4 ≤ b4) (m5 : a5 ≤ b5) (m6 : a6 ≤ b6) (m7 : a7 ≤ b7) (m8 : a8 ≤ b8) (m9 : a9 ≤ b9)
  (h : (b1 - a1) + (b2 - a2) + (b3 - a3) + (b4 - a4) + (b5 - a5) + (b6 - a6) + (b7 - a7) + (b8 - a8) + (b9 - a9) ≤ 1) : p ≤ q + 1 := by
 have t : ∀ n a b : Int, a ≤ b → ((n - a).toNat : Int) ≤ (n - b).toNat + (b - a) := fun n a b h => by omega
 have t1 := t n1 a1 b1 m1
 have t2 := t n2 a2 b2 m2
 have t3 := t n3 a3 b3 m3
 have t4 := t n4 a4 b4 m4
 have t5 := t n5 a5 b5 m5
 have t6 := t n6 a6 b6 m6
 have t7 := t n7 a7 b7 m7
 have t8 := t n8 a8 b8 m8
 have t9 := t n9 a9 b9 m9
 have hs : (p : Int) ≤ (q : Int) + ((b1 - a1) + (b2 - a2) + (b3 - a3) + (b4 - a4) + (b5 - a5) + (b6 - a6) + (b7 - a7) + (b8 - a8) + (b9 - a9)) := by
  rw [e1, e2]
  clear e1 e2 h m1 m2 m3 m4 m5 m6 m7 m8 m9 t
  generalize ((n1 - a1).toNat : Int) = u1 at *
  generalize ((n2 - a2).toNat : Int) = u2 at *
  generalize ((n3 - a3).toNat : Int) = u3 at *
  generalize ((n4 - a4).toNat : Int) = u4 at *
  generalize ((n5 - a5).toNat : Int) = u5 at *
  generalize ((n6 - a6).toNat : Int) = u6 at *
  generalize ((n7 - a7).toNat : Int) = u7 at *
  generalize ((n8 - a8).toNat : Int) = u8 at *
  generalize ((n9 - a9).toNat : Int) = u9 at *
  generalize ((n1 - b1).toNat : Int) = v1 at *
  generalize ((n2 - b2).toNat : Int) = v2 at *
  generalize ((n3 - b3).toNat : Int) = v3 at *
  generalize ((n4 - b4).toNat : Int) = v4 at *
  generalize ((n5 - b5).toNat : Int) = v5 at *
  generalize ((n6 - b6).toNat : Int) = v6 at *
  generalize ((n7 - b7).toNat : Int) = v7 at *
  generalize ((n8 - b8).toNat : Int) = v8 at *
  generalize ((n9 - b9).toNat : Int) = v9 at *
  omega
 omega
theorem more_plain (l0 : List S33) (l1 : List S25) (a : S25) (sub : ByteArray) (l3 : List Int) (win exc at_ : Int) (hc1 : (checkR l0 l1).2 = 0) (hc2 : (checkR l0 (l1 ++ [a])).2 = 0) :
  (missR (checkR l0 (l1 ++ [a])).2 l0 (l1 ++ [a]) sub l3 win exc at_).2 = (missR (checkR l0 l1).2 l0 l1 sub l3 win exc at_).2 ∧
  ((missR (checkR l0 l1).2 l0 l1 sub l3 win exc at_).2 = 0 → (∀ r, (missR (checkR l0 (l1 ++ [a])).2 l0 (l1 ++ [a]) sub l3 win exc at_).1.count r ≤ (missR (checkR l0 l1).2 l0 l1 sub l3 win exc at_).1.count r) ∧
   (missR (checkR l0 l1).2 l0 l1 sub l3 win exc at_).1.length ≤ (missR (checkR l0 (l1 ++ [a])).2 l0 (l1 ++ [a]) sub l3 win exc at_).1.length + 1) := by
 rw [hc1, hc2]
 unfold missR
 by_cases h1 : (0 : Int) = 0 ∧ validB l3 win exc = true
 ·rw [if_pos h1, if_pos h1]
  by_cases h2 : sub.size = 32 ∧ tickB at_ = true
  ·rw [if_pos h2, if_pos h2]
   refine ⟨rfl, fun _ => ⟨fun r => ?_, ?_⟩⟩
   ·rw [count_missOut, count_missOut]
    have := have_more l0 l1 a sub win exc at_ r
    unfold missF
    split <;> omega
   ·have hr := checkR_right l0 l1 hc1
    have hro : ∀ s ∈ l0, 1 ≤ s.f1 ∧ s.f1 ≤ 9 := fun s hs => by
     have := List.all_eq_true.1 (rolesOk_of l0 hr).2 s hs
     simpa using this
    have e1 := missOut_len9 (missF l0 l1 sub l3 win exc at_)
    have e2 := missOut_len9 (missF l0 (l1 ++ [a]) sub l3 win exc at_)
    have a1 := have_all l1 sub win exc at_ l0 hro
    have a2 := have_all (l1 ++ [a]) sub win exc at_ l0 hro
    have fm := filt_more l0 l1 a sub win exc at_
    have oi := one_id l0 hr a.f0
    have m1 := have_more l0 l1 a sub win exc at_ 1
    have m2 := have_more l0 l1 a sub win exc at_ 2
    have m3 := have_more l0 l1 a sub win exc at_ 3
    have m4 := have_more l0 l1 a sub win exc at_ 4
    have m5 := have_more l0 l1 a sub win exc at_ 5
    have m6 := have_more l0 l1 a sub win exc at_ 6
    have m7 := have_more l0 l1 a sub win exc at_ 7
    have m8 := have_more l0 l1 a sub win exc at_ 8
    have m9 := have_more l0 l1 a sub win exc at_ 9
    have u : ∀ r, missF l0 l1 sub l3 win exc at_ r = needOf l3 r - haveOf l0 l1 sub win exc at_ r := fun _ => rfl
    have v : ∀ r, missF l0 (l1 ++ [a]) sub l3 win exc at_ r = needOf l3 r - haveOf l0 (l1 ++ [a]) sub win exc at_ r := fun _ => rfl
    simp only [u, v] at e1 e2
    show (missOut (missF l0 l1 sub l3 win exc at_) 9).length ≤ (missOut (missF l0 (l1 ++ [a]) sub l3 win exc at_) 9).length + 1
    exact nine_le _ _ _ _ _ _ _ _ _ _ _ _ _ _ _ _ _ _ _ _ _ _ _ _ _ _ _ _ _ e1 e2 m1 m2 m3 m4 m5 m6 m7 m8 m9 (by omega)
  ·rw [if_neg h2, if_neg h2]
   exact ⟨rfl, fun h => absurd h (by decide)⟩
 ·rw [if_neg h1, if_neg h1]
  exact ⟨rfl, fun h => absurd h (by decide)⟩
end Go.Proofs.YtbfimjncophcaaaDoor.Pr
namespace Go.Proofs.YtbfimjncophcaaaDoor.Pr
set_option linter.unusedVariables false
set_option linter.unusedSimpArgs false
open Go.RowKit Go.Proofs.YtbfimjncophcaaaDoorW.PrintWords Go.Proofs.YtbfimjncophcaaaDoorW.PrintLast Go.Proofs.YtbfimjncophcaaaDoorW.PrintMore
theorem missR_len8 (e : Int) (l0 : List S33) (l1 : List S25) (sub : ByteArray) (l3 : List Int) (win exc at_ : Int) : (missR e l0 l1 sub l3 win exc at_).1.length ≤ 9 * l3.length := by
 unfold missR
 split
 ·split
  ·refine missOut_lenb _ l3.length (fun r => ?_) 9
   have h1 := needOf_bounds l3 r
   have h2 := haveOf_bounds l0 l1 sub win exc at_ r
   unfold missF
   omega
  ·simp
 ·simp
theorem wf_few8 {l0 : List S33} {l1 : List S25} (hf : FewP l0 l1) (hi : ∀ a ∈ l1, i64B a.f0 ∧ i64B a.f1) : ∀ a ∈ l1, Wf25 a := fun a ha => by
 have h1 := (hf.2.1 a ha).1
 exact ⟨(hi a ha).1, (hi a ha).2, by omega⟩
set_option maxHeartbeats 8000000 in
set_option maxRecDepth 100000 in
theorem more_walk (A0 : Option Addr) (c0 : Nat) (l0 : List S33) (A1 : Option Addr) (c1 : Nat) (l1 : List S25) (s t : Int) (sub c : ByteArray) (A3 : Option Addr) (c3 : Nat) (l3 : List Int) (win exc at_ : Int) (w : World)
  (hr0 : Kd.C k33 w A0 l0.length l0) (hc0 : l0.length ≤ c0) (hr1 : Kd.C k25 w A1 l1.length l1) (hc1 : l1.length ≤ c1) (hr3 : Kd.C (Kd.int .i64) w A3 l3.length l3) (hc3 : l3.length ≤ c3) (hi : ∀ a ∈ l1, i64B a.f0 ∧ i64B a.f1) (ha : i64B s ∧ i64B t) (hL : LaidW w) :
  Calls Tryd.prog 8 #[.slice A0 l0.length c0, .slice A1 l1.length c1, .agg #[.int .i64 s, .int .i64 t, .string sub, .string c], .agg #[.slice A3 l3.length c3, .int .i64 win, .int .i64 exc], .int .i64 at_] w fun e w' => e = .returned (.bool true) ∧ Below w.heap.size w w' := by
 have hm0 := hr0.2.1
 have hm1 := hr1.2.1
 obtain ⟨b, hb, hF⟩ := few_f l0 l1 (l0.length + l1.length + 2) hm0 hm1 (by omega)
 have HFW := Aside0.mk (fun W (hW : Below w.heap.size w W) => garboardref58_Few.calls (l0.length + l1.length + 2) A0 c0 l0 A1 c1 l1 b W (Kd.C_below hr0 hW) hc0 (Kd.C_below hr1 hW) hc1 hb)
 have HF := Aside0.mk hF
 have HR0 := Aside0.mk hr0
 have HR1 := Aside0.mk hr1
 have HR3 := Aside0.mk hr3
 have HL := Aside0.mk hL
 have HI := Aside0.mk hi
 have HA := Aside0.mk ha
 have HC0 := Aside0.mk hc0
 have HC1 := Aside0.mk hc1
 have HC3 := Aside0.mk hc3
 clear hb hF hr0 hr1 hr3 hL hi ha hc0 hc1 hc3
 go_enter Tryd.func8, Tryd.ntmps8
 go_wp2_with fail
 have hB0 : Below w.heap.size w ((w.alloc (.cells #[.int .i64 s, .int .i64 t, .string sub, .string c] 25)).alloc (.cells #[.slice A3 l3.length c3, .int .i64 win, .int .i64 exc] 41)) := below_alloc (below_alloc (Below.refl _ _) _) _
 refine (garboardlaw58_awake.calls true _ (HL.out.below hB0) rfl).mono ?_
 rintro e w1 ⟨rfl, hb1⟩
 have M0 := Aside0.mk (blk_below (blk_alloc (blk_new w (.cells #[.int .i64 s, .int .i64 t, .string sub, .string c] 25)) (.cells #[.slice A3 l3.length c3, .int .i64 win, .int .i64 exc] 41)) hb1)
 have M1 := Aside0.mk (show w1.heap[w.heap.size + 1]? = some (.cells #[.slice A3 l3.length c3, .int .i64 win, .int .i64 exc] 41 (0, 0)) from by
  have h0 := blk_new (w.alloc (.cells #[.int .i64 s, .int .i64 t, .string sub, .string c] 25)) (.cells #[.slice A3 l3.length c3, .int .i64 win, .int .i64 exc] 41)
  rw [show (w.alloc (.cells #[.int .i64 s, .int .i64 t, .string sub, .string c] 25)).heap.size = w.heap.size + 1 from by simp] at h0
  exact blk_below h0 hb1)
 have HB := Aside0.mk (below_step hB0 hb1)
 clear hB0 hb1
 go_wp2_with fail
 refine (HFW.out _ HB.out).mono ?_
 rintro e w2 ⟨rfl, ⟨n2, rfl⟩⟩
 replace HB := Aside0.mk (pw_below_drewN HB.out n2)
 replace M0 := Aside0.mk (blk_drewN M0.out n2)
 replace M1 := Aside0.mk (blk_drewN M1.out n2)
 generalize w1.drewN n2 = w2 at HB M0 M1 ⊢
 clear HFW
 cases b with
 | false =>
  clear HF
  go_wp2_with fail
  go_ret
  exact ⟨rfl, HB.out⟩
 | true =>
  have hfew := HF.out rfl
  have HW := Aside0.mk (wf_few8 hfew HI.out)
  obtain ⟨_, _, h17, h12⟩ := hfew
  have k0 : w2.cell? ⟨w.heap.size, 0, none⟩ = some (.int .i64 s) := blk_cell M0.out 0
  have k1 : w2.cell? ⟨w.heap.size, 1, none⟩ = some (.int .i64 t) := blk_cell M0.out 1
  have k2 : w2.cell? ⟨w.heap.size, 2, none⟩ = some (.string sub) := blk_cell M0.out 2
  have k3 : w2.cell? ⟨w.heap.size, 3, none⟩ = some (.string c) := blk_cell M0.out 3
  have k4 : w2.cell? ⟨w.heap.size + 1, 0, none⟩ = some (.slice A3 l3.length c3) := blk_cell M1.out 0
  have k5 : w2.cell? ⟨w.heap.size + 1, 1, none⟩ = some (.int .i64 win) := blk_cell M1.out 1
  have k6 : w2.cell? ⟨w.heap.size + 1, 2, none⟩ = some (.int .i64 exc) := blk_cell M1.out 2
  have L0 : w.heap.size < w2.heap.size := blk_lt M0.out
  have L1 : w.heap.size + 1 < w2.heap.size := blk_lt M1.out
  by_cases h40 : (sub.size : Int) > 40
  ·have h40' : 40 < (sub.size : Int) := h40
   go_wp2_with fail
   go_ret
   exact ⟨rfl, HB.out⟩
  have h40' : ¬ 40 < (sub.size : Int) := h40
  by_cases h3 : (l3.length : Int) > 12
  ·have h3' : 12 < (l3.length : Int) := h3
   go_wp2_with fail
   go_ret
   exact ⟨rfl, HB.out⟩
  have h3' : ¬ 12 < (l3.length : Int) := h3
  go_wp2_with fail
  clear HF
  have hcl0 : api_Signer_12.f l0 = some l0 := by unfold api_Signer_12.f; rw [if_pos (by omega)]
  have hcl1 : api_Approval_13.f l1 = some l1 := by unfold api_Approval_13.f; rw [if_pos (by omega)]
  obtain ⟨m, e1, hE⟩ : ∃ m e1, signR l0 l1 ⟨s, t, sub, c⟩ = (m, e1) := ⟨_, _, rfl⟩
  have HE := Aside0.mk hE
  have hsg : approval_Sign.f (l1.length + 2) l0 l1 s t sub c = some (m, e1) := by
   have h := asign_f l0 l1 ⟨s, t, sub, c⟩ (l1.length + 2) (by omega) HW.out ⟨HA.out.1, HA.out.2, by show sub.size ≤ 1000000; omega⟩ (by omega)
   rw [hE] at h
   exact h
  have HSG := Aside0.mk hsg
  clear hE hsg
  go_region_held3 (fun w' => w'.cell? ⟨w.heap.size, 0, none⟩ = some (.int .i64 s) ∧ w'.cell? ⟨w.heap.size, 1, none⟩ = some (.int .i64 t) ∧ w'.cell? ⟨w.heap.size, 2, none⟩ = some (.string sub) ∧ w'.cell? ⟨w.heap.size, 3, none⟩ = some (.string c) ∧ w'.cell? ⟨w.heap.size + 1, 0, none⟩ = some (.slice A3 l3.length c3) ∧ w'.cell? ⟨w.heap.size + 1, 1, none⟩ = some (.int .i64 win) ∧ w'.cell? ⟨w.heap.size + 1, 2, none⟩ = some (.int .i64 exc))
   (first | exact ⟨k0, k1, k2, k3, k4, k5, k6⟩ | exact ⟨p0, p1, p2, p3, p4, p5, p6⟩ | exact ⟨q0, q1, q2, q3, q4, q5, q6⟩ | exact ⟨r0, r1, r2, r3, r4, r5, r6⟩)
   (first
    | (go_at_call 12; refine (api_Signer_12.calls A0 c0 l0 l0 _ (Kd.C_below HR0.out (below_drew1 HB.out)) HC0.out hcl0).mono ?_; rintro e wa ⟨va, rfl, hoa, hba⟩; (obtain ⟨Aa, ca, hva⟩ := Kd.R_slice hoa); subst hva; have hca := (Kd.R_reads' hoa).2.1; have HCa := Aside0.mk (Kd.R_reads' hoa).2.2; have HBa := Aside0.mk (below_step (below_drew1 HB.out) hba); have p0 := (hba.cell (p := ⟨w.heap.size, 0, none⟩) L0).trans k0; have p1 := (hba.cell (p := ⟨w.heap.size, 1, none⟩) L0).trans k1; have p2 := (hba.cell (p := ⟨w.heap.size, 2, none⟩) L0).trans k2; have p3 := (hba.cell (p := ⟨w.heap.size, 3, none⟩) L0).trans k3; have p4 := (hba.cell (p := ⟨w.heap.size + 1, 0, none⟩) L1).trans k4; have p5 := (hba.cell (p := ⟨w.heap.size + 1, 1, none⟩) L1).trans k5; have p6 := (hba.cell (p := ⟨w.heap.size + 1, 2, none⟩) L1).trans k6; have La0 := Nat.lt_of_lt_of_le L0 hba.size; have La1 := Nat.lt_of_lt_of_le L1 hba.size; have Ma0 := Aside0.mk (blk_below (blk_drew M0.out) hba); have Ma1 := Aside0.mk (blk_below (blk_drew M1.out) hba); clear hoa hba)
    | (go_at_call 13; refine (api_Approval_13.calls A1 c1 l1 l1 _ (Kd.C_below HR1.out HBa.out) HC1.out hcl1).mono ?_; rintro e wb ⟨vb, rfl, hob, hbb⟩; (obtain ⟨Ab, cb, hvb⟩ := Kd.R_slice hob); subst hvb; have hcb := (Kd.R_reads' hob).2.1; have HCb := Aside0.mk (Kd.R_reads' hob).2.2; have HBb := Aside0.mk (below_step HBa.out hbb); have HCa2 := Aside0.mk (Kd.C_below HCa.out hbb); have q0 := (hbb.cell (p := ⟨w.heap.size, 0, none⟩) La0).trans p0; have q1 := (hbb.cell (p := ⟨w.heap.size, 1, none⟩) La0).trans p1; have q2 := (hbb.cell (p := ⟨w.heap.size, 2, none⟩) La0).trans p2; have q3 := (hbb.cell (p := ⟨w.heap.size, 3, none⟩) La0).trans p3; have q4 := (hbb.cell (p := ⟨w.heap.size + 1, 0, none⟩) La1).trans p4; have q5 := (hbb.cell (p := ⟨w.heap.size + 1, 1, none⟩) La1).trans p5; have q6 := (hbb.cell (p := ⟨w.heap.size + 1, 2, none⟩) La1).trans p6; have Lb0 := Nat.lt_of_lt_of_le La0 hbb.size; have Lb1 := Nat.lt_of_lt_of_le La1 hbb.size; have Mb0 := Aside0.mk (blk_below Ma0.out hbb); have Mb1 := Aside0.mk (blk_below Ma1.out hbb); clear hob hbb)
    | (go_at_call 15; refine (approval_Sign.calls (l1.length + 2) Aa ca l0 Ab cb l1 s t sub c m e1 _ HCa2.out hca HCb.out hcb (HL.out.below HBb.out) HSG.out).mono ?_; rintro e wc ⟨vc, rfl, hoc, hbc⟩; have HBc := Aside0.mk (below_step HBb.out hbc); have r0 := (hbc.cell (p := ⟨w.heap.size, 0, none⟩) Lb0).trans q0; have r1 := (hbc.cell (p := ⟨w.heap.size, 1, none⟩) Lb0).trans q1; have r2 := (hbc.cell (p := ⟨w.heap.size, 2, none⟩) Lb0).trans q2; have r3 := (hbc.cell (p := ⟨w.heap.size, 3, none⟩) Lb0).trans q3; have r4 := (hbc.cell (p := ⟨w.heap.size + 1, 0, none⟩) Lb1).trans q4; have r5 := (hbc.cell (p := ⟨w.heap.size + 1, 1, none⟩) Lb1).trans q5; have r6 := (hbc.cell (p := ⟨w.heap.size + 1, 2, none⟩) Lb1).trans q6; have Lc0 := Nat.lt_of_lt_of_le Lb0 hbc.size; have Lc1 := Nat.lt_of_lt_of_le Lb1 hbc.size; have Mc0 := Aside0.mk (blk_below Mb0.out hbc); have Mc1 := Aside0.mk (blk_below Mb1.out hbc); have HOc := Aside0.mk hoc; clear hoc hbc))
  replace HB := HBc
  replace M0 := Mc0
  replace M1 := Mc1
  obtain ⟨Am, cm, hvm⟩ := Kd.R_slice HOc.out
  subst hvm
  have hcm := (Kd.R_reads' HOc.out).2.1
  have HM := Aside0.mk (Kd.R_reads' HOc.out).2.2
  clear k0 k1 k2 k3 k4 k5 k6 p0 p1 p2 p3 p4 p5 p6 q0 q1 q2 q3 q4 q5 q6 r0 r1 r2 r3 r4 r5 r6 L0 L1 La0 La1 Lb0 Lb1 Lc0 Lc1 Ma0 Ma1 Mb0 Mb1 Mc0 Mc1 HBa HBb HBc HCa HCa2 HCb hca hcb HOc
  by_cases he : e1 = 0
  case neg =>
   have hx0 : m = [] := by
    have := sign_err l0 l1 ⟨s, t, sub, c⟩ (by rw [HE.out]; exact he)
    rw [HE.out] at this
    exact this
   subst hx0
   go_wp2_with fail
   go_ret
   exact ⟨rfl, HB.out⟩
  subst he
  obtain ⟨a', hm, ha0, ha1, ha2, hk1, hk2⟩ := sign_ok l0 l1 ⟨s, t, sub, c⟩ h12 (by rw [HE.out])
  rw [HE.out] at hm
  have hmm : m = l1 ++ [a'] := hm
  have hml : m.length ≤ 13 := by rw [hmm, List.length_append, List.length_singleton]; omega
  have hWm : ∀ a ∈ m, Wf25 a := fun a ha => by
   rw [hmm] at ha
   rcases List.mem_append.1 ha with ha | ha
   ·exact HW.out a ha
   ·rw [List.mem_singleton.1 ha]
    unfold Wf25
    rw [ha0, ha1, ha2]
    exact ⟨HA.out.1, HA.out.2, by show sub.size ≤ 1000000; omega⟩
  have hpl := more_plain l0 l1 a' sub l3 win exc at_ hk1 hk2
  rw [← hmm] at hpl
  obtain ⟨x, f, hX⟩ : ∃ x f, missR (checkR l0 l1).2 l0 l1 sub l3 win exc at_ = (x, f) := ⟨_, _, rfl⟩
  obtain ⟨y, g, hY⟩ : ∃ y g, missR (checkR l0 m).2 l0 m sub l3 win exc at_ = (y, g) := ⟨_, _, rfl⟩
  have hxl := missR_len8 (checkR l0 l1).2 l0 l1 sub l3 win exc at_
  have hms1 : approval_Missing.f l0 l1 sub l3 win exc at_ = some (x, f) := by rw [amiss_f l0 l1 sub l3 win exc at_ (by omega) HW.out, hX]
  have hms2 : approval_Missing.f l0 m sub l3 win exc at_ = some (y, g) := by rw [amiss_f l0 m sub l3 win exc at_ (by omega) hWm, hY]
  rw [hX, hY] at hpl
  rw [hX] at hxl
  simp only at hpl hxl
  obtain ⟨hfg, hpl⟩ := hpl
  subst hfg
  have HMS1 := Aside0.mk hms1
  have HMS2 := Aside0.mk hms2
  have HPL := Aside0.mk hpl
  have hclm : api_Approval_13.f m = some m := by unfold api_Approval_13.f; rw [if_pos (by omega)]
  clear hms1 hms2 hpl hX hY hm hmm hWm hk1 hk2 ha0 ha1 ha2 HE HSG
  go_wp2_with fail
  have k0 : wc.cell? ⟨w.heap.size, 0, none⟩ = some (.int .i64 s) := blk_cell M0.out 0
  have k1 : wc.cell? ⟨w.heap.size, 1, none⟩ = some (.int .i64 t) := blk_cell M0.out 1
  have k2 : wc.cell? ⟨w.heap.size, 2, none⟩ = some (.string sub) := blk_cell M0.out 2
  have k3 : wc.cell? ⟨w.heap.size, 3, none⟩ = some (.string c) := blk_cell M0.out 3
  have k4 : wc.cell? ⟨w.heap.size + 1, 0, none⟩ = some (.slice A3 l3.length c3) := blk_cell M1.out 0
  have k5 : wc.cell? ⟨w.heap.size + 1, 1, none⟩ = some (.int .i64 win) := blk_cell M1.out 1
  have k6 : wc.cell? ⟨w.heap.size + 1, 2, none⟩ = some (.int .i64 exc) := blk_cell M1.out 2
  have L0 : w.heap.size < wc.heap.size := blk_lt M0.out
  have L1 : w.heap.size + 1 < wc.heap.size := blk_lt M1.out
  go_region_held3 (fun w' => w'.cell? ⟨w.heap.size, 0, none⟩ = some (.int .i64 s) ∧ w'.cell? ⟨w.heap.size, 1, none⟩ = some (.int .i64 t) ∧ w'.cell? ⟨w.heap.size, 2, none⟩ = some (.string sub) ∧ w'.cell? ⟨w.heap.size, 3, none⟩ = some (.string c) ∧ w'.cell? ⟨w.heap.size + 1, 0, none⟩ = some (.slice A3 l3.length c3) ∧ w'.cell? ⟨w.heap.size + 1, 1, none⟩ = some (.int .i64 win) ∧ w'.cell? ⟨w.heap.size + 1, 2, none⟩ = some (.int .i64 exc))
   (first | exact ⟨k0, k1, k2, k3, k4, k5, k6⟩ | exact ⟨p0, p1, p2, p3, p4, p5, p6⟩ | exact ⟨q0, q1, q2, q3, q4, q5, q6⟩ | exact ⟨r0, r1, r2, r3, r4, r5, r6⟩)
   (first
    | (go_at_call 12; refine (api_Signer_12.calls A0 c0 l0 l0 _ (Kd.C_below HR0.out (below_drew1 HB.out)) HC0.out hcl0).mono ?_; rintro e wa ⟨va, rfl, hoa, hba⟩; (obtain ⟨Aa, ca, hva⟩ := Kd.R_slice hoa); subst hva; have hca := (Kd.R_reads' hoa).2.1; have HCa := Aside0.mk (Kd.R_reads' hoa).2.2; have HBa := Aside0.mk (below_step (below_drew1 HB.out) hba); have p0 := (hba.cell (p := ⟨w.heap.size, 0, none⟩) L0).trans k0; have p1 := (hba.cell (p := ⟨w.heap.size, 1, none⟩) L0).trans k1; have p2 := (hba.cell (p := ⟨w.heap.size, 2, none⟩) L0).trans k2; have p3 := (hba.cell (p := ⟨w.heap.size, 3, none⟩) L0).trans k3; have p4 := (hba.cell (p := ⟨w.heap.size + 1, 0, none⟩) L1).trans k4; have p5 := (hba.cell (p := ⟨w.heap.size + 1, 1, none⟩) L1).trans k5; have p6 := (hba.cell (p := ⟨w.heap.size + 1, 2, none⟩) L1).trans k6; have La0 := Nat.lt_of_lt_of_le L0 hba.size; have La1 := Nat.lt_of_lt_of_le L1 hba.size; have Ma0 := Aside0.mk (blk_below (blk_drew M0.out) hba); have Ma1 := Aside0.mk (blk_below (blk_drew M1.out) hba); have HMa := Aside0.mk (Kd.C_below (Kd.C_drew HM.out) hba); clear hoa hba)
    | (go_at_call 13; refine (api_Approval_13.calls A1 c1 l1 l1 _ (Kd.C_below HR1.out HBa.out) HC1.out hcl1).mono ?_; rintro e wb ⟨vb, rfl, hob, hbb⟩; (obtain ⟨Ab, cb, hvb⟩ := Kd.R_slice hob); subst hvb; have hcb := (Kd.R_reads' hob).2.1; have HCb := Aside0.mk (Kd.R_reads' hob).2.2; have HBb := Aside0.mk (below_step HBa.out hbb); have HCa2 := Aside0.mk (Kd.C_below HCa.out hbb); have q0 := (hbb.cell (p := ⟨w.heap.size, 0, none⟩) La0).trans p0; have q1 := (hbb.cell (p := ⟨w.heap.size, 1, none⟩) La0).trans p1; have q2 := (hbb.cell (p := ⟨w.heap.size, 2, none⟩) La0).trans p2; have q3 := (hbb.cell (p := ⟨w.heap.size, 3, none⟩) La0).trans p3; have q4 := (hbb.cell (p := ⟨w.heap.size + 1, 0, none⟩) La1).trans p4; have q5 := (hbb.cell (p := ⟨w.heap.size + 1, 1, none⟩) La1).trans p5; have q6 := (hbb.cell (p := ⟨w.heap.size + 1, 2, none⟩) La1).trans p6; have Lb0 := Nat.lt_of_lt_of_le La0 hbb.size; have Lb1 := Nat.lt_of_lt_of_le La1 hbb.size; have Mb0 := Aside0.mk (blk_below Ma0.out hbb); have Mb1 := Aside0.mk (blk_below Ma1.out hbb); have HMb := Aside0.mk (Kd.C_below HMa.out hbb); clear hob hbb)
    | (go_at_call 19; refine (approval_Missing.calls Aa ca l0 Ab cb l1 sub A3 c3 l3 win exc at_ x g _ HCa2.out hca HCb.out hcb (Kd.C_below HR3.out HBb.out) HC3.out (HL.out.below HBb.out) HMS1.out).mono ?_; rintro e wc ⟨vc, rfl, hoc, hbc⟩; have HBc := Aside0.mk (below_step HBb.out hbc); have r0 := (hbc.cell (p := ⟨w.heap.size, 0, none⟩) Lb0).trans q0; have r1 := (hbc.cell (p := ⟨w.heap.size, 1, none⟩) Lb0).trans q1; have r2 := (hbc.cell (p := ⟨w.heap.size, 2, none⟩) Lb0).trans q2; have r3 := (hbc.cell (p := ⟨w.heap.size, 3, none⟩) Lb0).trans q3; have r4 := (hbc.cell (p := ⟨w.heap.size + 1, 0, none⟩) Lb1).trans q4; have r5 := (hbc.cell (p := ⟨w.heap.size + 1, 1, none⟩) Lb1).trans q5; have r6 := (hbc.cell (p := ⟨w.heap.size + 1, 2, none⟩) Lb1).trans q6; have Lc0 := Nat.lt_of_lt_of_le Lb0 hbc.size; have Lc1 := Nat.lt_of_lt_of_le Lb1 hbc.size; have Mc0 := Aside0.mk (blk_below Mb0.out hbc); have Mc1 := Aside0.mk (blk_below Mb1.out hbc); have HMc := Aside0.mk (Kd.C_below HMb.out hbc); have HOc := Aside0.mk hoc; clear hoc hbc))
  replace HB := HBc
  replace M0 := Mc0
  replace M1 := Mc1
  obtain ⟨Ax, cx, hvx⟩ := Kd.R_slice HOc.out
  subst hvx
  obtain ⟨bx, hbx, HX⟩ : ∃ bx, w.heap.size ≤ bx ∧ Aside0 (RowI wc Ax x.length cx x bx) := ⟨_, HBb.out.size, ⟨RowI.of_R HOc.out⟩⟩
  replace HM := HMc
  clear k0 k1 k2 k3 k4 k5 k6 p0 p1 p2 p3 p4 p5 p6 q0 q1 q2 q3 q4 q5 q6 r0 r1 r2 r3 r4 r5 r6 L0 L1 La0 La1 Lb0 Lb1 Lc0 Lc1 Ma0 Ma1 Mb0 Mb1 Mc0 Mc1 HBa HBb HBc HCa HCa2 HCb hca hcb HOc HMa HMb HMc
  go_wp2_with fail
  have k0 : wc.cell? ⟨w.heap.size, 0, none⟩ = some (.int .i64 s) := blk_cell M0.out 0
  have k1 : wc.cell? ⟨w.heap.size, 1, none⟩ = some (.int .i64 t) := blk_cell M0.out 1
  have k2 : wc.cell? ⟨w.heap.size, 2, none⟩ = some (.string sub) := blk_cell M0.out 2
  have k3 : wc.cell? ⟨w.heap.size, 3, none⟩ = some (.string c) := blk_cell M0.out 3
  have k4 : wc.cell? ⟨w.heap.size + 1, 0, none⟩ = some (.slice A3 l3.length c3) := blk_cell M1.out 0
  have k5 : wc.cell? ⟨w.heap.size + 1, 1, none⟩ = some (.int .i64 win) := blk_cell M1.out 1
  have k6 : wc.cell? ⟨w.heap.size + 1, 2, none⟩ = some (.int .i64 exc) := blk_cell M1.out 2
  have L0 : w.heap.size < wc.heap.size := blk_lt M0.out
  have L1 : w.heap.size + 1 < wc.heap.size := blk_lt M1.out
  go_region_held3 (fun w' => w'.cell? ⟨w.heap.size, 0, none⟩ = some (.int .i64 s) ∧ w'.cell? ⟨w.heap.size, 1, none⟩ = some (.int .i64 t) ∧ w'.cell? ⟨w.heap.size, 2, none⟩ = some (.string sub) ∧ w'.cell? ⟨w.heap.size, 3, none⟩ = some (.string c) ∧ w'.cell? ⟨w.heap.size + 1, 0, none⟩ = some (.slice A3 l3.length c3) ∧ w'.cell? ⟨w.heap.size + 1, 1, none⟩ = some (.int .i64 win) ∧ w'.cell? ⟨w.heap.size + 1, 2, none⟩ = some (.int .i64 exc))
   (first | exact ⟨k0, k1, k2, k3, k4, k5, k6⟩ | exact ⟨p0, p1, p2, p3, p4, p5, p6⟩ | exact ⟨q0, q1, q2, q3, q4, q5, q6⟩ | exact ⟨r0, r1, r2, r3, r4, r5, r6⟩)
   (first
    | (go_at_call 12; refine (api_Signer_12.calls A0 c0 l0 l0 _ (Kd.C_below HR0.out (below_drew1 HB.out)) HC0.out hcl0).mono ?_; rintro e wa ⟨va, rfl, hoa, hba⟩; (obtain ⟨Aa, ca, hva⟩ := Kd.R_slice hoa); subst hva; have hca := (Kd.R_reads' hoa).2.1; have HCa := Aside0.mk (Kd.R_reads' hoa).2.2; have HBa := Aside0.mk (below_step (below_drew1 HB.out) hba); have p0 := (hba.cell (p := ⟨w.heap.size, 0, none⟩) L0).trans k0; have p1 := (hba.cell (p := ⟨w.heap.size, 1, none⟩) L0).trans k1; have p2 := (hba.cell (p := ⟨w.heap.size, 2, none⟩) L0).trans k2; have p3 := (hba.cell (p := ⟨w.heap.size, 3, none⟩) L0).trans k3; have p4 := (hba.cell (p := ⟨w.heap.size + 1, 0, none⟩) L1).trans k4; have p5 := (hba.cell (p := ⟨w.heap.size + 1, 1, none⟩) L1).trans k5; have p6 := (hba.cell (p := ⟨w.heap.size + 1, 2, none⟩) L1).trans k6; have La0 := Nat.lt_of_lt_of_le L0 hba.size; have La1 := Nat.lt_of_lt_of_le L1 hba.size; have Ma0 := Aside0.mk (blk_below (blk_drew M0.out) hba); have Ma1 := Aside0.mk (blk_below (blk_drew M1.out) hba); have HMa := Aside0.mk (Kd.C_below (Kd.C_drew HM.out) hba); have HXa := Aside0.mk ((HX.out.drewN 1).below hba); clear hoa hba)
    | (go_at_call 13; refine (api_Approval_13.calls Am cm m m _ HMa.out hcm hclm).mono ?_; rintro e wb ⟨vb, rfl, hob, hbb⟩; (obtain ⟨Ab, cb, hvb⟩ := Kd.R_slice hob); subst hvb; have hcb := (Kd.R_reads' hob).2.1; have HCb := Aside0.mk (Kd.R_reads' hob).2.2; have HBb := Aside0.mk (below_step HBa.out hbb); have HCa2 := Aside0.mk (Kd.C_below HCa.out hbb); have q0 := (hbb.cell (p := ⟨w.heap.size, 0, none⟩) La0).trans p0; have q1 := (hbb.cell (p := ⟨w.heap.size, 1, none⟩) La0).trans p1; have q2 := (hbb.cell (p := ⟨w.heap.size, 2, none⟩) La0).trans p2; have q3 := (hbb.cell (p := ⟨w.heap.size, 3, none⟩) La0).trans p3; have q4 := (hbb.cell (p := ⟨w.heap.size + 1, 0, none⟩) La1).trans p4; have q5 := (hbb.cell (p := ⟨w.heap.size + 1, 1, none⟩) La1).trans p5; have q6 := (hbb.cell (p := ⟨w.heap.size + 1, 2, none⟩) La1).trans p6; have Lb0 := Nat.lt_of_lt_of_le La0 hbb.size; have Lb1 := Nat.lt_of_lt_of_le La1 hbb.size; have Mb0 := Aside0.mk (blk_below Ma0.out hbb); have Mb1 := Aside0.mk (blk_below Ma1.out hbb); have HXb := Aside0.mk (HXa.out.below hbb); clear hob hbb)
    | (go_at_call 19; refine (approval_Missing.calls Aa ca l0 Ab cb m sub A3 c3 l3 win exc at_ y g _ HCa2.out hca HCb.out hcb (Kd.C_below HR3.out HBb.out) HC3.out (HL.out.below HBb.out) HMS2.out).mono ?_; rintro e wc ⟨vc, rfl, hoc, hbc⟩; have HBc := Aside0.mk (below_step HBb.out hbc); have r0 := (hbc.cell (p := ⟨w.heap.size, 0, none⟩) Lb0).trans q0; have r1 := (hbc.cell (p := ⟨w.heap.size, 1, none⟩) Lb0).trans q1; have r2 := (hbc.cell (p := ⟨w.heap.size, 2, none⟩) Lb0).trans q2; have r3 := (hbc.cell (p := ⟨w.heap.size, 3, none⟩) Lb0).trans q3; have r4 := (hbc.cell (p := ⟨w.heap.size + 1, 0, none⟩) Lb1).trans q4; have r5 := (hbc.cell (p := ⟨w.heap.size + 1, 1, none⟩) Lb1).trans q5; have r6 := (hbc.cell (p := ⟨w.heap.size + 1, 2, none⟩) Lb1).trans q6; have Lc0 := Nat.lt_of_lt_of_le Lb0 hbc.size; have Lc1 := Nat.lt_of_lt_of_le Lb1 hbc.size; have Mc0 := Aside0.mk (blk_below Mb0.out hbc); have Mc1 := Aside0.mk (blk_below Mb1.out hbc); have HXc := Aside0.mk (HXb.out.below hbc); have HOc := Aside0.mk hoc; clear hoc hbc))
  replace HB := HBc
  replace M0 := Mc0
  replace M1 := Mc1
  obtain ⟨Ay, cy, hvy⟩ := Kd.R_slice HOc.out
  subst hvy
  obtain ⟨b2, HNE, HY⟩ : ∃ b2, Aside0 (0 < x.length → ∀ q, Ax.map (·.block) = some q → q < b2) ∧ Aside0 (RowI wc Ay y.length cy y b2) := ⟨_, ⟨fun hx => RowI.lt HXb.out hx⟩, ⟨RowI.of_R HOc.out⟩⟩
  replace HX := HXc
  clear k0 k1 k2 k3 k4 k5 k6 p0 p1 p2 p3 p4 p5 p6 q0 q1 q2 q3 q4 q5 q6 r0 r1 r2 r3 r4 r5 r6 L0 L1 La0 La1 Lb0 Lb1 Lc0 Lc1 Ma0 Ma1 Mb0 Mb1 Mc0 Mc1 HBa HBb HBc HCa HCa2 HCb hca hcb HOc HMa HXa HXb HXc HM M0 M1
  by_cases hg0 : g = 0
  case neg =>
   have hg1 : (g == 0) = false := by simpa using hg0
   go_wp2_with fail
   go_ret
   exact ⟨by simp, HB.out⟩
  subst hg0
  obtain ⟨hct, hxy⟩ := HPL.out rfl
  have HCT := Aside0.mk hct
  have hyx := strike_len x y hct y.length (Nat.le_refl _)
  rw [List.take_length] at hyx
  have hstep := Aside0.mk (strike_len x y hct)
  clear hct HPL
  go_wp2_with fail
  go_loopg [13, 18, 19, 88] y.length (fun gg s13 s18 s19 s88 wr => ∃ kk : Nat, kk ≤ y.length ∧ y.length - kk ≤ gg ∧ s88 = .int .i64 kk ∧ s13 = .slice Ax (strikeAll x (y.take kk)).length cx ∧ Aside0 (RowI wr Ax (strikeAll x (y.take kk)).length cx (strikeAll x (y.take kk)) bx) ∧ Aside0 (RowI wr Ay y.length cy y b2) ∧ Aside0 (Below w.heap.size w wr))
  case atStart => exact ⟨0, Nat.zero_le _, by omega, rfl, rfl, HX, HY, HB⟩
  case round =>
   clear HX HY HB
   obtain ⟨kk, hkk, hg, rfl, rfl, HX, HY, HB⟩ := hrel
   by_cases hlt : kk < y.length
   ·have hltz : (kk : Int) < (y.length : Int) := by omega
    obtain ⟨ad, e, h0⟩ := (Kd.reads_of_C (enc := Value.int .i64) (d := (0 : Int)) (h1 := fun _ => rfl) HY.out.C).at_ kk (by omega) hltz
    cases e
    simp only [Int.toNat_natCast] at h0
    have hr : rdOf 0 y (kk : Int) = y[kk] := by
     show y.getD (kk : Int).toNat 0 = _
     simp [List.getD, hlt]
    rw [hr] at h0
    have hmem := strike_mem x y HCT.out kk hlt
    have hnext : strikeAll x (y.take (kk + 1)) = (strikeAll x (y.take kk)).erase y[kk] := by
     rw [List.take_add_one, List.getElem?_eq_getElem hlt, Option.toList_some, strikeAll_snoc]
    have hsl := hstep.out kk (by omega)
    have HNX := Aside0.mk hnext
    clear hr hnext
    generalize y[kk] = r at h0 hmem HNX
    generalize hxs : strikeAll x (y.take kk) = xs at HX hmem HNX hsl
    clear hxs
    have hpos : 0 < xs.length := List.length_pos_of_mem hmem
    obtain ⟨n, hn, hix, her⟩ := index_f xs r (xs.length + 1) (by omega) (by omega) hmem
    rw [← HNX.out] at her
    have hnz : ¬ (n : Int) < 0 := by omega
    have hnb : n + 1 < 9223372036854775808 := by
     have := HX.out.2.2.1
     have := HX.out.2.1
     omega
    go_wp2_with fail
    refine (slices_Index_int_int.calls (xs.length + 1) Ax cx xs r n wr HX.out.C HX.out.2.1 hix).mono ?_
    rintro e w1 ⟨rfl, ⟨q1, rfl⟩⟩
    replace HX := Aside0.mk (HX.out.drewN q1)
    replace HY := Aside0.mk (HY.out.drewN q1)
    replace HB := Aside0.mk (pw_below_drewN HB.out q1)
    generalize wr.drewN q1 = w1 at HX HY HB ⊢
    go_wp2_with fail
    have hdel := delete30 Ax cx xs n bx w w1 HX.out HB.out hbx hn
    rw [show ((n + 1 : Nat) : Int) = (n : Int) + 1 from by omega] at hdel
    refine hdel.mono ?_
    clear hdel
    rintro e w2 ⟨rfl, hX2, hB2, hG2⟩
    rw [her] at hX2
    have hY2 := Aside0.mk (HY.out.other hG2 (HNE.out (by omega)))
    clear hG2 HY HX
    go_wp2_with fail
    go_roundg (y.length - (kk + 1))
    case measure => omega
    case rel =>
     have e := hX2.1
     exact ⟨kk + 1, by omega, by omega, by go_num, by rw [e], ⟨by rw [e]; exact hX2⟩, hY2, ⟨hB2⟩⟩
   ·obtain rfl : kk = y.length := by omega
    have hltz : ¬ (y.length : Int) < (y.length : Int) := by omega
    rw [List.take_length] at HX ⊢
    have hle : ((strikeAll x y).length : Int) ≤ 1 := by omega
    go_wp2_with fail
    go_ret
    exact ⟨rfl, HB.out⟩
end Go.Proofs.YtbfimjncophcaaaDoor.Pr
namespace Go.Proofs.YtbfimjncophcaaaDoor.Pr
set_option linter.unusedVariables false
set_option linter.unusedSimpArgs false
open Go.ChangeShapes Go.WideShapes Go.ChangeAt Go.RowKit
set_option maxRecDepth 100000 in
theorem more_lifted (os : Os) (started : os.Started) (H : Type) (enc : TypeId × Value → H) :
  ReturnsInHanded {} Tryd.checked os 8 .any (fun w args => (Rows.approvalMoreSpec.pre enc Tryd.prog Tryd.f8 [] false w args ∧ laidMetH Tryd.prog laid3 w) ∧ sizedMet enc Tryd.prog Tryd.f8 (OpenSpec.ofChange Rows.approvalMoreSpec) false w args)
   (Rows.approvalMoreSpec.post enc Tryd.prog Tryd.f8 false true false false) := by
 refine returnsInHanded_of_change_and (C := Tryd.checked) (X := fun w _ => laidMetH Tryd.prog laid3 w) (fun _ _ _ hh h => h.of_heap hh) own started (by kernel_rfl) Tryd.func8
  (ChangeSpec.witness_shaped (enc := enc) (C := Tryd.checked) (os := os) (X := fun w _ => laidMetH Tryd.prog laid3 w) false (World.doorLaid Tryd.prog 400 os) #[.slice none 0 0, .slice none 0 0, .agg #[.int .i64 0, .int .i64 0, .string ⟨#[]⟩, .string ⟨#[]⟩], .agg #[.slice none 0 0, .int .i64 0, .int .i64 0], .int .i64 0] 8 rfl (World.shaped_of_RefB (by kernel_rfl) (by kernel_rfl)) (by kernel_rfl) (by kernel_rfl) (by kernel_rfl) (door_met os _)) ?_
 intro W base args ds gs before hval0 hW _ _ hL _
 have hval : ∀ (j : Nat) t v, Tryd.f8.params[j]? = some t → args[j]? = some v → Value.okWide Tryd.prog W .any base t v := hval0
 have hW' := hW
 obtain ⟨p, q, hA0, hV, rfl, hfz, hnd⟩ := hW
 have hA : DataW.TrodAll enc Tryd.prog W 0 (fun _ => true) true Tryd.f8.params.toList args.toList ds p := hA0
 rw [Tryd.params8] at hA hval
 obtain ⟨v0, vs0, d0, ds0, p0, q0, hargs, rfl, rfl, h0, r0⟩ := trodAll_cons hA
 obtain ⟨v1, vs1, d1, ds1, p1, q1, rfl, rfl, rfl, h1, r1⟩ := trodAll_cons r0
 obtain ⟨v2, vs2, d2, ds2, p2, q2, rfl, rfl, rfl, h2, r2⟩ := trodAll_cons r1
 obtain ⟨v3, vs3, d3, ds3, p3, q3, rfl, rfl, rfl, h3, r3⟩ := trodAll_cons r2
 obtain ⟨v4, vs4, d4, ds4, p4, q4, rfl, rfl, rfl, h4, r4⟩ := trodAll_cons r3
 obtain ⟨rfl, rfl, rfl⟩ := trodAll_nil r4
 obtain rfl : args = #[v0, v1, v2, v3, v4] := by cases args; simp_all
 obtain ⟨rfl, rfl⟩ := trodVars_none hV
 have lt0 : ∀ x ∈ p0, x.block < W.heap.size := by obtain ⟨m, hm⟩ := h0; exact DataW.trod_lt m _ _ _ hm
 have lt1 : ∀ x ∈ p1, x.block < W.heap.size := by obtain ⟨m, hm⟩ := h1; exact DataW.trod_lt m _ _ _ hm
 have lt2 : ∀ x ∈ p2, x.block < W.heap.size := by obtain ⟨m, hm⟩ := h2; exact DataW.trod_lt m _ _ _ hm
 have lt3 : ∀ x ∈ p3, x.block < W.heap.size := by obtain ⟨m, hm⟩ := h3; exact DataW.trod_lt m _ _ _ hm
 have lt4 : ∀ x ∈ p4, x.block < W.heap.size := by obtain ⟨m, hm⟩ := h4; exact DataW.trod_lt m _ _ _ hm
 have k0 := h0
 have k1 := h1
 have k2 := h2
 have k3 := h3
 have k4 := h4
 obtain ⟨a0, len0, cap0, rfl⟩ := okWide_slice Tryd.underlying22 (hval 0 22 v0 rfl rfl)
 obtain ⟨a1, len1, cap1, rfl⟩ := okWide_slice Tryd.underlying23 (hval 1 23 v1 rfl rfl)
 obtain ⟨s, t, u, c, rfl, ws, wt, wu, wc⟩ := openA (hval 2 25 v2 rfl rfl) h2
 obtain ⟨A, len, cap, win, exc, rfl, hl3, hm3, ww, we, zs, rfl, hC3, hx3⟩ := openN (hval 3 41 v3 rfl rfl) h3
 obtain ⟨at_, rfl, wat⟩ := openT (hval 4 3 v4 rfl rfl) h4
 obtain ⟨fuel0, hf0⟩ := h0
 obtain ⟨fuel1, hf1⟩ := h1
 obtain ⟨hl0, hm0, xs, rfl, hC0, hx0⟩ := open33 hf0
 obtain ⟨hl1, hm1, ys, rfl, hC1, hx1⟩ := open25 hf1
 have hT := laid_tab hL
 clear hA0 hval0 hval
 refine (more_walk a0 cap0 xs a1 cap1 ys s t u c A cap zs win exc at_ W hC0 hl0 hC1 hl1 hC3 hl3 (fun a ha => ⟨i64_of_wf (hx1 a ha).1, i64_of_wf (hx1 a ha).2.1⟩) ⟨i64_of_wf ws, i64_of_wf wt⟩ hT).mono fun e W' ⟨he, bel⟩ => ?_
 subst he
 exact ⟨_, rfl, _, _, _, [], _, [], hW', trodAll_mk1 (shut_bool Tryd.underlying4 _), (trodAll_cons_mk (Below.trod laidOut (by kernel_rfl) (of_decide_eq_true (by kernel_rfl)) k0 bel lt0) (trodAll_cons_mk (Below.trod laidOut (by kernel_rfl) (of_decide_eq_true (by kernel_rfl)) k1 bel lt1) (trodAll_cons_mk (Below.trod laidOut (by kernel_rfl) (of_decide_eq_true (by kernel_rfl)) k2 bel lt2) (trodAll_cons_mk (Below.trod laidOut (by kernel_rfl) (of_decide_eq_true (by kernel_rfl)) k3 bel lt3) (trodAll_cons_mk (Below.trod laidOut (by kernel_rfl) (of_decide_eq_true (by kernel_rfl)) k4 bel lt4) trodAll_mk0))))), rfl, bel.frame _, fun h => by cases h⟩
theorem more_row : Rows.ApprovalMoreSaid :=
 OpenClaim.holds_of_wide 8 Tryd.f8 rfl rfl rfl rfl rfl rfl rfl ⟨rfl, rfl, rfl, rfl, rfl⟩ rfl rfl rfl rfl rfl (by kernel_rfl) Tryd.func8 (by kernel_rfl)
  (of_decide_eq_true (by kernel_rfl)) (by unfold Func.isWrapper; first | (rw [if_pos (by decide +kernel)]; kernel_rfl) | (rw [if_neg (by decide +kernel)]; exact ⟨rfl, rfl⟩))
  (fun os started H enc _ => more_lifted os started H enc)
end Go.Proofs.YtbfimjncophcaaaDoor.Pr
namespace Go.Proofs.YtbfimjncophcaaaDoor
open Go
theorem approvalMore_card_holds : Rows.ApprovalMoreCardSaid :=
 Claim7.holds_tied_plain_at .later [] [.data, .data, .data] true (true, "ce235c4e514d4b9682cfb6f7306d1b58979f00263ffa218bc38fad6034842ff5") false
  Pr.more_row (fun _ h => by cases h) (by kernel_rfl) (fun _ h => by cases h) approvalMore_row_tie rfl ⟨rfl, rfl⟩ (by kernel_rfl) rfl
  (fun f fn hf hfn => by
   obtain rfl : f = 8 := Option.some.inj ((show Tryd.prog.funcNamed "garboard/garboardlaw58.ApprovalMore" = some 8 by kernel_rfl).symm.trans hf) |>.symm
   obtain rfl : fn = Tryd.f8 := (Option.some.inj (Tryd.func8.symm.trans hfn)).symm
   exact ⟨by kernel_rfl, fun j t ht => by
    rw [Tryd.params8] at ht
    have hm : t ∈ [22, 23, 25, 41, 3] := by simpa using Array.mem_of_getElem? ht
    have hall : ([22, 23, 25, 41, 3].all fun u => !Tryd.prog.wantsStandIn u) = true := by kernel_rfl
    exact (show Tryd.prog.wantsStandIn t = false by simpa using List.all_eq_true.1 hall t hm)⟩)
  (by kernel_rfl)
end Go.Proofs.YtbfimjncophcaaaDoor
