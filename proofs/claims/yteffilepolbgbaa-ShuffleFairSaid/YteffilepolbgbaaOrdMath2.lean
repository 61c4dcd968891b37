/- Plain facts on orders: when a list is one; the steps back from it to its draws. No Go in sight. -/
import Derived.Test.YteffilepolbgbaaOrdMath
namespace Go.Proofs.Yteffilepolbgbaa

theorem swapL_comm (l : List Int) (i j : Nat) (hi : i < l.length) (hj : j < l.length) : swapL l i j = swapL l j i := by
  refine ext_getD (by simp [length_swapL]) fun x hx => ?_
  rw [getD_swapL _ _ _ _ hi hj, getD_swapL _ _ _ _ hj hi]
  by_cases h1 : x = j
  · subst h1
    by_cases h2 : x = i
    · subst h2; rfl
    · simp [h2]
  · simp [h1]

theorem perm_of_subset : ∀ (m l : List Int), m.Nodup → m ⊆ l → l.length ≤ m.length → l.Perm m := by
  intro m
  induction m with
  | nil =>
    intro l _ _ h
    have hl : l = [] := List.eq_nil_of_length_eq_zero (by simpa using h)
    rw [hl]
  | cons a m ih =>
    intro l hn hs hl
    have ha : a ∈ l := hs (List.mem_cons_self ..)
    obtain ⟨h1, h2⟩ := List.nodup_cons.1 hn
    have hp := List.perm_cons_erase ha
    have hle : (l.erase a).length ≤ m.length := by
      have := hp.length_eq
      simp at this hl
      omega
    exact hp.trans ((ih (l.erase a) h2 (fun x hx => (List.mem_erase_of_ne (by rintro rfl; exact h1 hx)).2 (hs (List.mem_cons_of_mem _ hx))) hle).cons a)

def cnt2 (x : Int) (l : List Int) : Nat := l.count x
theorem cnt2_succ (x : Int) (zs : List Int) (k : Nat) (h : k < zs.length) : cnt2 x (zs.take (k + 1)) = cnt2 x (zs.take k) + if zs.getD k 0 = x then 1 else 0 := by
  unfold cnt2
  rw [List.take_succ_eq_append_getElem h, List.count_append]
  have : zs.getD k 0 = zs[k] := by simp [List.getD, h]
  rw [this]
  by_cases hx : zs[k] = x <;> simp [hx]
theorem cnt2_le (x : Int) (l : List Int) : cnt2 x l ≤ l.length := List.count_le_length
theorem isB_count {l : List Int} (h : isB l = true) {i : Nat} (hi : i < l.length) : cnt2 i l = 1 := by
  unfold cnt2
  rw [(isB_perm h).count_eq, List.Nodup.count (nodup_rng _), if_pos ((mem_rng _ _).2 ⟨by omega, by omega⟩)]
theorem isB_of_count {l : List Int} (h : ∀ i, i < l.length → cnt2 i l = 1) : isB l = true := by
  refine isB_of_perm (n := l.length) (perm_of_subset _ _ (nodup_rng _) (fun x hx => ?_) (by rw [length_rng]; exact Nat.le_refl _))
  have hx' := (mem_rng _ _).1 hx
  have := h x.toNat (by omega)
  rw [Int.toNat_of_nonneg hx'.1] at this
  exact List.count_pos_iff.1 (by unfold cnt2 at this; omega)

/-- Which numbers the first k are. -/
def seenL (zs : List Int) (n k : Nat) : List Bool := (List.range n).map fun x : Nat => decide ((x : Int) ∈ zs.take k)
theorem seenL_zero (zs : List Int) (n : Nat) : seenL zs n 0 = List.replicate n false := by
  unfold seenL
  apply List.ext_getElem
  · simp
  · intro i h1 h2; simp
theorem length_seenL (zs : List Int) (n k : Nat) : (seenL zs n k).length = n := by simp [seenL]
theorem getD_seenL (zs : List Int) (n k x : Nat) (h : x < n) : (seenL zs n k).getD x false = decide ((x : Int) ∈ zs.take k) := by simp [seenL, List.getD, h]
theorem seenL_succ (zs : List Int) (n k x : Nat) (hk : k < zs.length) (hx : zs.getD k 0 = x) : seenL zs n (k + 1) = (seenL zs n k).set x true := by
  apply List.ext_getElem
  · simp [length_seenL]
  · intro i h1 h2
    rw [length_seenL] at h1
    rw [List.getElem_set]
    have e : zs[k] = (x : Int) := by rw [← hx]; simp [List.getD, hk]
    by_cases h : x = i
    · subst h
      simp only [seenL, List.getElem_map, List.getElem_range, if_pos trivial]
      rw [List.take_succ_eq_append_getElem hk]
      simp [e]
    · simp only [seenL, List.getElem_map, List.getElem_range, if_neg h]
      rw [List.take_succ_eq_append_getElem hk]
      have h' : ¬ (i : Int) = (x : Int) := by omega
      simp [e, h']

theorem isB_range {zs : List Int} {k : Nat} (hk : k < zs.length) (h : zs.getD k 0 < 0 ∨ (zs.length : Int) ≤ zs.getD k 0) : isB zs = false := by
  cases hb : isB zs with
  | false => rfl
  | true =>
    have := perm_lt (isB_perm hb) hk
    omega
theorem isB_dup {zs : List Int} {k : Nat} (hk : k < zs.length) (h : zs.getD k 0 ∈ zs.take k) : isB zs = false := by
  cases hb : isB zs with
  | false => rfl
  | true =>
    have hn : zs.Nodup := (isB_perm hb).nodup_iff.2 (nodup_rng _)
    obtain ⟨i, hi, e⟩ := List.mem_iff_getElem.1 h
    rw [List.length_take] at hi
    rw [List.getElem_take] at e
    have := nodup_getD hn (i := i) (j := k) (by omega) hk (by rw [← e]; simp [List.getD, show i < zs.length by omega])
    omega
theorem nodup_next {zs : List Int} {k : Nat} (hk : k < zs.length) (hn : (zs.take k).Nodup) (h : zs.getD k 0 ∉ zs.take k) : (zs.take (k + 1)).Nodup := by
  rw [List.take_succ_eq_append_getElem hk]
  have e : zs.getD k 0 = zs[k] := by simp [List.getD, hk]
  rw [e] at h
  rw [List.nodup_append]
  refine ⟨hn, by simp, fun a ha b hb => ?_⟩
  simp at hb
  subst hb
  intro e2
  exact h (e2 ▸ ha)
theorem isB_all {zs : List Int} (hn : (zs.take zs.length).Nodup) (hr : ∀ i, i < zs.length → 0 ≤ zs.getD i 0 ∧ zs.getD i 0 < zs.length) : isB zs = true := by
  rw [List.take_length] at hn
  unfold isB
  rw [Bool.and_eq_true, decide_eq_true_eq, decide_eq_true_eq]
  refine ⟨fun x hx => ?_, hn⟩
  obtain ⟨i, hi, rfl⟩ := List.mem_iff_getElem.1 hx
  have := hr i hi
  simpa [List.getD, hi] using this

/-- On the way back from an order to its draws: t numbers are left. -/
structure Inv2 (zs : List Int) (n t : Nat) (rl pl E : List Int) : Prop where
  rlen : rl.length = n
  plen : pl.length = n
  tn : t ≤ n
  perm : (rl.take t).Perm (rng t)
  pos : ∀ x, x < t → ∃ j, j < t ∧ pl.getD x 0 = (j : Int) ∧ rl.getD j 0 = (x : Int)
  elen : E.length = n - t
  fold : E.foldl stepO (rl.take t) = zs
  canon : ∀ i, i < E.length → 0 ≤ E.getD i 0 ∧ E.getD i 0 ≤ ((t + i : Nat) : Int)

theorem getD_take {l : List Int} {t i : Nat} (h : i < t) : (l.take t).getD i 0 = l.getD i 0 := by
  rw [List.getD_eq_getElem?_getD, List.getD_eq_getElem?_getD, List.getElem?_take_of_lt h]
theorem getD_set (l : List Int) (i x : Nat) (v : Int) (hi : i < l.length) : (l.set i v).getD x 0 = if x = i then v else l.getD x 0 := by
  rw [List.getD_eq_getElem?_getD, List.getD_eq_getElem?_getD, List.getElem?_set]
  by_cases h : i = x
  · subst h; simp [hi]
  · rw [if_neg h, if_neg (fun e => h e.symm)]

theorem inv2_start {zs pl : List Int} {n : Nat} (hn : n = zs.length) (hb : isB zs = true) (hp : pl.length = n) (h : ∀ i, i < n → pl.getD (zs.getD i 0).toNat 0 = i) : Inv2 zs n n zs pl [] := by
  have hperm : zs.Perm (rng n) := by rw [hn]; exact isB_perm hb
  refine ⟨hn.symm, hp, Nat.le_refl _, by rw [List.take_of_length_le (by omega)]; exact hperm, fun x hx => ?_, by simp, by rw [List.take_of_length_le (by omega)]; rfl, fun i hi => by simp at hi⟩
  obtain ⟨j, hj, e⟩ := perm_pos hperm hx
  refine ⟨j, hj, ?_, e⟩
  have := h j hj
  rw [e, Int.toNat_natCast] at this
  exact this

theorem inv2_at {zs rl pl E : List Int} {n m : Nat} (h : Inv2 zs n (m + 1) rl pl E) : ∃ j : Nat, j ≤ m ∧ pl.getD m 0 = (j : Int) ∧ rl.getD j 0 = (m : Int) := by
  obtain ⟨j, hj, e1, e2⟩ := h.pos m (by omega)
  exact ⟨j, by omega, e1, e2⟩
theorem inv2_val {zs rl pl E : List Int} {n m : Nat} (h : Inv2 zs n (m + 1) rl pl E) : ∃ x : Nat, x ≤ m ∧ rl.getD m 0 = (x : Int) := by
  have := perm_lt h.perm (i := m) (by omega)
  rw [getD_take (by omega)] at this
  exact ⟨(rl.getD m 0).toNat, by omega, by omega⟩

theorem inv2_step {zs rl pl E : List Int} {n m j x : Nat} (h : Inv2 zs n (m + 1) rl pl E) (hj : j ≤ m) (hp : pl.getD m 0 = (j : Int)) (hr : rl.getD j 0 = (m : Int)) (hx : x ≤ m) (hv : rl.getD m 0 = (x : Int)) :
    Inv2 zs n m (rl.set j (x : Int)) (pl.set x (j : Int)) ((j : Int) :: E) := by
  have hmn := h.tn
  have hrl := h.rlen
  have hpl := h.plen
  have hcl : (rl.take (m + 1)).length = m + 1 := by rw [List.length_take]; omega
  have hcj : (rl.take (m + 1)).getD j 0 = (m : Int) := by rw [getD_take (by omega)]; exact hr
  have hbef : (rl.set j (x : Int)).take m = ((rl.take (m + 1)).set j ((rl.take (m + 1)).getD m 0)).take m := by
    rw [getD_take (by omega), hv]
    refine ext_getD (by simp; omega) fun i hi => ?_
    have hi' : i < m := by simp at hi; omega
    rw [getD_take hi', getD_take hi', getD_set _ _ _ _ (by omega), getD_set _ _ _ _ (by omega), getD_take (by omega)]
  obtain ⟨b1, b2, b3, b4⟩ := step_back hcl h.perm hj hcj hbef
  refine ⟨by simp [hrl], by simp [hpl], by omega, b2, fun y hy => ?_, by simp [h.elen]; omega, ?_, fun i hi => ?_⟩
  · by_cases hyx : y = x
    · subst hyx
      have hjm : j ≠ m := by
        rintro rfl
        rw [hr] at hv
        omega
      exact ⟨j, by omega, by rw [getD_set _ _ _ _ (by omega), if_pos rfl], by rw [getD_set _ _ _ _ (by omega), if_pos rfl]⟩
    · obtain ⟨i, hi, e1, e2⟩ := h.pos y (by omega)
      have him : i ≠ m := by
        rintro rfl
        rw [hv] at e2
        omega
      have hij : i ≠ j := by
        rintro rfl
        rw [hr] at e2
        omega
      exact ⟨i, by omega, by rw [getD_set _ _ _ _ (by omega), if_neg hyx]; exact e1, by rw [getD_set _ _ _ _ (by omega), if_neg hij]; exact e2⟩
  · rw [List.foldl_cons, b3]; exact h.fold
  · match i with
    | 0 => simp; omega
    | i + 1 =>
      have := h.canon i (by simpa using hi)
      simp only [List.getD_cons_succ]
      omega

theorem inv2_end {zs rl pl E : List Int} {n : Nat} (h : Inv2 zs n 0 rl pl E) : E.length = n ∧ Canon E ∧ ordL E = zs := by
  refine ⟨by have := h.elen; omega, fun i hi => ?_, by have := h.fold; simpa [ordL] using this⟩
  have := h.canon i hi
  simpa using this
end Go.Proofs.Yteffilepolbgbaa
