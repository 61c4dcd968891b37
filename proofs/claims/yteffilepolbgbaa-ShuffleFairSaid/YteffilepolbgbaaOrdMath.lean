/- Plain facts on orders and draws. No Go in sight. -/
import Derived.Test.YteffilepolbgbaaSortMath
namespace Go.Proofs.Yteffilepolbgbaa

/-- The numbers 0 to n - 1. -/
def rng (n : Nat) : List Int := (List.range n).map (fun i : Nat => (i : Int))
theorem length_rng (n : Nat) : (rng n).length = n := by simp [rng]
theorem mem_rng (n : Nat) (x : Int) : x ∈ rng n ↔ 0 ≤ x ∧ x < n := by
  unfold rng
  rw [List.mem_map]
  constructor
  · rintro ⟨i, hi, rfl⟩; have := List.mem_range.1 hi; omega
  · intro h; exact ⟨x.toNat, List.mem_range.2 (by omega), by omega⟩
theorem nodup_rng (n : Nat) : (rng n).Nodup := by
  unfold rng
  exact List.Pairwise.map _ (fun a b h => by omega) (List.nodup_range (n := n))
theorem rng_succ (n : Nat) : rng (n + 1) = rng n ++ [(n : Int)] := by
  simp [rng, List.range_succ]

/-- Is it an order of as many as it has? -/
def isB (l : List Int) : Bool := decide (∀ x ∈ l, 0 ≤ x ∧ x < (l.length : Int)) && decide l.Nodup
theorem isB_perm {l : List Int} (h : isB l = true) : l.Perm (rng l.length) := by
  unfold isB at h
  rw [Bool.and_eq_true, decide_eq_true_eq, decide_eq_true_eq] at h
  obtain ⟨h1, h2⟩ := h
  rw [List.perm_ext_iff_of_nodup h2 (nodup_rng _)]
  intro a
  rw [mem_rng]
  refine ⟨h1 a, fun ha => ?_⟩
  by_cases hm : a ∈ l
  · exact hm
  · have := List.Nodup.length_le_of_subset (l₁ := a :: l) (l₂ := rng l.length) (List.nodup_cons.2 ⟨hm, h2⟩) (by
      intro x hx
      rcases List.mem_cons.1 hx with rfl | hx
      · exact (mem_rng _ _).2 ha
      · exact (mem_rng _ _).2 (h1 x hx))
    rw [length_rng, List.length_cons] at this
    omega
theorem isB_of_perm {l : List Int} {n : Nat} (h : l.Perm (rng n)) : isB l = true := by
  have hl : l.length = n := by rw [h.length_eq, length_rng]
  unfold isB
  rw [Bool.and_eq_true, decide_eq_true_eq, decide_eq_true_eq, hl]
  exact ⟨fun x hx => (mem_rng _ _).1 (h.mem_iff.1 hx), h.nodup_iff.2 (nodup_rng n)⟩

theorem getD_mem {l : List Int} {i : Nat} (h : i < l.length) : l.getD i 0 ∈ l := by
  have : l.getD i 0 = l[i] := by simp [List.getD, h]
  rw [this]; exact List.getElem_mem h
theorem nodup_getD {l : List Int} (hn : l.Nodup) {i j : Nat} (hi : i < l.length) (hj : j < l.length) (h : l.getD i 0 = l.getD j 0) : i = j := by
  have ei : l.getD i 0 = l[i] := by simp [List.getD, hi]
  have ej : l.getD j 0 = l[j] := by simp [List.getD, hj]
  rw [ei, ej] at h
  rcases Nat.lt_trichotomy i j with h' | h' | h'
  · exact absurd h (List.pairwise_iff_getElem.1 hn i j hi hj h')
  · exact h'
  · exact absurd h.symm (List.pairwise_iff_getElem.1 hn j i hj hi h')
theorem snoc_of {l : List Int} {n : Nat} (h : l.length = n + 1) : ∃ a x, l = a ++ [x] := by
  have hne : l ≠ [] := fun e => by rw [e] at h; simp at h
  exact ⟨l.dropLast, l.getLast hne, (List.dropLast_concat_getLast hne).symm⟩
theorem perm_pos {l : List Int} {n : Nat} (h : l.Perm (rng n)) {i : Nat} (hi : i < n) : ∃ j, j < n ∧ l.getD j 0 = i := by
  have hl : l.length = n := by rw [h.length_eq, length_rng]
  have : (i : Int) ∈ l := h.mem_iff.2 ((mem_rng _ _).2 ⟨by omega, by omega⟩)
  obtain ⟨j, hj, e⟩ := List.mem_iff_getElem.1 this
  exact ⟨j, by omega, by rw [← e]; simp [List.getD, hj]⟩
theorem perm_lt {l : List Int} {n : Nat} (h : l.Perm (rng n)) {i : Nat} (hi : i < n) : 0 ≤ l.getD i 0 ∧ l.getD i 0 < n := by
  have hl : l.length = n := by rw [h.length_eq, length_rng]
  exact (mem_rng _ _).1 (h.mem_iff.1 (getD_mem (by omega)))

theorem ext_getD {a b : List Int} (hl : a.length = b.length) (h : ∀ i, i < a.length → a.getD i 0 = b.getD i 0) : a = b := by
  apply List.ext_getElem hl
  intro i h1 h2
  have := h i h1
  simpa [List.getD, h1, h2] using this
theorem getD_append_left {a b : List Int} {i : Nat} (h : i < a.length) : (a ++ b).getD i 0 = a.getD i 0 := by
  rw [List.getD_eq_getElem?_getD, List.getD_eq_getElem?_getD, List.getElem?_append_left h]
theorem getD_append_last (a : List Int) (x : Int) : (a ++ [x]).getD a.length 0 = x := by
  rw [List.getD_eq_getElem?_getD, List.getElem?_append_right (Nat.le_refl _)]; simp

/-- One draw more. -/
def stepO (cur : List Int) (d : Int) : List Int := swapL (cur ++ [(cur.length : Int)]) cur.length (d % ((cur.length : Int) + 1)).toNat
theorem length_stepO (cur : List Int) (d : Int) : (stepO cur d).length = cur.length + 1 := by simp [stepO, length_swapL]

theorem emod_lt (d : Int) (m : Nat) : (d % ((m : Int) + 1)).toNat ≤ m := by
  have h1 := Int.emod_nonneg d (by omega : (m : Int) + 1 ≠ 0)
  have h2 := Int.emod_lt_of_pos d (by omega : 0 < (m : Int) + 1)
  omega

theorem perm_stepO {cur : List Int} (d : Int) (h : cur.Perm (rng cur.length)) : (stepO cur d).Perm (rng (cur.length + 1)) := by
  have hj := emod_lt d cur.length
  refine (perm_swapL _ _ _ (by simp) (by simp; omega)).trans ?_
  rw [rng_succ]
  exact h.append_right _

/-- Where a draw put the greatest number tells the draw, and what was there before. -/
theorem stepO_inj {a b : List Int} {i j : Nat} (hl : a.length = b.length) (ha : a.Perm (rng a.length)) (hb : b.Perm (rng b.length)) (hi : i ≤ a.length) (hj : j ≤ a.length)
    (h : swapL (a ++ [(a.length : Int)]) a.length i = swapL (b ++ [(b.length : Int)]) b.length j) : i = j ∧ a = b := by
  have ga := fun x => getD_swapL (a ++ [(a.length : Int)]) a.length i x (by simp) (by simp; omega)
  have gb := fun x => getD_swapL (b ++ [(b.length : Int)]) b.length j x (by simp) (by simp; omega)
  have la : ∀ x, x < a.length → (a ++ [(a.length : Int)]).getD x 0 = a.getD x 0 := fun x hx => getD_append_left hx
  have lb : ∀ x, x < b.length → (b ++ [(b.length : Int)]).getD x 0 = b.getD x 0 := fun x hx => getD_append_left hx
  have ea := getD_append_last a (a.length : Int)
  have eb := getD_append_last b (b.length : Int)
  have hij : i = j := by
    have h1 := congrArg (fun l : List Int => l.getD i 0) h
    simp only [ga, gb] at h1
    rw [if_pos trivial, ea] at h1
    by_cases hne : i = j
    · exact hne
    · rw [if_neg hne] at h1
      by_cases him : i = b.length
      · rw [if_pos him, lb j (by omega)] at h1
        have := (perm_lt hb (i := j) (by omega)).2
        omega
      · rw [if_neg him, lb i (by omega)] at h1
        have := (perm_lt hb (i := i) (by omega)).2
        omega
  subst hij
  refine ⟨rfl, ext_getD hl fun x hx => ?_⟩
  by_cases hxi : x = i
  · subst hxi
    have h1 := congrArg (fun l : List Int => l.getD a.length 0) h
    simp only [ga, gb] at h1
    rw [if_neg (by omega), if_pos trivial, if_neg (by omega), if_pos hl, la x hx, lb x (by omega)] at h1
    exact h1
  · have h1 := congrArg (fun l : List Int => l.getD x 0) h
    simp only [ga, gb] at h1
    rw [if_neg hxi, if_neg (by omega), if_neg hxi, if_neg (by omega), la x hx, lb x (by omega)] at h1
    exact h1

/-- The order that draws make. -/
def ordL (ds : List Int) : List Int := ds.foldl stepO []
theorem ordL_perm (ds : List Int) : (ordL ds).length = ds.length ∧ (ordL ds).Perm (rng ds.length) := by
  have key : ∀ (ds cur : List Int), cur.Perm (rng cur.length) → (ds.foldl stepO cur).length = cur.length + ds.length ∧ (ds.foldl stepO cur).Perm (rng (cur.length + ds.length)) := by
    intro ds
    induction ds with
    | nil => intro cur h; exact ⟨rfl, h⟩
    | cons d ds ih =>
      intro cur h
      have := ih (stepO cur d) (by rw [length_stepO]; exact perm_stepO d h)
      rw [length_stepO] at this
      simp only [List.foldl_cons, List.length_cons]
      rw [show cur.length + (ds.length + 1) = cur.length + 1 + ds.length by omega]
      exact this
  have := key ds [] (by simp [rng])
  simpa [ordL] using this
theorem ordL_snoc (ds : List Int) (d : Int) : ordL (ds ++ [d]) = stepO (ordL ds) d := by simp [ordL]

/-- Draws as they count: from 0 to their place. -/
def Canon (ds : List Int) : Prop := ∀ i, i < ds.length → 0 ≤ ds.getD i 0 ∧ ds.getD i 0 ≤ i

theorem canon_init {ds : List Int} {d : Int} (h : Canon (ds ++ [d])) : Canon ds ∧ 0 ≤ d ∧ d ≤ ds.length := by
  refine ⟨fun i hi => ?_, ?_⟩
  · have := h i (by simp; omega)
    rwa [getD_append_left hi] at this
  · have := h ds.length (by simp)
    rwa [getD_append_last] at this
theorem canon_snoc {ds : List Int} {d : Int} (h : Canon ds) (h0 : 0 ≤ d) (h1 : d ≤ ds.length) : Canon (ds ++ [d]) := by
  intro i hi
  rw [List.length_append] at hi
  simp at hi
  by_cases hil : i < ds.length
  · rw [getD_append_left hil]; exact h i hil
  · obtain rfl : i = ds.length := by omega
    rw [getD_append_last]; exact ⟨h0, h1⟩

/-- One draw, one order. -/
theorem ordL_inj : ∀ (n : Nat) (a b : List Int), a.length = n → b.length = n → Canon a → Canon b → ordL a = ordL b → a = b := by
  intro n
  induction n with
  | zero =>
    intro a b ha hb _ _ _
    rw [List.eq_nil_of_length_eq_zero ha, List.eq_nil_of_length_eq_zero hb]
  | succ n ih =>
    intro a b ha hb ca cb h
    obtain ⟨a', x, rfl⟩ : ∃ a' x, a = a' ++ [x] := snoc_of ha
    obtain ⟨b', y, rfl⟩ : ∃ b' y, b = b' ++ [y] := snoc_of hb
    simp at ha hb
    obtain ⟨ca', x0, x1⟩ := canon_init ca
    obtain ⟨cb', y0, y1⟩ := canon_init cb
    rw [ordL_snoc, ordL_snoc] at h
    have pa := ordL_perm a'
    have pb := ordL_perm b'
    have e := stepO_inj (a := ordL a') (b := ordL b') (by rw [pa.1, pb.1, ha, hb]) (by rw [pa.1]; exact pa.2) (by rw [pb.1]; exact pb.2) (emod_lt _ _) (by rw [pa.1, ha, ← hb, ← pb.1]; exact emod_lt _ _) h
    have hab := ih a' b' ha hb ca' cb' e.2
    subst hab
    have e1 := e.1
    rw [pa.1, Int.emod_eq_of_lt x0 (by omega), Int.emod_eq_of_lt y0 (by omega)] at e1
    rw [show x = y by omega]

/-- What draws count as. -/
def canonL (ds : List Int) : List Int := (List.range ds.length).map fun i => ds.getD i 0 % ((i : Int) + 1)
theorem length_canonL (ds : List Int) : (canonL ds).length = ds.length := by simp [canonL]
theorem getD_canonL (ds : List Int) (i : Nat) (h : i < ds.length) : (canonL ds).getD i 0 = ds.getD i 0 % ((i : Int) + 1) := by simp [canonL, List.getD, h]
theorem canon_canonL (ds : List Int) : Canon (canonL ds) := by
  intro i hi
  rw [length_canonL] at hi
  rw [getD_canonL _ _ hi]
  have h1 := Int.emod_nonneg (ds.getD i 0) (by omega : (i : Int) + 1 ≠ 0)
  have h2 := Int.emod_lt_of_pos (ds.getD i 0) (by omega : 0 < (i : Int) + 1)
  omega
theorem canonL_snoc (ds : List Int) (d : Int) : canonL (ds ++ [d]) = canonL ds ++ [d % ((ds.length : Int) + 1)] := by
  refine ext_getD (by simp [length_canonL]) fun i hi => ?_
  rw [length_canonL, List.length_append] at hi
  rw [getD_canonL _ _ (by simpa using hi)]
  simp at hi
  by_cases h : i < ds.length
  · rw [getD_append_left h, getD_append_left (by rw [length_canonL]; exact h), getD_canonL _ _ h]
  · obtain rfl : i = ds.length := by omega
    rw [getD_append_last]
    have := getD_append_last (canonL ds) (d % ((ds.length : Int) + 1))
    rw [length_canonL] at this
    rw [this]
theorem ordL_canonL (ds : List Int) : ordL (canonL ds) = ordL ds := by
  have key : ∀ n (ds : List Int), ds.length = n → ordL (canonL ds) = ordL ds := by
    intro n
    induction n with
    | zero => intro ds h; rw [List.eq_nil_of_length_eq_zero h]; rfl
    | succ n ih =>
      intro ds h
      obtain ⟨a, x, rfl⟩ : ∃ a x, ds = a ++ [x] := snoc_of h
      simp at h
      rw [canonL_snoc, ordL_snoc, ordL_snoc, ih a h]
      unfold stepO
      rw [(ordL_perm a).1, Int.emod_emod_of_dvd _ (Int.dvd_refl _)]
  exact key _ ds rfl

/-- The step back: the greatest number's place, and what was there before. -/
theorem step_back {cur : List Int} {m j : Nat} (hl : cur.length = m + 1) (hp : cur.Perm (rng (m + 1))) (hj : j ≤ m) (hjm : cur.getD j 0 = m) {bef : List Int} (hb : bef = (cur.set j (cur.getD m 0)).take m) :
    bef.length = m ∧ bef.Perm (rng m) ∧ stepO bef j = cur ∧ ∀ x, x < m → bef.getD x 0 = if x = j then cur.getD m 0 else cur.getD x 0 := by
  have hlen : bef.length = m := by rw [hb]; simp; omega
  have hget : ∀ x, x < m → bef.getD x 0 = if x = j then cur.getD m 0 else cur.getD x 0 := by
    intro x hx
    rw [hb]
    simp only [List.getD_eq_getElem?_getD]
    rw [List.getElem?_take_of_lt hx, List.getElem?_set]
    by_cases hxj : j = x
    · subst hxj; simp [show j < cur.length by omega]
    · rw [if_neg hxj, if_neg (fun e => hxj e.symm)]
  have hsw : bef ++ [(m : Int)] = swapL cur m j := by
    refine ext_getD (by simp [hlen, length_swapL, hl]) fun x hx => ?_
    rw [List.length_append, hlen] at hx
    simp at hx
    rw [getD_swapL _ _ _ _ (by omega) (by omega)]
    by_cases hxm : x < m
    · rw [getD_append_left (by omega), hget x hxm]
      split
      · rfl
      · rw [if_neg (by omega)]
    · obtain rfl : x = m := by omega
      have := getD_append_last bef (x : Int)
      rw [hlen] at this
      rw [this]
      split
      · rename_i h; subst h; exact hjm.symm
      · rw [if_pos rfl, hjm]
  refine ⟨hlen, ?_, ?_, hget⟩
  · have h1 : (bef ++ [(m : Int)]).Perm (rng m ++ [(m : Int)]) := by
      rw [hsw, ← rng_succ]; exact (perm_swapL _ _ _ (by omega) (by omega)).trans hp
    exact (List.perm_append_right_iff _).1 h1
  · unfold stepO
    rw [hlen, hsw, Int.emod_eq_of_lt (by omega) (by omega), Int.toNat_natCast]
    refine ext_getD (by simp [length_swapL]) fun x hx => ?_
    rw [length_swapL, length_swapL] at hx
    rw [getD_swapL _ _ _ _ (by rw [length_swapL]; omega) (by rw [length_swapL]; omega)]
    simp only [getD_swapL cur m j _ (show m < cur.length by omega) (show j < cur.length by omega)]
    by_cases h1 : x = j
    · subst h1
      by_cases h2 : m = x
      · simp [h2]
      · simp [h2]
    · by_cases h2 : x = m
      · subst h2; simp [h1]
      · simp [h1, h2]
end Go.Proofs.Yteffilepolbgbaa
