/- Plain facts on lists of integers: two places exchanged; a heap; what a sink does; sorted lists that hold the same are one. No Go in sight. -/
namespace Go.Proofs.Yteffilepolbgbaa

/-- Two places of a list change what they hold. -/
def swapL (l : List Int) (i j : Nat) : List Int := (l.set i (l.getD j 0)).set j (l.getD i 0)
theorem length_swapL (l : List Int) (i j : Nat) : (swapL l i j).length = l.length := by simp [swapL]

theorem getD_swapL (l : List Int) (i j x : Nat) (hi : i < l.length) (hj : j < l.length) :
    (swapL l i j).getD x 0 = if x = j then l.getD i 0 else if x = i then l.getD j 0 else l.getD x 0 := by
  simp only [swapL, List.getD_eq_getElem?_getD, List.getElem?_set, List.length_set]
  by_cases h1 : x = j
  · subst h1; simp [hj]
  · have h1' : ¬ j = x := fun e => h1 e.symm
    by_cases h2 : x = i
    · subst h2; simp [hi, h1, h1']
    · have h2' : ¬ i = x := fun e => h2 e.symm
      simp [h1, h1', h2, h2']

theorem perm_swapL (l : List Int) (i j : Nat) (hi : i < l.length) (hj : j < l.length) : (swapL l i j).Perm l := by
  rw [List.perm_iff_count]
  intro b
  have ei : l.getD i 0 = l[i] := by simp [List.getD, hi]
  have ej : l.getD j 0 = l[j] := by simp [List.getD, hj]
  unfold swapL
  rw [ei, ej]
  by_cases hij : i = j
  · subst hij
    simp
  · have hj' : j < (l.set i l[j]).length := by simpa using hj
    rw [List.count_set hj', List.count_set hi]
    have e2 : (l.set i l[j])[j] = l[j] := by rw [List.getElem_set]; simp [hij]
    rw [e2]
    have hc1 : l[i] = b → 1 ≤ List.count b l := fun h => List.count_pos_iff.2 (h ▸ List.getElem_mem hi)
    have key : ∀ (p q : Bool) (n : Nat), (p = true → 1 ≤ n) → (n - (if p = true then 1 else 0) + (if q = true then 1 else 0)) - (if q = true then 1 else 0) + (if p = true then 1 else 0) = n := by
      intro p q n h
      cases p <;> cases q <;> simp at h ⊢ <;> omega
    exact key _ _ _ (fun h => hc1 (by simpa using h))

/-- No place from 'lo' on, among the first m, is below one under it. -/
def HeapFrom (l : List Int) (m lo : Nat) : Prop := ∀ c, c < m → 1 ≤ c → lo ≤ (c - 1) / 2 → l.getD c 0 ≤ l.getD ((c - 1) / 2) 0

/-- The same but at place k, whose children are no greater than what stands above k. -/
def HoleAt (l : List Int) (m lo k : Nat) : Prop :=
  (∀ c, c < m → 1 ≤ c → lo ≤ (c - 1) / 2 → (c - 1) / 2 ≠ k → l.getD c 0 ≤ l.getD ((c - 1) / 2) 0) ∧
  (1 ≤ k → lo ≤ (k - 1) / 2 → ∀ c, c < m → 1 ≤ c → (c - 1) / 2 = k → l.getD c 0 ≤ l.getD ((k - 1) / 2) 0)

/-- What exchanges among the first m places leave. -/
structure Sunk (m : Nat) (l l' : List Int) : Prop where
  len : l'.length = l.length
  perm : l'.Perm l
  past : ∀ x, m ≤ x → l'.getD x 0 = l.getD x 0
  top : ∀ u, (∀ x, x < m → l.getD x 0 ≤ u) → ∀ x, x < m → l'.getD x 0 ≤ u

theorem Sunk.refl (m : Nat) (l : List Int) : Sunk m l l := ⟨rfl, .refl _, fun _ _ => rfl, fun _ h => h⟩
theorem Sunk.trans {m : Nat} {a b c : List Int} (h : Sunk m a b) (k : Sunk m b c) : Sunk m a c :=
  ⟨k.len.trans h.len, k.perm.trans h.perm, fun x hx => (k.past x hx).trans (h.past x hx), fun u hu => k.top u (h.top u hu)⟩
theorem Sunk.swap {m : Nat} {l : List Int} {i j : Nat} (hi : i < m) (hj : j < m) (hm : m ≤ l.length) : Sunk m l (swapL l i j) := by
  refine ⟨length_swapL _ _ _, perm_swapL l i j (by omega) (by omega), fun x hx => ?_, fun u hu x hx => ?_⟩
  · rw [getD_swapL _ _ _ _ (by omega) (by omega), if_neg (by omega), if_neg (by omega)]
  · rw [getD_swapL _ _ _ _ (by omega) (by omega)]
    split
    · exact hu i hi
    · split
      · exact hu j hj
      · exact hu x hx

theorem hole_start {l : List Int} {m k : Nat} (h : HeapFrom l m (k + 1)) : HoleAt l m k k :=
  ⟨fun c hc h1 h2 h3 => h c hc h1 (by omega), fun h1 h2 => by omega⟩

/-- No child: it is a heap. -/
theorem hole_leaf {l : List Int} {m lo k : Nat} (h : HoleAt l m lo k) (hk : m ≤ 2 * k + 1) : HeapFrom l m lo := by
  intro c hc h1 h2
  by_cases h3 : (c - 1) / 2 = k
  · omega
  · exact h.1 c hc h1 h2 h3
/-- No child is greater: it is a heap. -/
theorem hole_done {l : List Int} {m lo k : Nat} (h : HoleAt l m lo k) (h1 : l.getD (2 * k + 1) 0 ≤ l.getD k 0) (h2 : 2 * k + 2 < m → l.getD (2 * k + 2) 0 ≤ l.getD k 0) : HeapFrom l m lo := by
  intro c hc hc1 hlo
  by_cases h3 : (c - 1) / 2 = k
  · rw [h3]
    by_cases h4 : c = 2 * k + 1
    · rw [h4]; exact h1
    · have : c = 2 * k + 2 := by omega
      rw [this]; exact h2 (by omega)
  · exact h.1 c hc hc1 hlo h3
/-- The greatest child goes up. -/
theorem hole_down {l : List Int} {m lo k c : Nat} (h : HoleAt l m lo k) (hm : m ≤ l.length) (hc : c = 2 * k + 1 ∨ c = 2 * k + 2) (hcm : c < m) (hlo : lo ≤ k)
    (hgt : l.getD k 0 ≤ l.getD c 0) (hsib : ∀ d, d < m → (d = 2 * k + 1 ∨ d = 2 * k + 2) → l.getD d 0 ≤ l.getD c 0) : HoleAt (swapL l k c) m lo c := by
  have hg := fun x => getD_swapL l k c x (by omega) (by omega)
  constructor
  · intro d hd hd1 hdlo hdc
    rw [hg d, hg ((d - 1) / 2)]
    by_cases hp : (d - 1) / 2 = k
    · rw [if_neg (by omega : ¬ (d - 1) / 2 = c), if_pos hp]
      by_cases hdc' : d = c
      · rw [if_pos hdc']; exact hgt
      · rw [if_neg hdc', if_neg (by omega)]
        exact hsib d hd (by omega)
    · rw [if_neg hdc, if_neg hp]
      by_cases hdk : d = k
      · rw [if_neg (by omega), if_pos hdk, hdk]
        subst hdk
        exact h.2 hd1 hdlo c hcm (by omega) (by omega)
      · rw [if_neg (by omega), if_neg hdk]
        exact h.1 d hd hd1 hdlo hp
  · intro _ _ d hd hd1 hpd
    rw [hg d, hg ((c - 1) / 2), if_neg (by omega), if_neg (by omega), if_neg (by omega), if_pos (by omega)]
    have := h.1 d hd hd1 (by omega) (by omega)
    rw [hpd] at this
    exact this

theorem heap_root {l : List Int} {m : Nat} (h : HeapFrom l m 0) : ∀ x, x < m → l.getD x 0 ≤ l.getD 0 0 := by
  intro x
  induction x using Nat.strongRecOn with
  | _ x ih =>
    intro hx
    by_cases h0 : x = 0
    · rw [h0]; exact Int.le_refl _
    · exact Int.le_trans (h x hx (by omega) (by omega)) (ih ((x - 1) / 2) (by omega) (by omega))

theorem heap_half (l : List Int) (n lo : Nat) (h : n ≤ 2 * lo + 1) : HeapFrom l n lo := by
  intro c hc h1 h2; omega

/-- The first e places are a heap; behind them all is sorted, and nothing ahead is greater. -/
structure Phase (l : List Int) (e : Nat) : Prop where
  heap : HeapFrom l e 0
  tail : ∀ i j, e ≤ i → i < j → j < l.length → l.getD i 0 ≤ l.getD j 0
  cut : ∀ i j, i < e → e ≤ j → j < l.length → l.getD i 0 ≤ l.getD j 0

theorem phase_start {l : List Int} (h : HeapFrom l l.length 0) : Phase l l.length := ⟨h, fun _ _ _ _ _ => by omega, fun _ _ _ _ _ => by omega⟩

/-- Behind the exchange of the root with the last one. -/
theorem phase_swap {l : List Int} {e : Nat} (h : Phase l (e + 1)) (he : e < l.length) (h0 : 0 < e) : HeapFrom (swapL l 0 e) e 1 ∧
    (∀ i j, e ≤ i → i < j → j < l.length → (swapL l 0 e).getD i 0 ≤ (swapL l 0 e).getD j 0) ∧ (∀ j, e ≤ j → j < l.length → ∀ i, i < e → (swapL l 0 e).getD i 0 ≤ (swapL l 0 e).getD j 0) := by
  have hg := fun x => getD_swapL l 0 e x (by omega) he
  have hr := heap_root h.heap
  refine ⟨fun c hc h1 h2 => ?_, fun i j hi hij hj => ?_, fun j hj hjl i hi => ?_⟩
  · rw [hg c, hg ((c - 1) / 2), if_neg (by omega), if_neg (by omega), if_neg (by omega), if_neg (by omega)]
    exact h.heap c (by omega) h1 (by omega)
  · rw [hg i, hg j, if_neg (by omega : ¬ j = e), if_neg (by omega : ¬ j = 0)]
    by_cases hie : i = e
    · rw [if_pos hie]; exact h.cut 0 j (by omega) (by omega) hj
    · rw [if_neg hie, if_neg (by omega)]; exact h.tail i j (by omega) hij hj
  · rw [hg i, hg j, if_neg (by omega : ¬ i = e)]
    by_cases hje : j = e
    · rw [if_pos hje]
      split
      · exact hr e (by omega)
      · exact hr i (by omega)
    · rw [if_neg hje, if_neg (by omega : ¬ j = 0)]
      split
      · exact h.cut e j (by omega) (by omega) hjl
      · exact h.cut i j (by omega) (by omega) hjl

theorem phase_next {l l' : List Int} {e : Nat} (h : Phase l (e + 1)) (he : e < l.length) (h0 : 0 < e) (hs : Sunk e (swapL l 0 e) l') (hh : HeapFrom l' e 0) : Phase l' e := by
  obtain ⟨_, h2, h3⟩ := phase_swap h he h0
  have hl : l'.length = l.length := hs.len.trans (length_swapL _ _ _)
  refine ⟨hh, fun i j hi hij hj => ?_, fun i j hi hj hjl => ?_⟩
  · rw [hs.past i hi, hs.past j (by omega)]
    exact h2 i j hi hij (by omega)
  · rw [hs.past j hj]
    exact hs.top _ (h3 j hj (by omega)) i hi

theorem phase_sorted {l : List Int} (h : Phase l 1) : l.Pairwise (· ≤ ·) := by
  rw [List.pairwise_iff_getElem]
  intro i j hi hj hij
  have ei : l.getD i 0 = l[i] := by simp [List.getD, hi]
  have ej : l.getD j 0 = l[j] := by simp [List.getD, hj]
  rw [← ei, ← ej]
  by_cases h0 : i < 1
  · exact h.cut i j h0 (by omega) hj
  · exact h.tail i j (by omega) hij hj
theorem short_sorted {l : List Int} (h : l.length ≤ 1) : l.Pairwise (· ≤ ·) := by
  rw [List.pairwise_iff_getElem]
  intro i j hi hj hij
  omega

theorem sorted_unique {a b : List Int} (ha : a.Pairwise (· ≤ ·)) (hb : b.Pairwise (· ≤ ·)) (h : a.Perm b) : a = b :=
  List.Perm.eq_of_pairwise (fun _ _ _ _ h1 h2 => Int.le_antisymm h1 h2) ha hb h
end Go.Proofs.Yteffilepolbgbaa
