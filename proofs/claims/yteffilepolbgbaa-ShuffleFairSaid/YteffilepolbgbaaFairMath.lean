/- Of all orders each number that may be is the first one just as often: plain; the counting itself by the kernel, over Nat. -/
import Derived.Test.YteffilepolbgbaaLawAll
import Derived.Test.YteffilepolbgbaaFirst
import Derived.Test.YteffilepolbgbaaFairCheck
namespace Go.Proofs.Yteffilepolbgbaa
set_option linter.unusedVariables false

/-! ### From Int to Nat -/
def castL (l : List Nat) : List Int := l.map fun x : Nat => (x : Int)
theorem castL_getD (l : List Nat) (i : Nat) : (castL l).getD i 0 = ((l.getD i 0 : Nat) : Int) := by
  unfold castL
  rw [List.getD_eq_getElem?_getD, List.getD_eq_getElem?_getD, List.getElem?_map]
  cases l[i]? <;> rfl

theorem stepN_cast (l : List Nat) (d : Nat) (h : d ≤ l.length) : stepO (castL l) (d : Int) = castL (stepN l d) := by
  have hl : (castL l).length = l.length := by simp [castL]
  unfold stepO stepN
  rw [hl, Int.emod_eq_of_lt (by omega) (by omega), Int.toNat_natCast]
  refine ext_getD (by simp [length_swapL, castL]) fun x hx => ?_
  rw [length_swapL, List.length_append, hl] at hx
  simp at hx
  rw [getD_swapL _ _ _ _ (by simp [hl]) (by simp [hl]; omega)]
  have e1 := getD_append_last (castL l) (l.length : Int)
  rw [hl] at e1
  have e2 : ∀ y, y < l.length → (castL l ++ [(l.length : Int)]).getD y 0 = ((l.getD y 0 : Nat) : Int) := fun y hy => by
    rw [getD_append_left (by rw [hl]; exact hy), castL_getD]
  rw [castL_getD, e1]
  have e3 : ((l ++ [l.getD d l.length]).set d l.length).getD x 0 = if x = d then l.length else (l ++ [l.getD d l.length]).getD x 0 := by
    simp only [List.getD_eq_getElem?_getD, List.getElem?_set]
    by_cases hxd : d = x
    · subst hxd; simp [show d < l.length + 1 by omega]
    · rw [if_neg hxd, if_neg (fun e => hxd e.symm)]
  rw [e3]
  by_cases hxd : x = d
  · rw [if_pos hxd, if_pos hxd]
  · rw [if_neg hxd, if_neg hxd]
    by_cases hxl : x = l.length
    · subst hxl
      rw [if_pos rfl]
      have e4 : (l ++ [l.getD d l.length]).getD l.length 0 = l.getD d l.length := by
        rw [List.getD_eq_getElem?_getD, List.getElem?_append_right (Nat.le_refl _)]; simp
      rw [e4]
      have hdl : d < l.length := by omega
      rw [e2 d hdl]
      simp [List.getD, hdl]
    · rw [if_neg hxl, e2 x (by omega)]
      have e4 : (l ++ [l.getD d l.length]).getD x 0 = l.getD x 0 := by
        rw [List.getD_eq_getElem?_getD, List.getElem?_append_left (by omega), List.getD_eq_getElem?_getD]
      rw [e4]

theorem length_stepN (l : List Nat) (d : Nat) : (stepN l d).length = l.length + 1 := by simp [stepN]
theorem length_ordersN (n : Nat) : ∀ l ∈ ordersN n, l.length = n := by
  induction n with
  | zero => intro l h; simp [ordersN] at h; rw [h]; rfl
  | succ n ih =>
    intro l h
    obtain ⟨a, ha, hl⟩ := List.mem_flatMap.1 h
    obtain ⟨d, _, rfl⟩ := List.mem_map.1 hl
    rw [length_stepN, ih a ha]
theorem map_flatMap' {α β γ : Type} (f : β → γ) (g : α → List β) : ∀ l : List α, (l.flatMap g).map f = l.flatMap fun a => (g a).map f := by
  intro l
  induction l with
  | nil => rfl
  | cons a l ih => simp [List.flatMap_cons, ih]
theorem flatMap_congr' {α β : Type} {f g : α → List β} : ∀ {l : List α}, (∀ a ∈ l, f a = g a) → l.flatMap f = l.flatMap g := by
  intro l
  induction l with
  | nil => intro _; rfl
  | cons a l ih => intro h; rw [List.flatMap_cons, List.flatMap_cons, h a (List.mem_cons_self ..), ih fun b hb => h b (List.mem_cons_of_mem _ hb)]
theorem flatMap_map' {α β γ : Type} (f : α → β) (g : β → List γ) : ∀ l : List α, (l.map f).flatMap g = l.flatMap fun a => g (f a) := by
  intro l
  induction l with
  | nil => rfl
  | cons a l ih => simp [List.flatMap_cons, ih]

theorem orders_cast (n : Nat) : (allL n).map ordL = (ordersN n).map castL := by
  induction n with
  | zero => rfl
  | succ n ih =>
    have h1 : (allL (n + 1)).map ordL = ((allL n).map ordL).flatMap fun o => (List.range (n + 1)).map fun d : Nat => stepO o (d : Int) := by
      show ((allL n).flatMap fun l => rowTo l (n + 1)).map ordL = _
      rw [map_flatMap', flatMap_map']
      refine flatMap_congr' fun l hl => ?_
      unfold rowTo
      rw [List.map_map]
      refine List.map_congr_left fun d _ => ?_
      exact ordL_snoc l (d : Int)
    rw [h1, ih, flatMap_map']
    show _ = ((ordersN n).flatMap _).map castL
    rw [map_flatMap']
    refine flatMap_congr' fun l hl => ?_
    rw [List.map_map]
    refine List.map_congr_left fun d hd => ?_
    have := List.mem_range.1 hd
    exact stepN_cast l d (by rw [length_ordersN n l hl]; omega)

theorem mayB_cast (bs : List Bool) (x : Nat) : mayB bs (x : Int) = bs.getD x false := by
  unfold mayB
  rw [Int.toNat_natCast]
  by_cases h : x < bs.length
  · simp [h]
  · have : bs.getD x false = false := by simp [List.getD, List.getElem?_eq_none (by omega : bs.length ≤ x)]
    rw [this]; simp

/-- Is this number the first one of the order? -/
def hit (bs : List Bool) (o : List Int) (x : Nat) : Bool := firstOk o bs && decide (firstI o bs = (x : Int))
theorem hit_cast (bs : List Bool) : ∀ (l : List Nat) (x : Nat), x < 9 → hit bs (castL l) x = Nat.beq (firstN l bs) x := by
  intro l
  induction l with
  | nil =>
    intro x hx
    have : Nat.beq 9 x = false := by
      cases h : Nat.beq 9 x with
      | false => rfl
      | true => have := Nat.eq_of_beq_eq_true h; omega
    simp [hit, castL, firstOk, firstN, this]
  | cons a l ih =>
    intro x hx
    have e : castL (a :: l) = (a : Int) :: castL l := rfl
    unfold hit
    rw [e]
    unfold firstOk firstI firstN
    rw [mayB_cast]
    cases h : bs.getD a false with
    | true =>
      simp
      cases hb : Nat.beq a x with
      | true => have := Nat.eq_of_beq_eq_true hb; subst this; simp
      | false => have := Nat.ne_of_beq_eq_false hb; simp; omega
    | false =>
      have := ih x hx
      unfold hit at this
      simpa using this

/-- Of the first i rows of draws, how often a number is the first one. -/
def winN (bs : List Bool) (n i x : Nat) : Nat := ((allL n).take i).countP fun d => hit bs (ordL d) x
theorem cntWin_countP (bs : List Bool) (x : Nat) : ∀ (l : List (List Nat)) (a : Nat), cntWin bs x l a = a + l.countP fun o => Nat.beq (firstN o bs) x := by
  intro l
  induction l with
  | nil => intro a; simp [cntWin]
  | cons o l ih =>
    intro a
    unfold cntWin
    rw [List.countP_cons]
    cases h : Nat.beq (firstN o bs) x with
    | true => simp only [cond_true, if_pos]; rw [ih]; simp; omega
    | false => simp only [cond_false]; rw [ih]; simp

theorem winN_all (bs : List Bool) (h : bs.length ≤ 6) (x : Nat) (hx : x < bs.length) :
    winN bs bs.length (allL bs.length).length x = if bs.getD x false = true then facN bs.length / numT bs else 0 := by
  rw [← cnt_nat bs h x hx, cntWin_countP, Nat.zero_add]
  unfold winN
  rw [List.take_length]
  have e : ((allL bs.length).countP fun d => hit bs (ordL d) x) = ((allL bs.length).map ordL).countP fun o => hit bs o x := by rw [List.countP_map]; rfl
  rw [e, orders_cast, List.countP_map]
  refine List.countP_congr fun o _ => ?_
  show hit bs (castL o) x = true ↔ _
  rw [hit_cast bs o x (by omega)]

/-- In an order of as many as may holds, one may be just if one is there that may. -/
theorem firstOk_iff (bs : List Bool) (o : List Int) : firstOk o bs = o.any fun x => mayB bs x := by
  induction o with
  | nil => rfl
  | cons a l ih =>
    unfold firstOk
    rw [List.any_cons, ih]
    cases mayB bs a <;> simp
theorem numT_pos : ∀ (bs : List Bool), 0 < numT bs ↔ ∃ i, i < bs.length ∧ bs.getD i false = true := by
  intro bs
  induction bs with
  | nil => simp [numT]
  | cons b l ih =>
    unfold numT
    cases b with
    | true => simp only [cond_true]; exact ⟨fun _ => ⟨0, by simp, rfl⟩, fun _ => by omega⟩
    | false =>
      simp only [cond_false]
      rw [ih]
      constructor
      · rintro ⟨i, h1, h2⟩; exact ⟨i + 1, by simpa using h1, by simpa using h2⟩
      · rintro ⟨i, h1, h2⟩
        match i with
        | 0 => simp at h2
        | i + 1 => exact ⟨i, by simpa using h1, by simpa using h2⟩
theorem firstOk_order {bs : List Bool} {o : List Int} (h : o.Perm (rng bs.length)) : firstOk o bs = decide (0 < numT bs) := by
  rw [firstOk_iff]
  by_cases hp : 0 < numT bs
  · rw [decide_eq_true hp]
    obtain ⟨i, h1, h2⟩ := (numT_pos bs).1 hp
    rw [List.any_eq_true]
    exact ⟨(i : Int), h.mem_iff.2 ((mem_rng _ _).2 ⟨by omega, by omega⟩), by rw [mayB_cast]; exact h2⟩
  · rw [decide_eq_false hp]
    cases ha : o.any fun x => mayB bs x with
    | false => rfl
    | true =>
      obtain ⟨x, hx, hm⟩ := List.any_eq_true.1 ha
      have hx' := (mem_rng _ _).1 (h.mem_iff.1 hx)
      exact absurd ((numT_pos bs).2 ⟨x.toNat, by omega, by
        have := mayB_cast bs x.toNat
        rw [Int.toNat_of_nonneg hx'.1] at this
        rw [← this]; exact hm⟩) hp
theorem firstI_in {bs : List Bool} : ∀ (o : List Int), firstOk o bs = true → 0 ≤ firstI o bs ∧ firstI o bs < bs.length := by
  intro o
  induction o with
  | nil => intro h; simp [firstOk] at h
  | cons a l ih =>
    intro h
    unfold firstOk at h
    unfold firstI
    cases hm : mayB bs a with
    | true =>
      rw [if_pos rfl]
      unfold mayB at hm
      simp at hm
      omega
    | false =>
      rw [hm] at h
      simp only [Bool.false_eq_true, if_false] at h ⊢
      exact ih h
theorem numT_le (bs : List Bool) : numT bs ≤ bs.length := by
  induction bs with
  | nil => simp [numT]
  | cons b l ih => unfold numT; cases b <;> simp <;> omega
end Go.Proofs.Yteffilepolbgbaa
