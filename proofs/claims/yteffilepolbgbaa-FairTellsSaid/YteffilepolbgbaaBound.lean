/- fair.Bound and the reference's; which plans are too great; and that the layer is there. -/
import Derived.Test.YteffilepolbgbaaWork
namespace Go.Proofs.Yteffilepolbgbaa
open Go.RowKit
set_option linter.unusedVariables false

/-- A row behind which nothing is bound. -/
def BadR (r : List Nat) : Prop := 16 < r.length ∨ ∃ j, j < r.length ∧ 6 < r.getD j 0
def BadP (pl : List (List Nat)) (k : Int) : Prop := k < 1 ∨ 1048576 < k ∨ 8 < pl.length ∨ ∃ i, i < pl.length ∧ BadR (pl.getD i [])

/-- What Bound answers. -/
def BoundIs (pl : List (List Nat)) (k b : Int) : Prop := (BadP pl k → b = 0) ∧ (¬ BadP pl k → b = k * (((pl.length + plW pl : Nat) : Int) + 1))

theorem boundIs_one {pl : List (List Nat)} {k b b' : Int} (h : BoundIs pl k b) (h' : BoundIs pl k b') : b = b' := by
  by_cases hb : BadP pl k
  · rw [h.1 hb, h'.1 hb]
  · rw [h.2 hb, h'.2 hb]
theorem boundIs_bad {pl : List (List Nat)} {k : Int} (h : BadP pl k) : BoundIs pl k 0 := ⟨fun _ => rfl, fun h' => absurd h h'⟩

theorem mul_in {k : Int} {S : Nat} (h1 : 1 ≤ k) (h2 : k ≤ 1048576) (hS : S ≤ 16240200) : 0 ≤ k * (S : Int) ∧ k * (S : Int) ≤ 1048576 * 16240200 :=
  ⟨Int.mul_nonneg (by omega) (by omega), Int.mul_le_mul h2 (by omega) (by omega) (by omega)⟩

theorem rowW_le : ∀ (r : List Nat), (∀ j, j < r.length → r.getD j 0 ≤ 100) → rowW r ≤ 1624 * r.length
  | [], _ => by simp [rowW]
  | c :: r, h => by
    have h0 := h 0 (by simp)
    have := rowW_le r fun j hj => h (j + 1) (by simpa using hj)
    simp only [List.getD_cons_zero] at h0
    simp only [rowW, List.length_cons]
    omega
theorem plW_le : ∀ (pl : List (List Nat)), (∀ i, i < pl.length → rowW (pl.getD i []) ≤ 162400) → plW pl ≤ 162400 * pl.length
  | [], _ => by simp [plW]
  | r :: pl, h => by
    have h0 := h 0 (by simp)
    have := plW_le pl fun j hj => h (j + 1) (by simpa using hj)
    simp only [List.getD_cons_zero] at h0
    simp only [plW, List.length_cons]
    omega
theorem small_le {pl : List (List Nat)} (h : Small pl) : pl.length + plW pl ≤ 16240100 := by
  have := plW_le pl fun i hi => by
    have h1 := rowW_le _ (h.2 i hi).2
    have h2 := (h.2 i hi).1
    omega
  have := h.1
  omega

set_option maxHeartbeats 2000000 in
theorem bound_walk (pl : List (List Nat)) (n : Nat) (hn : n = pl.length) (a : Option Addr) (ca : Nat) (k : Int) (w : World) (h1 : RdPlan w a pl) (hsm : Small pl) :
    Calls Try.prog 36 #[.slice a n ca, .int .i64 k] w fun e w' => (∃ b, e = .returned (.int .i64 b) ∧ BoundIs pl k b) ∧ Below w.heap.size w w' := by
  have hl1 : n ≤ 100 := by rw [hn]; exact hsm.1
  have Hn := Lib.hid hn; clear hn
  have H1 := Lib.hid h1; clear h1
  have HS := Lib.hid hsm; clear hsm
  go_enter Try.func36, Try.ntmps36
  by_cases hk1 : k < 1
  · go_wp2
    go_ret
    exact ⟨⟨_, rfl, boundIs_bad (.inl hk1)⟩, Below.refl _ _⟩
  by_cases hk2 : 1048576 < k
  · go_wp2
    go_ret
    exact ⟨⟨_, rfl, boundIs_bad (.inr (.inl hk2))⟩, Below.refl _ _⟩
  by_cases hn8 : 8 < n
  · go_wp2
    go_ret
    exact ⟨⟨_, rfl, boundIs_bad (.inr (.inr (.inl (by rw [← Hn.out]; exact hn8))))⟩, Below.refl _ _⟩
  go_wp2
  go_loopw [6, 8, 22] (fun _ _ i wr => ∃ j : Nat, j ≤ n ∧ i = .int .i64 j ∧ Hid (∀ i, i < j → ¬ BadR (pl.getD i [])) ∧ Hid (Below w.heap.size w wr)) (fun _ _ i _ => n - (intOf i).toNat)
  case atStart => exact ⟨0, Nat.zero_le _, rfl, fun i hi => absurd hi (by omega), Below.refl _ _⟩
  case round =>
    obtain ⟨j, hj, rfl, HK, HB⟩ := hrel
    by_cases hlt : j < n
    · obtain ⟨b1, o1, r1, c1, rfl, hc1, hops⟩ := (H1.out.below HB.out (Nat.le_refl _)).2 j (by rw [← Hn.out]; exact hlt)
      have hbad : ∀ h : BadR (pl.getD j []), BadP pl k := fun h => .inr (.inr (.inr ⟨j, by rw [← Hn.out]; exact hlt, h⟩))
      have hnx : ∀ h : ¬ BadR (pl.getD j []), ∀ i, i < j + 1 → ¬ BadR (pl.getD i []) := fun h i hi => by
        rcases Nat.lt_or_ge i j with h1 | h1
        · exact HK.out i h1
        · obtain rfl : i = j := by omega
          exact h
      obtain ⟨cs, hcs⟩ : ∃ cs, cs = pl.getD j [] := ⟨_, rfl⟩
      rw [← hcs] at hc1 hops hnx hbad
      obtain ⟨m, hm⟩ : ∃ m, m = cs.length := ⟨_, rfl⟩
      rw [← hm] at hc1
      have HO := Lib.hid hops; have HNX := Lib.hid hnx; have HM := Lib.hid hm; have HBAD := Lib.hid hbad
      obtain ⟨wo, hwo⟩ : ∃ wo, wo = wr := ⟨_, rfl⟩
      subst hwo
      have hmx : m ≤ 9223372036854775807 := by rw [HM.out]; exact HO.out.1
      clear hops hnx hm hcs hbad
      by_cases hm16 : 16 < m
      · go_wp2
        go_ret
        exact ⟨⟨_, rfl, boundIs_bad (HBAD.out (.inl (by rw [← HM.out]; exact hm16)))⟩, HB.out⟩
      go_wp2
      go_loopw [8, 31] (fun _ i wr' => ∃ q : Nat, q ≤ m ∧ i = .int .i64 q ∧ Hid (∀ j, j < q → ¬ 6 < cs.getD j 0) ∧ Hid (Below wo.heap.size wo wr')) (fun _ i _ => m - (intOf i).toNat)
      case atStart => exact ⟨0, Nat.zero_le _, rfl, fun i hi => absurd hi (by omega), Below.refl _ _⟩
      case round =>
        obtain ⟨q, hq, rfl, HT, HB2⟩ := hrel
        have hs1 := HB.out.size
        have hs2 := HB2.out.size
        by_cases hlt2 : q < m
        · obtain ⟨b2, o2, z0, z1, z2, z3, x, cx, b5, rfl, e0, e1, e2, e3, e4, e5, hx⟩ := (HO.out.below HB2.out (Nat.le_refl _)).2 q (by rw [← HM.out]; exact hlt2)
          have hb6 : 6 < cs.getD q 0 → BadR cs := fun h => .inr ⟨q, by rw [← HM.out]; exact hlt2, h⟩
          have hg6 : ¬ 6 < cs.getD q 0 → ∀ j, j < q + 1 → ¬ 6 < cs.getD j 0 := fun h i hi => by
            rcases Nat.lt_or_ge i q with h1 | h1
            · exact HT.out i h1
            · obtain rfl : i = q := by omega
              exact h
          obtain ⟨t, ht⟩ : ∃ t, t = cs.getD q 0 := ⟨_, rfl⟩
          rw [← ht] at e4 hx hb6 hg6
          have HB6 := Lib.hid hb6; have HG6 := Lib.hid hg6
          have HB3 : Hid (Below wo.heap.size wo (wr.alloc (.cells #[.int .i64 z0, .int .i64 z1, .int .i64 z2, .int .i64 z3, .slice x t cx, .bool b5] 69))) := HB2.out.alloc hs2 _
          have HB4 : Hid (Below w.heap.size w (wr.alloc (.cells #[.int .i64 z0, .int .i64 z1, .int .i64 z2, .int .i64 z3, .slice x t cx, .bool b5] 69))) := HB.out.trans (HB3.out.mono hs1)
          clear ht hb6 hg6
          by_cases ht6 : 6 < t
          · go_wp2
            go_ret
            exact ⟨⟨_, rfl, boundIs_bad (HBAD.out (HB6.out ht6))⟩, HB4.out⟩
          · go_wp2
            go_roundw
            case rel => exact ⟨q + 1, by omega, by go_num, HG6.out ht6, HB3⟩
            case measure => simp [intOf]; omega
        · obtain rfl : q = m := by omega
          have HK' := Lib.hid (HNX.out fun h => by
            rcases h with h | ⟨i, h1, h2⟩
            · exact hm16 (by rw [HM.out]; exact h)
            · exact HT.out i (by rw [HM.out]; exact h1) h2)
          have HB3 : Hid (Below w.heap.size w wr) := HB.out.trans (HB2.out.mono hs1)
          go_wp2
          go_roundw
          case rel => exact ⟨j + 1, by omega, by go_num, HK', HB3⟩
          case measure => simp [intOf]; omega
    · obtain rfl : j = n := by omega
      have hgood : ¬ BadP pl k := fun h => by
        rcases h with h | h | h | ⟨i, h1, h2⟩
        · omega
        · omega
        · exact hn8 (by rw [Hn.out]; exact h)
        · exact HK.out i (by rw [Hn.out]; exact h1) h2
      have HG := Lib.hid hgood; clear hgood
      obtain ⟨S, hS⟩ : ∃ S, S = j + plW pl := ⟨_, rfl⟩
      have hSl : S ≤ 16240100 := by rw [hS, Hn.out]; exact small_le HS.out
      have hw := work_walk pl j Hn.out a ca wr (H1.out.below HB.out (Nat.le_refl _)) HS.out
      rw [← hS] at hw
      rw [Hn.out] at hS
      have HSS := Lib.hid hS
      have HW := Lib.hid hw
      have hs1 := HB.out.size
      have hmul := mul_in (k := k) (S := S + 1) (by omega) (by omega) (by omega)
      have HMUL := Lib.hid hmul
      clear hS hw hmul
      go_wp2_with fail
      refine HW.out.mono ?_
      rintro e w2 ⟨rfl, hb⟩
      have HB2 : Hid (Below w.heap.size w w2) := HB.out.trans (hb.mono hs1)
      clear hb
      go_wp2
      go_ret
      refine ⟨⟨_, rfl, fun h => absurd h HG.out, fun _ => ?_⟩, HB2.out⟩
      rw [← HSS.out]
      have h1 := HMUL.out
      rw [show (((S + 1 : Nat)) : Int) = (S : Int) + 1 from rfl] at h1
      generalize k * ((S : Int) + 1) = z at h1 ⊢
      unfold wrap64
      omega
set_option maxHeartbeats 2000000 in
theorem refBound_walk (pl : List (List Nat)) (n : Nat) (hn : n = pl.length) (a : Option Addr) (ca : Nat) (k : Int) (w : World) (h1 : RdPlan w a pl) (hsm : Small pl) :
    Calls Try.prog 37 #[.slice a n ca, .int .i64 k] w fun e w' => (∃ b, e = .returned (.int .i64 b) ∧ BoundIs pl k b) ∧ Below w.heap.size w w' := by
  have hl1 : n ≤ 100 := by rw [hn]; exact hsm.1
  have Hn := Lib.hid hn; clear hn
  have H1 := Lib.hid h1; clear h1
  have HS := Lib.hid hsm; clear hsm
  go_enter Try.func37, Try.ntmps37
  by_cases hk1 : k < 1
  · go_wp2
    go_ret
    exact ⟨⟨_, rfl, boundIs_bad (.inl hk1)⟩, Below.refl _ _⟩
  by_cases hk2 : 1048576 < k
  · go_wp2
    go_ret
    exact ⟨⟨_, rfl, boundIs_bad (.inr (.inl hk2))⟩, Below.refl _ _⟩
  by_cases hn8 : 8 < n
  · go_wp2
    go_ret
    exact ⟨⟨_, rfl, boundIs_bad (.inr (.inr (.inl (by rw [← Hn.out]; exact hn8))))⟩, Below.refl _ _⟩
  go_wp2
  go_loopw [6, 8, 22] (fun _ _ i wr => ∃ j : Nat, j ≤ n ∧ i = .int .i64 j ∧ Hid (∀ i, i < j → ¬ BadR (pl.getD i [])) ∧ Hid (Below w.heap.size w wr)) (fun _ _ i _ => n - (intOf i).toNat)
  case atStart => exact ⟨0, Nat.zero_le _, rfl, fun i hi => absurd hi (by omega), Below.refl _ _⟩
  case round =>
    obtain ⟨j, hj, rfl, HK, HB⟩ := hrel
    by_cases hlt : j < n
    · obtain ⟨b1, o1, r1, c1, rfl, hc1, hops⟩ := (H1.out.below HB.out (Nat.le_refl _)).2 j (by rw [← Hn.out]; exact hlt)
      have hbad : ∀ h : BadR (pl.getD j []), BadP pl k := fun h => .inr (.inr (.inr ⟨j, by rw [← Hn.out]; exact hlt, h⟩))
      have hnx : ∀ h : ¬ BadR (pl.getD j []), ∀ i, i < j + 1 → ¬ BadR (pl.getD i []) := fun h i hi => by
        rcases Nat.lt_or_ge i j with h1 | h1
        · exact HK.out i h1
        · obtain rfl : i = j := by omega
          exact h
      obtain ⟨cs, hcs⟩ : ∃ cs, cs = pl.getD j [] := ⟨_, rfl⟩
      rw [← hcs] at hc1 hops hnx hbad
      obtain ⟨m, hm⟩ : ∃ m, m = cs.length := ⟨_, rfl⟩
      rw [← hm] at hc1
      have HO := Lib.hid hops; have HNX := Lib.hid hnx; have HM := Lib.hid hm; have HBAD := Lib.hid hbad
      obtain ⟨wo, hwo⟩ : ∃ wo, wo = wr := ⟨_, rfl⟩
      subst hwo
      have hmx : m ≤ 9223372036854775807 := by rw [HM.out]; exact HO.out.1
      clear hops hnx hm hcs hbad
      by_cases hm16 : 16 < m
      · go_wp2
        go_ret
        exact ⟨⟨_, rfl, boundIs_bad (HBAD.out (.inl (by rw [← HM.out]; exact hm16)))⟩, HB.out⟩
      go_wp2
      go_loopw [8, 31] (fun _ i wr' => ∃ q : Nat, q ≤ m ∧ i = .int .i64 q ∧ Hid (∀ j, j < q → ¬ 6 < cs.getD j 0) ∧ Hid (Below wo.heap.size wo wr')) (fun _ i _ => m - (intOf i).toNat)
      case atStart => exact ⟨0, Nat.zero_le _, rfl, fun i hi => absurd hi (by omega), Below.refl _ _⟩
      case round =>
        obtain ⟨q, hq, rfl, HT, HB2⟩ := hrel
        have hs1 := HB.out.size
        have hs2 := HB2.out.size
        by_cases hlt2 : q < m
        · obtain ⟨b2, o2, z0, z1, z2, z3, x, cx, b5, rfl, e0, e1, e2, e3, e4, e5, hx⟩ := (HO.out.below HB2.out (Nat.le_refl _)).2 q (by rw [← HM.out]; exact hlt2)
          have hb6 : 6 < cs.getD q 0 → BadR cs := fun h => .inr ⟨q, by rw [← HM.out]; exact hlt2, h⟩
          have hg6 : ¬ 6 < cs.getD q 0 → ∀ j, j < q + 1 → ¬ 6 < cs.getD j 0 := fun h i hi => by
            rcases Nat.lt_or_ge i q with h1 | h1
            · exact HT.out i h1
            · obtain rfl : i = q := by omega
              exact h
          obtain ⟨t, ht⟩ : ∃ t, t = cs.getD q 0 := ⟨_, rfl⟩
          rw [← ht] at e4 hx hb6 hg6
          have HB6 := Lib.hid hb6; have HG6 := Lib.hid hg6
          have HB3 : Hid (Below wo.heap.size wo (wr.alloc (.cells #[.int .i64 z0, .int .i64 z1, .int .i64 z2, .int .i64 z3, .slice x t cx, .bool b5] 69))) := HB2.out.alloc hs2 _
          have HB4 : Hid (Below w.heap.size w (wr.alloc (.cells #[.int .i64 z0, .int .i64 z1, .int .i64 z2, .int .i64 z3, .slice x t cx, .bool b5] 69))) := HB.out.trans (HB3.out.mono hs1)
          clear ht hb6 hg6
          by_cases ht6 : 6 < t
          · go_wp2
            go_ret
            exact ⟨⟨_, rfl, boundIs_bad (HBAD.out (HB6.out ht6))⟩, HB4.out⟩
          · go_wp2
            go_roundw
            case rel => exact ⟨q + 1, by omega, by go_num, HG6.out ht6, HB3⟩
            case measure => simp [intOf]; omega
        · obtain rfl : q = m := by omega
          have HK' := Lib.hid (HNX.out fun h => by
            rcases h with h | ⟨i, h1, h2⟩
            · exact hm16 (by rw [HM.out]; exact h)
            · exact HT.out i (by rw [HM.out]; exact h1) h2)
          have HB3 : Hid (Below w.heap.size w wr) := HB.out.trans (HB2.out.mono hs1)
          go_wp2
          go_roundw
          case rel => exact ⟨j + 1, by omega, by go_num, HK', HB3⟩
          case measure => simp [intOf]; omega
    · obtain rfl : j = n := by omega
      have hgood : ¬ BadP pl k := fun h => by
        rcases h with h | h | h | ⟨i, h1, h2⟩
        · omega
        · omega
        · exact hn8 (by rw [Hn.out]; exact h)
        · exact HK.out i (by rw [Hn.out]; exact h1) h2
      have HG := Lib.hid hgood; clear hgood
      obtain ⟨S, hS⟩ : ∃ S, S = j + plW pl := ⟨_, rfl⟩
      have hSl : S ≤ 16240100 := by rw [hS, Hn.out]; exact small_le HS.out
      have hw := refWork_walk pl j Hn.out a ca wr (H1.out.below HB.out (Nat.le_refl _)) HS.out
      rw [← hS] at hw
      rw [Hn.out] at hS
      have HSS := Lib.hid hS
      have HW := Lib.hid hw
      have hs1 := HB.out.size
      have hmul := mul_in (k := k) (S := S + 1) (by omega) (by omega) (by omega)
      have HMUL := Lib.hid hmul
      have HMUL2 := Lib.hid (mul_in (k := k) (S := S) (by omega) (by omega) (by omega))
      clear hS hw hmul
      go_wp2_with fail
      refine HW.out.mono ?_
      rintro e w2 ⟨rfl, hb⟩
      have HB2 : Hid (Below w.heap.size w w2) := HB.out.trans (hb.mono hs1)
      clear hb
      go_wp2
      go_ret
      refine ⟨⟨_, rfl, fun h => absurd h HG.out, fun _ => ?_⟩, HB2.out⟩
      rw [← HSS.out]
      have h2 := HMUL2.out
      rw [show k * ((S : Int) + 1) = k + k * (S : Int) by rw [Int.mul_add]; omega]
      generalize k * (S : Int) = z at h2 ⊢
      unfold wrap64
      omega

set_option maxHeartbeats 2000000 in
theorem great_walk (pl : List (List Nat)) (n : Nat) (hn : n = pl.length) (a : Option Addr) (ca : Nat) (w : World) (h1 : RdPlan w a pl) :
    Calls Try.prog 33 #[.slice a n ca] w fun e w' => (∃ b, e = .returned (.bool b) ∧ (b = false → Small pl)) ∧ Below w.heap.size w w' := by
  have hl1 : n ≤ 9223372036854775807 := by rw [hn]; exact h1.1
  have Hn := Lib.hid hn; clear hn
  have H1 := Lib.hid h1; clear h1
  go_enter Try.func33, Try.ntmps33
  go_wp2
  go_loopw [4, 6, 9] (fun _ _ i wr => ∃ j : Nat, j ≤ n ∧ i = .int .i64 j ∧ Hid (∀ i, i < j → (pl.getD i []).length ≤ 100 ∧ ∀ j, j < (pl.getD i []).length → (pl.getD i []).getD j 0 ≤ 100) ∧ Hid (Below w.heap.size w wr)) (fun _ _ i _ => n - (intOf i).toNat)
  case atStart => exact ⟨0, Nat.zero_le _, rfl, fun i hi => absurd hi (by omega), Below.refl _ _⟩
  case round =>
    obtain ⟨j, hj, rfl, HK, HB⟩ := hrel
    by_cases hlt : j < n
    · obtain ⟨b1, o1, r1, c1, rfl, hc1, hops⟩ := (H1.out.below HB.out (Nat.le_refl _)).2 j (by rw [← Hn.out]; exact hlt)
      have hnx : ((pl.getD j []).length ≤ 100 ∧ ∀ i, i < (pl.getD j []).length → (pl.getD j []).getD i 0 ≤ 100) → ∀ i, i < j + 1 → (pl.getD i []).length ≤ 100 ∧ ∀ j, j < (pl.getD i []).length → (pl.getD i []).getD j 0 ≤ 100 := fun h i hi => by
        rcases Nat.lt_or_ge i j with h1 | h1
        · exact HK.out i h1
        · obtain rfl : i = j := by omega
          exact h
      obtain ⟨cs, hcs⟩ : ∃ cs, cs = pl.getD j [] := ⟨_, rfl⟩
      rw [← hcs] at hc1 hops hnx
      obtain ⟨m, hm⟩ : ∃ m, m = cs.length := ⟨_, rfl⟩
      rw [← hm] at hc1
      have HO := Lib.hid hops; have HNX := Lib.hid hnx; have HM := Lib.hid hm
      obtain ⟨wo, hwo⟩ : ∃ wo, wo = wr := ⟨_, rfl⟩
      subst hwo
      have hmx : m ≤ 9223372036854775807 := by rw [HM.out]; exact HO.out.1
      clear hops hnx hm hcs
      go_wp2
      go_loopw [6, 15] (fun _ i wr' => ∃ q : Nat, q ≤ m ∧ i = .int .i64 q ∧ Hid (∀ j, j < q → cs.getD j 0 ≤ 100) ∧ Hid (Below wo.heap.size wo wr')) (fun _ i _ => m - (intOf i).toNat)
      case atStart => exact ⟨0, Nat.zero_le _, rfl, fun i hi => absurd hi (by omega), Below.refl _ _⟩
      case round =>
        obtain ⟨q, hq, rfl, HT, HB2⟩ := hrel
        have hs1 := HB.out.size
        have hs2 := HB2.out.size
        by_cases hlt2 : q < m
        · obtain ⟨b2, o2, z0, z1, z2, z3, x, cx, b5, rfl, e0, e1, e2, e3, e4, e5, hx⟩ := (HO.out.below HB2.out (Nat.le_refl _)).2 q (by rw [← HM.out]; exact hlt2)
          have hg6 : cs.getD q 0 ≤ 100 → ∀ j, j < q + 1 → cs.getD j 0 ≤ 100 := fun h i hi => by
            rcases Nat.lt_or_ge i q with h1 | h1
            · exact HT.out i h1
            · obtain rfl : i = q := by omega
              exact h
          obtain ⟨t, ht⟩ : ∃ t, t = cs.getD q 0 := ⟨_, rfl⟩
          rw [← ht] at e4 hx hg6
          have HG6 := Lib.hid hg6
          have HB3 : Hid (Below wo.heap.size wo (wr.alloc (.cells #[.int .i64 z0, .int .i64 z1, .int .i64 z2, .int .i64 z3, .slice x t cx, .bool b5] 69))) := HB2.out.alloc hs2 _
          have HB4 : Hid (Below w.heap.size w (wr.alloc (.cells #[.int .i64 z0, .int .i64 z1, .int .i64 z2, .int .i64 z3, .slice x t cx, .bool b5] 69))) := HB.out.trans (HB3.out.mono hs1)
          clear ht hg6
          by_cases ht6 : 100 < t
          · go_wp2
            go_ret
            exact ⟨⟨_, rfl, fun h => by cases h⟩, HB4.out⟩
          · go_wp2
            go_roundw
            case rel => exact ⟨q + 1, by omega, by go_num, HG6.out (by omega), HB3⟩
            case measure => simp [intOf]; omega
        · obtain rfl : q = m := by omega
          have HB3 : Hid (Below w.heap.size w wr) := HB.out.trans (HB2.out.mono hs1)
          by_cases hm16 : 100 < q
          · go_wp2
            go_ret
            exact ⟨⟨_, rfl, fun h => by cases h⟩, HB3.out⟩
          have HK' := Lib.hid (HNX.out ⟨by rw [← HM.out]; omega, fun i h1 => HT.out i (by rw [HM.out]; exact h1)⟩)
          go_wp2
          go_roundw
          case rel => exact ⟨j + 1, by omega, by go_num, HK', HB3⟩
          case measure => simp [intOf]; omega
    · obtain rfl : j = n := by omega
      have hsm : j ≤ 100 → Small pl := fun h => ⟨by rw [← Hn.out]; exact h, fun i hi => HK.out i (by rw [Hn.out]; exact hi)⟩
      have HSM := Lib.hid hsm; clear hsm
      go_wp2
      go_ret
      refine ⟨⟨_, rfl, fun h => HSM.out ?_⟩, HB.out⟩
      simp at h
      omega

theorem small_nil : Small [[]] := ⟨by simp, fun i hi => by
  obtain rfl : i = 0 := by simp at hi; omega
  simp⟩

theorem fair_alive (w : World) : Calls Try.prog 32 #[] w fun e w' => e = .returned (.bool true) ∧ Below w.heap.size w w' := by
  have hB : Below w.heap.size w (w.alloc (.cells #[.slice none 0 0] 66)) := (Below.refl _ _).alloc (Nat.le_refl _) _
  have hrd : RdPlan (w.alloc (.cells #[.slice none 0 0] 66)) (some ⟨w.heap.size, 0, none⟩) [[]] := by
    refine ⟨by simp, fun i hi => ?_⟩
    obtain rfl : i = 0 := by simp at hi; omega
    refine ⟨_, _, none, 0, rfl, ?_, by simp, fun j hj => absurd hj (by simp)⟩
    simp
  have HB := Lib.hid hB; have HR := Lib.hid hrd
  clear hB hrd
  go_enter Try.func32, Try.ntmps32
  go_wp2_with fail
  refine (work_walk [[]] 1 rfl _ _ _ HR.out small_nil).mono ?_
  rintro e w2 ⟨rfl, hb⟩
  have HR2 := Lib.hid (HR.out.below hb (Nat.le_refl _))
  have HB2 := Lib.hid (HB.out.trans (hb.mono (by simp)))
  clear hb
  go_wp2_with fail
  refine (bound_walk [[]] 1 rfl _ _ 3 _ HR2.out small_nil).mono ?_
  rintro e w3 ⟨⟨b, rfl, hb⟩, hb2⟩
  obtain rfl : b = 6 := by
    rw [hb.2 ?_]
    · simp [plW, rowW]
    · rintro (h | h | h | ⟨i, h1, h2⟩)
      · omega
      · omega
      · simp at h
      · obtain rfl : i = 0 := by simp at h1; omega
        rcases h2 with h2 | ⟨j, h2, _⟩
        · simp at h2
        · simp at h2
  have HB3 := Lib.hid (HB2.out.trans (hb2.mono HB2.out.size))
  clear hb hb2
  go_wp2
  go_ret
  exact ⟨rfl, HB3.out⟩
end Go.Proofs.Yteffilepolbgbaa
