/- order.Heap, handoffref03.Heap; order.Turned, handoffref03.Turned. -/
import Derived.Test.YteffilepolbgbaaSort
namespace Go.Proofs.Yteffilepolbgbaa
open Go.RowKit
set_option linter.unusedVariables false

/-- Is it a heap? -/
def heapB (l : List Int) : Bool := (List.range l.length).all fun c => decide (c = 0) || decide (l.getD c 0 ≤ l.getD ((c - 1) / 2) 0)
theorem heapB_true {l : List Int} (h : ∀ c, c < l.length → 1 ≤ c → l.getD c 0 ≤ l.getD ((c - 1) / 2) 0) : heapB l = true := by
  unfold heapB
  rw [List.all_eq_true]
  intro c hc
  have hc' := List.mem_range.1 hc
  by_cases h0 : c = 0
  · simp [h0]
  · have := h c hc' (by omega)
    simp only [Bool.or_eq_true, decide_eq_true_eq]
    exact .inr this
theorem heapB_false {l : List Int} {c : Nat} (hc : c < l.length) (h1 : 1 ≤ c) (h : l.getD ((c - 1) / 2) 0 < l.getD c 0) : heapB l = false := by
  cases hb : heapB l with
  | false => rfl
  | true =>
    unfold heapB at hb
    rw [List.all_eq_true] at hb
    have := hb c (List.mem_range.2 hc)
    simp only [Bool.or_eq_true, decide_eq_true_eq] at this
    omega

set_option maxHeartbeats 1000000 in
theorem heap_any (zs : List Int) (n : Nat) (hn : n = zs.length) (a : Option Addr) (c : Nat) (w : World) (h : Rd .i64 w a zs) (hs : n ≤ 1000) :
    Calls Try.prog 42 #[.slice a n c] w fun e w' => e = .returned (.bool (heapB zs)) ∧ ∃ q, w' = w.drewN q := by
  obtain ⟨t, ht⟩ : ∃ t, t = heapB zs := ⟨_, rfl⟩
  rw [← ht]
  have Ht := Lib.hid ht; clear ht
  have Hn := Lib.hid hn; clear hn
  have H1 := Lib.hid h; clear h
  go_enter Try.func42, Try.ntmps42
  go_wp2
  go_loopw [3] (fun i wr => ∃ k q : Nat, 1 ≤ k ∧ (k ≤ n ∨ k = 1) ∧ i = .int .i64 k ∧ wr = w.drewN q ∧ Hid (∀ c, c < k → 1 ≤ c → zs.getD c 0 ≤ zs.getD ((c - 1) / 2) 0)) (fun i _ => n - (intOf i).toNat)
  case atStart => exact ⟨1, 0, Nat.le_refl _, .inr rfl, rfl, rfl, (fun c h1 h2 => by omega : ∀ c, c < 1 → 1 ≤ c → zs.getD c 0 ≤ zs.getD ((c - 1) / 2) 0)⟩
  case round =>
    obtain ⟨k, q, hk1, hk2, rfl, rfl, HF⟩ := hrel
    have Hk2 := Lib.hid hk2
    clear hk2
    by_cases hlt : k < n
    · obtain ⟨b, off, rfl, hc⟩ := H1.out.2 (by rw [← Hn.out]; omega)
      have ck := hc k (by rw [← Hn.out]; exact hlt)
      have cp := hc ((k - 1) / 2) (by rw [← Hn.out]; omega)
      obtain ⟨x, hx⟩ := named (zs.getD k 0)
      obtain ⟨y, hy⟩ := named (zs.getD ((k - 1) / 2) 0)
      rw [← hx.out] at ck
      rw [← hy.out] at cp
      have p1 : (0 : Int) ≤ ((k : Int) - 1) / 2 := by omega
      have p2 : ((k : Int) - 1) / 2 < (n : Int) := by omega
      have p3 : (((k : Int) - 1) / 2).toNat = (k - 1) / 2 := by omega
      have p4 : (k : Int) < (n : Int) := by omega
      clear hc
      by_cases hxy : y < x
      · have hf : t = false := by
          rw [Ht.out]
          exact heapB_false (c := k) (by rw [← Hn.out]; exact hlt) hk1 (by rw [← hx.out, ← hy.out]; exact hxy)
        subst hf
        go_wp2_with fail
        go_quiet (fail)
        go_wp2
        go_ret
        exact ⟨rfl, _, World.drewN_drewN _ _ _⟩
      · have hF : ∀ c, c < k + 1 → 1 ≤ c → zs.getD c 0 ≤ zs.getD ((c - 1) / 2) 0 := by
          intro c h1 h2
          by_cases hck : c = k
          · subst hck; rw [← hx.out, ← hy.out]; omega
          · exact HF.out c (by omega) h2
        have HF' := Lib.hid hF
        clear hF
        go_wp2_with fail
        go_quiet (fail)
        go_wp2
        go_roundw
        case rel => exact ⟨k + 1, _, by omega, .inl (by omega), by go_num, rfl, HF'⟩
        case measure => simp [intOf]; omega
    · have hf : t = true := by
        rw [Ht.out]
        refine heapB_true fun c h1 h2 => ?_
        rcases Hk2.out with h | h
        · exact HF.out c (by rw [← Hn.out] at h1; omega) h2
        · rw [← Hn.out] at h1; omega
      subst hf
      go_wp2
      go_ret
      exact ⟨rfl, _, rfl⟩

set_option maxHeartbeats 1000000 in
theorem rheap_any (zs : List Int) (n : Nat) (hn : n = zs.length) (a : Option Addr) (c : Nat) (w : World) (h : Rd .i64 w a zs) (hs : n ≤ 1000) :
    Calls Try.prog 43 #[.slice a n c] w fun e w' => e = .returned (.bool (heapB zs)) ∧ w = w' := by
  obtain ⟨t, ht⟩ : ∃ t, t = heapB zs := ⟨_, rfl⟩
  rw [← ht]
  have Ht := Lib.hid ht; clear ht
  have Hn := Lib.hid hn; clear hn
  have H1 := Lib.hid h; clear h
  go_enter Try.func43, Try.ntmps43
  go_wp2
  go_loop [3, 4, 7] (fun _ _ i => ∃ k : Nat, k ≤ n ∧ i = .int .i64 k ∧ Hid (∀ c, c < k → 1 ≤ c → zs.getD c 0 ≤ zs.getD ((c - 1) / 2) 0)) (fun _ _ i => n - (intOf i).toNat)
  case atStart => exact ⟨0, Nat.zero_le _, rfl, (fun c h1 h2 => by omega : ∀ c, c < 0 → 1 ≤ c → zs.getD c 0 ≤ zs.getD ((c - 1) / 2) 0)⟩
  case round =>
    obtain ⟨k, hk2, rfl, HF⟩ := hrel
    by_cases hlt : k < n
    · obtain ⟨b, off, rfl, hc⟩ := H1.out.2 (by rw [← Hn.out]; omega)
      have ck := hc k (by rw [← Hn.out]; exact hlt)
      obtain ⟨x, hx⟩ := named (zs.getD k 0)
      rw [← hx.out] at ck
      by_cases hk0 : k = 0
      · subst hk0
        rw [Nat.add_zero] at ck
        have HF' : Hid (∀ c, c < 0 + 1 → 1 ≤ c → zs.getD c 0 ≤ zs.getD ((c - 1) / 2) 0) := fun c h1 h2 => by omega
        clear hc
        go_wp2
        go_round
        case rel => exact ⟨1, by omega, by go_num, HF'⟩
        case measure => simp [intOf]; omega
      · have cp := hc ((k - 1) / 2) (by rw [← Hn.out]; omega)
        obtain ⟨y, hy⟩ := named (zs.getD ((k - 1) / 2) 0)
        rw [← hy.out] at cp
        have p0 : 0 < (k : Int) := by omega
        have p1 : (0 : Int) ≤ ((k : Int) - 1) / 2 := by omega
        have p2 : ((k : Int) - 1) / 2 < (n : Int) := by omega
        have p3 : (((k : Int) - 1) / 2).toNat = (k - 1) / 2 := by omega
        clear hc
        by_cases hxy : y < x
        · have hf : t = false := by
            rw [Ht.out]
            exact heapB_false (c := k) (by rw [← Hn.out]; exact hlt) (by omega) (by rw [← hx.out, ← hy.out]; exact hxy)
          subst hf
          go_wp2
          go_ret
          exact ⟨rfl, rfl⟩
        · have hF : ∀ c, c < k + 1 → 1 ≤ c → zs.getD c 0 ≤ zs.getD ((c - 1) / 2) 0 := by
            intro c h1 h2
            by_cases hck : c = k
            · subst hck; rw [← hx.out, ← hy.out]; omega
            · exact HF.out c (by omega) h2
          have HF' := Lib.hid hF
          clear hF
          go_wp2
          go_round
          case rel => exact ⟨k + 1, by omega, by go_num, HF'⟩
          case measure => simp [intOf]; omega
    · have hf : t = true := by
        rw [Ht.out]
        exact heapB_true fun c h1 h2 => HF.out c (by rw [← Hn.out] at h1; omega) h2
      subst hf
      go_wp2
      go_ret
      exact ⟨rfl, rfl⟩
end Go.Proofs.Yteffilepolbgbaa
