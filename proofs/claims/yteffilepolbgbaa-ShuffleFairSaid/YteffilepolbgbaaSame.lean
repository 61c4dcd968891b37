/- handoffref02.Same: two lists are one. -/
import Derived.Test.YteffilepolbgbaaBase
namespace Go.Proofs.Yteffilepolbgbaa
open Go.RowKit

set_option maxHeartbeats 400000 in
theorem same_yes (zs : List Int) (n : Nat) (hn : n = zs.length) (a b : Option Addr) (ca cb : Nat) (w : World) (h1 : Rd .i64 w a zs) (h2 : Rd .i64 w b zs) :
    Calls Try.prog 24 #[.slice a n ca, .slice b n cb] w fun e w' => e = .returned (.bool true) ∧ ∃ q, w' = w.drewN q := by
  have hl := h1.len
  rw [← hn] at hl
  have Hn := Lib.hid hn; clear hn
  have H1 := Lib.hid h1; clear h1
  have H2 := Lib.hid h2; clear h2
  go_enter Try.func24, Try.ntmps24
  go_wp2
  go_loopw [5, 13] (fun _ i wr => ∃ k q : Nat, k ≤ n ∧ i = .int .i64 k ∧ wr = w.drewN q) (fun _ i _ => n - (intOf i).toNat)
  case atStart => exact ⟨0, 0, Nat.zero_le _, rfl, rfl⟩
  case round =>
    obtain ⟨k, q, hk, rfl, rfl⟩ := hrel
    by_cases hlt : k < n
    · obtain ⟨b1, o1, rfl, c1⟩ := H1.out.at k (by rw [← Hn.out]; exact hlt)
      obtain ⟨b2, o2, rfl, c2⟩ := H2.out.at k (by rw [← Hn.out]; exact hlt)
      obtain ⟨x, hx⟩ := named (zs.getD k 0)
      rw [← hx.out] at c1 c2
      go_wp2
      go_quiet (fail)
      go_wp2
      go_roundw
      case rel => exact ⟨k + 1, _, by omega, by go_num, rfl⟩
      case measure => simp [intOf]; omega
    · go_wp2
      go_ret
      exact ⟨rfl, _, rfl⟩
end Go.Proofs.Yteffilepolbgbaa
