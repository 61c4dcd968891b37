/- handofflaw02.ShuffleFirsts returns true and writes nothing that was there. -/
import Derived.Test.YteffilepolbgbaaCount
import Derived.Test.YteffilepolbgbaaFirst
namespace Go.Proofs.Yteffilepolbgbaa
open Go.RowKit

set_option maxHeartbeats 400000 in
theorem shuffleFirsts_walk (zs : List Int) (bs : List Bool) (n m : Nat) (hn : n = zs.length) (hm : m = bs.length) (a b : Option Addr) (ca cb : Nat) (w : World) (h1 : Rd .i64 w a zs) (h2 : RdB w b bs) :
    Calls Try.prog 6 #[.slice a n ca, .slice b m cb] w fun e w' => e = .returned (.bool true) ∧ Below w.heap.size w w' := by
  have hl1 := h1.len
  have hl2 := h2.1
  rw [← hn] at hl1
  rw [← hm] at hl2
  have Hn := Lib.hid hn; have Hm := Lib.hid hm; clear hn hm
  have H1 := Lib.hid h1; have H2 := Lib.hid h2; clear h1 h2
  go_enter Try.func6, Try.ntmps6
  go_wp2_with fail
  refine (shuffle_alive _).mono ?_
  rintro e w1 ⟨rfl, hb⟩
  have HB := Lib.hid hb; clear hb
  by_cases h100 : 100 < n
  · go_wp2
    go_ret
    exact ⟨rfl, HB.out⟩
  by_cases h200 : 100 < m
  · go_wp2
    go_ret
    exact ⟨rfl, HB.out⟩
  have c1 : ∀ W, Below w.heap.size w W → Calls Try.prog 26 #[.slice a n ca, .slice b m cb] W fun e w' => e = .returned (.tuple #[.int .i64 (firstI zs bs), .bool (firstOk zs bs)]) ∧ W = w' := by
    intro W hW
    have := first_any zs bs a b ca cb W (H1.out.below hW (Nat.le_refl _)) (H2.out.below hW (Nat.le_refl _))
    rw [← Hn.out, ← Hm.out] at this; exact this
  have c2 : ∀ W, Below w.heap.size w W → Calls Try.prog 27 #[.slice a n ca, .slice b m cb] W fun e w' => e = .returned (.tuple #[.int .i64 (firstI zs bs), .bool (firstOk zs bs)]) ∧ W = w' := by
    intro W hW
    have := rfirst_any zs bs a b ca cb W (H1.out.below hW (Nat.le_refl _)) (H2.out.below hW (Nat.le_refl _))
    rw [← Hn.out, ← Hm.out] at this; exact this
  have C1 := Lib.hid c1; have C2 := Lib.hid c2; clear c1 c2
  go_wp2_with (first | (go_at_call 26; refine (C1.out _ HB.out).mono ?_; rintro e w' ⟨rfl, rfl⟩) | (go_at_call 27; refine (C2.out _ HB.out).mono ?_; rintro e w' ⟨rfl, rfl⟩))
  go_ret
  exact ⟨by simp, HB.out⟩
end Go.Proofs.Yteffilepolbgbaa
