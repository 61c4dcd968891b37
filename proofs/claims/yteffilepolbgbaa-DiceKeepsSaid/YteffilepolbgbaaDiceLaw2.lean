/- The law DiceDraws, walked: each number that is drawn, and how many are left, as the document says. -/
import Derived.Test.YteffilepolbgbaaDiceLaw1
namespace Go.Proofs.Yteffilepolbgbaa
open Go.RowKit
set_option linter.unusedVariables false

theorem left_n (n : Nat) {b g : Nat} {l : List Int} {k : Nat} {w : World} (hn : n = l.length) (D : DiceAt w b g l k) :
    Calls Try.prog 19 #[.pointer (some ⟨b, 0, none⟩)] w fun e w' => e = .returned (.int .i64 ((n : Int) - k)) ∧ ∃ q, w' = w.drewN q := by
  subst hn; exact left_any D

set_option maxHeartbeats 1000000 in
theorem diceDraws_walk (l asks : List Int) (n m : Nat) (hn : n = l.length) (hm : m = asks.length) (a b : Option Addr) (ca cb : Nat) (w : World) (h1 : Rd .u16 w a l) (h2 : Rd .i64 w b asks)
    (hr : ∀ j, 0 ≤ l.getD j 0 ∧ l.getD j 0 < 65536) :
    Calls Try.prog 3 #[.slice a n ca, .slice b m cb] w fun e w' => e = .returned (.bool true) ∧ Below w.heap.size w w' := by
  have hl1 := h1.len
  have hl2 := h2.len
  rw [← hn] at hl1
  rw [← hm] at hl2
  have Hn := Lib.hid hn; have Hm := Lib.hid hm; clear hn hm
  have H1 := Lib.hid h1; have H2 := Lib.hid h2; clear h1 h2
  have HR := Lib.hid hr; clear hr
  go_enter Try.func3, Try.ntmps3
  go_wp2_with fail
  refine (dice_alive _).mono ?_
  rintro e w1 ⟨rfl, hb⟩
  have HB := Lib.hid hb; clear hb
  by_cases h100 : 300 < n
  · go_wp2
    go_ret
    exact ⟨rfl, HB.out⟩
  by_cases h200 : 300 < m
  · go_wp2
    go_ret
    exact ⟨rfl, HB.out⟩
  go_wp2_with fail
  refine (new_any l n Hn.out a ca _ (H1.out.below HB.out (Nat.le_refl _)) (by omega) HR.out).mono ?_
  rintro e w2 ⟨p, g, rfl, D, hb, hlb, hlg, hgs⟩
  have hB1 := HB.out.size
  have hb2 : Below w.heap.size w w2 := HB.out.trans (hb.mono hB1)
  have hp : w.heap.size ≤ p := by omega
  have hpg : w.heap.size ≤ g := by omega
  clear hb hlb hlg hgs hB1 HB
  go_wp2
  go_loopw [6, 8, 9, 10, 27] (fun at_ _ _ _ i wr => ∃ (j k : Nat), j ≤ m ∧ i = .int .i64 j ∧ at_ = .int .i64 k ∧ k ≤ n ∧ DiceAt wr p g l k ∧ Below w.heap.size w wr) (fun _ _ _ _ i _ => m - (intOf i).toNat)
  case atStart => exact ⟨0, 0, Nat.zero_le _, rfl, rfl, Nat.zero_le _, D, hb2⟩
  case round =>
    clear D hb2
    obtain ⟨j, k, hj, rfl, rfl, hk, D, hb⟩ := hrel
    by_cases hlt : j < m
    · obtain ⟨b1, o1, rfl, c1⟩ := (H2.out.below hb (Nat.le_refl _)).at j (by rw [← Hm.out]; exact hlt)
      obtain ⟨s, hs⟩ := named (asks.getD j 0)
      rw [← hs.out] at c1
      have r1 := rdraw_any l n Hn.out a ca k s wr (H1.out.below hb (Nat.le_refl _)) (by omega) hk HR.out
      have R1 := Lib.hid r1
      have hK : drawK l k s ≤ n := by rw [Hn.out]; exact drawK_le l k s D.hk
      have HBk := Lib.hid hb
      have HD := Lib.hid D
      clear r1 D hb
      go_wp2_with fail
      refine R1.out.mono ?_
      rintro e w3 ⟨rfl, rfl⟩
      go_wp2_with fail
      refine (draw_any s HD.out).mono ?_
      rintro e w4 ⟨rfl, D4, T4⟩
      have HD4 := Lib.hid D4
      have HT4 := Lib.hid T4
      clear D4 T4
      go_wp2_with fail
      refine (drawn_any HD4.out).mono ?_
      rintro e w5 ⟨rfl, rfl⟩
      go_wp2_with fail
      refine (left_n n Hn.out HD4.out).mono ?_
      rintro e w5 ⟨rfl, q, rfl⟩
      go_wp2
      go_roundw
      case rel => exact ⟨j + 1, drawK l k s, by omega, by go_num, rfl, hK, HD4.out.drewN q, below_drewN (HBk.out.trans (HT4.out.below hp)) q⟩
      case measure => simp [intOf]; omega
    · go_wp2
      go_ret
      exact ⟨rfl, hb⟩
end Go.Proofs.Yteffilepolbgbaa
