/- The law ShuffleBack, walked: an order comes back from its draws. -/
import Derived.Test.YteffilepolbgbaaLawOrders
namespace Go.Proofs.Yteffilepolbgbaa
open Go.RowKit
set_option linter.unusedVariables false

theorem tmod_in (d : Int) (k : Nat) : -(k : Int) ≤ d.tmod ((k : Int) + 1) ∧ d.tmod ((k : Int) + 1) ≤ k := by
  have h := Int.tmod_eq_emod (a := d) (b := (k : Int) + 1)
  have h1 := Int.emod_nonneg d (by omega : (k : Int) + 1 ≠ 0)
  have h2 := Int.emod_lt_of_pos d (by omega : 0 < (k : Int) + 1)
  split at h <;> omega
theorem tmod_counts (d : Int) (k : Nat) : (d.tmod ((k : Int) + 1) + k + 1) % ((k : Int) + 1) = d % ((k : Int) + 1) := by
  have h := tmod_emod d ((k : Int) + 1) (by omega)
  rw [Int.add_assoc, Int.add_emod_right]
  split at h
  · rw [← Int.emod_emod_of_dvd d (Int.dvd_refl _), h, Int.add_emod_right]
  · rw [← Int.emod_emod_of_dvd d (Int.dvd_refl _), h]

theorem draws_of_ordL {ds D : List Int} (h1 : D.length = (ordL ds).length) (h2 : Canon D) (h3 : ordL D = ordL ds) : D = canonL ds :=
  ordL_inj ds.length D (canonL ds) (by rw [h1, length_ordL]) (length_canonL ds) h2 (canon_canonL ds) (h3.trans (ordL_canonL ds).symm)

set_option maxHeartbeats 1000000 in
theorem shuffleBack_walk (ds : List Int) (n : Nat) (hn : n = ds.length) (a : Option Addr) (ca : Nat) (w : World) (h1 : Rd .i64 w a ds) :
    Calls Try.prog 13 #[.slice a n ca] w fun e w' => e = .returned (.bool true) ∧ Below w.heap.size w w' := by
  have hl1 := h1.len
  rw [← hn] at hl1
  have Hn := Lib.hid hn; clear hn
  have H1 := Lib.hid h1; clear h1
  go_enter Try.func13, Try.ntmps13
  go_wp2_with fail
  refine (shuffle_alive _).mono ?_
  rintro e w1 ⟨rfl, hb⟩
  have HB := Lib.hid hb; clear hb
  by_cases h100 : 60 < n
  · go_wp2
    go_ret
    exact ⟨rfl, HB.out⟩
  have hle : n ≤ 1000 := by omega
  go_wp2_with fail
  refine (orderL_any ds n Hn.out a ca _ (H1.out.below HB.out (Nat.le_refl _)) hle).mono ?_
  intro e w2 hF
  obtain ⟨a2, c2, rfl, r2, b2, hb2⟩ := fresh_use HB.out hF (by rw [length_ordL, ← Hn.out]; omega)
  rw [length_ordL, ← Hn.out]
  have hol : n = (ordL ds).length := by rw [length_ordL, ← Hn.out]
  have HOl := Lib.hid hol
  have HB2 := Lib.hid hb2
  have R2 := Lib.hid r2
  have hq : isB (ordL ds) = true := isB_of_perm (ordL_perm ds).2
  have HQ := Lib.hid hq
  clear hF r2 b2 hb2 HB hol hq
  go_wp2_with fail
  refine (draws_yes (ordL ds) n HOl.out a2 c2 _ R2.out hle HQ.out).mono ?_
  intro e w3 hF
  obtain ⟨a3, c3, D, rfl, hD1, hD2, hD3, r3, b3, hb3⟩ := draws_use HB2.out hF (by rw [← HOl.out]; omega)
  rw [← HOl.out]
  have hDc := draws_of_ordL hD1 hD2 hD3
  subst hDc
  have HB3 := Lib.hid hb3
  have R3 := Lib.hid r3
  have R23 := Lib.hid (R2.out.below b3 (Nat.le_refl _))
  have hCl : n = (canonL ds).length := by rw [length_canonL, ← Hn.out]
  have HCl := Lib.hid hCl
  clear hF r3 b3 hb3 HB2 R2 hD1 hD2 hD3 hCl
  go_wp2_with fail
  have ci := is_any (ordL ds) n HOl.out a2 c2 w3 R23.out hle
  rw [HQ.out] at ci
  refine ci.mono ?_
  rintro e w4 ⟨rfl, hb4⟩
  have HB4 := Lib.hid (HB3.out.trans (hb4.mono HB3.out.size))
  have R24 := Lib.hid (R23.out.below hb4 (Nat.le_refl _))
  have R34 := Lib.hid (R3.out.below hb4 (Nat.le_refl _))
  clear hb4 HB3 ci R23 R3
  go_wp2_with fail
  refine (orderL_any (canonL ds) n HCl.out a3 c3 _ R34.out hle).mono ?_
  intro e w5 hF
  rw [ordL_canonL] at hF
  obtain ⟨a5, c5, rfl, r5, b5, hb5⟩ := fresh_use HB4.out hF (by rw [← HOl.out]; omega)
  rw [← HOl.out]
  have HB5 := Lib.hid hb5
  have R5 := Lib.hid r5
  have R25 := Lib.hid (R24.out.below b5 (Nat.le_refl _))
  have R35 := Lib.hid (R34.out.below b5 (Nat.le_refl _))
  clear hF r5 b5 hb5 HB4 R24 R34
  go_wp2_with fail
  refine (same_yes (ordL ds) n HOl.out _ _ _ _ _ R5.out R25.out).mono ?_
  rintro e w6 ⟨rfl, q, hq⟩
  have HB6 : Hid (Below w.heap.size w w6) := by show Below _ _ _; rw [hq]; exact below_drewN HB5.out q
  have R36 : Hid (Rd .i64 w6 a3 (canonL ds)) := by show Rd _ _ _ _; rw [hq]; exact R35.out.drewN q
  clear hq HB5 R5 R25 R35
  have hnn : ((n : Int) != n) = false := by simp
  go_wp2
  go_loopw [6, 7, 43] (fun _ _ i wr => ∃ k q : Nat, k ≤ n ∧ i = .int .i64 k ∧ wr = w6.drewN q) (fun _ _ i _ => n - (intOf i).toNat)
  case atStart => exact ⟨0, 0, Nat.zero_le _, rfl, rfl⟩
  case round =>
    obtain ⟨k, q, hk, rfl, rfl⟩ := hrel
    by_cases hlt : k < n
    · obtain ⟨b, off, rfl, cd⟩ := (H1.out.below HB6.out (Nat.le_refl _)).at k (by rw [← Hn.out]; exact hlt)
      obtain ⟨b3, off3, rfl, cl⟩ := R36.out.at k (by rw [← HCl.out]; exact hlt)
      rw [getD_canonL ds k (by rw [← Hn.out]; exact hlt)] at cl
      obtain ⟨d, hd⟩ := named (ds.getD k 0)
      rw [← hd.out] at cd cl
      have t1 := tmod_in d k
      have tc := tmod_counts d k
      have hv0 := Int.emod_nonneg d (by omega : (k : Int) + 1 ≠ 0)
      have hv1 := Int.emod_lt_of_pos d (by omega : 0 < (k : Int) + 1)
      obtain ⟨v, hv⟩ : ∃ v, v = d % ((k : Int) + 1) := ⟨_, rfl⟩
      rw [← hv] at cl hv0 hv1 tc
      obtain ⟨t10, t11⟩ := t1
      have hg1 : decide (v < 0) = false := by simp; omega
      have hg2 : decide ((k : Int) < v) = false := by simp; omega
      have hne : ((d.tmod ((k : Int) + 1) + k + 1) % ((k : Int) + 1) != v) = false := by rw [tc]; simp
      have s0 : IntKind.i64.wrap ((k : Int) + 1) = (k : Int) + 1 := IntWalk.i64_in _ (by omega)
      have s1 : IntKind.i64.wrap (d.tmod ((k : Int) + 1) + k) = d.tmod ((k : Int) + 1) + k := IntWalk.i64_in _ (by omega)
      have s2 : IntKind.i64.wrap (d.tmod ((k : Int) + 1) + k + 1) = d.tmod ((k : Int) + 1) + k + 1 := IntWalk.i64_in _ (by omega)
      have kn : (k : Int) < (n : Int) := by omega
      clear tc hv
      go_wp2_with fail
      go_quiet (fail)
      go_wp2
      go_roundw
      case rel => exact ⟨k + 1, _, by omega, by go_num, rfl⟩
      case measure => simp [intOf]; omega
    · go_wp2
      go_ret
      exact ⟨rfl, below_drewN HB6.out _⟩
end Go.Proofs.Yteffilepolbgbaa
