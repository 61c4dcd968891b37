/- The laws ShuffleOrders and ShuffleBack, walked. -/
import Derived.Test.YteffilepolbgbaaRDraws
import Derived.Test.YteffilepolbgbaaLawOrder
import Derived.Test.YteffilepolbgbaaCount
namespace Go.Proofs.Yteffilepolbgbaa
open Go.RowKit
set_option linter.unusedVariables false

theorem length_ordL (ds : List Int) : (ordL ds).length = ds.length := (ordL_perm ds).1

/-- What Draws leaves, used. -/
theorem draws_use {w0 w w1 : World} {zs : List Int} {e : Ending} (hb : Below w0.heap.size w0 w) (h : DrawsYes w zs e w1) (hl : zs.length ≤ 1000) :
    ∃ ao cap D, e = .returned (.tuple #[.slice ao zs.length cap, .bool true]) ∧ D.length = zs.length ∧ Canon D ∧ ordL D = zs ∧ Rd .i64 w1 ao D ∧ Below w.heap.size w w1 ∧ Below w0.heap.size w0 w1 := by
  obtain ⟨v, D, rfl, hown, h1, h2, h3, hb1⟩ := h
  obtain ⟨ao, cap, rfl, hr⟩ := hown.rd (by omega)
  exact ⟨ao, cap, D, by rw [h1], h1, h2, h3, hr, hb1, hb.trans (hb1.mono hb.size)⟩

set_option maxHeartbeats 1000000 in
theorem shuffleOrders_walk (ds zs : List Int) (n m : Nat) (hn : n = ds.length) (hm : m = zs.length) (a b : Option Addr) (ca cb : Nat) (k : Int) (w : World) (h1 : Rd .i64 w a ds) (h2 : Rd .i64 w b zs) (hca : n ≤ ca) (hcb : m ≤ cb) :
    Calls Try.prog 12 #[.slice a n ca, .slice b m cb, .int .i64 k] w fun e w' => e = .returned (.bool true) ∧ Below w.heap.size w w' := by
  have hl1 := h1.len
  have hl2 := h2.len
  rw [← hn] at hl1
  rw [← hm] at hl2
  have Hn := Lib.hid hn; have Hm := Lib.hid hm; clear hn hm
  have H1 := Lib.hid h1; have H2 := Lib.hid h2; clear h1 h2
  go_enter Try.func12, Try.ntmps12
  go_wp2_with fail
  refine (shuffle_alive _).mono ?_
  rintro e w1 ⟨rfl, hb⟩
  have HB := Lib.hid hb; clear hb
  by_cases h100 : 60 < n
  · go_wp2
    go_ret
    exact ⟨rfl, HB.out⟩
  by_cases h200 : 60 < m
  · go_wp2
    go_ret
    exact ⟨rfl, HB.out⟩
  have hle : n ≤ 1000 := by omega
  have hle2 : m ≤ 1000 := by omega
  cases hq : isB zs with
  | false =>
    have HQ := Lib.hid hq; clear hq
    go_wp2_with fail
    refine (draws_no zs m Hm.out b cb _ (H2.out.below HB.out (Nat.le_refl _)) hle2 HQ.out).mono ?_
    rintro e w2 ⟨rfl, hb2⟩
    have HB2 := Lib.hid (HB.out.trans (hb2.mono HB.out.size)); clear hb2 HB
    go_wp2_with fail
    refine (rdraws_no zs m Hm.out b cb _ (H2.out.below HB2.out (Nat.le_refl _)) hle2 HQ.out).mono ?_
    rintro e w3 ⟨rfl, rfl⟩
    go_wp2_with fail
    refine (orderL_any ds n Hn.out a ca _ (H1.out.below HB2.out (Nat.le_refl _)) hle).mono ?_
    intro e w4 hF
    obtain ⟨a4, c4, rfl, r4, b4, hb4⟩ := fresh_use HB2.out hF (by rw [length_ordL, ← Hn.out]; omega)
    rw [length_ordL, ← Hn.out]
    have HB4 := Lib.hid hb4
    have R4 := Lib.hid r4
    clear hF r4 b4 hb4 HB2
    go_wp2_with fail
    refine (rorder_any n ds Hn.out a ca _ (H1.out.below HB4.out (Nat.le_refl _)) hle hca).mono ?_
    intro e w5 hF
    obtain ⟨a5, c5, rfl, r5, b5, hb5⟩ := fresh_use HB4.out hF (by rw [length_ordL, ← Hn.out]; omega)
    rw [length_ordL, ← Hn.out]
    have HB5 := Lib.hid hb5
    have R5 := Lib.hid r5
    have R45 := Lib.hid (R4.out.below b5 (Nat.le_refl _))
    clear hF r5 b5 hb5 HB4 R4
    go_wp2_with fail
    refine (same_yes (ordL ds) n (by rw [length_ordL, ← Hn.out]) _ _ _ _ _ R45.out R5.out).mono ?_
    rintro e w6 ⟨rfl, q, hq⟩
    have HB6 : Hid (Below w.heap.size w w6) := by show Below _ _ _; rw [hq]; exact below_drewN HB5.out q
    clear hq HB5 R45 R5
    go_wp2_with fail
    have ci := is_any zs m Hm.out b cb w6 (H2.out.below HB6.out (Nat.le_refl _)) hle2
    rw [HQ.out] at ci
    refine ci.mono ?_
    rintro e w7 ⟨rfl, hb7⟩
    have HB7 := Lib.hid (HB6.out.trans (hb7.mono HB6.out.size)); clear hb7 HB6 ci
    go_wp2_with fail
    have ci := ris_any zs m Hm.out b cb w7 (H2.out.below HB7.out (Nat.le_refl _)) hle2
    rw [HQ.out] at ci
    refine ci.mono ?_
    rintro e w8 ⟨rfl, rfl⟩
    clear ci
    go_wp2_with fail
    refine (same_yes [] 0 rfl none none 0 0 _ ⟨by simp, fun h => by simp at h⟩ ⟨by simp, fun h => by simp at h⟩).mono ?_
    rintro e w9 ⟨rfl, q, hq⟩
    have HB9 : Hid (Below w.heap.size w w9) := by show Below _ _ _; rw [hq]; exact below_drewN HB7.out q
    clear hq HB7
    go_wp2_with fail
    refine (count_any k _).mono ?_
    rintro e w10 ⟨rfl, rfl⟩
    go_wp2_with fail
    refine (rcount_any k _).mono ?_
    rintro e w10 ⟨rfl, rfl⟩
    go_wp2
    go_ret
    exact ⟨by simp, HB9.out⟩
  | true =>
    have HQ := Lib.hid hq; clear hq
    go_wp2_with fail
    refine (draws_yes zs m Hm.out b cb _ (H2.out.below HB.out (Nat.le_refl _)) hle2 HQ.out).mono ?_
    intro e w2 hF
    obtain ⟨a2, c2, D, rfl, hD1, hD2, hD3, r2, b2, hb2⟩ := draws_use HB.out hF (by rw [← Hm.out]; omega)
    rw [← Hm.out]
    have HB2 := Lib.hid hb2
    have R2 := Lib.hid r2
    have HD := Lib.hid (And.intro hD1 (And.intro hD2 hD3))
    clear hF r2 b2 hb2 HB hD1 hD2 hD3
    go_wp2_with fail
    refine (rdraws_yes m zs Hm.out b cb _ (H2.out.below HB2.out (Nat.le_refl _)) hle2 hcb HQ.out).mono ?_
    intro e w3 hF
    obtain ⟨a3, c3, D', rfl, hD1, hD2, hD3, r3, b3, hb3⟩ := draws_use HB2.out hF (by rw [← Hm.out]; omega)
    rw [← Hm.out]
    have hDD : D' = D := ordL_inj zs.length D' D hD1 HD.out.1 hD2 HD.out.2.1 (hD3.trans HD.out.2.2.symm)
    subst hDD
    have HB3 := Lib.hid hb3
    have R3 := Lib.hid r3
    have R23 := Lib.hid (R2.out.below b3 (Nat.le_refl _))
    have HDl : Hid (m = D'.length) := by show _; rw [hD1]; exact Hm.out
    clear hF r3 b3 hb3 HB2 R2 hD1 hD2 hD3 HD
    go_wp2_with fail
    refine (orderL_any ds n Hn.out a ca _ (H1.out.below HB3.out (Nat.le_refl _)) hle).mono ?_
    intro e w4 hF
    obtain ⟨a4, c4, rfl, r4, b4, hb4⟩ := fresh_use HB3.out hF (by rw [length_ordL, ← Hn.out]; omega)
    rw [length_ordL, ← Hn.out]
    have HB4 := Lib.hid hb4
    have R4 := Lib.hid r4
    have R24 := Lib.hid (R23.out.below b4 (Nat.le_refl _))
    have R34 := Lib.hid (R3.out.below b4 (Nat.le_refl _))
    clear hF r4 b4 hb4 HB3 R3 R23
    go_wp2_with fail
    refine (rorder_any n ds Hn.out a ca _ (H1.out.below HB4.out (Nat.le_refl _)) hle hca).mono ?_
    intro e w5 hF
    obtain ⟨a5, c5, rfl, r5, b5, hb5⟩ := fresh_use HB4.out hF (by rw [length_ordL, ← Hn.out]; omega)
    rw [length_ordL, ← Hn.out]
    have HB5 := Lib.hid hb5
    have R5 := Lib.hid r5
    have R45 := Lib.hid (R4.out.below b5 (Nat.le_refl _))
    have R25 := Lib.hid (R24.out.below b5 (Nat.le_refl _))
    have R35 := Lib.hid (R34.out.below b5 (Nat.le_refl _))
    clear hF r5 b5 hb5 HB4 R4 R24 R34
    go_wp2_with fail
    refine (same_yes (ordL ds) n (by rw [length_ordL, ← Hn.out]) _ _ _ _ _ R45.out R5.out).mono ?_
    rintro e w6 ⟨rfl, q, hq⟩
    have HB6 : Hid (Below w.heap.size w w6) := by show Below _ _ _; rw [hq]; exact below_drewN HB5.out q
    have R26 : Hid (Rd .i64 w6 a2 D') := by show Rd _ _ _ _; rw [hq]; exact R25.out.drewN q
    have R36 : Hid (Rd .i64 w6 a3 D') := by show Rd _ _ _ _; rw [hq]; exact R35.out.drewN q
    clear hq HB5 R45 R5 R25 R35
    go_wp2_with fail
    have ci := is_any zs m Hm.out b cb w6 (H2.out.below HB6.out (Nat.le_refl _)) hle2
    rw [HQ.out] at ci
    refine ci.mono ?_
    rintro e w7 ⟨rfl, hb7⟩
    have HB7 := Lib.hid (HB6.out.trans (hb7.mono HB6.out.size))
    have R27 := Lib.hid (R26.out.below (hb7) (Nat.le_refl _))
    have R37 := Lib.hid (R36.out.below (hb7) (Nat.le_refl _))
    clear hb7 HB6 ci R26 R36
    go_wp2_with fail
    have ci := ris_any zs m Hm.out b cb w7 (H2.out.below HB7.out (Nat.le_refl _)) hle2
    rw [HQ.out] at ci
    refine ci.mono ?_
    rintro e w8 ⟨rfl, rfl⟩
    clear ci
    go_wp2_with fail
    refine (same_yes D' m HDl.out _ _ _ _ _ R27.out R37.out).mono ?_
    rintro e w9 ⟨rfl, q, hq⟩
    have HB9 : Hid (Below w.heap.size w w9) := by show Below _ _ _; rw [hq]; exact below_drewN HB7.out q
    clear hq HB7 R27 R37
    go_wp2_with fail
    refine (count_any k _).mono ?_
    rintro e w10 ⟨rfl, rfl⟩
    go_wp2_with fail
    refine (rcount_any k _).mono ?_
    rintro e w10 ⟨rfl, rfl⟩
    go_wp2
    go_ret
    exact ⟨by simp, HB9.out⟩
end Go.Proofs.Yteffilepolbgbaa
