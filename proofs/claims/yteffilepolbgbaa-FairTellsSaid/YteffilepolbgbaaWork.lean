/- fair.Work, and the reference's. -/
import Derived.Test.YteffilepolbgbaaPlan
import Derived.Test.YteffilepolbgbaaPlanMath
namespace Go.Proofs.Yteffilepolbgbaa
open Go.RowKit
set_option linter.unusedVariables false

set_option maxHeartbeats 2000000 in
theorem work_walk (pl : List (List Nat)) (n : Nat) (hn : n = pl.length) (a : Option Addr) (ca : Nat) (w : World) (h1 : RdPlan w a pl) (hsm : Small pl) :
    Calls Try.prog 34 #[.slice a n ca] w fun e w' => e = .returned (.int .i64 ((n + plW pl : Nat) : Int)) ∧ Below w.heap.size w w' := by
  have hl1 : n ≤ 100 := by rw [hn]; exact hsm.1
  have Hn := Lib.hid hn; clear hn
  have H1 := Lib.hid h1; clear h1
  have HS := Lib.hid hsm; clear hsm
  go_enter Try.func34, Try.ntmps34
  go_wp2
  go_loopw [3, 5, 7, 12] (fun v _ _ i wr => ∃ j s : Nat, j ≤ n ∧ i = .int .i64 j ∧ v = .int .i64 s ∧ s ≤ 100 + 162400 * j ∧ Hid (s = n + plW (pl.take j)) ∧ Hid (Below w.heap.size w wr)) (fun _ _ _ i _ => n - (intOf i).toNat)
  case atStart => exact ⟨0, n, Nat.zero_le _, rfl, rfl, by omega, (by simp [plW] : n = n + plW (pl.take 0)), Below.refl _ _⟩
  case round =>
    obtain ⟨j, s, hj, rfl, rfl, hsb, HK, HB⟩ := hrel
    by_cases hlt : j < n
    · obtain ⟨b1, o1, r1, c1, rfl, hc1, hops⟩ := (H1.out.below HB.out (Nat.le_refl _)).2 j (by rw [← Hn.out]; exact hlt)
      have hsj := HS.out.2 j (by rw [← Hn.out]; exact hlt)
      have hnx := plW_take pl j (by rw [← Hn.out]; exact hlt)
      obtain ⟨cs, hcs⟩ : ∃ cs, cs = pl.getD j [] := ⟨_, rfl⟩
      rw [← hcs] at hc1 hops hsj hnx
      obtain ⟨m, hm⟩ : ∃ m, m = cs.length := ⟨_, rfl⟩
      rw [← hm] at hc1 hsj
      have hm100 : m ≤ 100 := hsj.1
      have HO := Lib.hid hops; have HSJ := Lib.hid hsj.2; have HNX := Lib.hid hnx; have HM := Lib.hid hm
      obtain ⟨wo, hwo⟩ : ∃ wo, wo = wr := ⟨_, rfl⟩
      subst hwo
      clear hops hsj hnx hm hcs
      go_wp2
      go_loopw [3, 7, 18] (fun v _ i wr' => ∃ k t : Nat, k ≤ m ∧ i = .int .i64 k ∧ v = .int .i64 t ∧ t ≤ s + 1624 * k ∧ Hid (t = s + rowW (cs.take k)) ∧ Hid (Below wo.heap.size wo wr')) (fun _ _ i _ => m - (intOf i).toNat)
      case atStart => exact ⟨0, s, Nat.zero_le _, rfl, rfl, by omega, (by simp [rowW] : s = s + rowW (cs.take 0)), Below.refl _ _⟩
      case round =>
        obtain ⟨k, t, hk, rfl, rfl, htb, HT, HB2⟩ := hrel
        by_cases hlt2 : k < m
        · obtain ⟨b2, o2, z0, z1, z2, z3, x, cx, b5, rfl, e0, e1, e2, e3, e4, e5, hx⟩ := (HO.out.below HB2.out (Nat.le_refl _)).2 k (by rw [← HM.out]; exact hlt2)
          have hck := HSJ.out k hlt2
          have hnr := rowW_take cs k (by rw [← HM.out]; exact hlt2)
          obtain ⟨q, hq⟩ : ∃ q, q = cs.getD k 0 := ⟨_, rfl⟩
          rw [← hq] at e4 hck hnr hx
          have HT' : Hid (t + (24 + 16 * q) = s + rowW (cs.take (k + 1))) := by show _ = _; rw [hnr, HT.out]; omega
          clear hnr hq
          have hs2 := HB2.out.size
          have HB3 : Hid (Below wo.heap.size wo (wr.alloc (.cells #[.int .i64 z0, .int .i64 z1, .int .i64 z2, .int .i64 z3, .slice x q cx, .bool b5] 69))) := HB2.out.alloc hs2 _
          go_wp2
          go_roundw
          case rel => exact ⟨k + 1, t + (24 + 16 * q), by omega, by go_num, by go_num, by omega, HT', HB3⟩
          case measure => simp [intOf]; omega
        · obtain rfl : k = m := by omega
          have HK' : Hid (t = n + plW (pl.take (j + 1))) := by
            show _ = _
            rw [HNX.out, HT.out, HK.out, show k = cs.length from HM.out, rowW_all]; omega
          have hs1 := HB.out.size
          have HB3 : Hid (Below w.heap.size w wr) := HB.out.trans (HB2.out.mono hs1)
          go_wp2
          go_roundw
          case rel => exact ⟨j + 1, t, by omega, by go_num, rfl, by omega, HK', HB3⟩
          case measure => simp [intOf]; omega
    · obtain rfl : j = n := by omega
      have hK2 : s = j + plW pl := by rw [HK.out, show j = pl.length from Hn.out, plW_all]
      have HK2 := Lib.hid hK2; clear hK2
      go_wp2
      go_ret
      refine ⟨?_, HB.out⟩
      rw [HK2.out]; rfl

set_option maxHeartbeats 2000000 in
theorem refWork_walk (pl : List (List Nat)) (n : Nat) (hn : n = pl.length) (a : Option Addr) (ca : Nat) (w : World) (h1 : RdPlan w a pl) (hsm : Small pl) :
    Calls Try.prog 35 #[.slice a n ca] w fun e w' => e = .returned (.int .i64 ((n + plW pl : Nat) : Int)) ∧ Below w.heap.size w w' := by
  have hl1 : n ≤ 100 := by rw [hn]; exact hsm.1
  have Hn := Lib.hid hn; clear hn
  have H1 := Lib.hid h1; clear h1
  have HS := Lib.hid hsm; clear hsm
  go_enter Try.func35, Try.ntmps35
  go_wp2
  go_loopw [3, 5, 7, 10] (fun v _ _ i wr => ∃ j s : Nat, j ≤ n ∧ i = .int .i64 j ∧ v = .int .i64 s ∧ s ≤ 162401 * j ∧ Hid (s = j + plW (pl.take j)) ∧ Hid (Below w.heap.size w wr)) (fun _ _ _ i _ => n - (intOf i).toNat)
  case atStart => exact ⟨0, 0, Nat.zero_le _, rfl, rfl, by omega, (by simp [plW] : 0 = 0 + plW (pl.take 0)), Below.refl _ _⟩
  case round =>
    obtain ⟨j, s, hj, rfl, rfl, hsb, HK, HB⟩ := hrel
    by_cases hlt : j < n
    · obtain ⟨b1, o1, r1, c1, rfl, hc1, hops⟩ := (H1.out.below HB.out (Nat.le_refl _)).2 j (by rw [← Hn.out]; exact hlt)
      have hsj := HS.out.2 j (by rw [← Hn.out]; exact hlt)
      have hnx := plW_take pl j (by rw [← Hn.out]; exact hlt)
      obtain ⟨cs, hcs⟩ : ∃ cs, cs = pl.getD j [] := ⟨_, rfl⟩
      rw [← hcs] at hc1 hops hsj hnx
      obtain ⟨m, hm⟩ : ∃ m, m = cs.length := ⟨_, rfl⟩
      rw [← hm] at hc1 hsj
      have hm100 : m ≤ 100 := hsj.1
      have HO := Lib.hid hops; have HSJ := Lib.hid hsj.2; have HNX := Lib.hid hnx; have HM := Lib.hid hm
      obtain ⟨wo, hwo⟩ : ∃ wo, wo = wr := ⟨_, rfl⟩
      subst hwo
      clear hops hsj hnx hm hcs
      go_wp2
      go_loopw [3, 7, 18] (fun v _ i wr' => ∃ k t : Nat, k ≤ m ∧ i = .int .i64 k ∧ v = .int .i64 t ∧ t ≤ s + 1 + 1624 * k ∧ Hid (t = s + 1 + rowW (cs.take k)) ∧ Hid (Below wo.heap.size wo wr')) (fun _ _ i _ => m - (intOf i).toNat)
      case atStart => exact ⟨0, s + 1, Nat.zero_le _, rfl, by go_num, by omega, (by simp [rowW] : s + 1 = s + 1 + rowW (cs.take 0)), Below.refl _ _⟩
      case round =>
        obtain ⟨k, t, hk, rfl, rfl, htb, HT, HB2⟩ := hrel
        by_cases hlt2 : k < m
        · obtain ⟨b2, o2, z0, z1, z2, z3, x, cx, b5, rfl, e0, e1, e2, e3, e4, e5, hx⟩ := (HO.out.below HB2.out (Nat.le_refl _)).2 k (by rw [← HM.out]; exact hlt2)
          have hck := HSJ.out k hlt2
          have hnr := rowW_take cs k (by rw [← HM.out]; exact hlt2)
          obtain ⟨q, hq⟩ : ∃ q, q = cs.getD k 0 := ⟨_, rfl⟩
          rw [← hq] at e4 hck hnr hx
          have HT' : Hid (t + (24 + 16 * q) = s + 1 + rowW (cs.take (k + 1))) := by show _ = _; rw [hnr, HT.out]; omega
          clear hnr hq
          have hs2 := HB2.out.size
          have HB3 : Hid (Below wo.heap.size wo (wr.alloc (.cells #[.int .i64 z0, .int .i64 z1, .int .i64 z2, .int .i64 z3, .slice x q cx, .bool b5] 69))) := HB2.out.alloc hs2 _
          go_wp2
          go_roundw
          case rel => exact ⟨k + 1, t + (24 + 16 * q), by omega, by go_num, by go_num, by omega, HT', HB3⟩
          case measure => simp [intOf]; omega
        · obtain rfl : k = m := by omega
          have HK' : Hid (t = j + 1 + plW (pl.take (j + 1))) := by
            show _ = _
            rw [HNX.out, HT.out, HK.out, show k = cs.length from HM.out, rowW_all]; omega
          have hs1 := HB.out.size
          have HB3 : Hid (Below w.heap.size w wr) := HB.out.trans (HB2.out.mono hs1)
          go_wp2
          go_roundw
          case rel => exact ⟨j + 1, t, by omega, by go_num, rfl, by omega, HK', HB3⟩
          case measure => simp [intOf]; omega
    · obtain rfl : j = n := by omega
      have hK2 : s = j + plW pl := by rw [HK.out, show j = pl.length from Hn.out, plW_all]
      have HK2 := Lib.hid hK2; clear hK2
      go_wp2
      go_ret
      refine ⟨?_, HB.out⟩
      rw [HK2.out]; rfl
end Go.Proofs.Yteffilepolbgbaa
