/- shuffle.First and handoffref02.First answer as a plain function says. -/
import Derived.Test.YteffilepolbgbaaBase
namespace Go.Proofs.Yteffilepolbgbaa
open Go.RowKit

/-- A slice whose elements read as the bools of a list. -/
def RdB (w : World) (ao : Option Addr) (bs : List Bool) : Prop :=
  bs.length ≤ 9223372036854775807 ∧ (0 < bs.length → ∃ b off, ao = some ⟨b, off, none⟩ ∧ ∀ j, j < bs.length → w.cell? ⟨b, off + j, none⟩ = some (.bool (bs.getD j false)))

theorem RdB.at {w : World} {ao : Option Addr} {bs : List Bool} (h : RdB w ao bs) (i : Nat) (hi : i < bs.length) :
    ∃ b off, ao = some ⟨b, off, none⟩ ∧ w.cell? ⟨b, off + i, none⟩ = some (.bool (bs.getD i false)) := by
  obtain ⟨b, off, e, h⟩ := h.2 (by omega)
  exact ⟨b, off, e, h i hi⟩

theorem RdB.below {w w' : World} {B : Nat} {ao : Option Addr} {bs : List Bool} (h : RdB w ao bs) (hb : Below B w w') (hB : w.heap.size ≤ B) : RdB w' ao bs := by
  refine ⟨h.1, fun h0 => ?_⟩
  obtain ⟨b, off, e, h⟩ := h.2 h0
  refine ⟨b, off, e, fun j hj => ?_⟩
  have hv := h j hj
  rw [hb.cell (by have := World.block_lt_of_cell? w _ hv; omega)]
  exact hv

/-- May this number be? -/
def mayB (bs : List Bool) (x : Int) : Bool := decide (0 ≤ x) && decide (x < bs.length) && bs.getD x.toNat false

/-- The first number of the list that may be; 0 and false if there is none. -/
def firstI : List Int → List Bool → Int
  | [], _ => 0
  | x :: l, bs => if mayB bs x = true then x else firstI l bs
def firstOk : List Int → List Bool → Bool
  | [], _ => false
  | x :: l, bs => if mayB bs x = true then true else firstOk l bs

theorem first_hit {zs : List Int} {bs : List Bool} {k : Nat} {x : Int} (hk : k < zs.length) (hx : x = zs.getD k 0) (h : mayB bs x = true) :
    firstI (zs.drop k) bs = x ∧ firstOk (zs.drop k) bs = true := by
  rw [List.drop_eq_getElem_cons hk]
  have : zs[k] = x := by rw [hx, List.getD_eq_getElem?_getD, List.getElem?_eq_getElem hk]; rfl
  simp [firstI, firstOk, this, h]
theorem first_miss {zs : List Int} {bs : List Bool} {k : Nat} {x : Int} (hk : k < zs.length) (hx : x = zs.getD k 0) (h : mayB bs x = false) :
    firstI (zs.drop k) bs = firstI (zs.drop (k + 1)) bs ∧ firstOk (zs.drop k) bs = firstOk (zs.drop (k + 1)) bs := by
  rw [List.drop_eq_getElem_cons hk]
  have : zs[k] = x := by rw [hx, List.getD_eq_getElem?_getD, List.getElem?_eq_getElem hk]; rfl
  simp [firstI, firstOk, this, h]
theorem first_end {zs : List Int} {bs : List Bool} {k : Nat} (hk : zs.length ≤ k) : firstI (zs.drop k) bs = 0 ∧ firstOk (zs.drop k) bs = false := by
  rw [List.drop_eq_nil_of_le hk]; exact ⟨rfl, rfl⟩


set_option maxHeartbeats 400000 in
theorem first_any (zs : List Int) (bs : List Bool) (a b : Option Addr) (ca cb : Nat) (w : World) (h1 : Rd .i64 w a zs) (h2 : RdB w b bs) :
    Calls Try.prog 26 #[.slice a zs.length ca, .slice b bs.length cb] w fun e w' => e = .returned (.tuple #[.int .i64 (firstI zs bs), .bool (firstOk zs bs)]) ∧ w = w' := by
  have hl := h1.len
  have hl2 := h2.1
  obtain ⟨n, hn⟩ : ∃ n, n = zs.length := ⟨_, rfl⟩
  obtain ⟨m, hm⟩ : ∃ m, m = bs.length := ⟨_, rfl⟩
  obtain ⟨fi, hfi⟩ : ∃ f, f = firstI zs bs := ⟨_, rfl⟩
  obtain ⟨fo, hfo⟩ : ∃ f, f = firstOk zs bs := ⟨_, rfl⟩
  rw [← hn] at hl ⊢
  rw [← hm] at hl2 ⊢
  rw [← hfi, ← hfo]
  have Hn := Lib.hid hn; clear hn
  have Hm := Lib.hid hm; clear hm
  have H1 := Lib.hid h1; clear h1
  have H2 := Lib.hid h2; clear h2
  have Hf := Lib.hid (And.intro hfi hfo); clear hfi hfo
  go_enter Try.func26, Try.ntmps26
  go_wp2
  go_loop [7, 10] (fun _ i => ∃ k : Nat, k ≤ n ∧ i = .int .i64 k ∧ Hid (fi = firstI (zs.drop k) bs ∧ fo = firstOk (zs.drop k) bs)) (fun _ i => n - (intOf i).toNat)
  case atStart => exact ⟨0, Nat.zero_le _, rfl, by simpa using Hf⟩
  case round =>
    obtain ⟨k, hk, rfl, HF⟩ := hrel
    by_cases hlt : k < n
    · obtain ⟨b1, o1, rfl, c1⟩ := H1.out.at k (by rw [← Hn.out]; exact hlt)
      obtain ⟨x, hx⟩ := named (zs.getD k 0)
      rw [← hx.out] at c1
      have hkz : Hid (k < zs.length) := by show _; rw [← Hn.out]; exact hlt
      by_cases hx0 : 0 ≤ x
      · by_cases hxm : x < m
        · obtain ⟨y, rfl⟩ := Int.eq_ofNat_of_zero_le hx0
          have hym : y < m := by omega
          obtain ⟨b2, o2, rfl, c2⟩ := H2.out.at y (by rw [← Hm.out]; exact hym)
          obtain ⟨t, ht⟩ : ∃ t, t = bs.getD y false := ⟨_, rfl⟩
          rw [← ht] at c2
          have Ht := Lib.hid ht; clear ht
          cases t
          · have hmiss : mayB bs (y : Int) = false := by
              unfold mayB; rw [Int.toNat_natCast, ← Ht.out]; simp
            have HM := Lib.hid (first_miss hkz.out hx.out hmiss)
            clear hmiss
            go_wp2
            go_round
            case rel => exact ⟨k + 1, by omega, by go_num, ⟨HF.out.1.trans HM.out.1, HF.out.2.trans HM.out.2⟩⟩
            case measure => simp [intOf]; omega
          · have hhit : mayB bs (y : Int) = true := by
              unfold mayB; rw [Int.toNat_natCast, ← Ht.out, ← Hm.out]; simp; omega
            have HM := Lib.hid (first_hit hkz.out hx.out hhit)
            clear hhit
            go_wp2
            go_ret2
            exact ⟨by rw [HF.out.1, HF.out.2, HM.out.1, HM.out.2]; rfl, rfl⟩
        · have hmiss : mayB bs x = false := by
            unfold mayB; rw [← Hm.out]; simp [hxm]
          have HM := Lib.hid (first_miss hkz.out hx.out hmiss)
          clear hmiss
          go_wp2
          go_round
          case rel => exact ⟨k + 1, by omega, by go_num, ⟨HF.out.1.trans HM.out.1, HF.out.2.trans HM.out.2⟩⟩
          case measure => simp [intOf]; omega
      · have hmiss : mayB bs x = false := by
          unfold mayB; simp [hx0]
        have HM := Lib.hid (first_miss hkz.out hx.out hmiss)
        clear hmiss
        go_wp2
        go_round
        case rel => exact ⟨k + 1, by omega, by go_num, ⟨HF.out.1.trans HM.out.1, HF.out.2.trans HM.out.2⟩⟩
        case measure => simp [intOf]; omega
    · have HM := Lib.hid (first_end (zs := zs) (bs := bs) (k := k) (by rw [← Hn.out]; omega))
      go_wp2
      go_ret2
      exact ⟨by rw [HF.out.1, HF.out.2, HM.out.1, HM.out.2]; rfl, rfl⟩

set_option maxHeartbeats 400000 in
theorem rfirst_any (zs : List Int) (bs : List Bool) (a b : Option Addr) (ca cb : Nat) (w : World) (h1 : Rd .i64 w a zs) (h2 : RdB w b bs) :
    Calls Try.prog 27 #[.slice a zs.length ca, .slice b bs.length cb] w fun e w' => e = .returned (.tuple #[.int .i64 (firstI zs bs), .bool (firstOk zs bs)]) ∧ w = w' := by
  have hl := h1.len
  have hl2 := h2.1
  obtain ⟨n, hn⟩ : ∃ n, n = zs.length := ⟨_, rfl⟩
  obtain ⟨m, hm⟩ : ∃ m, m = bs.length := ⟨_, rfl⟩
  obtain ⟨fi, hfi⟩ : ∃ f, f = firstI zs bs := ⟨_, rfl⟩
  obtain ⟨fo, hfo⟩ : ∃ f, f = firstOk zs bs := ⟨_, rfl⟩
  rw [← hn] at hl ⊢
  rw [← hm] at hl2 ⊢
  rw [← hfi, ← hfo]
  have Hn := Lib.hid hn; clear hn
  have Hm := Lib.hid hm; clear hm
  have H1 := Lib.hid h1; clear h1
  have H2 := Lib.hid h2; clear h2
  have Hf := Lib.hid (And.intro hfi hfo); clear hfi hfo
  go_enter Try.func27, Try.ntmps27
  go_wp2
  go_loop [7, 10] (fun _ i => ∃ k : Nat, k ≤ n ∧ i = .int .i64 k ∧ Hid (fi = firstI (zs.drop k) bs ∧ fo = firstOk (zs.drop k) bs)) (fun _ i => n - (intOf i).toNat)
  case atStart => exact ⟨0, Nat.zero_le _, rfl, by simpa using Hf⟩
  case round =>
    obtain ⟨k, hk, rfl, HF⟩ := hrel
    by_cases hlt : k < n
    · obtain ⟨b1, o1, rfl, c1⟩ := H1.out.at k (by rw [← Hn.out]; exact hlt)
      obtain ⟨x, hx⟩ := named (zs.getD k 0)
      rw [← hx.out] at c1
      have hkz : Hid (k < zs.length) := by show _; rw [← Hn.out]; exact hlt
      by_cases hx0 : 0 ≤ x
      · by_cases hxm : x < m
        · obtain ⟨y, rfl⟩ := Int.eq_ofNat_of_zero_le hx0
          have hym : y < m := by omega
          obtain ⟨b2, o2, rfl, c2⟩ := H2.out.at y (by rw [← Hm.out]; exact hym)
          obtain ⟨t, ht⟩ : ∃ t, t = bs.getD y false := ⟨_, rfl⟩
          rw [← ht] at c2
          have Ht := Lib.hid ht; clear ht
          cases t
          · have hmiss : mayB bs (y : Int) = false := by
              unfold mayB; rw [Int.toNat_natCast, ← Ht.out]; simp
            have HM := Lib.hid (first_miss hkz.out hx.out hmiss)
            clear hmiss
            go_wp2
            go_round
            case rel => exact ⟨k + 1, by omega, by go_num, ⟨HF.out.1.trans HM.out.1, HF.out.2.trans HM.out.2⟩⟩
            case measure => simp [intOf]; omega
          · have hhit : mayB bs (y : Int) = true := by
              unfold mayB; rw [Int.toNat_natCast, ← Ht.out, ← Hm.out]; simp; omega
            have HM := Lib.hid (first_hit hkz.out hx.out hhit)
            clear hhit
            go_wp2
            go_ret2
            exact ⟨by rw [HF.out.1, HF.out.2, HM.out.1, HM.out.2]; rfl, rfl⟩
        · have hmiss : mayB bs x = false := by
            unfold mayB; rw [← Hm.out]; simp [hxm]
          have HM := Lib.hid (first_miss hkz.out hx.out hmiss)
          clear hmiss
          go_wp2
          go_round
          case rel => exact ⟨k + 1, by omega, by go_num, ⟨HF.out.1.trans HM.out.1, HF.out.2.trans HM.out.2⟩⟩
          case measure => simp [intOf]; omega
      · have hmiss : mayB bs x = false := by
          unfold mayB; simp [hx0]
        have HM := Lib.hid (first_miss hkz.out hx.out hmiss)
        clear hmiss
        go_wp2
        go_round
        case rel => exact ⟨k + 1, by omega, by go_num, ⟨HF.out.1.trans HM.out.1, HF.out.2.trans HM.out.2⟩⟩
        case measure => simp [intOf]; omega
    · have HM := Lib.hid (first_end (zs := zs) (bs := bs) (k := k) (by rw [← Hn.out]; omega))
      go_wp2
      go_ret2
      exact ⟨by rw [HF.out.1, HF.out.2, HM.out.1, HM.out.2]; rfl, rfl⟩
end Go.Proofs.Yteffilepolbgbaa
