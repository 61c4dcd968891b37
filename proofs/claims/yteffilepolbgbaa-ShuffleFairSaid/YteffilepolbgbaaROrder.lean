/- handoffref02.Order: by recursion. -/
import Derived.Test.YteffilepolbgbaaIs
namespace Go.Proofs.Yteffilepolbgbaa
open Go.RowKit
set_option linter.unusedVariables false

theorem rd_take {k : IntKind} {w : World} {ao : Option Addr} {zs : List Int} (h : Rd k w ao zs) (m : Nat) (hm : m ≤ zs.length) : Rd k w ao (zs.take m) := by
  have hl : (zs.take m).length = m := by rw [List.length_take]; omega
  refine ⟨by have := h.len; omega, fun h0 => ?_⟩
  rw [hl] at h0
  obtain ⟨b, off, e, hc⟩ := h.2 (by omega)
  refine ⟨b, off, e, fun j hj => ?_⟩
  rw [hl] at hj
  rw [hc j (by omega), getD_take hj]

set_option maxHeartbeats 1000000 in
theorem rorder_any : ∀ (n : Nat) (ds : List Int) (hn : n = ds.length) (a : Option Addr) (ca : Nat) (w : World) (h : Rd .i64 w a ds) (hl : n ≤ 1000) (hca : n ≤ ca),
    Calls Try.prog 47 #[.slice a n ca] w (FreshI w (ordL ds)) := by
  intro n
  induction n with
  | zero =>
    intro ds hn a ca w h hl hca
    have hd : ds = [] := List.eq_nil_of_length_eq_zero hn.symm
    subst hd
    clear hn
    go_enter Try.func47, Try.ntmps47
    go_wp2
    go_ret
    exact ⟨_, rfl, World.ownsRow_lit w #[] 0 (Nat.le_refl _) (by unfold maxLen; omega) rfl, (Below.refl _ _).alloc (Nat.le_refl _) _⟩
  | succ m ih =>
    intro ds hn a ca w h hl hca
    obtain ⟨i0, hi, hz0, hz1, hz2⟩ := info_parts Try.info3
    obtain ⟨b, off, rfl, c1⟩ := h.at m (by omega)
    obtain ⟨d, hd⟩ := named (ds.getD m 0)
    rw [← hd.out] at c1
    have htl : (ds.take m).length = m := by rw [List.length_take]; omega
    have hsnoc : ds = ds.take m ++ [d] := by
      rw [hd.out]
      have := List.take_succ_eq_append_getElem (l := ds) (i := m) (by omega)
      rw [List.take_of_length_le (by omega)] at this
      simpa [List.getD, show m < ds.length by omega] using this
    have hord : ordL ds = stepO (ordL (ds.take m)) d := by
      have := ordL_snoc (ds.take m) d
      rw [← hsnoc] at this
      exact this
    have hpl := (ordL_perm (ds.take m)).1
    rw [htl] at hpl
    have IH := Lib.hid (ih (ds.take m) htl.symm (some ⟨b, off, none⟩) ca w (rd_take h m (by omega)) (by omega) (by omega))
    have e0 := Int.emod_nonneg d (by omega : (m : Int) + 1 ≠ 0)
    have e1 := Int.emod_lt_of_pos d (by omega : 0 < (m : Int) + 1)
    obtain ⟨j, hj⟩ : ∃ j : Nat, (j : Int) = d % ((m : Int) + 1) := ⟨_, Int.toNat_of_nonneg e0⟩
    have hjk : j ≤ m := by omega
    have hcall := fun W => rcounts_any d ((m : Int) + 1) W (by omega) (by omega)
    rw [← hj] at hcall
    have Hcall := Lib.hid hcall
    have Hj := Lib.hid hj
    have Hord := Lib.hid hord
    have Hpl := Lib.hid hpl
    have Hn := Lib.hid hn
    have c0 : (((m + 1 : Nat) : Int) == 0) = false := by simp; omega
    clear ih htl hsnoc hord hpl hn e0 e1 hj hcall h
    go_enter Try.func47, Try.ntmps47
    go_wp2_with fail
    refine IH.out.mono ?_
    rintro e w1 ⟨v, rfl, hown, hb⟩
    have hown' : w1.ownsRow w.heap.size 3 1 v m ((ordL (ds.take m)).map (Value.int .i64)) := by
      have := hown
      unfold OwnI at this
      rw [Hpl.out] at this
      exact this
    have HO := Lib.hid hown'
    have HB := Lib.hid hb
    have hvf : v = .slice none 0 0 ∨ ∃ g cap, v = .slice (some ⟨g, 0, none⟩) m cap := by
      rcases hown'.2 with ⟨h, _⟩ | ⟨g, cap, cur, h, _⟩
      · exact .inl h
      · exact .inr ⟨g, cap, h⟩
    have hm0 : v = .slice none 0 0 → m = 0 := by
      rintro rfl
      rcases hown'.2 with ⟨_, h⟩ | ⟨g, cap, cur, h, _⟩
      · exact h
      · simp at h
    have HM0 := Lib.hid hm0
    have hsz := hb.size
    clear hown hown' hb hm0 IH
    go_wp2_with (at_builtin; go_loud (refine wpList_append_own _ rfl (.tmp 15) (.tmp 18) 23 rfl w.heap.size 3 i0 (.int .i64 0) 1 8 Try.underlying23 hi hz0 hz1 hz2 rfl (by decide) _ m _ rfl (HO.out.alloc _) ⟨w1.heap.size, 0, none⟩ 1 1 [.int .i64 m] rfl rfl (cell_one_new _ _ _) (by intro u hu; simp at hu; subst hu; rfl) (by unfold maxLen; omega) (by omega) (by simp; omega) ?_))
    intro v2 w2 hown2 hgrow2 hnil2
    obtain ⟨g, cap, rfl, hg1, hg2, hg3⟩ := own_shape hown2 (fun e => by simp [e] at hnil2)
    have hb2 : Below w.heap.size w w2 := (HB.out.alloc hsz _).grown hgrow2 (by simp; omega) (by intro q hq; exact (HO.out.lt q hq).1)
    have hown3 : w2.ownsRow w.heap.size 3 1 (.slice (some ⟨g, 0, none⟩) (m + 1) cap) (m + 1) ((ordL (ds.take m) ++ [(m : Int)]).map (Value.int .i64)) := by simpa using hown2
    have c1' : w2.cell? ⟨b, off + m, none⟩ = some (.int .i64 d) := by
      rw [hb2.cell (by exact World.block_lt_of_cell? w _ c1)]; exact c1
    have ck := own_cell hown3 m (by omega)
    have hlast : (ordL (ds.take m) ++ [(m : Int)]).getD m 0 = m := by
      have := getD_append_last (ordL (ds.take m)) (m : Int)
      rwa [Hpl.out] at this
    rw [hlast] at ck
    obtain ⟨y, hy⟩ := named ((ordL (ds.take m) ++ [(m : Int)]).getD j 0)
    have cj := own_cell hown3 j (by omega)
    rw [← hy.out] at cj
    have fk := hown3.frozenAt m
    have fj := hown3.frozenAt j
    have HO3 := Lib.hid hown3
    have HB2 := Lib.hid hb2
    have HL := Lib.hid hlast
    clear hown2 hgrow2 hnil2 hb2 hown3 c1 hlast HO HB HM0 hvf
    go_wp2_with (go_at_call 56; refine (Hcall.out _).mono ?_; rintro e w' ⟨rfl, rfl⟩)
    have hfin : ∀ (W : World), W = ((w2.setCell ⟨g, j, none⟩ (.int .i64 m)).setCell ⟨g, m, none⟩ (.int .i64 y)).drew → FreshI w (ordL ds) (.returned (.slice (some ⟨g, 0, none⟩) (m + 1) cap)) W := by
      intro W hW
      subst hW
      refine ⟨_, rfl, ?_, (swap_below HB2.out hg1).drew⟩
      have h1 := swap_own (i := j) (j := m) HO3.out hy.out HL.out.symm
      have hll : (ordL (ds.take m) ++ [(m : Int)]).length = m + 1 := by simp [Hpl.out]
      have h2 : ordL ds = swapL (ordL (ds.take m) ++ [(m : Int)]) j m := by
        rw [Hord.out]
        unfold stepO
        rw [Hpl.out, ← Hj.out, Int.toNat_natCast]
        exact swapL_comm _ _ _ (by omega) (by omega)
      unfold OwnI
      rw [h2, length_swapL, hll]
      exact h1
    have HF := Lib.hid hfin
    clear hfin
    by_cases hjm : j = m
    · subst hjm
      obtain rfl : y = (j : Int) := by rw [hy.out]; exact HL.out
      go_region
      go_wp2
      go_ret
      exact HF.out _ rfl
    · go_region
      go_wp2
      go_ret
      exact HF.out _ rfl
end Go.Proofs.Yteffilepolbgbaa
