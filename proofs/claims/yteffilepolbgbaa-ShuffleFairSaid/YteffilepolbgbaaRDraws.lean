/- handoffref02.Draws: by recursion. -/
import Derived.Test.YteffilepolbgbaaDraws
import Derived.Test.YteffilepolbgbaaROrder
import Derived.Test.YteffilepolbgbaaRSort
namespace Go.Proofs.Yteffilepolbgbaa
open Go.RowKit
set_option linter.unusedVariables false

theorem rdraws_no (zs : List Int) (n : Nat) (hn : n = zs.length) (a : Option Addr) (c : Nat) (w : World) (h : Rd .i64 w a zs) (hs : n ≤ 1000) (hb : isB zs = false) :
    Calls Try.prog 46 #[.slice a n c] w fun e w' => e = .returned (.tuple #[.slice none 0 0, .bool false]) ∧ w = w' := by
  have hc := ris_any zs n hn a c w h hs
  rw [hb] at hc
  have HC := Lib.hid hc
  clear hn hc h hb
  go_enter Try.func46, Try.ntmps46
  go_wp2_with fail
  refine HC.out.mono ?_
  rintro e w1 ⟨rfl, rfl⟩
  go_wp2
  go_ret2
  exact ⟨rfl, rfl⟩

/-- The order before the last draw. -/
theorem before_of {zs : List Int} {m j x : Nat} (hn : zs.length = m + 1) (hb : isB zs = true) (hj : j ≤ m) (hjm : zs.getD j 0 = (m : Int)) (hx : zs.getD m 0 = (x : Int)) :
    ((zs.set j (x : Int)).take m).length = m ∧ isB ((zs.set j (x : Int)).take m) = true ∧ stepO ((zs.set j (x : Int)).take m) j = zs := by
  have hp := isB_perm hb
  rw [hn] at hp
  obtain ⟨b1, b2, b3, _⟩ := step_back hn hp hj hjm (bef := (zs.set j (zs.getD m 0)).take m) rfl
  rw [hx] at b1 b2 b3
  exact ⟨b1, isB_of_perm b2, b3⟩

/-- An append's source cut at its end. -/
theorem Rd.srcTake {k : IntKind} {w : World} {ao : Option Addr} {zs : List Int} (h : Rd k w ao zs) {m : Nat} (hm : m ≤ zs.length) :
    0 < m → ∃ b off, ao = some ⟨b, off, none⟩ ∧ ∀ j u, ((zs.take m).map (Value.int k))[j]? = some u → w.cell? ⟨b, off + j, none⟩ = some u :=
  (rd_take h m hm).src (by rw [List.length_take]; omega)

set_option maxHeartbeats 2000000 in
theorem rdraws_yes : ∀ (n : Nat) (zs : List Int) (hn : n = zs.length) (a : Option Addr) (c : Nat) (w : World) (h : Rd .i64 w a zs) (hs : n ≤ 1000) (hca : n ≤ c) (hb : isB zs = true),
    Calls Try.prog 46 #[.slice a n c] w (DrawsYes w zs) := by
  intro n
  induction n with
  | zero =>
    intro zs hn a c w h hs hca hb
    have hd : zs = [] := List.eq_nil_of_length_eq_zero hn.symm
    subst hd
    have hc := ris_any [] 0 rfl a c w h hs
    rw [hb] at hc
    have HC := Lib.hid hc
    clear hn hc hb h
    go_enter Try.func46, Try.ntmps46
    go_wp2_with fail
    refine HC.out.mono ?_
    rintro e w1 ⟨rfl, rfl⟩
    go_wp2
    go_ret2
    exact ⟨_, [], rfl, World.ownsRow_lit w #[] 0 (Nat.le_refl _) (by unfold maxLen; omega) rfl, rfl, fun i hi => by simp at hi, rfl, (Below.refl _ _).alloc (Nat.le_refl _) _⟩
  | succ m ih =>
    intro zs hn a c w h hs hca hb
    obtain ⟨i0, hi, hz0, hz1, hz2⟩ := info_parts Try.info3
    have hc := ris_any zs (m + 1) hn a c w h hs
    rw [hb] at hc
    obtain ⟨b, off, rfl, -⟩ := h.at m (by omega)
    have hp := isB_perm hb
    rw [← hn] at hp
    obtain ⟨j, hj, hjm⟩ := perm_pos hp (i := m) (by omega)
    have hplt := perm_lt hp (i := m) (by omega)
    obtain ⟨x, hx⟩ : ∃ x : Nat, zs.getD m 0 = (x : Int) := ⟨_, (Int.toNat_of_nonneg hplt.1).symm⟩
    obtain ⟨b1, b2, b3⟩ := before_of hn.symm hb (by omega) hjm hx
    have IH := Lib.hid (ih ((zs.set j (x : Int)).take m) b1.symm)
    have hjle : j ≤ m := by omega
    have HB3 := Lib.hid (And.intro b1 (And.intro b2 b3))
    have HC := Lib.hid hc
    have Hn := Lib.hid hn
    have HI := Lib.hid hb
    have Hjm := Lib.hid hjm
    have Hx := Lib.hid hx
    have H1 := Lib.hid h
    have huniq : Hid (∀ i, i < m + 1 → zs.getD i 0 = (m : Int) → i = j) := fun i hi' e =>
      nodup_getD (hp.nodup_iff.2 (nodup_rng _)) (by omega) (by omega) (e.trans hjm.symm)
    have c0 : (((m + 1 : Nat) : Int) == 0) = false := by simp; omega
    clear ih hc hn hb hp hjm hplt hx b1 b2 b3 h hj
    go_enter Try.func46, Try.ntmps46
    go_wp2_with fail
    refine HC.out.mono ?_
    rintro e w1 ⟨rfl, rfl⟩
    clear HC
    go_wp2
    go_loop [5, 6, 7, 21] (fun kk _ _ i => ∃ i0 k0 : Nat, i0 ≤ m + 1 ∧ i = .int .i64 i0 ∧ kk = .int .i64 k0 ∧ k0 ≤ m ∧ Hid (j < i0 → k0 = j)) (fun _ _ _ i => m + 1 - (intOf i).toNat)
    case atStart => exact ⟨0, 0, Nat.zero_le _, rfl, rfl, Nat.zero_le _, (fun h => by omega : j < 0 → 0 = j)⟩
    case round =>
      obtain ⟨q, k0, hq, rfl, rfl, hk0, HK⟩ := hrel
      by_cases hlt : q < m + 1
      · obtain ⟨b', off', heq, hc⟩ := H1.out.at q (by rw [← Hn.out]; exact hlt)
        obtain ⟨rfl, rfl⟩ : b = b' ∧ off = off' := by simpa using heq
        obtain ⟨y, hy⟩ := named (zs.getD q 0)
        rw [← hy.out] at hc
        clear heq
        by_cases hym : y = (m : Int)
        · have hqj : q = j := huniq.out q hlt (by rw [← hy.out]; exact hym)
          have hyb : (y == (m : Int)) = true := by simpa using hym
          have HK' : Hid (j < q + 1 → q = j) := fun _ => hqj
          have Hym := Lib.hid hym
          clear hym hqj
          go_wp2
          go_round
          case rel => exact ⟨q + 1, q, by omega, by go_num, rfl, by omega, HK'⟩
          case measure => simp [intOf]; omega
        · have hyb : (y == (m : Int)) = false := by simpa using hym
          have HK' : Hid (j < q + 1 → k0 = j) := by
            intro h1
            by_cases h2 : j = q
            · subst h2; exact absurd (by rw [hy.out]; exact Hjm.out) hym
            · exact HK.out (by omega)
          go_wp2
          go_round
          case rel => exact ⟨q + 1, k0, by omega, by go_num, rfl, hk0, HK'⟩
          case measure => simp [intOf]; omega
      · obtain rfl : k0 = j := HK.out (by omega)
        clear HK huniq
        have hBa : Below w.heap.size w (w.alloc (.cells #[] 3)) := (Below.refl _ _).alloc (Nat.le_refl _) _
        go_wp2_with (at_builtin; go_loud (refine wpList_append_src rfl (.tmp 32) (.tmp 36) 23 rfl w.heap.size 3 i0 (.int .i64 0) 8 Try.underlying23 hi hz0 hz1 hz2 rfl _ 0 [] rfl (World.ownsRow_lit w #[] 0 (Nat.le_refl _) (by unfold maxLen; omega) rfl) _ m _ ((zs.take m).map (Value.int .i64)) rfl (by rw [List.length_map, List.length_take, ← Hn.out]; omega) ((H1.out.below hBa (Nat.le_refl _)).srcTake (by rw [← Hn.out]; omega)) (ints_oneCell _ _) (by unfold maxLen; omega) (by omega) hBa.size ?_))
        intro v w2 hown hgrow hnil
        obtain ⟨g, cap, rfl, hg1, hg2, hg3⟩ := own_shape hown (fun e => by simp [e] at hnil)
        have hb2 : Below w.heap.size w w2 := hBa.grown hgrow hBa.size (by intro q hq; simp [Value.ownBlock] at hq; omega)
        have hown' : w2.ownsRow w.heap.size 3 1 (.slice (some ⟨g, 0, none⟩) m cap) m ((zs.take m).map (Value.int .i64)) := by simpa using hown
        obtain ⟨b', off', heq, hc⟩ := (H1.out.below hb2 (Nat.le_refl _)).at m (by rw [← Hn.out]; omega)
        obtain ⟨rfl, rfl⟩ : b = b' ∧ off = off' := by simpa using heq
        rw [Hx.out] at hc
        have HB2 := Lib.hid hb2
        have HO2 := Lib.hid hown'
        clear hown hgrow hnil hb2 hown' hBa heq
        by_cases hkm : k0 < m
        · have ck := own_cell HO2.out k0 hkm
          have fk := HO2.out.frozenAt k0
          obtain ⟨vk, hvk⟩ : ∃ v, v = Value.int .i64 ((zs.take m).getD k0 0) := ⟨_, rfl⟩
          rw [← hvk] at ck
          have hb3 : Below w.heap.size w (w2.setCell ⟨g, k0, none⟩ (.int .i64 x)) := HB2.out.setCell hg1 _
          have ho3 : (w2.setCell ⟨g, k0, none⟩ (.int .i64 x)).ownsRow w.heap.size 3 1 (.slice (some ⟨g, 0, none⟩) m cap) m (((zs.set k0 (x : Int)).take m).map (Value.int .i64)) := by
            rw [List.take_set, List.map_set]
            exact (HO2.out.stored k0 _).1
          have ho3' : OwnI w.heap.size (w2.setCell ⟨g, k0, none⟩ (.int .i64 x)) (.slice (some ⟨g, 0, none⟩) m cap) ((zs.set k0 (x : Int)).take m) := by
            unfold OwnI; rw [HB3.out.1]; exact ho3
          have hrd : Rd .i64 (w2.setCell ⟨g, k0, none⟩ (.int .i64 x)) (some ⟨g, 0, none⟩) ((zs.set k0 (x : Int)).take m) := by
            obtain ⟨ao, cp, e, hr⟩ := ho3'.rd (by rw [HB3.out.1]; omega)
            obtain ⟨rfl, -, -⟩ : some ⟨g, 0, none⟩ = ao ∧ m = _ ∧ cap = cp := by simpa using e
            exact hr
          have hcall := IH.out (some ⟨g, 0, none⟩) cap _ hrd (by omega) hg3 HB3.out.2.1
          have HCALL := Lib.hid hcall
          have HBB := Lib.hid hb3
          clear hvk hb3 ho3 ho3' hrd hcall
          go_wp2_with fail
          refine HCALL.out.mono ?_
          rintro e w4 ⟨v4, D, rfl, hown4, hDl, hDc, hDo, hb4⟩
          rw [HB3.out.1] at hDl
          have hown4' : w4.ownsRow w.heap.size 3 1 v4 m (D.map (Value.int .i64)) := by
            have := own_base hown4 (B' := w.heap.size) HBB.out.size
            rwa [hDl] at this
          have hbb4 : Below w.heap.size w w4 := HBB.out.trans (hb4.mono HBB.out.size)
          have hs4 := hbb4.size
          have HO4 := Lib.hid hown4'
          have HB4 := Lib.hid hbb4
          have HD := Lib.hid (And.intro hDl (And.intro hDc hDo))
          clear hown4 hDl hDc hDo hb4 hown4' hbb4 HCALL IH
          go_wp2_with (at_builtin; go_loud (refine wpList_append_own _ rfl (.tmp 55) (.tmp 57) 23 rfl w.heap.size 3 i0 (.int .i64 0) 1 8 Try.underlying23 hi hz0 hz1 hz2 rfl (by decide) _ m _ rfl (HO4.out.alloc _) ⟨w4.heap.size, 0, none⟩ 1 1 [.int .i64 k0] rfl rfl (cell_one_new _ _ _) (by intro u hu; simp at hu; subst hu; rfl) (by unfold maxLen; omega) (by omega) (by simp; omega) ?_))
          intro v5 w5 hown5 hgrow5 hnil5
          have hfin : DrawsYes w zs (.returned (.tuple #[v5, .bool true])) w5 := by
            refine ⟨v5, D ++ [(k0 : Int)], rfl, ?_, by rw [List.length_append, HD.out.1, ← Hn.out]; rfl, canon_snoc HD.out.2.1 (by omega) (by rw [HD.out.1]; omega), by rw [ordL_snoc, HD.out.2.2]; exact HB3.out.2.2,
              (HB4.out.alloc hs4 _).grown hgrow5 (by simp; omega) (by intro q hq; exact (HO4.out.lt q hq).1)⟩
            unfold OwnI
            rw [List.length_append, HD.out.1]
            simpa using hown5
          have HF := Lib.hid hfin
          clear hown5 hgrow5 hnil5 hfin
          go_wp2
          go_ret2
          exact HF.out
        · obtain rfl : k0 = m := by omega
          have hxk : (x : Int) = (k0 : Int) := by rw [← Hx.out]; exact Hjm.out
          have hset : (zs.set k0 (x : Int)).take k0 = zs.take k0 := by
            refine ext_getD (by simp) fun i hi => ?_
            have hi' : i < k0 := by simp at hi; omega
            rw [getD_take hi', getD_take hi', getD_set _ _ _ _ (by rw [← Hn.out]; omega), if_neg (by omega)]
          rw [hset] at IH
          have HB3' : Hid ((zs.take k0).length = k0 ∧ isB (zs.take k0) = true ∧ stepO (zs.take k0) k0 = zs) := by
            have := HB3.out; rw [hset] at this; exact this
          clear HB3
          have HB3 := HB3'
          clear HB3' hset
          have ho3' : OwnI w.heap.size w2 (.slice (some ⟨g, 0, none⟩) k0 cap) (zs.take k0) := by
            unfold OwnI; rw [HB3.out.1]; exact HO2.out
          have hrd : Rd .i64 w2 (some ⟨g, 0, none⟩) (zs.take k0) := by
            obtain ⟨ao, cp, e, hr⟩ := ho3'.rd (by rw [HB3.out.1]; omega)
            obtain ⟨rfl, -, -⟩ : some ⟨g, 0, none⟩ = ao ∧ k0 = _ ∧ cap = cp := by simpa using e
            exact hr
          have hcall := IH.out (some ⟨g, 0, none⟩) cap _ hrd (by omega) hg3 HB3.out.2.1
          have HCALL := Lib.hid hcall
          have HBB := HB2
          have Hxk := Lib.hid hxk
          clear ho3' hrd hcall hxk
          go_wp2_with fail
          refine HCALL.out.mono ?_
          rintro e w4 ⟨v4, D, rfl, hown4, hDl, hDc, hDo, hb4⟩
          rw [HB3.out.1] at hDl
          have hown4' : w4.ownsRow w.heap.size 3 1 v4 k0 (D.map (Value.int .i64)) := by
            have := own_base hown4 (B' := w.heap.size) HBB.out.size
            rwa [hDl] at this
          have hbb4 : Below w.heap.size w w4 := HBB.out.trans (hb4.mono HBB.out.size)
          have hs4 := hbb4.size
          have HO4 := Lib.hid hown4'
          have HB4 := Lib.hid hbb4
          have HD := Lib.hid (And.intro hDl (And.intro hDc hDo))
          clear hown4 hDl hDc hDo hb4 hown4' hbb4 HCALL IH
          go_wp2_with (at_builtin; go_loud (refine wpList_append_own _ rfl (.tmp 55) (.tmp 57) 23 rfl w.heap.size 3 i0 (.int .i64 0) 1 8 Try.underlying23 hi hz0 hz1 hz2 rfl (by decide) _ k0 _ rfl (HO4.out.alloc _) ⟨w4.heap.size, 0, none⟩ 1 1 [.int .i64 k0] rfl rfl (cell_one_new _ _ _) (by intro u hu; simp at hu; subst hu; rfl) (by unfold maxLen; omega) (by omega) (by simp; omega) ?_))
          intro v5 w5 hown5 hgrow5 hnil5
          have hfin : DrawsYes w zs (.returned (.tuple #[v5, .bool true])) w5 := by
            refine ⟨v5, D ++ [(k0 : Int)], rfl, ?_, by rw [List.length_append, HD.out.1, ← Hn.out]; rfl, canon_snoc HD.out.2.1 (by omega) (by rw [HD.out.1]; omega), by rw [ordL_snoc, HD.out.2.2]; exact HB3.out.2.2,
              (HB4.out.alloc hs4 _).grown hgrow5 (by simp; omega) (by intro q hq; exact (HO4.out.lt q hq).1)⟩
            unfold OwnI
            rw [List.length_append, HD.out.1]
            simpa using hown5
          have HF := Lib.hid hfin
          clear hown5 hgrow5 hnil5 hfin
          go_wp2
          go_ret2
          exact HF.out
end Go.Proofs.Yteffilepolbgbaa
