/- order.Sort hands back the numbers in order, in new memory. -/
import Derived.Test.YteffilepolbgbaaSink
import Derived.Laws.CopyOwn
namespace Go.Proofs.Yteffilepolbgbaa
open Go.RowKit
set_option linter.unusedVariables false

/-- The numbers in order. -/
def sortI (l : List Int) : List Int := l.mergeSort (fun a b => decide (a ≤ b))
theorem sortI_perm (l : List Int) : (sortI l).Perm l := List.mergeSort_perm _ _
theorem sortI_sorted (l : List Int) : (sortI l).Pairwise (· ≤ ·) := by
  have h := List.pairwise_mergeSort (le := fun a b : Int => decide (a ≤ b)) (by intro a b c h1 h2; simp at *; omega) (by intro a b; simp; omega) l
  exact h.imp fun h => by simpa using h
theorem sortI_of {l l' : List Int} (hp : l'.Perm l) (hs : l'.Pairwise (· ≤ ·)) : l' = sortI l := sorted_unique hs (sortI_sorted l) (hp.trans (sortI_perm l).symm)
theorem length_sortI (l : List Int) : (sortI l).length = l.length := (sortI_perm l).length_eq

theorem row_of_own3 {w : World} {B e g n : Nat} {xs : List Value} (h : w.ownsRow B e 1 (.slice (some ⟨g, 0, none⟩) n n) n xs) : w.heap[g]? = some (.cells xs.toArray e (0, 0)) := by
  rcases h.2 with ⟨h', _⟩ | ⟨g', cap, cur, h', hb, hg, hnc, hcm, hcs, ht⟩
  · simp at h'
  · simp only [Value.slice.injEq, Option.some.injEq, Addr.mk.injEq, and_true, true_and] at h'
    obtain ⟨rfl, rfl⟩ := h'
    rw [hg]
    have : cur.toList = xs := by rw [← ht, List.take_of_length_le (by simp [hcs])]
    rw [← this]

/-- In the first loop. -/
structure S1 (B n : Nat) (zs : List Int) (w : World) (t : Nat) (wr : World) : Prop where
  ex : ∃ zk : List Int, zk.length = n ∧ zk.Perm zs ∧ HeapFrom zk n t ∧ wr.ownsRow B 3 1 (.slice (some ⟨B, 0, none⟩) n n) n (zk.map (Value.int .i64))
  below : Below B w wr
/-- In the second loop. -/
structure S2 (B n : Nat) (zs : List Int) (w : World) (e : Int) (wr : World) : Prop where
  ex : ∃ zk : List Int, zk.length = n ∧ zk.Perm zs ∧ (0 ≤ e → Phase zk (e.toNat + 1)) ∧ wr.ownsRow B 3 1 (.slice (some ⟨B, 0, none⟩) n n) n (zk.map (Value.int .i64))
  below : Below B w wr

theorem below_of_grown {B : Nat} {a w w' : World} (h : Below B a w) (hg : w.grownBy w' (some B)) (hB : B ≤ w.heap.size) : Below B a w' :=
  h.grown hg hB (by intro k hk; simp at hk; omega)

set_option maxHeartbeats 2000000 in
theorem sort_any (zs : List Int) (n : Nat) (hn : n = zs.length) (a : Option Addr) (c : Nat) (w : World) (h : Rd .i64 w a zs) (hs : n ≤ 1000) :
    Calls Try.prog 40 #[.slice a n c] w (FreshI w (sortI zs)) := by
  obtain ⟨i0, hi, hz0, hz1, hz2⟩ := info_parts Try.info3
  have Hn := Lib.hid hn; clear hn
  have H1 := Lib.hid h; clear h
  go_enter Try.func40, Try.ntmps40
  go_wp2_with (at_make; go_loud (refine wpList_make_full _ rfl _ _ 23 rfl w.heap.size 3 i0 (.int .i64 0) 1 Try.underlying23 hi hz0 hz1 _ _ _ _ n rfl rfl rfl rfl (by rw [hz2]; omega) (by unfold maxLen; omega) (Nat.le_refl _) ?_))
  intro w1 hown hgrow
  have hb1 : Below w.heap.size w w1 := (Below.refl _ _).grown hgrow (Nat.le_refl _) (by intro k hk; cases hk)
  rw [toList_madeCells_one] at hown
  have Hrow := Lib.hid (row_of_own3 hown)
  obtain ⟨cs, hcs⟩ : ∃ cs, cs = zs.map (Value.int .i64) := ⟨_, rfl⟩
  have Hcs := Lib.hid hcs
  have hlen : cs.length = n := by rw [Hcs.out, List.length_map, Hn.out]
  have Hlen := Lib.hid hlen
  clear hown hgrow hcs hlen
  go_wp2_with (with_reducible refine wpList_copy_splice rfl (.tmp 9) (.tmp 10) 23 23 rfl 3 Try.underlying23 (by kernel_rfl) _ _ _ _ _ _ rfl rfl w.heap.size 0 (List.replicate n (.int .i64 0)) 3 Hrow.out cs ?c1 ?c2 ?c3 ?c4 w.heap.size w hb1 (Nat.le_refl _) ?_)
  case c1 => simp [Hlen.out]
  case c2 =>
    intro h0
    rw [Hlen.out, Hn.out] at h0
    obtain ⟨b, off, rfl, hc⟩ := (H1.out.below hb1 (Nat.le_refl _)).2 h0
    refine ⟨_, rfl, fun j v hv => ?_⟩
    rw [Hcs.out, List.getElem?_map] at hv
    have hj : j < zs.length := by
      rcases Nat.lt_or_ge j zs.length with h | h
      · exact h
      · rw [List.getElem?_eq_none h] at hv; cases hv
    rw [List.getElem?_eq_getElem hj] at hv
    rw [Addr.add_lit, hc j hj]
    simp at hv
    rw [← hv]
    simp [List.getD, hj]
  case c3 => simp [Hlen.out]
  case c4 =>
    intro v hv
    rw [Hcs.out] at hv
    exact ints_oneCell _ _ v hv
  intro w2 HG hb2
  have hG := HG.out
  have e1 : splice (List.replicate n (Value.int .i64 0)) 0 cs = cs := by simp [splice, Hlen.out]
  rw [e1] at hG
  have hown2 : w2.ownsRow w.heap.size 3 1 (.slice (some ⟨w.heap.size, 0, none⟩) n n) n (zs.map (Value.int .i64)) :=
    ⟨by simp [Hn.out], .inr ⟨_, n, _, rfl, Nat.le_refl _, hG, Nat.le_refl _, by unfold maxLen; omega, by simp [Hlen.out], by rw [← Hcs.out]; exact List.take_of_length_le (by simp [Hlen.out])⟩⟩
  have HS : Hid (S1 w.heap.size n zs w (n / 2) w2) := ⟨⟨zs, Hn.out.symm, .refl _, heap_half _ _ _ (by omega), hown2⟩, hb2⟩
  clear hown2 hG e1 HG hb2 hb1 Hrow
  go_wp2
  go_loopw [4] (fun i wr => ∃ (i0 : Int) (t : Nat), i = .int .i64 i0 ∧ i0 + 1 = t ∧ t ≤ n ∧ Hid (S1 w.heap.size n zs w t wr)) (fun i _ => (intOf i + 1).toNat)
  case atStart => exact ⟨_, n / 2, rfl, by omega, by omega, HS⟩
  case round =>
    clear HS
    obtain ⟨i0, t, rfl, hit, htn, HS⟩ := hrel
    have Hit := Lib.hid hit
    by_cases hpos : 0 ≤ i0
    · obtain ⟨s, rfl⟩ := Int.eq_ofNat_of_zero_le hpos
      obtain rfl : t = s + 1 := by omega
      clear hit hpos
      go_wp2_with fail
      obtain ⟨⟨zk, hzl, hzp, hzh, hzo⟩, hzb⟩ := HS.out
      refine (sink_any w.heap.size w.heap.size n n n s n zk _ (Nat.le_refl _) hs (by omega) hzl hzh hzo).mono ?_
      rintro e w3 ⟨rfl, zs', hsk, hhp, hon, hgr, hsz⟩
      have HS' : Hid (S1 w.heap.size n zs w s w3) := ⟨⟨zs', hsk.len.trans hzl, hsk.perm.trans hzp, hhp, hon⟩, below_of_grown hzb hgr hzb.size⟩
      clear hzb hon hgr hsz HS hzo hzh hhp hsk hzp hzl
      go_wp2
      go_roundw
      case rel => exact ⟨_, s, rfl, by omega, by omega, HS'⟩
      case measure => simp [intOf]
    · obtain rfl : t = 0 := by omega
      have HP : Hid (S2 w.heap.size n zs w ((n : Int) - 1) wr) := by
        obtain ⟨⟨zk, hzl, hzp, hzh, hzo⟩, hzb⟩ := HS.out
        refine ⟨⟨zk, hzl, hzp, fun h0 => ?_, hzo⟩, hzb⟩
        rw [show ((n : Int) - 1).toNat + 1 = zk.length by omega]
        exact phase_start (by rw [hzl]; exact hzh)
      clear hit HS Hit
      go_wp2
      go_loopw [5] (fun i wr => ∃ (e0 : Int), i = .int .i64 e0 ∧ -1 ≤ e0 ∧ e0 < n ∧ Hid (e0 < 0 → n ≤ 1) ∧ Hid (S2 w.heap.size n zs w e0 wr)) (fun i _ => (intOf i).toNat)
      case atStart => exact ⟨_, rfl, by omega, by omega, (fun h => by omega : (n : Int) - 1 < 0 → n ≤ 1), HP⟩
      case round =>
        clear HP
        obtain ⟨e0, rfl, hlo, hhi, HE, HP⟩ := hrel
        by_cases hpos2 : 0 < e0
        · obtain ⟨s, rfl⟩ := Int.eq_ofNat_of_zero_le (by omega : 0 ≤ e0)
          obtain ⟨zk, hzl, hzp, hzh, hzo⟩ := HP.out.ex
          have hph : Phase zk (s + 1) := hzh (by omega)
          obtain ⟨x, hx⟩ := named (zk.getD 0 0)
          obtain ⟨y, hy⟩ := named (zk.getD s 0)
          have cx := own_cell hzo 0 (by omega)
          have cy := own_cell hzo s (by omega)
          rw [← hx.out] at cx
          rw [← hy.out] at cy
          have fx := hzo.frozenAt 0
          have fy := hzo.frozenAt s
          have hs0 : ¬ s = 0 := by omega
          have Hzk : Hid (zk.length = n ∧ zk.Perm zs ∧ Phase zk (s + 1)) := ⟨hzl, hzp, hph⟩
          have Hzo := Lib.hid hzo
          clear hzl hzp hzh hzo hph
          go_wp2
          go_region
          have ho2 := swap_own Hzo.out (i := 0) (j := s) hx.out hy.out
          have hps := phase_swap Hzk.out.2.2 (by rw [Hzk.out.1]; omega) (by omega)
          have hb2 : Below w.heap.size w ((wr.setCell ⟨w.heap.size, 0, none⟩ (.int .i64 y)).setCell ⟨w.heap.size, s, none⟩ (.int .i64 x)) := swap_below HP.out.below (Nat.le_refl _)
          have HB2 := Lib.hid hb2
          have cs2 := sink_any w.heap.size w.heap.size n n s 0 n (swapL zk 0 s) (((wr.setCell ⟨w.heap.size, 0, none⟩ (.int .i64 y)).setCell ⟨w.heap.size, s, none⟩ (.int .i64 x)).drew) (by omega) hs (by omega) (by rw [length_swapL, Hzk.out.1]) hps.1 ho2
          have CS := Lib.hid cs2
          clear cs2 hb2 hps ho2 cx cy fx fy
          go_wp2_with fail
          refine CS.out.mono ?_
          rintro e w3 ⟨rfl, zs', hsk, hhp, hon, hgr, hsz⟩
          have HS' : Hid (S2 w.heap.size n zs w ((s : Int) - 1) w3) := by
            refine ⟨⟨zs', ?_, ?_, fun _ => ?_, hon⟩, below_of_grown HB2.out.drew hgr HB2.out.size⟩
            · rw [hsk.len, length_swapL, Hzk.out.1]
            · exact (hsk.perm.trans (perm_swapL _ _ _ (by rw [Hzk.out.1]; omega) (by rw [Hzk.out.1]; omega))).trans Hzk.out.2.1
            · rw [show ((s : Int) - 1).toNat + 1 = s by omega]
              exact phase_next Hzk.out.2.2 (by rw [Hzk.out.1]; omega) (by omega) hsk hhp
          clear hsk hhp hon hgr hsz CS HB2 Hzo HP
          go_wp2
          go_roundw
          case rel => exact ⟨_, rfl, by omega, by omega, (fun h => by omega : (s : Int) - 1 < 0 → n ≤ 1), HS'⟩
          case measure => simp [intOf]; omega
        · go_wp2
          go_ret
          obtain ⟨⟨zk, hzl, hzp, hzh, hzo⟩, hzb⟩ := HP.out
          have hsorted : zk.Pairwise (· ≤ ·) := by
            by_cases h0 : e0 = 0
            · subst h0; exact phase_sorted (hzh (by omega))
            · have := HE.out (by omega)
              exact short_sorted (by omega)
          have hz := sortI_of hzp hsorted
          subst hz
          exact ⟨_, rfl, by unfold OwnI; rw [length_sortI, ← Hn.out]; exact hzo, hzb⟩
end Go.Proofs.Yteffilepolbgbaa
