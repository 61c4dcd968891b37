/- Package shuffle, its order made of draws. -/
import Derived.Test.YteffilepolbgbaaBase
import Derived.Test.YteffilepolbgbaaSortMath
namespace Go.Proofs.Yteffilepolbgbaa
open Go.RowKit

theorem Try.info3 : (Try.prog.info? 3).map (fun i => (i.zero, i.size, i.bytes)) = some (some (.int .i64 0), 1, 8) := by kernel_rfl

theorem tmod_emod (d m : Int) (hm : 0 < m) : d % m = if d.tmod m < 0 then d.tmod m + m else d.tmod m := by
  have h := Int.tmod_eq_emod (a := d) (b := m)
  have h1 := Int.emod_nonneg d (by omega : m ≠ 0)
  have h2 := Int.emod_lt_of_pos d hm
  split at h <;> split <;> omega

set_option maxHeartbeats 400000 in
theorem counts_any (d i : Int) (w : World) (h0 : 0 ≤ i) (h1 : i ≤ 1000) :
    Calls Try.prog 51 #[.int .i64 d, .int .i64 i] w fun e w' => e = .returned (.int .i64 (d % (i + 1))) ∧ w = w' := by
  have h := tmod_emod d (i + 1) (by omega)
  have hb1 := Int.emod_nonneg d (by omega : i + 1 ≠ 0)
  have hb2 := Int.emod_lt_of_pos d (by omega : 0 < i + 1)
  by_cases hn : d.tmod (i + 1) < 0
  · rw [if_pos hn] at h
    have H := Lib.hid h
    have hb3 : 0 ≤ d.tmod (i + 1) + (i + 1) := by omega
    have hb4 : d.tmod (i + 1) + (i + 1) ≤ 1000 := by omega
    clear h hb1 hb2
    go_enter Try.func51, Try.ntmps51
    go_wp2
    go_ret
    exact ⟨by rw [H.out]; rfl, rfl⟩
  · rw [if_neg hn] at h
    have H := Lib.hid h
    have hb3 : 0 ≤ d.tmod (i + 1) := by omega
    have hb4 : d.tmod (i + 1) ≤ 1000 := by omega
    clear h hb1 hb2
    go_enter Try.func51, Try.ntmps51
    go_wp2
    go_ret
    exact ⟨by rw [H.out]; rfl, rfl⟩

set_option maxHeartbeats 400000 in
theorem rcounts_any (d n : Int) (w : World) (h0 : 1 ≤ n) (h1 : n ≤ 1000) :
    Calls Try.prog 56 #[.int .i64 d, .int .i64 n] w fun e w' => e = .returned (.int .i64 (d % n)) ∧ w = w' := by
  have h := tmod_emod d n (by omega)
  have hb1 := Int.emod_nonneg d (by omega : n ≠ 0)
  have hb2 := Int.emod_lt_of_pos d (by omega : 0 < n)
  have hb3 : 0 ≤ d.tmod n + n := by split at h <;> omega
  have hb4 : d.tmod n + n ≤ 3000 := by split at h <;> omega
  have H : Hid (d % n = (d.tmod n + n) % n) := by
    show _ = _
    rw [Int.add_emod_right]
    split at h
    · rw [← Int.emod_emod_of_dvd d (Int.dvd_refl n), h, Int.add_emod_right]
    · rw [← Int.emod_emod_of_dvd d (Int.dvd_refl n), h]
  clear h hb1 hb2
  go_enter Try.func56, Try.ntmps56
  go_wp2
  go_ret
  exact ⟨by rw [H.out]; rfl, rfl⟩


/-- The order that the first k draws make. -/
def ordN (ds : List Int) : Nat → List Int
  | 0 => []
  | k + 1 => swapL (ordN ds k ++ [(k : Int)]) k (ds.getD k 0 % ((k : Int) + 1)).toNat
theorem length_ordN (ds : List Int) (k : Nat) : (ordN ds k).length = k := by
  induction k with
  | zero => rfl
  | succ k ih => simp [ordN, length_swapL, ih]

/-- A slice value owns the integers of a list, in memory from block B on. -/
def OwnI (B : Nat) (w : World) (v : Value) (zs : List Int) : Prop := w.ownsRow B 3 1 v zs.length (zs.map (Value.int .i64))

/-- The call hands back new memory that holds these integers; what was there is as it was. -/
def FreshI (w0 : World) (zs : List Int) (e : Ending) (w' : World) : Prop :=
  ∃ v, e = .returned v ∧ OwnI w0.heap.size w' v zs ∧ Below w0.heap.size w0 w'

theorem OwnI.rd {B : Nat} {w : World} {v : Value} {zs : List Int} (h : OwnI B w v zs) (hl : zs.length ≤ 9223372036854775807) : ∃ ao cap, v = .slice ao zs.length cap ∧ Rd .i64 w ao zs := by
  rcases h.2 with ⟨rfl, h0⟩ | ⟨g, cap, cur, rfl, hB, hg, hn, hc, hs, ht⟩
  · refine ⟨none, 0, by rw [h0], hl, fun h1 => by omega⟩
  · refine ⟨some ⟨g, 0, none⟩, cap, rfl, hl, fun h1 => ⟨g, 0, rfl, fun j hj => ?_⟩⟩
    have := World.ownsRow.cellAt (g := g) (cap := cap) h j (by simpa using hj)
    rw [Nat.zero_add, this]
    simp [hj]

theorem swap_own {B g cap n : Nat} {w : World} {zs : List Int} {i j : Nat} {x y : Int} (h : w.ownsRow B 3 1 (.slice (some ⟨g, 0, none⟩) n cap) n (zs.map (Value.int .i64)))
    (hx : x = zs.getD i 0) (hy : y = zs.getD j 0) :
    ((w.setCell ⟨g, i, none⟩ (.int .i64 y)).setCell ⟨g, j, none⟩ (.int .i64 x)).ownsRow B 3 1 (.slice (some ⟨g, 0, none⟩) n cap) n ((swapL zs i j).map (Value.int .i64)) := by
  have h1 := (h.stored i (.int .i64 y)).1
  have h2 := (h1.stored j (.int .i64 x)).1
  subst hx hy
  simpa [swapL, List.map_set] using h2

theorem swap_below {B g : Nat} {w0 w : World} {i j : Nat} {x y : Value} (h : Below B w0 w) (hg : B ≤ g) : Below B w0 ((w.setCell ⟨g, i, none⟩ y).setCell ⟨g, j, none⟩ x) :=
  (h.setCell hg _).setCell hg _

set_option maxHeartbeats 400000 in
theorem order_any (ds : List Int) (n : Nat) (hn : n = ds.length) (a : Option Addr) (ca : Nat) (w : World) (h : Rd .i64 w a ds) (hl : n ≤ 1000) :
    Calls Try.prog 23 #[.slice a n ca] w (FreshI w (ordN ds n)) := by
  obtain ⟨i0, hi, hz0, hz1, hz2⟩ := info_parts Try.info3
  have Hn := Lib.hid hn; clear hn
  have H1 := Lib.hid h; clear h
  go_enter Try.func23, Try.ntmps23
  go_wp2_with (at_make; go_loud (refine wpList_make_own _ rfl _ _ 23 rfl w.heap.size 3 i0 (.int .i64 0) 1 Try.underlying23 hi hz0 hz1 _ _ _ n rfl rfl rfl (by rw [hz2]; omega) (by unfold maxLen; omega) (Nat.le_refl _) ?_); intro w1 hown hgrow)
  have hb : Below w.heap.size w w1 := (Below.refl _ _).grown hgrow (Nat.le_refl _) (by intro k hk; cases hk)
  go_loopw [3, 4, 5, 11] (fun v _ _ i wr => ∃ k : Nat, k ≤ n ∧ i = .int .i64 k ∧ v = .slice (some ⟨w.heap.size, 0, none⟩) k n ∧ wr.ownsRow w.heap.size 3 1 (.slice (some ⟨w.heap.size, 0, none⟩) k n) k ((ordN ds k).map (Value.int .i64)) ∧ Below w.heap.size w wr) (fun _ _ _ i _ => n - (intOf i).toNat)
  case atStart => exact ⟨0, Nat.zero_le _, rfl, rfl, hown, hb⟩
  case round =>
    clear hown hgrow hb
    obtain ⟨k, hk, rfl, rfl, hown, hb⟩ := hrel
    by_cases hlt : k < n
    · have hlen := length_ordN ds k
      have Hlen := Lib.hid hlen; clear hlen
      go_wp2_with (at_builtin; refine wpList_append_fits _ rfl (.tmp 14) (.tmp 16) 23 rfl w.heap.size 3 i0 1 Try.underlying23 hi hz1 w.heap.size k n _ rfl (hown.alloc _) ⟨wr.heap.size, 0, none⟩ 1 1 [.int .i64 k] rfl rfl (cell_one_new _ _ _) (by intro u hu; simp at hu; subst hu; rfl) (by omega) ?_)
      intro w1 hown1 hgrow1
      have hsz := hb.size
      have hb1 : Below w.heap.size w w1 := (hb.alloc hsz _).grown hgrow1 (by simp; omega) (by intro q hq; simp at hq; omega)
      obtain ⟨b1, o1, rfl, c1⟩ := (H1.out.below hb1 (Nat.le_refl _)).at k (by rw [← Hn.out]; exact hlt)
      obtain ⟨d, hd⟩ := named (ds.getD k 0)
      rw [← hd.out] at c1
      have e0 := Int.emod_nonneg d (by omega : (k : Int) + 1 ≠ 0)
      have e1 := Int.emod_lt_of_pos d (by omega : 0 < (k : Int) + 1)
      obtain ⟨j, hj⟩ : ∃ j : Nat, (j : Int) = d % ((k : Int) + 1) := ⟨_, Int.toNat_of_nonneg e0⟩
      have hjk : j ≤ k := by omega
      have hcall := fun W => counts_any d k W (by omega) (by omega)
      rw [← hj] at hcall
      have Hcall := Lib.hid hcall
      have Hj := Lib.hid hj
      clear hcall e0 e1 hj hown hgrow1
      have ck : w1.cell? ⟨w.heap.size, k, none⟩ = some (.int .i64 k) := by
        rw [hown1.cellAt k (by omega)]; simp [Hlen.out]
      obtain ⟨y, hy⟩ := named ((ordN ds k ++ [(k : Int)]).getD j 0)
      have cj : w1.cell? ⟨w.heap.size, j, none⟩ = some (.int .i64 y) := by
        rw [hown1.cellAt j (by omega), hy.out]
        have : (ordN ds k).map (Value.int .i64) ++ [Value.int .i64 k] = (ordN ds k ++ [(k : Int)]).map (Value.int .i64) := by simp
        rw [this, List.getElem?_map, List.getD_eq_getElem?_getD, List.getElem?_eq_getElem (by simp [Hlen.out]; omega)]
        rfl
      have fk := hown1.frozenAt k
      have fj := hown1.frozenAt j
      go_wp2_with (go_at_call 51; refine (Hcall.out _).mono ?_; rintro e w' ⟨rfl, rfl⟩)
      have hown2 : w1.ownsRow w.heap.size 3 1 (.slice (some ⟨w.heap.size, 0, none⟩) (k + 1) n) (k + 1) ((ordN ds k ++ [(k : Int)]).map (Value.int .i64)) := by simpa using hown1
      have hx : (k : Int) = (ordN ds k ++ [(k : Int)]).getD k 0 := by simp [Hlen.out]
      have Hx := Lib.hid hx
      have hstep : ordN ds (k + 1) = swapL (ordN ds k ++ [(k : Int)]) k j := by
        show swapL _ _ (ds.getD k 0 % ((k : Int) + 1)).toNat = _
        rw [← hd.out, ← Hj.out]; rfl
      have Hstep := Lib.hid hstep
      clear hx hstep hown1
      by_cases hjk2 : j = k
      · subst hjk2
        go_region
        go_wp2
        go_roundw
        case rel => exact ⟨j + 1, by omega, by go_num, rfl, by rw [Hstep.out]; exact swap_own hown2 hy.out hy.out, (swap_below hb1 (Nat.le_refl _)).drew⟩
        case measure => simp [intOf]; omega
      · go_region
        go_wp2
        go_roundw
        case rel => exact ⟨k + 1, by omega, by go_num, rfl, by rw [Hstep.out]; exact swap_own hown2 Hx.out hy.out, (swap_below hb1 (Nat.le_refl _)).drew⟩
        case measure => simp [intOf]; omega
    · obtain rfl : k = n := by omega
      go_wp2
      go_ret
      exact ⟨_, rfl, by unfold OwnI; rw [length_ordN]; exact hown, hb⟩
end Go.Proofs.Yteffilepolbgbaa
