/- order.Locks, handoffref03.Locks: of the numbers above 0 each once, rising. -/
import Derived.Test.YteffilepolbgbaaRSort
namespace Go.Proofs.Yteffilepolbgbaa
open Go.RowKit
set_option linter.unusedVariables false

/-- A number behind a row, if it is above 0 and not the last one. -/
def lockStep (out : List Int) (x : Int) : List Int := if x ≤ 0 then out else if 0 < out.length ∧ out.getD (out.length - 1) 0 = x then out else out ++ [x]
def locksTo (s : List Int) (k : Nat) : List Int := (s.take k).foldl lockStep []
/-- Of the numbers above 0 each once, rising. -/
def locksI (l : List Int) : List Int := locksTo (sortI l) l.length

theorem locksTo_zero (s : List Int) : locksTo s 0 = [] := by simp [locksTo]
theorem locksTo_succ (s : List Int) (k : Nat) (h : k < s.length) : locksTo s (k + 1) = lockStep (locksTo s k) (s.getD k 0) := by
  unfold locksTo
  rw [List.take_succ_eq_append_getElem h, List.foldl_append]
  simp [List.getD, h]
theorem length_locksTo (s : List Int) (k : Nat) : (locksTo s k).length ≤ k := by
  have key : ∀ (l out : List Int), (l.foldl lockStep out).length ≤ out.length + l.length := by
    intro l
    induction l with
    | nil => intro out; simp
    | cons x l ih =>
      intro out
      have h1 := ih (lockStep out x)
      have h2 : (lockStep out x).length ≤ out.length + 1 := by
        unfold lockStep; split
        · omega
        · split
          · omega
          · simp
      simp only [List.foldl_cons, List.length_cons]
      omega
  have := key (s.take k) []
  unfold locksTo
  simp at this ⊢
  omega

/-- The slice in a round: still the one of the beginning, or one that owns its cells. -/
structure LK (B B1 : Nat) (s : List Int) (V0 : Value) (w1 : World) (k m : Nat) (v : Value) (wr : World) : Prop where
  val : (m = 0 ∧ v = V0) ∨ (0 < m ∧ wr.ownsRow B1 3 1 v m ((locksTo s k).map (Value.int .i64)))
  len : m = (locksTo s k).length
  below : Below B1 w1 wr


set_option maxHeartbeats 400000 in
theorem locks_any (zs : List Int) (n : Nat) (hn : n = zs.length) (a : Option Addr) (c : Nat) (w : World) (h : Rd .i64 w a zs) (hs : n ≤ 1000) :
    Calls Try.prog 29 #[.slice a n c] w (FreshI w (locksI zs)) := by
  obtain ⟨i0, hi, hz0, hz1, hz2⟩ := info_parts Try.info3
  have Hn := Lib.hid hn; clear hn
  go_enter Try.func29, Try.ntmps29
  go_wp2_with fail
  refine (sort_any zs n Hn.out a c _ h hs).mono ?_
  rintro e w1 ⟨v, rfl, hown, hb⟩
  obtain ⟨ao, cap, rfl, hrd⟩ := hown.rd (by rw [length_sortI, ← Hn.out]; omega)
  rw [length_sortI, ← Hn.out]
  obtain ⟨s, hsd⟩ : ∃ s, s = sortI zs := ⟨_, rfl⟩
  rw [← hsd] at hrd
  have hsl : s.length = n := by rw [hsd, length_sortI, ← Hn.out]
  have Hsd := Lib.hid hsd; clear hsd
  have Hsl := Lib.hid hsl; clear hsl
  have HR := Lib.hid hrd; clear hrd hown h
  have HB := Lib.hid hb; clear hb
  have H0 : Hid (∀ W : World, Below w1.heap.size w1 W → W.ownsRow w.heap.size 3 1 (.slice none 0 0) 0 []) := fun W _ => World.ownsRow_nil _ _ _ _
  have HL : Hid (LK w.heap.size w1.heap.size s (Value.slice none 0 0) w1 0 0 (Value.slice none 0 0) w1) := ⟨.inl ⟨rfl, rfl⟩, by rw [locksTo_zero]; rfl, .refl _ _⟩
  go_wp2
  go_loopw [3, 5, 9] (fun v _ i wr => ∃ (vv : Value) (k m : Nat), vv = v ∧ k ≤ n ∧ m ≤ k ∧ i = .int .i64 k ∧ Hid (LK w.heap.size w1.heap.size s (Value.slice none 0 0) w1 k m vv wr)) (fun _ _ i _ => n - (intOf i).toNat)
  case atStart => exact ⟨_, 0, 0, rfl, Nat.zero_le _, Nat.le_refl _, rfl, HL⟩
  case round =>
    clear HL
    obtain ⟨vv, k, m, rfl, hk, hmk, rfl, HL⟩ := hrel
    by_cases hlt : k < n
    · obtain ⟨b, off, rfl, hc⟩ := (HR.out.below HL.out.below (Nat.le_refl _)).at k (by rw [Hsl.out]; exact hlt)
      obtain ⟨x, hx⟩ := named (s.getD k 0)
      rw [← hx.out] at hc
      have hst := locksTo_succ s k (by rw [Hsl.out]; exact hlt)
      rw [← hx.out] at hst
      have Hst := Lib.hid hst
      clear hst
      by_cases hx0 : x ≤ 0
      · have HL' : Hid (LK w.heap.size w1.heap.size s (Value.slice none 0 0) w1 (k + 1) m vv wr) := by
          have e : locksTo s (k + 1) = locksTo s k := by rw [Hst.out]; unfold lockStep; rw [if_pos hx0]
          refine ⟨?_, ?_, HL.out.below⟩
          · rw [e]; exact HL.out.val
          · rw [e]; exact HL.out.len
        go_wp2
        go_roundw
        case rel => exact ⟨_, k + 1, m, rfl, by omega, by omega, by go_num, HL'⟩
        case measure => simp [intOf]; omega
      · by_cases hm0 : m = 0
        · subst hm0
          have hv : vv = (Value.slice none 0 0) := by
            rcases HL.out.val with h | h
            · exact h.2
            · omega
          have hnil : locksTo s k = [] := List.eq_nil_of_length_eq_zero HL.out.len.symm
          subst hv
          have hsz := HL.out.below.size
          go_wp2_with (at_builtin; go_loud (refine wpList_append_first rfl (.tmp 30) (.tmp 32) 23 rfl 3 i0 (.int .i64 0) 8 Try.underlying23 hi hz0 hz1 hz2 rfl (by omega) _ rfl ⟨wr.heap.size, 0, none⟩ 1 (.int .i64 x) rfl (by simp [go_sem]) rfl ?_))
          intro cap' w2 hown2 hgrow2
          have HL' : Hid (LK w.heap.size w1.heap.size s (Value.slice none 0 0) w1 (k + 1) 1 (.slice (some ⟨wr.heap.size + 1, 0, none⟩) 1 cap') w2) := by
            have e : locksTo s (k + 1) = [x] := by rw [Hst.out, hnil]; unfold lockStep; rw [if_neg (by omega), if_neg (by simp)]; rfl
            refine ⟨.inr ⟨by omega, ?_⟩, by rw [e]; rfl, (HL.out.below.alloc hsz _).grown hgrow2 (by simp; omega) (by intro q hq; cases hq)⟩
            rw [e]
            exact own_base (by simpa using hown2) (by omega)
          clear hown2 hgrow2
          go_wp2
          go_roundw
          case rel => exact ⟨_, k + 1, 1, rfl, by omega, by omega, by go_num, HL'⟩
          case measure => simp [intOf]; omega
        · have ho : wr.ownsRow w1.heap.size 3 1 vv m ((locksTo s k).map (Value.int .i64)) := by
            rcases HL.out.val with h | h
            · omega
            · exact h.2
          obtain ⟨g, cap', rfl, hg1, hg2, hg3⟩ := own_shape ho (by
            rintro rfl
            have := ho.2
            simp at this
            omega)
          have hll := HL.out.len
          have cy := ho.cellAt (m - 1) (by omega)
          have cy2 : wr.cell? ⟨g, m - 1, none⟩ = some (.int .i64 ((locksTo s k).getD (m - 1) 0)) := by
            rw [cy]; simp [List.getD, show m - 1 < (locksTo s k).length by omega]
          obtain ⟨y, hy⟩ := named ((locksTo s k).getD (m - 1) 0)
          rw [← hy.out] at cy2
          have Hll := Lib.hid hll
          have HO := Lib.hid ho
          have hm1 : (0 : Int) < (m : Int) := by omega
          have hmb : ((m : Int) == 0) = false := by simp; omega
          have p1 : (0 : Int) ≤ (m : Int) - 1 := by omega
          have p2 : ((m : Int) - 1).toNat = m - 1 := by omega
          have hsz := HL.out.below.size
          clear cy hll ho
          by_cases hyx : y = x
          · subst hyx
            have HL' : Hid (LK w.heap.size w1.heap.size s (Value.slice none 0 0) w1 (k + 1) m (.slice (some ⟨g, 0, none⟩) m cap') wr) := by
              have e : locksTo s (k + 1) = locksTo s k := by rw [Hst.out]; unfold lockStep; rw [if_neg (by omega), if_pos ⟨by rw [← Hll.out]; omega, by rw [← Hll.out, ← hy.out]⟩]
              refine ⟨?_, ?_, HL.out.below⟩
              · rw [e]; exact HL.out.val
              · rw [e]; exact HL.out.len
            go_wp2
            go_roundw
            case rel => exact ⟨_, k + 1, m, rfl, by omega, by omega, by go_num, HL'⟩
            case measure => simp [intOf]; omega
          · have hyx1 : (y == x) = false := by simpa using hyx
            have hyx2 : (y != x) = true := by simpa using hyx
            go_wp2_with (at_builtin; go_loud (refine wpList_append_own _ rfl (.tmp 30) (.tmp 32) 23 rfl w1.heap.size 3 i0 (.int .i64 0) 1 8 Try.underlying23 hi hz0 hz1 hz2 rfl (by decide) _ _ _ rfl (HO.out.alloc _) ⟨wr.heap.size, 0, none⟩ 1 1 [.int .i64 x] rfl rfl (cell_one_new _ _ _) (by intro u hu; simp at hu; subst hu; rfl) (by unfold maxLen; omega) (by omega) (by simp; omega) ?_))
            intro v' w2 hown2 hgrow2 hnil2
            have HL' : Hid (LK w.heap.size w1.heap.size s (Value.slice none 0 0) w1 (k + 1) (m + 1) v' w2) := by
              have e : locksTo s (k + 1) = locksTo s k ++ [x] := by rw [Hst.out]; unfold lockStep; rw [if_neg (by omega), if_neg (by rw [← Hll.out, ← hy.out]; exact fun h => hyx h.2)]
              refine ⟨.inr ⟨by omega, ?_⟩, by rw [e, List.length_append, ← Hll.out]; rfl, (HL.out.below.alloc hsz _).grown hgrow2 (by simp; omega) (by intro q hq; simp [Value.ownBlock] at hq; omega)⟩
              rw [e]
              simpa using hown2
            obtain ⟨g', cap2, rfl, -, -, -⟩ := own_shape hown2 (fun e => by simp [e] at hnil2)
            clear hown2 hgrow2 hnil2
            go_wp2
            go_roundw
            case rel => exact ⟨_, k + 1, m + 1, rfl, by omega, by omega, by go_num, HL'⟩
            case measure => simp [intOf]; omega
    · obtain rfl : k = n := by omega
      go_wp2
      go_ret
      refine ⟨_, rfl, ?_, HB.out.trans (HL.out.below.mono HB.out.size)⟩
      have e : locksI zs = locksTo s k := by unfold locksI; rw [← Hsd.out, ← Hn.out]
      unfold OwnI
      rw [e, ← HL.out.len]
      rcases HL.out.val with h | h
      · have hnil : locksTo s k = [] := List.eq_nil_of_length_eq_zero (by rw [← HL.out.len]; exact h.1)
        obtain rfl := h.1
        rw [hnil, h.2]
        exact H0.out _ HL.out.below
      · exact own_base h.2 HB.out.size

set_option maxHeartbeats 400000 in
theorem rlocks_any (zs : List Int) (n : Nat) (hn : n = zs.length) (a : Option Addr) (c : Nat) (w : World) (h : Rd .i64 w a zs) (hs : n ≤ 1000) :
    Calls Try.prog 30 #[.slice a n c] w (FreshI w (locksI zs)) := by
  obtain ⟨i0, hi, hz0, hz1, hz2⟩ := info_parts Try.info3
  have Hn := Lib.hid hn; clear hn
  go_enter Try.func30, Try.ntmps30
  go_wp2_with fail
  refine (rsort_any zs n Hn.out a c _ (h.below ((Below.refl _ _).alloc (Nat.le_refl _) _) (Nat.le_refl _)) hs).mono ?_
  rintro e w1 ⟨v, rfl, hown, hb⟩
  obtain ⟨ao, cap, rfl, hrd⟩ := hown.rd (by rw [length_sortI, ← Hn.out]; omega)
  rw [length_sortI, ← Hn.out]
  obtain ⟨s, hsd⟩ : ∃ s, s = sortI zs := ⟨_, rfl⟩
  rw [← hsd] at hrd
  have hsl : s.length = n := by rw [hsd, length_sortI, ← Hn.out]
  have Hsd := Lib.hid hsd; clear hsd
  have Hsl := Lib.hid hsl; clear hsl
  have HR := Lib.hid hrd; clear hrd hown h
  have hb' : Below w.heap.size w w1 := ((Below.refl _ _).alloc (Nat.le_refl _) _).trans (hb.mono (by simp))
  have HB := Lib.hid hb'
  have H0 : Hid (∀ W : World, Below w1.heap.size w1 W → W.ownsRow w.heap.size 3 1 (.slice (some ⟨w.heap.size, 0, none⟩) 0 0) 0 []) := fun W hW => by
    have h1 := World.ownsRow_lit (e := 3) (size := 1) w #[] 0 (Nat.le_refl _) (by unfold maxLen; omega) rfl
    have hs1 := hb.size
    have h2 := h1.kept (w' := W) (row := none) ⟨hW.os.trans hb.os, hW.tape.trans hb.tape, hW.output.trans hb.output, Nat.le_trans hb.size hW.size, fun i hi _ => (hW.block i (by omega)).trans (hb.block i hi)⟩ (.inr (by simp [Value.ownBlock]))
    exact h2
  clear hb hb'
  have HL : Hid (LK w.heap.size w1.heap.size s (Value.slice (some ⟨w.heap.size, 0, none⟩) 0 0) w1 0 0 (Value.slice (some ⟨w.heap.size, 0, none⟩) 0 0) w1) := ⟨.inl ⟨rfl, rfl⟩, by rw [locksTo_zero]; rfl, .refl _ _⟩
  go_wp2
  go_loopw [3, 5, 10] (fun v _ i wr => ∃ (vv : Value) (k m : Nat), vv = v ∧ k ≤ n ∧ m ≤ k ∧ i = .int .i64 k ∧ Hid (LK w.heap.size w1.heap.size s (Value.slice (some ⟨w.heap.size, 0, none⟩) 0 0) w1 k m vv wr)) (fun _ _ i _ => n - (intOf i).toNat)
  case atStart => exact ⟨_, 0, 0, rfl, Nat.zero_le _, Nat.le_refl _, rfl, HL⟩
  case round =>
    clear HL
    obtain ⟨vv, k, m, rfl, hk, hmk, rfl, HL⟩ := hrel
    by_cases hlt : k < n
    · obtain ⟨b, off, rfl, hc⟩ := (HR.out.below HL.out.below (Nat.le_refl _)).at k (by rw [Hsl.out]; exact hlt)
      obtain ⟨x, hx⟩ := named (s.getD k 0)
      rw [← hx.out] at hc
      have hst := locksTo_succ s k (by rw [Hsl.out]; exact hlt)
      rw [← hx.out] at hst
      have Hst := Lib.hid hst
      clear hst
      by_cases hx0 : x ≤ 0
      · have HL' : Hid (LK w.heap.size w1.heap.size s (Value.slice (some ⟨w.heap.size, 0, none⟩) 0 0) w1 (k + 1) m vv wr) := by
          have e : locksTo s (k + 1) = locksTo s k := by rw [Hst.out]; unfold lockStep; rw [if_pos hx0]
          refine ⟨?_, ?_, HL.out.below⟩
          · rw [e]; exact HL.out.val
          · rw [e]; exact HL.out.len
        go_wp2
        go_roundw
        case rel => exact ⟨_, k + 1, m, rfl, by omega, by omega, by go_num, HL'⟩
        case measure => simp [intOf]; omega
      · by_cases hm0 : m = 0
        · subst hm0
          have hv : vv = (Value.slice (some ⟨w.heap.size, 0, none⟩) 0 0) := by
            rcases HL.out.val with h | h
            · exact h.2
            · omega
          have hnil : locksTo s k = [] := List.eq_nil_of_length_eq_zero HL.out.len.symm
          subst hv
          have hsz := HL.out.below.size
          go_wp2_with (at_builtin; go_loud (refine wpList_append_first rfl (.tmp 31) (.tmp 33) 23 rfl 3 i0 (.int .i64 0) 8 Try.underlying23 hi hz0 hz1 hz2 rfl (by omega) _ rfl ⟨wr.heap.size, 0, none⟩ 1 (.int .i64 x) rfl (by simp [go_sem]) rfl ?_))
          intro cap' w2 hown2 hgrow2
          have HL' : Hid (LK w.heap.size w1.heap.size s (Value.slice (some ⟨w.heap.size, 0, none⟩) 0 0) w1 (k + 1) 1 (.slice (some ⟨wr.heap.size + 1, 0, none⟩) 1 cap') w2) := by
            have e : locksTo s (k + 1) = [x] := by rw [Hst.out, hnil]; unfold lockStep; rw [if_neg (by omega), if_neg (by simp)]; rfl
            refine ⟨.inr ⟨by omega, ?_⟩, by rw [e]; rfl, (HL.out.below.alloc hsz _).grown hgrow2 (by simp; omega) (by intro q hq; cases hq)⟩
            rw [e]
            exact own_base (by simpa using hown2) (by omega)
          clear hown2 hgrow2
          go_wp2
          go_roundw
          case rel => exact ⟨_, k + 1, 1, rfl, by omega, by omega, by go_num, HL'⟩
          case measure => simp [intOf]; omega
        · have ho : wr.ownsRow w1.heap.size 3 1 vv m ((locksTo s k).map (Value.int .i64)) := by
            rcases HL.out.val with h | h
            · omega
            · exact h.2
          obtain ⟨g, cap', rfl, hg1, hg2, hg3⟩ := own_shape ho (by
            rintro rfl
            have := ho.2
            simp at this
            omega)
          have hll := HL.out.len
          have cy := ho.cellAt (m - 1) (by omega)
          have cy2 : wr.cell? ⟨g, m - 1, none⟩ = some (.int .i64 ((locksTo s k).getD (m - 1) 0)) := by
            rw [cy]; simp [List.getD, show m - 1 < (locksTo s k).length by omega]
          obtain ⟨y, hy⟩ := named ((locksTo s k).getD (m - 1) 0)
          rw [← hy.out] at cy2
          have Hll := Lib.hid hll
          have HO := Lib.hid ho
          have hm1 : (0 : Int) < (m : Int) := by omega
          have hmb : ((m : Int) == 0) = false := by simp; omega
          have p1 : (0 : Int) ≤ (m : Int) - 1 := by omega
          have p2 : ((m : Int) - 1).toNat = m - 1 := by omega
          have hsz := HL.out.below.size
          clear cy hll ho
          by_cases hyx : y = x
          · subst hyx
            have HL' : Hid (LK w.heap.size w1.heap.size s (Value.slice (some ⟨w.heap.size, 0, none⟩) 0 0) w1 (k + 1) m (.slice (some ⟨g, 0, none⟩) m cap') wr) := by
              have e : locksTo s (k + 1) = locksTo s k := by rw [Hst.out]; unfold lockStep; rw [if_neg (by omega), if_pos ⟨by rw [← Hll.out]; omega, by rw [← Hll.out, ← hy.out]⟩]
              refine ⟨?_, ?_, HL.out.below⟩
              · rw [e]; exact HL.out.val
              · rw [e]; exact HL.out.len
            go_wp2
            go_roundw
            case rel => exact ⟨_, k + 1, m, rfl, by omega, by omega, by go_num, HL'⟩
            case measure => simp [intOf]; omega
          · have hyx1 : (y == x) = false := by simpa using hyx
            have hyx2 : (y != x) = true := by simpa using hyx
            go_wp2_with (at_builtin; go_loud (refine wpList_append_own _ rfl (.tmp 31) (.tmp 33) 23 rfl w1.heap.size 3 i0 (.int .i64 0) 1 8 Try.underlying23 hi hz0 hz1 hz2 rfl (by decide) _ _ _ rfl (HO.out.alloc _) ⟨wr.heap.size, 0, none⟩ 1 1 [.int .i64 x] rfl rfl (cell_one_new _ _ _) (by intro u hu; simp at hu; subst hu; rfl) (by unfold maxLen; omega) (by omega) (by simp; omega) ?_))
            intro v' w2 hown2 hgrow2 hnil2
            have HL' : Hid (LK w.heap.size w1.heap.size s (Value.slice (some ⟨w.heap.size, 0, none⟩) 0 0) w1 (k + 1) (m + 1) v' w2) := by
              have e : locksTo s (k + 1) = locksTo s k ++ [x] := by rw [Hst.out]; unfold lockStep; rw [if_neg (by omega), if_neg (by rw [← Hll.out, ← hy.out]; exact fun h => hyx h.2)]
              refine ⟨.inr ⟨by omega, ?_⟩, by rw [e, List.length_append, ← Hll.out]; rfl, (HL.out.below.alloc hsz _).grown hgrow2 (by simp; omega) (by intro q hq; simp [Value.ownBlock] at hq; omega)⟩
              rw [e]
              simpa using hown2
            obtain ⟨g', cap2, rfl, -, -, -⟩ := own_shape hown2 (fun e => by simp [e] at hnil2)
            clear hown2 hgrow2 hnil2
            go_wp2
            go_roundw
            case rel => exact ⟨_, k + 1, m + 1, rfl, by omega, by omega, by go_num, HL'⟩
            case measure => simp [intOf]; omega
    · obtain rfl : k = n := by omega
      go_wp2
      go_ret
      refine ⟨_, rfl, ?_, HB.out.trans (HL.out.below.mono HB.out.size)⟩
      have e : locksI zs = locksTo s k := by unfold locksI; rw [← Hsd.out, ← Hn.out]
      unfold OwnI
      rw [e, ← HL.out.len]
      rcases HL.out.val with h | h
      · have hnil : locksTo s k = [] := List.eq_nil_of_length_eq_zero (by rw [← HL.out.len]; exact h.1)
        obtain rfl := h.1
        rw [hnil, h.2]
        exact H0.out _ HL.out.below
      · exact own_base h.2 HB.out.size
end Go.Proofs.Yteffilepolbgbaa
