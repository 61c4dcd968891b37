/- The law DiceKeeps, walked. -/
import Derived.Test.YteffilepolbgbaaDiceKeeps
import Derived.Test.YteffilepolbgbaaApp
namespace Go.Proofs.Yteffilepolbgbaa
open Go.RowKit
set_option linter.unusedVariables false

theorem skipK_zero (n : Nat) (s : Int) (h : s ≤ 0) : skipK n 0 s = 0 := by
  unfold skipK; split
  · rfl
  · rw [if_pos (by omega)]; omega
theorem skipK_pos (n : Nat) (s : Int) (h : 0 ≤ s) (j : Nat) (hj : j ≤ n) (hjs : (j : Int) ≤ s) (he : ¬ ((j : Int) < s ∧ j < n)) : skipK n 0 s = j := by
  unfold skipK; rw [if_neg (by omega)]; split <;> omega

set_option maxHeartbeats 2000000 in
theorem diceKeeps_walk (l asks : List Int) (n m : Nat) (hn : n = l.length) (hm : m = asks.length) (a b : Option Addr) (ca cb : Nat) (s : Int) (w : World) (h1 : Rd .u16 w a l) (h2 : Rd .i64 w b asks)
    (hr : ∀ j, 0 ≤ l.getD j 0 ∧ l.getD j 0 < 65536) :
    Calls Try.prog 4 #[.slice a n ca, .slice b m cb, .int .i64 s] w fun e w' => e = .returned (.bool true) ∧ Below w.heap.size w w' := by
  obtain ⟨i0, hi, hz0, hz1, hz2⟩ := info_parts Try.info32
  have hl1 := h1.len
  have hl2 := h2.len
  rw [← hn] at hl1
  rw [← hm] at hl2
  have Hn := Lib.hid hn; have Hm := Lib.hid hm; clear hn hm
  have H1 := Lib.hid h1; have H2 := Lib.hid h2; clear h1 h2
  have HR := Lib.hid hr; clear hr
  go_enter Try.func4, Try.ntmps4
  go_wp2_with fail
  refine (dice_alive _).mono ?_
  rintro e w1 ⟨rfl, hb⟩
  have HB := Lib.hid hb; clear hb
  by_cases h100 : 300 < n
  · go_wp2
    go_ret
    exact ⟨rfl, HB.out⟩
  by_cases h200 : 300 < m
  · go_wp2
    go_ret
    exact ⟨rfl, HB.out⟩
  have hBa : Below w.heap.size w (w1.alloc (.cells #[] 32)) := HB.out.alloc HB.out.size _
  go_wp2_with (at_builtin; go_loud (refine wpList_append_src rfl (.tmp 25) (.tmp 26) 22 rfl w.heap.size 32 i0 (.int .u16 0) 2 Try.underlying22 hi hz0 hz1 hz2 rfl _ 0 [] rfl (World.ownsRow_lit w1 #[] 0 HB.out.size (by unfold maxLen; omega) rfl) a n ca (l.map (Value.int .u16)) rfl (by simp [Hn.out]) ((H1.out.below hBa (Nat.le_refl _)).src Hn.out) (ints_oneCell _ _) (by unfold maxLen; omega) (by omega) hBa.size ?_))
  intro v w2 hown hgrow hnil
  have hb2 : Below w.heap.size w w2 := hBa.grown hgrow hBa.size (by intro k hk; have := HB.out.size; simp [Value.ownBlock] at hk; omega)
  obtain ⟨g, c, hv, hg⟩ : ∃ g c, v = .slice (some ⟨g, 0, none⟩) n c ∧ w.heap.size ≤ g := by
    rcases hown.2 with ⟨rfl, h0⟩ | ⟨g, cap, cur, rfl, hB, _⟩
    · exact absurd (hnil rfl) (by simp)
    · exact ⟨g, cap, rfl, hB⟩
  subst hv
  have hown' : w2.ownsRow w.heap.size 32 1 (.slice (some ⟨g, 0, none⟩) n c) l.length (l.map (Value.int .u16)) := by rw [← Hn.out]; exact hown
  obtain ⟨ao, cap, hv, hrd⟩ := own_rd hown' (by rw [← Hn.out]; omega)
  have hg2 : g < w2.heap.size := (hown.lt g rfl).2
  obtain ⟨rfl, -, rfl⟩ : some ⟨g, 0, none⟩ = ao ∧ n = l.length ∧ c = cap := by simpa using hv
  clear hgrow hnil hown' hv
  have HO := Lib.hid hown; clear hown
  have HBB := Lib.hid hBa; clear hBa
  go_wp2_with fail
  refine (new_any l n Hn.out a ca _ (H1.out.below hb2 (Nat.le_refl _)) (by omega) HR.out).mono ?_
  rintro e w3 ⟨pa, ga, rfl, DA, hba, hlpa, hlga, hgsa⟩
  have hpa := DA.lt
  have hrd3 := hrd.below hba (Nat.le_refl _)
  have ho3 := HO.out.kept (w' := w3) (row := none) ⟨hba.os, hba.tape, hba.output, hba.size, fun k hk _ => hba.block k hk⟩ (.inr (by simp [Value.ownBlock]))
  have hb3 : Below w.heap.size w w3 := hb2.trans (hba.mono hb2.size)
  have hs23 := hba.size
  have hsw2 := hb2.size
  have HDA := Lib.hid DA; clear DA
  have HO3 := Lib.hid ho3; clear ho3
  clear hba hrd
  go_wp2_with fail
  refine (new_any l n Hn.out _ c _ hrd3 (by omega) HR.out).mono ?_
  rintro e w4 ⟨pb, gb, rfl, DB, hbb, hlpb, hlgb, hgsb⟩
  have HM : Made w.heap.size w w4 l g c pa ga pb gb n 0 0 :=
    ⟨⟨l, Hn.out.symm, HR.out, HO3.out.kept (row := none) ⟨hbb.os, hbb.tape, hbb.output, hbb.size, fun k hk _ => hbb.block k hk⟩ (.inr (by simp [Value.ownBlock]))⟩,
      HDA.out.below hbb hpa hgsa, DB, hb3.trans (hbb.mono hb3.size), hg, by omega, by omega, by omega, by omega, by omega, by omega, by omega, by omega, by omega⟩
  have HMH := Lib.hid HM
  clear HM DB hbb hb3 hrd3 hb2
  go_wp2
  go_loopw [10, 40] (fun _ i wr => ∃ j : Nat, j ≤ n ∧ i = .int .i64 j ∧ Hid (Made w.heap.size w wr l g c pa ga pb gb n 0 0)) (fun _ i _ => n - (intOf i).toNat)
  case atStart => exact ⟨0, Nat.zero_le _, rfl, HMH⟩
  case round =>
    clear HMH
    obtain ⟨j, hj, rfl, HM⟩ := hrel
    by_cases hlt : j < n
    · obtain ⟨x, x0, x1, cx, fx⟩ := HM.out.cell j hlt
      by_cases hx : x < 65535
      · go_wp2
        go_roundw
        case rel => exact ⟨j + 1, by omega, by go_num, HM.out.store j _ (by omega)⟩
        case measure => simp [intOf]; omega
      · obtain rfl : x = 65535 := by omega
        go_wp2
        go_roundw
        case rel => exact ⟨j + 1, by omega, by go_num, HM.out.store j _ (by decide)⟩
        case measure => simp [intOf]; omega
    · go_wp2_with fail
      have cs := skip_any s HM.out.da
      rw [← Hn.out] at cs
      refine cs.mono ?_
      rintro e w5 ⟨rfl, D5, T5⟩
      have HM5 := Lib.hid (HM.out.stepA D5 T5)
      clear HM D5 T5 cs
      go_wp2
      go_loopw [11] (fun i wr => ∃ j : Nat, j ≤ n ∧ (j = 0 ∨ (j : Int) ≤ s) ∧ i = .int .i64 j ∧ Hid (Made w.heap.size w wr l g c pa ga pb gb n (skipK n 0 s) j)) (fun i _ => n - (intOf i).toNat)
      case atStart => exact ⟨0, Nat.zero_le _, .inl rfl, rfl, HM5⟩
      case round =>
        clear HM5
        obtain ⟨k, hk, hks, rfl, HM⟩ := hrel
        have hks' := Lib.hid hks
        clear hks
        by_cases hc1 : (k : Int) < s
        · by_cases hc2 : k < n
          · go_wp2_with fail
            have cs := draw_any 1 HM.out.db
            rw [drawK_one l k (by rw [← Hn.out]; exact hc2)] at cs
            refine cs.mono ?_
            rintro e w6 ⟨rfl, D6, T6⟩
            have HM6 := Lib.hid (HM.out.stepB D6 T6)
            clear HM D6 T6 cs
            go_wp2
            go_roundw
            case rel => exact ⟨k + 1, by omega, .inr (by omega), by go_num, HM6⟩
            case measure => simp [intOf]; omega
          · have hsk : skipK n 0 s = k := skipK_pos n s (by omega) k hk (by omega) (fun h => hc2 h.2)
            rw [hsk] at HM
            clear hsk hks'
            go_wp2
            go_loopw [13, 14, 68] (fun _ _ i wr => ∃ j k : Nat, j ≤ m ∧ k ≤ n ∧ i = .int .i64 j ∧ Hid (Made w.heap.size w wr l g c pa ga pb gb n k k)) (fun _ _ i _ => m - (intOf i).toNat)
            case atStart => exact ⟨0, k, Nat.zero_le _, hk, rfl, HM⟩
            case round =>
              clear HM
              obtain ⟨j, k, hj, hk, rfl, HM⟩ := hrel
              by_cases hlt : j < m
              · obtain ⟨b1, o1, rfl, c1⟩ := (H2.out.below HM.out.below (Nat.le_refl _)).at j (by rw [← Hm.out]; exact hlt)
                obtain ⟨x, hx⟩ := named (asks.getD j 0)
                rw [← hx.out] at c1
                have cs := draw_any x HM.out.da
                obtain ⟨v, hv⟩ := named (drawV l k x)
                have hkk : drawK l k x ≤ n := by rw [Hn.out]; exact drawK_le l k x HM.out.da.hk
                rw [← hv.out] at cs
                by_cases hx1 : x < 1
                · obtain rfl : v = 0 := by rw [hv.out]; exact drawV_low l k x hx1
                  go_wp2_with fail
                  refine cs.mono ?_
                  rintro e w6 ⟨rfl, D6, T6⟩
                  have HM6 := Lib.hid (HM.out.stepA D6 T6)
                  clear HM D6 T6 cs
                  have cs := draw_any x HM6.out.db
                  rw [← hv.out] at cs
                  go_wp2_with fail
                  refine cs.mono ?_
                  rintro e w7 ⟨rfl, D7, T7⟩
                  have HM7 := Lib.hid (HM6.out.stepB D7 T7)
                  clear HM6 D7 T7 cs
                  go_wp2
                  go_roundw
                  case rel => exact ⟨j + 1, _, by omega, hkk, by go_num, HM7⟩
                  case measure => simp [intOf]; omega
                · obtain ⟨v0, v1⟩ : 0 ≤ v ∧ v < x := by rw [hv.out]; exact drawV_in l k x (by omega)
                  go_wp2_with fail
                  refine cs.mono ?_
                  rintro e w6 ⟨rfl, D6, T6⟩
                  have HM6 := Lib.hid (HM.out.stepA D6 T6)
                  clear HM D6 T6 cs
                  have cs := draw_any x HM6.out.db
                  rw [← hv.out] at cs
                  go_wp2_with fail
                  refine cs.mono ?_
                  rintro e w7 ⟨rfl, D7, T7⟩
                  have HM7 := Lib.hid (HM6.out.stepB D7 T7)
                  clear HM6 D7 T7 cs
                  go_wp2
                  go_roundw
                  case rel => exact ⟨j + 1, _, by omega, hkk, by go_num, HM7⟩
                  case measure => simp [intOf]; omega
              · go_wp2_with fail
                refine (drawn_any HM.out.da).mono ?_
                rintro e w6 ⟨rfl, rfl⟩
                go_wp2_with fail
                refine (drawn_any HM.out.db).mono ?_
                rintro e w6 ⟨rfl, rfl⟩
                go_wp2_with fail
                refine (drawn_any HM.out.da).mono ?_
                rintro e w6 ⟨rfl, rfl⟩
                go_wp2_with fail
                refine (left_n n Hn.out HM.out.da).mono ?_
                rintro e w6 ⟨rfl, q, rfl⟩
                have hadd : ((k : Int) + (n - k)) = n := by omega
                go_wp2
                go_ret
                exact ⟨by simp, below_drewN HM.out.below q⟩
        · have hsk : skipK n 0 s = k := by
            rcases hks'.out with rfl | h
            · exact skipK_zero n s (by omega)
            · exact skipK_pos n s (by omega) k hk h (fun h => hc1 h.1)
          rw [hsk] at HM
          clear hsk hks'
          go_wp2
          go_loopw [13, 14, 68] (fun _ _ i wr => ∃ j k : Nat, j ≤ m ∧ k ≤ n ∧ i = .int .i64 j ∧ Hid (Made w.heap.size w wr l g c pa ga pb gb n k k)) (fun _ _ i _ => m - (intOf i).toNat)
          case atStart => exact ⟨0, k, Nat.zero_le _, hk, rfl, HM⟩
          case round =>
            clear HM
            obtain ⟨j, k, hj, hk, rfl, HM⟩ := hrel
            by_cases hlt : j < m
            · obtain ⟨b1, o1, rfl, c1⟩ := (H2.out.below HM.out.below (Nat.le_refl _)).at j (by rw [← Hm.out]; exact hlt)
              obtain ⟨x, hx⟩ := named (asks.getD j 0)
              rw [← hx.out] at c1
              have cs := draw_any x HM.out.da
              obtain ⟨v, hv⟩ := named (drawV l k x)
              have hkk : drawK l k x ≤ n := by rw [Hn.out]; exact drawK_le l k x HM.out.da.hk
              rw [← hv.out] at cs
              by_cases hx1 : x < 1
              · obtain rfl : v = 0 := by rw [hv.out]; exact drawV_low l k x hx1
                go_wp2_with fail
                refine cs.mono ?_
                rintro e w6 ⟨rfl, D6, T6⟩
                have HM6 := Lib.hid (HM.out.stepA D6 T6)
                clear HM D6 T6 cs
                have cs := draw_any x HM6.out.db
                rw [← hv.out] at cs
                go_wp2_with fail
                refine cs.mono ?_
                rintro e w7 ⟨rfl, D7, T7⟩
                have HM7 := Lib.hid (HM6.out.stepB D7 T7)
                clear HM6 D7 T7 cs
                go_wp2
                go_roundw
                case rel => exact ⟨j + 1, _, by omega, hkk, by go_num, HM7⟩
                case measure => simp [intOf]; omega
              · obtain ⟨v0, v1⟩ : 0 ≤ v ∧ v < x := by rw [hv.out]; exact drawV_in l k x (by omega)
                go_wp2_with fail
                refine cs.mono ?_
                rintro e w6 ⟨rfl, D6, T6⟩
                have HM6 := Lib.hid (HM.out.stepA D6 T6)
                clear HM D6 T6 cs
                have cs := draw_any x HM6.out.db
                rw [← hv.out] at cs
                go_wp2_with fail
                refine cs.mono ?_
                rintro e w7 ⟨rfl, D7, T7⟩
                have HM7 := Lib.hid (HM6.out.stepB D7 T7)
                clear HM6 D7 T7 cs
                go_wp2
                go_roundw
                case rel => exact ⟨j + 1, _, by omega, hkk, by go_num, HM7⟩
                case measure => simp [intOf]; omega
            · go_wp2_with fail
              refine (drawn_any HM.out.da).mono ?_
              rintro e w6 ⟨rfl, rfl⟩
              go_wp2_with fail
              refine (drawn_any HM.out.db).mono ?_
              rintro e w6 ⟨rfl, rfl⟩
              go_wp2_with fail
              refine (drawn_any HM.out.da).mono ?_
              rintro e w6 ⟨rfl, rfl⟩
              go_wp2_with fail
              refine (left_n n Hn.out HM.out.da).mono ?_
              rintro e w6 ⟨rfl, q, rfl⟩
              have hadd : ((k : Int) + (n - k)) = n := by omega
              go_wp2
              go_ret
              exact ⟨by simp, below_drewN HM.out.below q⟩
end Go.Proofs.Yteffilepolbgbaa
