/- The law ShuffleFair, walked: of up to six numbers, whichever may be, each of these is the first of just as many orders. -/
import Derived.Test.YteffilepolbgbaaFairMath
import Derived.Test.YteffilepolbgbaaLawAll
namespace Go.Proofs.Yteffilepolbgbaa
open Go.RowKit
set_option linter.unusedVariables false

theorem numT_take (bs : List Bool) (i : Nat) (h : i < bs.length) : numT (bs.take (i + 1)) = numT (bs.take i) + if bs.getD i false = true then 1 else 0 := by
  induction bs generalizing i with
  | nil => simp at h
  | cons b l ih =>
    cases i with
    | zero => cases b <;> simp [numT]
    | succ i =>
      have := ih i (by simpa using h)
      cases b <;> simp [numT] at this ⊢ <;> omega

def winsL (bs : List Bool) (n q : Nat) : List Int := (List.range n).map fun x : Nat => ((winN bs n q x : Nat) : Int)
theorem length_winsL (bs : List Bool) (n q : Nat) : (winsL bs n q).length = n := by simp [winsL]
theorem getD_winsL (bs : List Bool) (n q x : Nat) (h : x < n) : (winsL bs n q).getD x 0 = ((winN bs n q x : Nat) : Int) := by simp [winsL, List.getD, h]
theorem winN_zero (bs : List Bool) (n x : Nat) : winN bs n 0 x = 0 := by simp [winN]
theorem winN_succ (bs : List Bool) (n q x : Nat) (h : q < (allL n).length) : winN bs n (q + 1) x = winN bs n q x + if hit bs (ordL ((allL n).getD q [])) x = true then 1 else 0 := by
  unfold winN
  rw [List.take_succ_eq_append_getElem h, List.countP_append, List.countP_singleton]
  have : (allL n).getD q [] = (allL n)[q] := by simp [List.getD, h]
  rw [this]
theorem winN_le (bs : List Bool) (n q x : Nat) : winN bs n q x ≤ q := by
  unfold winN
  exact Nat.le_trans List.countP_le_length (by rw [List.length_take]; omega)
theorem winsL_zero (bs : List Bool) (n : Nat) : winsL bs n 0 = List.replicate n 0 := by
  refine ext_getD (by simp [winsL]) fun i hi => ?_
  rw [length_winsL] at hi
  rw [getD_winsL _ _ _ _ hi, winN_zero]
  simp [List.getD, hi]
theorem winsL_hit {bs : List Bool} {n q x : Nat} {o : List Int} (h : q < (allL n).length) (ho : o = ordL ((allL n).getD q [])) (hok : firstOk o bs = true) (hx : firstI o bs = (x : Int)) (hxn : x < n) :
    winsL bs n (q + 1) = (winsL bs n q).set x (((winN bs n q x : Nat) : Int) + 1) := by
  refine ext_getD (by simp [winsL]) fun i hi => ?_
  rw [length_winsL] at hi
  rw [getD_winsL _ _ _ _ hi, winN_succ _ _ _ _ h, ← ho, getD_set _ _ _ _ (by rw [length_winsL]; exact hxn)]
  unfold hit
  rw [hok, hx]
  by_cases hix : i = x
  · subst hix; simp
  · rw [if_neg hix, getD_winsL _ _ _ _ hi]
    have : ¬ (x : Int) = (i : Int) := by omega
    simp [this]
theorem winsL_miss {bs : List Bool} {n q : Nat} {o : List Int} (h : q < (allL n).length) (ho : o = ordL ((allL n).getD q [])) (hok : firstOk o bs = false) : winsL bs n (q + 1) = winsL bs n q := by
  refine ext_getD (by simp [winsL]) fun i hi => ?_
  rw [length_winsL] at hi
  rw [getD_winsL _ _ _ _ hi, getD_winsL _ _ _ _ hi, winN_succ _ _ _ _ h, ← ho]
  unfold hit
  rw [hok]
  simp

theorem RdV.grown {w w' : World} {ao : Option Addr} {vs : List Value} {g : Nat} (h : RdV w ao vs) (hg : w.grownBy w' (some g)) (hne : ∀ a, ao = some a → g < a.block) : RdV w' ao vs := by
  intro h0
  obtain ⟨b, off, e, hc⟩ := h h0
  have := hne _ e
  exact ⟨b, off, e, fun j hj => hg.cell (hc j hj) (by simp; simp at this; omega)⟩

/-- The world of a round of the second loop. -/
structure FW (B gw n : Nat) (bs : List Bool) (w w3 : World) (q : Nat) (wr : World) : Prop where
  own : wr.ownsRow B 3 1 (.slice (some ⟨gw, 0, none⟩) n n) n ((winsL bs n q).map (Value.int .i64))
  grown : w3.grownBy wr (some gw)
  below : Below B w wr

set_option maxHeartbeats 2000000 in
theorem shuffleFair_walk (bs : List Bool) (n : Nat) (hn : n = bs.length) (a : Option Addr) (ca : Nat) (w : World) (h1 : RdB w a bs) :
    Calls Try.prog 7 #[.slice a n ca] w fun e w' => e = .returned (.bool true) ∧ Below w.heap.size w w' := by
  obtain ⟨i0, hi, hz0, hz1, hz2⟩ := info_parts Try.info3
  have hl1 := h1.1
  rw [← hn] at hl1
  have Hn := Lib.hid hn; clear hn
  have H1 := Lib.hid h1; clear h1
  go_enter Try.func7, Try.ntmps7
  go_wp2_with fail
  refine (shuffle_alive _).mono ?_
  rintro e w1 ⟨rfl, hb⟩
  have HB := Lib.hid hb; clear hb
  by_cases h100 : 6 < n
  · go_wp2
    go_ret
    exact ⟨rfl, HB.out⟩
  have R1 := Lib.hid (H1.out.below HB.out (Nat.le_refl _))
  go_wp2
  go_loop [3, 5, 21] (fun kk _ i => ∃ j K : Nat, j ≤ n ∧ i = .int .i64 j ∧ kk = .int .i64 K ∧ K ≤ j ∧ Hid (K = numT (bs.take j))) (fun _ _ i => n - (intOf i).toNat)
  case atStart => exact ⟨0, 0, Nat.zero_le _, rfl, rfl, Nat.le_refl _, (by simp [numT] : 0 = numT (bs.take 0))⟩
  case round =>
    obtain ⟨j, K, hj, rfl, rfl, hKj, HK⟩ := hrel
    by_cases hlt : j < n
    · obtain ⟨b1, o1, rfl, c1⟩ := R1.out.at j (by rw [← Hn.out]; exact hlt)
      obtain ⟨t, ht⟩ : ∃ t, t = bs.getD j false := ⟨_, rfl⟩
      rw [← ht] at c1
      have hnx := numT_take bs j (by rw [← Hn.out]; exact hlt)
      rw [← ht] at hnx
      cases t
      · have HK' : Hid (K = numT (bs.take (j + 1))) := by show _ = _; rw [hnx, ← HK.out]; simp
        clear hnx ht
        go_wp2
        go_round
        case rel => exact ⟨j + 1, K, by omega, by go_num, rfl, by omega, HK'⟩
        case measure => simp [intOf]; omega
      · have HK' : Hid (K + 1 = numT (bs.take (j + 1))) := by show _ = _; rw [hnx, ← HK.out]; simp
        clear hnx ht
        go_wp2
        go_round
        case rel => exact ⟨j + 1, K + 1, by omega, by go_num, by go_num, by omega, HK'⟩
        case measure => simp [intOf]; omega
    · obtain rfl : j = n := by omega
      have hK2 : K = numT bs := by rw [HK.out, List.take_of_length_le (by rw [← Hn.out]; exact Nat.le_refl _)]
      have HKK := Lib.hid hK2
      have hs1 := HB.out.size
      clear HK hK2 hlt hj
      go_wp2_with (at_make; go_loud (refine wpList_make_full _ rfl _ _ 23 rfl w.heap.size 3 i0 (.int .i64 0) 1 Try.underlying23 hi hz0 hz1 _ _ _ _ j rfl rfl rfl rfl (by rw [hz2]; omega) (by unfold maxLen; omega) hs1 ?_))
      intro w2 hown2 hgrow2
      rw [toList_madeCells_one] at hown2
      obtain ⟨gw, hgw⟩ : ∃ gw, gw = w1.heap.size := ⟨_, rfl⟩
      rw [← hgw] at hown2
      rw [← hgw]
      have hlt2 := (hown2.lt gw rfl).2
      have hb2 : Below w.heap.size w w2 := HB.out.grown hgrow2 hs1 (by intro k hk; cases hk)
      have hs2 := hb2.size
      have HO2 := Lib.hid hown2
      have HB2 := Lib.hid hb2
      have hgB : w.heap.size ≤ gw := by omega
      clear hown2 hgrow2 hb2 hgw
      go_wp2_with fail
      refine (all_any j (by omega) _).mono ?_
      rintro e w3 ⟨ao, cap, vs1, g1, rfl, hrv, hrr, hfv, hb⟩
      obtain ⟨N, hN⟩ : ∃ N, N = (allL j).length := ⟨_, rfl⟩
      rw [← hN]
      rw [← hN] at hfv
      have hN720 : N ≤ 720 := by rw [hN]; exact length_allL j (by omega)
      have HW : Hid (FW w.heap.size gw j bs w w3 0 w3) := by
        refine ⟨?_, World.grownBy.refl _ _, HB2.out.trans (hb.mono hs2)⟩
        rw [winsL_zero, List.map_replicate]
        exact HO2.out.kept (row := none) ⟨hb.os, hb.tape, hb.output, hb.size, fun k hk _ => hb.block k hk⟩ (.inr (by simp [Value.ownBlock]))
      have hao : ∀ a, ao = some a → gw < a.block := fun a e => by
        have := hfv _ (List.mem_cons_self ..) a.block (by rw [e]; rfl)
        omega
      have HAO := Lib.hid hao
      have HV := Lib.hid hrv
      have HR := Lib.hid hrr
      have HFV := Lib.hid hfv
      have HN := Lib.hid hN
      clear hrv hrr hb hN hfv hao HO2
      go_wp2
      go_loopw [8, 9, 10, 36] (fun _ _ _ i wr => ∃ q : Nat, q ≤ N ∧ i = .int .i64 q ∧ Hid (FW w.heap.size gw j bs w w3 q wr)) (fun _ _ _ i _ => N - (intOf i).toNat)
      case atStart => exact ⟨0, Nat.zero_le _, rfl, HW⟩
      case round =>
        clear HW
        obtain ⟨q, hq, rfl, HA⟩ := hrel
        by_cases hlt : q < N
        · obtain ⟨b, off, rfl, hcell⟩ := (HV.out.grown HA.out.grown HAO.out) (by rw [HR.out.1, ← HN.out]; omega)
          have hc := hcell q (by rw [HR.out.1, ← HN.out]; exact hlt)
          obtain ⟨al, cl, hvl, hrl, _⟩ := HR.out.2 q (by rw [← HN.out]; exact hlt)
          obtain ⟨l, hl⟩ : ∃ l, l = (allL j).getD q [] := ⟨_, rfl⟩
          rw [← hl] at hvl hrl
          have hll : l.length = j := length_row j l (by rw [hl]; exact getD_memL (by rw [← HN.out]; exact hlt))
          have hmemv : vs1.getD q undef ∈ vs1 := by
            have hq2 : q < vs1.length := by rw [HR.out.1, ← HN.out]; exact hlt
            have : vs1.getD q undef = vs1[q] := by simp [List.getD, hq2]
            rw [this]; exact List.getElem_mem hq2
          have hfl : ∀ b off, al = some ⟨b, off, none⟩ → b ≠ gw := fun b off e => by
            have := HFV.out _ (List.mem_cons_of_mem _ hmemv) b (by rw [hvl, e]; rfl)
            omega
          have hrl' : Rd .i64 wr al l := hrl.grown HA.out.grown hfl
          rw [hvl, hll] at hc
          obtain ⟨o, ho⟩ : ∃ o, o = ordL l := ⟨_, rfl⟩
          have hol : o.length = j := by rw [ho, length_ordL, hll]
          have hop : o.Perm (rng bs.length) := by
            have := (ordL_perm l).2
            rw [← ho, hll, Hn.out] at this
            exact this
          have hok := firstOk_order (bs := bs) hop
          have hin := firstI_in (bs := bs) o
          have hoq : o = ordL ((allL j).getD q []) := by rw [ho, hl]
          have HRl := Lib.hid hrl'
          have Hll := Lib.hid hll
          have Ho := Lib.hid ho
          have Hol := Lib.hid hol
          have Hoq := Lib.hid hoq
          have Hok := Lib.hid hok
          have Hin := Lib.hid hin
          have hqN : Hid (q < (allL j).length) := by show _; rw [← HN.out]; exact hlt
          clear hcell hvl hrl hl hll hmemv hfl hrl' ho hol hop hok hin hoq
          go_wp2_with fail
          refine (orderL_any l j Hll.out.symm al cl _ HRl.out (by omega)).mono ?_
          intro e w4 hF
          rw [← Ho.out] at hF
          obtain ⟨a4, c4, rfl, r4, b4, hb4⟩ := fresh_use HA.out.below hF (by rw [Hol.out]; omega)
          rw [Hol.out]
          have hO4 : w4.ownsRow w.heap.size 3 1 (.slice (some ⟨gw, 0, none⟩) j j) j ((winsL bs j q).map (Value.int .i64)) :=
            HA.out.own.kept (row := none) ⟨b4.os, b4.tape, b4.output, b4.size, fun k hk _ => b4.block k hk⟩ (.inr (by simp [Value.ownBlock]))
          have hG4 : w3.grownBy w4 (some gw) := ⟨b4.os.trans HA.out.grown.os, b4.tape.trans HA.out.grown.tape, b4.output.trans HA.out.grown.output, Nat.le_trans HA.out.grown.size b4.size, fun k hk hkr => (b4.block k (by have := HA.out.grown.size; omega)).trans (HA.out.grown.block k hk hkr)⟩
          have HO4 := Lib.hid hO4
          have HG4 := Lib.hid hG4
          have HB4 := Lib.hid hb4
          have R4 := Lib.hid r4
          clear hF r4 b4 hb4 hO4 hG4 HA
          have hfirst := fun W (h1 : Rd .i64 W a4 o) (h2 : RdB W a bs) => first_any o bs a4 a c4 ca W h1 h2
          rw [Hol.out, ← Hn.out] at hfirst
          have HFI := Lib.hid hfirst
          clear hfirst
          go_wp2_with fail
          refine (HFI.out _ R4.out (H1.out.below HB4.out (Nat.le_refl _))).mono ?_
          rintro e w5 ⟨rfl, rfl⟩
          clear HFI
          by_cases hKp : 0 < K
          · have hok : firstOk o bs = true := by rw [Hok.out, ← HKK.out]; exact decide_eq_true hKp
            have hin := Hin.out hok
            obtain ⟨x, hx⟩ : ∃ x : Nat, firstI o bs = (x : Int) := ⟨_, (Int.toNat_of_nonneg hin.1).symm⟩
            rw [hok, hx]
            rw [hx, ← Hn.out] at hin
            have hxn : x < j := by omega
            have hhit := winsL_hit hqN.out Hoq.out hok hx hxn
            have cx := own_cell HO4.out x hxn
            rw [getD_winsL _ _ _ _ hxn] at cx
            have fx := HO4.out.frozenAt x
            have hwl : winN bs j q x ≤ 720 := Nat.le_trans (winN_le bs j q x) (by omega)
            obtain ⟨W, hW⟩ : ∃ W, W = winN bs j q x := ⟨_, rfl⟩
            rw [← hW] at cx hwl hhit
            have HW' : Hid (FW w.heap.size gw j bs w w3 (q + 1) (w4.setCell ⟨gw, x, none⟩ (.int .i64 ((W : Int) + 1)))) := by
              refine ⟨?_, ?_, HB4.out.setCell hgB _⟩
              · rw [hhit, List.map_set]; exact (HO4.out.stored _ _).1
              · exact grown_trans HG4.out (HO4.out.stored _ _).2
            clear hok hx hhit hW hin
            go_wp2
            go_roundw
            case rel => exact ⟨q + 1, by omega, by go_num, HW'⟩
            case measure => simp [intOf]; omega
          · have hok : firstOk o bs = false := by rw [Hok.out, ← HKK.out]; exact decide_eq_false hKp
            have hmiss := winsL_miss hqN.out Hoq.out hok
            rw [hok]
            have HW' : Hid (FW w.heap.size gw j bs w w3 (q + 1) w4) := ⟨by rw [hmiss]; exact HO4.out, HG4.out, HB4.out⟩
            clear hok hmiss
            obtain ⟨fi, hfi⟩ : ∃ fi, fi = firstI o bs := ⟨_, rfl⟩
            rw [← hfi]
            clear hfi
            go_wp2
            go_roundw
            case rel => exact ⟨q + 1, by omega, by go_num, HW'⟩
            case measure => simp [intOf]; omega
        · obtain rfl : q = N := by omega
          obtain ⟨F, hF⟩ : ∃ F, F = facN j := ⟨_, rfl⟩
          have hF720 : F ≤ 720 := by rw [hF, ← length_allL_eq, ← HN.out]; exact hN720
          have hcnt := fun W => count_any (j : Int) W
          rw [countI_in j (by omega), ← facN_I, ← hF] at hcnt
          have hwin : ∀ x, x < j → ((winN bs j q x : Nat) : Int) = if bs.getD x false = true then ((F / K : Nat) : Int) else 0 := fun x hx => by
            have := winN_all bs (by rw [← Hn.out]; omega) x (by rw [← Hn.out]; exact hx)
            rw [← Hn.out, ← HN.out, ← HKK.out, ← hF] at this
            rw [this]
            split <;> rfl
          have HC := Lib.hid hcnt
          have HWN := Lib.hid hwin
          have hKt : ∀ x, x < j → bs.getD x false = true → 0 < K := fun x hx hb => by
            rw [HKK.out]; exact (numT_pos bs).2 ⟨x, by rw [← Hn.out]; exact hx, hb⟩
          have HKT := Lib.hid hKt
          clear hlt hq hcnt hwin hF hKt
          go_wp2
          go_loop [11, 12, 13, 74] (fun _ _ _ i => ∃ x : Nat, x ≤ j ∧ i = .int .i64 x) (fun _ _ _ i => j - (intOf i).toNat)
          case atStart => exact ⟨0, Nat.zero_le _, rfl⟩
          case round =>
            obtain ⟨x, hx, rfl⟩ := hrel
            by_cases hlt : x < j
            · obtain ⟨b1, o1, rfl, c1⟩ := (H1.out.below HA.out.below (Nat.le_refl _)).at x (by rw [← Hn.out]; exact hlt)
              have cw := own_cell HA.out.own x hlt
              rw [getD_winsL _ _ _ _ hlt, HWN.out x hlt] at cw
              obtain ⟨t, ht⟩ : ∃ t, t = bs.getD x false := ⟨_, rfl⟩
              have hkt := HKT.out x hlt
              rw [← ht] at c1 cw hkt
              cases t
              · simp only [Bool.false_eq_true, if_false] at cw
                clear hkt ht
                go_wp2
                go_round
                case rel => exact ⟨x + 1, by omega, by go_num⟩
                case measure => simp [intOf]; omega
              · rw [if_pos rfl] at cw
                have hKp : 0 < K := hkt rfl
                have hK1 : (1 : Int) ≤ (K : Int) := by omega
                have hF0 : (0 : Int) ≤ (F : Int) := by omega
                have hqc : ((F / K : Nat) : Int) = (F : Int) / (K : Int) := by simp
                have hw64 : wrap64 ((F : Int) / (K : Int)) = (F : Int) / (K : Int) := by
                  rw [← hqc]
                  have hle : F / K ≤ 720 := Nat.le_trans (Nat.div_le_self _ _) hF720
                  have hge : (0 : Int) ≤ ((F / K : Nat) : Int) := Int.natCast_nonneg _
                  have hle' : ((F / K : Nat) : Int) ≤ 720 := Int.ofNat_le.mpr hle
                  generalize ((F / K : Nat) : Int) = z at hge hle' ⊢
                  unfold wrap64; omega
                have hne : ((F : Int) / (K : Int) != wrap64 ((F : Int) / (K : Int))) = false := by rw [hw64]; simp
                clear hkt ht hqc hw64
                go_wp2_with (go_at_call 25; refine (HC.out _).mono ?_; rintro e w' ⟨rfl, rfl⟩)
                go_round
                case rel => exact ⟨x + 1, by omega, by go_num⟩
                case measure => simp [intOf]; omega
            · go_wp2
              go_ret
              exact ⟨rfl, HA.out.below⟩
end Go.Proofs.Yteffilepolbgbaa
