/- shuffle.Draws: of an order the draws that make it. -/
import Derived.Test.YteffilepolbgbaaIs
namespace Go.Proofs.Yteffilepolbgbaa
open Go.RowKit
set_option linter.unusedVariables false

/-- The draws of an order, in new memory. -/
def DrawsYes (w0 : World) (zs : List Int) (e : Ending) (w' : World) : Prop :=
  ∃ v D, e = .returned (.tuple #[v, .bool true]) ∧ OwnI w0.heap.size w' v D ∧ D.length = zs.length ∧ Canon D ∧ ordL D = zs ∧ Below w0.heap.size w0 w'

theorem draws_no (zs : List Int) (n : Nat) (hn : n = zs.length) (a : Option Addr) (c : Nat) (w : World) (h : Rd .i64 w a zs) (hs : n ≤ 1000) (hb : isB zs = false) :
    Calls Try.prog 45 #[.slice a n c] w fun e w' => e = .returned (.tuple #[.slice none 0 0, .bool false]) ∧ Below w.heap.size w w' := by
  have hc := is_any zs n hn a c w h hs
  rw [hb] at hc
  have HC := Lib.hid hc
  clear hn hc h hb
  go_enter Try.func45, Try.ntmps45
  go_wp2_with fail
  refine HC.out.mono ?_
  rintro e w1 ⟨rfl, hb⟩
  have HB := Lib.hid hb; clear hb
  go_wp2
  go_ret2
  exact ⟨rfl, HB.out⟩

/-- Three rows of the call's own. -/
structure Rows3 (B n : Nat) (w : World) (r p d : Nat) (rl pl dl : List Int) (wr : World) : Prop where
  ro : wr.ownsRow B 3 1 (.slice (some ⟨r, 0, none⟩) n n) n (rl.map (Value.int .i64))
  po : wr.ownsRow B 3 1 (.slice (some ⟨p, 0, none⟩) n n) n (pl.map (Value.int .i64))
  dO : wr.ownsRow B 3 1 (.slice (some ⟨d, 0, none⟩) n n) n (dl.map (Value.int .i64))
  rp : r ≠ p
  rd : r ≠ d
  pd : p ≠ d
  br : B ≤ r
  bp : B ≤ p
  bd : B ≤ d
  below : Below B w wr

theorem keep_row {B n g h : Nat} {xs : List Value} {wr : World} {j : Nat} {v : Value} (ho : wr.ownsRow B 3 1 (.slice (some ⟨g, 0, none⟩) n n) n xs) (hg : g ≠ h) :
    (wr.setCell ⟨h, j, none⟩ v).ownsRow B 3 1 (.slice (some ⟨g, 0, none⟩) n n) n xs :=
  ho.kept (row := some h) ⟨rfl, rfl, rfl, by simp [World.setCell], fun k _ hk => Below.heap_setCell _ _ _ _ (fun e => hk (by rw [e]))⟩ (.inr (by simp [Value.ownBlock]; exact hg))

theorem Rows3.setR {B n : Nat} {w : World} {r p d : Nat} {rl pl dl : List Int} {wr : World} (h : Rows3 B n w r p d rl pl dl wr) (j : Nat) (x : Int) : Rows3 B n w r p d (rl.set j x) pl dl (wr.setCell ⟨r, j, none⟩ (.int .i64 x)) :=
  ⟨by rw [List.map_set]; exact (h.ro.stored j _).1, keep_row h.po (fun e => h.rp e.symm), keep_row h.dO (fun e => h.rd e.symm), h.rp, h.rd, h.pd, h.br, h.bp, h.bd, h.below.setCell h.br _⟩
theorem Rows3.setP {B n : Nat} {w : World} {r p d : Nat} {rl pl dl : List Int} {wr : World} (h : Rows3 B n w r p d rl pl dl wr) (j : Nat) (x : Int) : Rows3 B n w r p d rl (pl.set j x) dl (wr.setCell ⟨p, j, none⟩ (.int .i64 x)) :=
  ⟨keep_row h.ro h.rp, by rw [List.map_set]; exact (h.po.stored j _).1, keep_row h.dO (fun e => h.pd e.symm), h.rp, h.rd, h.pd, h.br, h.bp, h.bd, h.below.setCell h.bp _⟩
theorem Rows3.setD {B n : Nat} {w : World} {r p d : Nat} {rl pl dl : List Int} {wr : World} (h : Rows3 B n w r p d rl pl dl wr) (j : Nat) (x : Int) : Rows3 B n w r p d rl pl (dl.set j x) (wr.setCell ⟨d, j, none⟩ (.int .i64 x)) :=
  ⟨keep_row h.ro h.rd, keep_row h.po h.pd, by rw [List.map_set]; exact (h.dO.stored j _).1, h.rp, h.rd, h.pd, h.br, h.bp, h.bd, h.below.setCell h.bd _⟩

/-- Two rows. -/
structure Rows2 (B n : Nat) (w : World) (r p : Nat) (rl pl : List Int) (wr : World) : Prop where
  ro : wr.ownsRow B 3 1 (.slice (some ⟨r, 0, none⟩) n n) n (rl.map (Value.int .i64))
  po : wr.ownsRow B 3 1 (.slice (some ⟨p, 0, none⟩) n n) n (pl.map (Value.int .i64))
  rp : r ≠ p
  br : B ≤ r
  bp : B ≤ p
  below : Below B w wr
theorem Rows2.setR {B n : Nat} {w : World} {r p : Nat} {rl pl : List Int} {wr : World} (h : Rows2 B n w r p rl pl wr) (j : Nat) (x : Int) : Rows2 B n w r p (rl.set j x) pl (wr.setCell ⟨r, j, none⟩ (.int .i64 x)) :=
  ⟨by rw [List.map_set]; exact (h.ro.stored j _).1, keep_row h.po (fun e => h.rp e.symm), h.rp, h.br, h.bp, h.below.setCell h.br _⟩
theorem Rows2.setP {B n : Nat} {w : World} {r p : Nat} {rl pl : List Int} {wr : World} (h : Rows2 B n w r p rl pl wr) (j : Nat) (x : Int) : Rows2 B n w r p rl (pl.set j x) (wr.setCell ⟨p, j, none⟩ (.int .i64 x)) :=
  ⟨keep_row h.ro h.rp, by rw [List.map_set]; exact (h.po.stored j _).1, h.rp, h.br, h.bp, h.below.setCell h.bp _⟩

/-- In the first loop: the first k are there, and where each of them is. -/
structure Fill (zs : List Int) (n k : Nat) (rl pl : List Int) : Prop where
  rlen : rl.length = n
  plen : pl.length = n
  r : ∀ i, i < k → rl.getD i 0 = zs.getD i 0
  p : ∀ i, i < k → pl.getD (zs.getD i 0).toNat 0 = i

theorem fill_step {zs rl pl : List Int} {n k : Nat} {x : Nat} (hn : n = zs.length) (hb : isB zs = true) (h : Fill zs n k rl pl) (hk : k < n) (hx : zs.getD k 0 = x) (hxn : x < n) : Fill zs n (k + 1) (rl.set k (x : Int)) (pl.set x (k : Int)) := by
  have hrl := h.rlen
  have hpl := h.plen
  refine ⟨by simp [hrl], by simp [hpl], fun i hi => ?_, fun i hi => ?_⟩
  · rw [getD_set _ _ _ _ (by omega)]
    split
    · rename_i e; subst e; exact hx.symm
    · exact h.r i (by omega)
  · rw [getD_set _ _ _ _ (by omega)]
    by_cases hik : i = k
    · subst hik; rw [hx]; simp
    · have hlt := perm_lt (isB_perm hb) (i := i) (by omega)
      have hne : (zs.getD i 0).toNat ≠ x := by
        intro e
        apply hik
        refine nodup_getD ((isB_perm hb).nodup_iff.2 (nodup_rng _)) (by omega) (by omega) ?_
        rw [hx]; omega
      rw [if_neg hne]
      exact h.p i (by omega)
theorem fill_end {zs rl pl : List Int} {n : Nat} (hn : n = zs.length) (hb : isB zs = true) (h : Fill zs n n rl pl) : Inv2 zs n n rl pl [] := by
  have e : rl = zs := ext_getD (by rw [h.rlen, hn]) fun i hi => h.r i (by rw [h.rlen] at hi; exact hi)
  rw [e]
  exact inv2_start hn hb h.plen h.p

set_option maxHeartbeats 2000000 in
theorem draws_yes (zs : List Int) (n : Nat) (hn : n = zs.length) (a : Option Addr) (c : Nat) (w : World) (h : Rd .i64 w a zs) (hs : n ≤ 1000) (hb : isB zs = true) :
    Calls Try.prog 45 #[.slice a n c] w (DrawsYes w zs) := by
  obtain ⟨i0, hi, hz0, hz1, hz2⟩ := info_parts Try.info3
  have hc := is_any zs n hn a c w h hs
  rw [hb] at hc
  have HC := Lib.hid hc
  have Hn := Lib.hid hn
  have H1 := Lib.hid h
  have HI := Lib.hid hb
  clear hn hc h hb
  go_enter Try.func45, Try.ntmps45
  go_wp2_with fail
  refine HC.out.mono ?_
  rintro e w1 ⟨rfl, hb⟩
  have hs1 := hb.size
  have HB := Lib.hid hb; clear hb
  go_wp2_with (at_make; go_loud (refine wpList_make_full _ rfl _ _ 23 rfl w.heap.size 3 i0 (.int .i64 0) 1 Try.underlying23 hi hz0 hz1 _ _ _ _ n rfl rfl rfl rfl (by rw [hz2]; omega) (by unfold maxLen; omega) hs1 ?_))
  intro w2 hown2 hgrow2
  rw [toList_madeCells_one] at hown2
  have hb2 : Below w.heap.size w w2 := HB.out.grown hgrow2 hs1 (by intro k hk; cases hk)
  have hs2 := hb2.size
  have hlt2 := (hown2.lt w1.heap.size rfl).2
  have HB2 := Lib.hid hb2
  have HO2 := Lib.hid hown2
  clear hown2 hgrow2 hb2 HB
  go_wp2_with (at_make; go_loud (refine wpList_make_full _ rfl _ _ 23 rfl w.heap.size 3 i0 (.int .i64 0) 1 Try.underlying23 hi hz0 hz1 _ _ _ _ n rfl rfl rfl rfl (by rw [hz2]; omega) (by unfold maxLen; omega) hs2 ?_))
  intro w3 hown3 hgrow3
  rw [toList_madeCells_one] at hown3
  have HR : Hid (∃ rl pl, Fill zs n 0 rl pl ∧ Rows2 w.heap.size n w w1.heap.size w2.heap.size rl pl w3) := by
    refine ⟨List.replicate n 0, List.replicate n 0, ⟨by simp, by simp, fun i hi => by omega, fun i hi => by omega⟩, ?_, by rw [List.map_replicate]; exact hown3, by omega, hs1, hs2, HB2.out.grown hgrow3 hs2 (by intro k hk; cases hk)⟩
    rw [List.map_replicate]
    exact HO2.out.kept hgrow3 (.inr (by simp [Value.ownBlock]))
  obtain ⟨r, hr⟩ : ∃ r, r = w1.heap.size := ⟨_, rfl⟩
  obtain ⟨p, hp⟩ : ∃ p, p = w2.heap.size := ⟨_, rfl⟩
  rw [← hr, ← hp] at HR
  rw [← hr, ← hp]
  clear hown3 hgrow3 HO2 HB2 hlt2 hs1 hs2 hr hp HC
  go_wp2
  go_loopw [6, 7, 23] (fun _ _ i wr => ∃ k : Nat, k ≤ n ∧ i = .int .i64 k ∧ Hid (∃ rl pl, Fill zs n k rl pl ∧ Rows2 w.heap.size n w r p rl pl wr)) (fun _ _ i _ => n - (intOf i).toNat)
  case atStart => exact ⟨0, Nat.zero_le _, rfl, HR⟩
  case round =>
    clear HR
    obtain ⟨k, hk, rfl, HR⟩ := hrel
    obtain ⟨rl, pl, hfill, hrows⟩ := HR.out
    have HF := Lib.hid hfill
    have HW := Lib.hid hrows
    clear HR hfill hrows
    by_cases hlt : k < n
    · obtain ⟨b, off, rfl, hc⟩ := (H1.out.below HW.out.below (Nat.le_refl _)).at k (by rw [← Hn.out]; exact hlt)
      have hplt := perm_lt (isB_perm HI.out) (i := k) (by rw [← Hn.out]; exact hlt)
      obtain ⟨x, hx⟩ : ∃ x : Nat, zs.getD k 0 = (x : Int) := ⟨_, (Int.toNat_of_nonneg hplt.1).symm⟩
      rw [hx] at hc hplt
      rw [← Hn.out] at hplt
      have hxn : x < n := by omega
      have Hx := Lib.hid hx
      have cr := own_cell HW.out.ro k hlt
      have fr := HW.out.ro.frozenAt k
      have h2 := HW.out.setR k (x : Int)
      have cp := own_cell h2.po x hxn
      have fp := h2.po.frozenAt x
      have HR' : Hid (∃ rl pl, Fill zs n (k + 1) rl pl ∧ Rows2 w.heap.size n w r p rl pl ((wr.setCell ⟨r, k, none⟩ (.int .i64 x)).setCell ⟨p, x, none⟩ (.int .i64 k))) :=
        ⟨_, _, fill_step Hn.out HI.out HF.out hlt hx hxn, h2.setP x (k : Int)⟩
      obtain ⟨vr, hvr⟩ : ∃ v, v = Value.int .i64 (rl.getD k 0) := ⟨_, rfl⟩
      rw [← hvr] at cr
      obtain ⟨vp, hvp⟩ : ∃ v, v = Value.int .i64 (pl.getD x 0) := ⟨_, rfl⟩
      rw [← hvp] at cp
      clear hx hplt h2 hvr hvp
      go_wp2
      go_roundw
      case rel => exact ⟨k + 1, by omega, by go_num, HR'⟩
      case measure => simp [intOf]; omega
    · obtain rfl : k = n := by omega
      have HV := Lib.hid (fill_end Hn.out HI.out HF.out)
      have hsz := HW.out.below.size
      clear hlt hk HF
      go_wp2_with (at_make; go_loud (refine wpList_make_full _ rfl _ _ 23 rfl w.heap.size 3 i0 (.int .i64 0) 1 Try.underlying23 hi hz0 hz1 _ _ _ _ k rfl rfl rfl rfl (by rw [hz2]; omega) (by unfold maxLen; omega) hsz ?_))
      intro w4 hown4 hgrow4
      rw [toList_madeCells_one] at hown4
      have hlr := (HW.out.ro.lt r rfl).2
      have hlp := (HW.out.po.lt p rfl).2
      have H3 : Hid (∃ rl pl dl E, Inv2 zs k k rl pl E ∧ dl.length = k ∧ dl.drop k = E ∧ Rows3 w.heap.size k w r p wr.heap.size rl pl dl w4) := by
        refine ⟨rl, pl, List.replicate k 0, [], HV.out, by simp, by simp, ?_⟩
        exact ⟨HW.out.ro.kept hgrow4 (.inr (by simp [Value.ownBlock])), HW.out.po.kept hgrow4 (.inr (by simp [Value.ownBlock])), by rw [List.map_replicate]; exact hown4, HW.out.rp, by omega, by omega, HW.out.br, HW.out.bp, hsz, HW.out.below.grown hgrow4 hsz (by intro q hq; cases hq)⟩
      obtain ⟨d, hd⟩ : ∃ d, d = wr.heap.size := ⟨_, rfl⟩
      rw [← hd] at H3
      rw [← hd]
      clear hown4 hgrow4 hlr hlp hsz hd HW HV
      go_wp2
      go_loopw [9, 10, 11] (fun i _ _ wr => ∃ (e : Int) (t : Nat), i = .int .i64 e ∧ e + 1 = t ∧ t ≤ k ∧ Hid (∃ rl pl dl E, Inv2 zs k t rl pl E ∧ dl.length = k ∧ dl.drop t = E ∧ Rows3 w.heap.size k w r p d rl pl dl wr)) (fun i _ _ _ => (intOf i + 1).toNat)
      case atStart => exact ⟨_, k, rfl, by omega, Nat.le_refl _, H3⟩
      case round =>
        clear H3
        obtain ⟨e, t, rfl, het, htk, H3⟩ := hrel
        have Het := Lib.hid het
        by_cases hpos : 0 ≤ e
        · obtain ⟨m, rfl⟩ := Int.eq_ofNat_of_zero_le hpos
          obtain rfl : t = m + 1 := by omega
          obtain ⟨rl, pl, dl, E, hinv, hdl, hdr, hrows⟩ := H3.out
          obtain ⟨j, hj, hpj, hrj⟩ := inv2_at hinv
          obtain ⟨x, hx, hrx⟩ := inv2_val hinv
          have hmn : m < k := by omega
          have cp := own_cell hrows.po m hmn
          rw [hpj] at cp
          have cr := own_cell hrows.ro m hmn
          rw [hrx] at cr
          have cd := own_cell hrows.dO m hmn
          have fd := hrows.dO.frozenAt m
          have h2 := hrows.setD m (j : Int)
          have cr2 := own_cell h2.ro m hmn
          rw [hrx] at cr2
          have crj := own_cell h2.ro j (by omega)
          have frj := h2.ro.frozenAt j
          have h3 := h2.setR j (x : Int)
          have cpx := own_cell h3.po x (by omega)
          have fpx := h3.po.frozenAt x
          have h4 := h3.setP x (j : Int)
          have H4 : Hid (∃ rl pl dl E, Inv2 zs k m rl pl E ∧ dl.length = k ∧ dl.drop m = E ∧ Rows3 w.heap.size k w r p d rl pl dl (((wr.setCell ⟨d, m, none⟩ (.int .i64 j)).setCell ⟨r, j, none⟩ (.int .i64 x)).setCell ⟨p, x, none⟩ (.int .i64 j))) := by
            refine ⟨_, _, _, _, inv2_step hinv hj hpj hrj hx hrx, by simp [hdl], ?_, h4⟩
            rw [List.drop_eq_getElem_cons (by simp; omega), List.getElem_set, if_pos rfl, List.drop_set_of_lt (by omega), hdr]
          obtain ⟨vd, hvd⟩ : ∃ v, v = Value.int .i64 (dl.getD m 0) := ⟨_, rfl⟩
          rw [← hvd] at cd
          obtain ⟨vr, hvr⟩ : ∃ v, v = Value.int .i64 (rl.getD j 0) := ⟨_, rfl⟩
          rw [← hvr] at crj
          obtain ⟨vp, hvp⟩ : ∃ v, v = Value.int .i64 (pl.getD x 0) := ⟨_, rfl⟩
          rw [← hvp] at cpx
          clear het hpos H3 hinv hdl hdr hrows hpj hrj hrx h2 h3 h4 hvd hvr hvp cr
          go_wp2
          go_roundw
          case rel => exact ⟨_, m, rfl, by omega, by omega, H4⟩
          case measure => simp [intOf]
        · obtain rfl : t = 0 := by omega
          obtain ⟨rl, pl, dl, E, hinv, hdl, hdr, hrows⟩ := H3.out
          have hend := inv2_end hinv
          rw [List.drop_zero] at hdr
          subst hdr
          have HE := Lib.hid (And.intro hend hrows)
          clear hinv hdl hrows hend H3 het
          go_wp2
          go_ret2
          refine ⟨_, dl, rfl, ?_, by rw [HE.out.1.1, Hn.out], HE.out.1.2.1, HE.out.1.2.2, HE.out.2.below⟩
          unfold OwnI
          rw [HE.out.1.1]
          exact HE.out.2.dO
end Go.Proofs.Yteffilepolbgbaa
