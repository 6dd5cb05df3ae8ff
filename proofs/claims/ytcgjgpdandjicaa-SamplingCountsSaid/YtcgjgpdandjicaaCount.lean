/- The statement SamplingCounts without Go: it answers true for all numbers, levels, samples and codes. -/
import Derived.Test.YtcgjgpdandjicaaLCounts
import Derived.Test.YtcgjgpdandjicaaRefm
import Derived.Test.YtcgjgpdandjicaaAwk
import Derived.Test.YtcgjgpdandjicaaSamp
namespace Go.Proofs.Ytcgjgpdandjicaa.B
open Go.RowKit Go.Proofs.YtcgjgpdandjicaaW.PrintWords Go.Proofs.YtcgjgpdandjicaaW.PrintLast Go.Proofs.YtcgjgpdandjicaaW.PrintMore
open Go.Proofs.Ytcgjgpdandjicaa.Smp
set_option linter.unusedVariables false
set_option linter.unusedSimpArgs false
theorem median_one (l : List Int) (a b : Int) (h : l.length ≤ 1000) : sampling_Median.f l a b = some (medR l a b) := by
  unfold sampling_Median.f
  rw [if_pos (by omega)]
theorem sample_more {k n : Nat} (h : k ≤ n) {a : List Int} {b c : Int} {r : List Int × Int} (e : synopticlaw39_sample.f k a b c = some r) : synopticlaw39_sample.f n a b c = some r := by
  obtain ⟨d, rfl⟩ : ∃ d, n = k + d := ⟨n - k, by omega⟩
  induction d with
  | zero => exact e
  | succ d ih => exact synopticlaw39_sample.mono _ _ _ (k + d) r (ih (by omega))
theorem mod_any (a d : Int) (hd : 1 ≤ d) : ∃ v, synopticfield_Mod.f a d = some v := by
  unfold synopticfield_Mod.f
  rw [if_neg (by omega), if_neg (by omega)]
  split
  · exact ⟨_, rfl⟩
  · exact ⟨_, rfl⟩
theorem level_any (a : Int) : ∃ p, ∃ K, ∀ k, K ≤ k → synopticlaw39_level.f k a = some p := by
  obtain ⟨v, hv⟩ := mod_any a 101 (by decide)
  obtain ⟨K, hK⟩ := refred_some v 100
  refine ⟨((red v 100).1, (red v 100).2.1), K, fun k hk => ?_⟩
  unfold synopticlaw39_level.f
  rw [hv]
  refine Eq.trans (Option.bind_some _ _) ?_
  rw [hK k hk]
  exact Option.bind_some _ _
theorem counts_l2 (x1 : Int) (x3 : List Int) (x52 : List S51) (x53 x54 : Int) (x114 : List S31) (x115 x116 : Int) (Y : List (List Int)) (hY : ∀ j : Nat, j < Y.length → (rd_L4 Y (j : Int)).length ≤ 1000) (hYl : Y.length ≤ 1000) (f0 f1 : Int) (c : List Int) (at_ n m a b : Int) (r : Option Bool)
    (hC : ∃ K, ∀ k, K ≤ k → synopticlaw39_SamplingCounts.l1 k x1 x3 x52 x53 x54 x114 x115 (wrap64 (x116 + 1)) f0 f1 c at_ n m = r) : ∀ (d i : Nat), i + d = Y.length →
    ∃ K, ∀ k, K ≤ k → synopticlaw39_SamplingCounts.l2 k x1 x3 x52 x53 x54 x114 x115 x116 Y (Y.length : Int) (i : Int) f0 f1 c at_ n m a b = r := by
  intro d
  induction d with
  | zero =>
    intro i hd
    obtain ⟨K, hK⟩ := hC
    refine ⟨K + 1, fun k hk => ?_⟩
    obtain ⟨k, rfl⟩ : ∃ q, k = q + 1 := ⟨k - 1, by omega⟩
    simp only [synopticlaw39_SamplingCounts.l2]
    rw [if_neg (by omega)]
    exact hK k (by omega)
  | succ d ih =>
    intro i hd
    obtain ⟨K0, h0⟩ := ih (i + 1) (by omega)
    have hl := hY i (by omega)
    obtain ⟨K1, h1⟩ := rmed_some (rd_L4 Y (i : Int)) (by omega) a b
    refine ⟨K0 + K1 + 1, fun k hk => ?_⟩
    obtain ⟨k, rfl⟩ : ∃ q, k = q + 1 := ⟨k - 1, by omega⟩
    have h0k := h0 k (by omega)
    have h1k := h1 k (by omega)
    have q1 : (i : Int) < (Y.length : Int) := by omega
    have q2 : (0 : Int) ≤ (i : Int) := by omega
    have hw := nat_wrap i (by omega)
    conv => lhs; rw [synopticlaw39_SamplingCounts.l2]
    rw [if_pos q1, if_pos q2, if_pos q1, median_one _ a b hl]
    refine Eq.trans (Option.bind_some _ _) ?_
    rw [h1k]
    refine Eq.trans (Option.bind_some _ _) ?_
    rw [if_pos rfl, if_pos rfl, if_pos rfl, hw]
    exact h0k
theorem counts_l1 (x1 : Int) (x3 : List Int) (hx3 : x3.length ≤ 1000) (x52 : List S51) (x53 x54 : Int) (L : List S31) (hL : L.length ≤ 1000) (f0 f1 : Int) (c : List Int) (hc : Bytes c) (n m B : Int) (hB : B ≤ 900000)
    (hC : ∀ at_, 0 ≤ at_ → at_ ≤ B → ∃ K, ∀ k, K ≤ k → synopticlaw39_SamplingCounts.l0 k x1 x3 x52 x53 (wrap64 (x54 + 1)) f0 f1 c at_ = some true) : ∀ (d i : Nat) (at_ : Int), i + d = L.length → 0 ≤ at_ → at_ + 400 * (d : Int) ≤ B →
    ∃ K, ∀ k, K ≤ k → synopticlaw39_SamplingCounts.l1 k x1 x3 x52 x53 x54 L (L.length : Int) (i : Int) f0 f1 c at_ n m = some true := by
  intro d
  induction d with
  | zero =>
    intro i at_ hd h0 hb
    obtain ⟨K, hK⟩ := hC at_ h0 (by omega)
    refine ⟨K + 1, fun k hk => ?_⟩
    obtain ⟨k, rfl⟩ : ∃ q, k = q + 1 := ⟨k - 1, by omega⟩
    simp only [synopticlaw39_SamplingCounts.l1]
    rw [if_neg (by omega)]
    exact hK k (by omega)
  | succ d ih =>
    intro i at_ hd h0 hb
    obtain ⟨s, q, hs, hf, hsl, hq0, hq1⟩ := sample_some hc 1000 (by omega) at_ 20 h0 (by omega) (by omega)
    have hw := nat_wrap i (by omega)
    obtain ⟨K0, hK0⟩ := ih (i + 1) q (by omega) hq0 (by omega)
    obtain ⟨K1, h1⟩ := ranks_some n (rd_T31 L (i : Int)).f0 (rd_T31 L (i : Int)).f1
    obtain ⟨K2, h2⟩ := rranks_some n (rd_T31 L (i : Int)).f0 (rd_T31 L (i : Int)).f1
    obtain ⟨K3, h3⟩ := counts_l2 x1 x3 x52 x53 x54 L (L.length : Int) (i : Int) [x3, s] (fun j hj => by
      match j, hj with
      | 0, _ => exact hx3
      | 1, _ => exact show s.length ≤ 1000 by omega) (by simp) f0 f1 c q n m (rd_T31 L (i : Int)).f0 (rd_T31 L (i : Int)).f1 (some true) ⟨K0, fun k hk => by rw [hw]; exact hK0 k hk⟩ 2 0 rfl
    refine ⟨K1 + K2 + K3 + 1002, fun k hk => ?_⟩
    obtain ⟨k, rfl⟩ : ∃ q, k = q + 1 + 1 := ⟨k - 2, by omega⟩
    have h1k := h1 (k + 1) (by omega)
    have h2k := h2 (k + 1) (by omega)
    have h3k := h3 k (by omega)
    have hsk := sample_more (show 1000 ≤ k by omega) hs
    have q1 : (i : Int) < (L.length : Int) := by omega
    have q2 : (0 : Int) ≤ (i : Int) := by omega
    clear h1 h2 h3 hw hK0 ih
    conv => lhs; rw [synopticlaw39_SamplingCounts.l1]
    rw [if_pos q1, if_pos q2, if_pos q1, h1k]
    refine Eq.trans (Option.bind_some _ _) ?_
    rw [h2k]
    refine Eq.trans (Option.bind_some _ _) ?_
    rw [if_pos rfl, if_neg (by simp), synopticlaw39_SamplingCounts.j3, if_neg (by decide), hsk]
    refine Eq.trans (Option.bind_some _ _) (Eq.trans (Option.bind_some _ _) ?_)
    exact h3k
theorem counts_l0 (x1 : Int) (x3 : List Int) (hx3 : x3.length ≤ 1000) (R : List S51) (hR : R.length ≤ 100) (f0 f1 : Int) (c : List Int) (hc : Bytes c) : ∀ (d i : Nat) (at_ : Int), i + d = R.length → 0 ≤ at_ → at_ + 2000 * (d : Int) ≤ 900000 →
    ∃ K, ∀ k, K ≤ k → synopticlaw39_SamplingCounts.l0 k x1 x3 R (R.length : Int) (i : Int) f0 f1 c at_ = some true := by
  intro d
  induction d with
  | zero =>
    intro i at_ hd h0 hb
    refine ⟨1, fun k hk => ?_⟩
    obtain ⟨k, rfl⟩ : ∃ q, k = q + 1 := ⟨k - 1, by omega⟩
    simp only [synopticlaw39_SamplingCounts.l0]
    rw [if_neg (by omega)]
  | succ d ih =>
    intro i at_ hd h0 hb
    have hw := nat_wrap i (by omega)
    obtain ⟨p, K5, h5⟩ := level_any x1
    obtain ⟨K1, h1⟩ := choose_some (rd_T51 R (i : Int)).f0 (rd_T51 R (i : Int)).f1
    obtain ⟨K2, h2⟩ := rchoose_some (rd_T51 R (i : Int)).f0 (rd_T51 R (i : Int)).f1
    obtain ⟨K3, h3⟩ := tail_some (rd_T51 R (i : Int)).f0 (rd_T51 R (i : Int)).f1
    obtain ⟨K4, h4⟩ := rtail_some (rd_T51 R (i : Int)).f0 (rd_T51 R (i : Int)).f1
    obtain ⟨K6, h6⟩ := counts_l1 x1 x3 hx3 R (R.length : Int) (i : Int) [(⟨f0, f1⟩ : S31), (⟨p.1, p.2⟩ : S31), (⟨2, 4⟩ : S31), (⟨1, 1⟩ : S31), (⟨0, 1⟩ : S31)] (by simp) f0 f1 c hc (rd_T51 R (i : Int)).f0 (rd_T51 R (i : Int)).f1 (at_ + 2000) (by omega)
      (fun q hq0 hq1 => by rw [hw]; exact ih (i + 1) q (by omega) hq0 (by omega)) 5 0 at_ rfl h0 (by omega)
    refine ⟨K1 + K2 + K3 + K4 + K5 + K6 + 2, fun k hk => ?_⟩
    obtain ⟨k, rfl⟩ : ∃ q, k = q + 1 + 1 := ⟨k - 2, by omega⟩
    have h1k := h1 (k + 1) (by omega)
    have h2k := h2 (k + 1) (by omega)
    have h3k := h3 (k + 1) (by omega)
    have h4k := h4 (k + 1) (by omega)
    have h5k := h5 k (by omega)
    have h6k := h6 k (by omega)
    have q1 : (i : Int) < (R.length : Int) := by omega
    have q2 : (0 : Int) ≤ (i : Int) := by omega
    clear h1 h2 h3 h4 h5 h6 hw ih
    conv => lhs; rw [synopticlaw39_SamplingCounts.l0]
    rw [if_pos q1, if_pos q2, if_pos q1, h1k]
    refine Eq.trans (Option.bind_some _ _) ?_
    rw [h2k]
    refine Eq.trans (Option.bind_some _ _) ?_
    rw [h3k]
    refine Eq.trans (Option.bind_some _ _) ?_
    rw [h4k]
    refine Eq.trans (Option.bind_some _ _) ?_
    rw [if_pos rfl, if_pos rfl, if_neg (by simp), if_neg (by simp), synopticlaw39_SamplingCounts.j1, if_neg (by decide), h5k]
    refine Eq.trans (Option.bind_some _ _) (Eq.trans (Option.bind_some _ _) ?_)
    exact h6k
theorem counts_pure (n m a b : Int) (raw s : List Int) (hs : s.length ≤ 140737488351232) (hy : ∀ x ∈ s, (Lit.int .u8 x).wf = true) : ∃ k, synopticlaw39_SamplingCounts.f k n m a b raw s = some true := by
  unfold synopticlaw39_SamplingCounts.f
  rw [awake_true]
  by_cases hr : (raw.length : Int) > 70
  · refine ⟨0, ?_⟩
    refine Eq.trans (Option.bind_some _ _) ?_
    rw [if_pos rfl, if_pos hr]
  · obtain ⟨c, e1, hc⟩ := new_some s (bytes_of hy) hs 120 (by omega)
    obtain ⟨v1, g1⟩ := mod_any n 63 (by decide)
    obtain ⟨v2, g2⟩ := mod_any m 40 (by decide)
    obtain ⟨K, hK⟩ := counts_l0 m raw (by omega) [(⟨n, m⟩ : S51), (⟨v1, wrap64 (v2 - 2)⟩ : S51)] (by simp) a b c hc 2 0 0 rfl (by omega) (by omega)
    refine ⟨K, ?_⟩
    refine Eq.trans (Option.bind_some _ _) ?_
    rw [if_pos rfl, if_neg hr, e1]
    refine Eq.trans (Option.bind_some _ _) ?_
    rw [g1]
    refine Eq.trans (Option.bind_some _ _) ?_
    rw [g2]
    refine Eq.trans (Option.bind_some _ _) (Eq.trans (Option.bind_some _ _) ?_)
    exact hK K (Nat.le_refl _)
end Go.Proofs.Ytcgjgpdandjicaa.B
