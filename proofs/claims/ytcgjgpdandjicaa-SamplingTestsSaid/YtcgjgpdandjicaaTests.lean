/- The statement SamplingTests without Go: whatever the samples, it answers true. -/
import Derived.Test.YtcgjgpdandjicaaLTests
import Derived.Test.YtcgjgpdandjicaaRefx
namespace Go.Proofs.Ytcgjgpdandjicaa.B
open Go.RowKit Go.Proofs.YtcgjgpdandjicaaW.PrintWords Go.Proofs.YtcgjgpdandjicaaW.PrintLast Go.Proofs.YtcgjgpdandjicaaW.PrintMore
open Go.Proofs.Ytcgjgpdandjicaa.Smp
set_option linter.unusedVariables false
set_option linter.unusedSimpArgs false

theorem leO_up {α β γ δ : Type} {f : Nat → α → β → γ → Option δ} (h : ∀ a b c k, LeO (f k a b c) (f (k + 1) a b c)) (n : Nat) : ∀ (m : Nat), m ≤ n → ∀ {a b c r}, f m a b c = some r → f n a b c = some r := by
  intro m hm a b c r e
  obtain ⟨d, rfl⟩ : ∃ d, n = m + d := ⟨n - m, by omega⟩
  induction d with
  | zero => exact e
  | succ d ih => exact h a b c (m + d) r (ih (by omega))
theorem signs_some (l : List Int) (h : l.length ≤ 1000) : sampling_Signs.f l = some (signsR l) := by
  unfold sampling_Signs.f
  rw [if_pos (by omega)]
theorem exchange_some (a b : List Int) (ha : a.length ≤ 1000) (hb : b.length ≤ 1000) : sampling_Exchange.f a b = some (exchR a b) := by
  unfold sampling_Exchange.f
  rw [if_pos (by omega)]
theorem tests_l0 (R : List S37) (hR : R.length ≤ 1000) (hs : ∀ j : Nat, j < R.length → (rd_T37 R (j : Int)).f0.length ≤ 1000 ∧ (rd_T37 R (j : Int)).f1.length ≤ 1000) : ∀ (d i : Nat), i + d = R.length → ∃ K, ∀ k, K ≤ k → synopticlaw39_SamplingTests.l0 k R (R.length : Int) (i : Int) = some true := by
  intro d
  induction d with
  | zero =>
    intro i hd
    refine ⟨1, fun k hk => ?_⟩
    obtain ⟨k, rfl⟩ : ∃ m, k = m + 1 := ⟨k - 1, by omega⟩
    simp only [synopticlaw39_SamplingTests.l0]
    rw [if_neg (by omega)]
  | succ d ih =>
    intro i hd
    obtain ⟨K0, h0⟩ := ih (i + 1) (by omega)
    obtain ⟨ha, hb⟩ := hs i (by omega)
    obtain ⟨K1, h1⟩ := rsign_some (rd_T37 R (i : Int)).f0 (by omega)
    obtain ⟨K2, h2⟩ := rexch_some (rd_T37 R (i : Int)).f0 (rd_T37 R (i : Int)).f1 ha hb
    refine ⟨K0 + K1 + K2 + 1, fun k hk => ?_⟩
    obtain ⟨k, rfl⟩ : ∃ m, k = m + 1 := ⟨k - 1, by omega⟩
    have hw : wrap64 ((i : Int) + 1) = ((i + 1 : Nat) : Int) := by unfold wrap64; omega
    conv => lhs; rw [synopticlaw39_SamplingTests.l0]
    rw [if_pos (by omega), if_pos (by omega), if_pos (by omega), signs_some _ ha]
    refine Eq.trans (Option.bind_some _ _) ?_
    rw [h1 k (by omega)]
    refine Eq.trans (Option.bind_some _ _) ?_
    rw [exchange_some _ _ ha hb]
    refine Eq.trans (Option.bind_some _ _) ?_
    rw [h2 k (by omega)]
    refine Eq.trans (Option.bind_some _ _) ?_
    rw [if_pos rfl, if_neg (by simp), if_pos rfl, if_neg (by simp), hw]
    exact h0 k (by omega)
theorem tests_pure : synopticlaw39_SamplingTests.Pure := by
  intro a b s _ _ _ _ _ _ _ hs hy
  obtain ⟨c, e1, hc⟩ := new_some s (bytes_of hy) (by omega) 60 (by omega)
  unfold synopticlaw39_SamplingTests.f
  rw [awake_true]
  by_cases ha : (a.length : Int) > 20
  · refine ⟨1, ?_⟩
    refine Eq.trans (Option.bind_some _ _) ?_
    rw [if_pos rfl, if_pos ha]
    simp only [synopticlaw39_SamplingTests.j0, if_true]
  · by_cases hb : (b.length : Int) > 20
    · refine ⟨1, ?_⟩
      refine Eq.trans (Option.bind_some _ _) ?_
      rw [if_pos rfl, if_neg ha, decide_eq_true hb]
      simp only [synopticlaw39_SamplingTests.j0, if_true]
    · obtain ⟨x, q, e2, _, hx, hq0, hq1⟩ := sample_some hc 1000 (by omega) 0 6 (by omega) (by omega) (by omega)
      obtain ⟨y, q2, e3, _, hyl, _, _⟩ := sample_some hc 1000 (by omega) q 5 (by omega) (by omega) (by omega)
      obtain ⟨K, hK⟩ := tests_l0 [(⟨a, b⟩ : S37), (⟨x, y⟩ : S37), (⟨x, ([] : List Int)⟩ : S37), (⟨([] : List Int), y⟩ : S37)] (by simp) (by
        intro j hj
        match j, hj with
        | 0, _ => exact ⟨show a.length ≤ 1000 by omega, show b.length ≤ 1000 by omega⟩
        | 1, _ => exact ⟨show x.length ≤ 1000 by omega, show y.length ≤ 1000 by omega⟩
        | 2, _ => exact ⟨show x.length ≤ 1000 by omega, show ([] : List Int).length ≤ 1000 by simp⟩
        | 3, _ => exact ⟨show ([] : List Int).length ≤ 1000 by simp, show y.length ≤ 1000 by omega⟩) 4 0 rfl
      refine ⟨K + 1001, ?_⟩
      refine Eq.trans (Option.bind_some _ _) ?_
      
      
      have e2' := leO_up synopticlaw39_sample.mono (K + 1000) 1000 (by omega) e2
      have e3' := leO_up synopticlaw39_sample.mono (K + 1000) 1000 (by omega) e3
      rw [if_pos rfl, if_neg ha, decide_eq_false hb, synopticlaw39_SamplingTests.j0, if_neg (by simp), e1]
      refine Eq.trans (Option.bind_some _ _) ?_
      rw [e2']
      refine Eq.trans (Option.bind_some _ _) ?_
      rw [e3']
      refine Eq.trans (Option.bind_some _ _) (Eq.trans (Option.bind_some _ _) ?_)
      exact hK (K + 1000) (by omega)
end Go.Proofs.Ytcgjgpdandjicaa.B
