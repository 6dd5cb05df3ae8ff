/- The statement SamplingErrors without Go: whatever the choices, it answers true. -/
import Derived.Test.YtcgjgpdandjicaaLErrors
import Derived.Test.YtcgjgpdandjicaaOrder
import Derived.Test.YtcgjgpdandjicaaAwk
namespace Go.Proofs.Ytcgjgpdandjicaa.B
open Go.RowKit Go.Proofs.YtcgjgpdandjicaaW.PrintWords Go.Proofs.YtcgjgpdandjicaaW.PrintLast Go.Proofs.YtcgjgpdandjicaaW.PrintMore
open Go.Proofs.Ytcgjgpdandjicaa.Smp
set_option linter.unusedVariables false
set_option linter.unusedSimpArgs false

theorem leO_upE {α β γ δ : Type} {f : Nat → α → β → γ → Option δ} (h : ∀ a b c k, LeO (f k a b c) (f (k + 1) a b c)) (n : Nat) : ∀ (m : Nat), m ≤ n → ∀ {a b c r}, f m a b c = some r → f n a b c = some r := by
  intro m hm a b c r e
  obtain ⟨d, rfl⟩ : ∃ d, n = m + d := ⟨n - m, by omega⟩
  induction d with
  | zero => exact e
  | succ d ih => exact h a b c (m + d) r (ih (by omega))
theorem signs_someE (l : List Int) (h : l.length ≤ 1000) : sampling_Signs.f l = some (signsR l) := by
  unfold sampling_Signs.f
  rw [if_pos (by omega)]
theorem exchange_someE (a b : List Int) (ha : a.length ≤ 1000) (hb : b.length ≤ 1000) : sampling_Exchange.f a b = some (exchR a b) := by
  unfold sampling_Exchange.f
  rw [if_pos (by omega)]
theorem errs_l2 {a b m n : List Int} (ha : a.length ≤ 6) (hb : b.length ≤ 6) (fa : Fine a) (fb : Fine b) (hm : m.Perm a) (hn : n.Perm b) : ∀ (d i : Nat), i + d = a.length → ∃ K, ∀ k, K ≤ k →
    synopticlaw39_SamplingErrors.l2 k a b m n ((a.take i).map (-·)) a (a.length : Int) (i : Int) = some true := by
  intro d
  induction d with
  | zero =>
    intro i hd
    refine ⟨1, fun k hk => ?_⟩
    obtain ⟨k, rfl⟩ : ∃ z, k = z + 1 := ⟨k - 1, by omega⟩
    simp only [synopticlaw39_SamplingErrors.l2]
    rw [if_neg (by omega), List.take_of_length_le (by omega)]
    have hml := hm.length_eq
    have hnl := hn.length_eq
    have fab : Fine (a ++ b) := by
      intro x hx
      rcases List.mem_append.1 hx with h | h
      · exact fa x h
      · exact fb x h
    have z1 := signsR_ok a (by omega) fa
    have z2 := exchR_ok a b (by rw [List.length_append]; omega) fab
    rw [signs_someE a (by omega)]
    refine Eq.trans (Option.bind_some _ _) ?_
    rw [signs_someE m (by omega), signsR_perm hm]
    refine Eq.trans (Option.bind_some _ _) ?_
    rw [signs_someE (a.map (-·)) (by rw [List.length_map]; omega), signsR_neg a fa]
    refine Eq.trans (Option.bind_some _ _) ?_
    rw [exchange_someE a b (by omega) (by omega)]
    refine Eq.trans (Option.bind_some _ _) ?_
    rw [exchange_someE m n (by omega) (by omega), exchR_perm hm hn]
    refine Eq.trans (Option.bind_some _ _) ?_
    rw [if_pos z1, if_pos z1, if_pos z1, if_pos z2, if_pos z2, if_pos (by simp), if_pos (by simp)]
    simp
  | succ d ih =>
    intro i hd
    obtain ⟨K, hK⟩ := ih (i + 1) (by omega)
    refine ⟨K + 1, fun k hk => ?_⟩
    obtain ⟨k, rfl⟩ : ∃ z, k = z + 1 := ⟨k - 1, by omega⟩
    have hw : wrap64 ((i : Int) + 1) = ((i + 1 : Nat) : Int) := by unfold wrap64; omega
    have hx := fa a[i] (List.getElem_mem (by omega))
    have hg : wrap64 (-(rd a (i : Int))) = -a[i] := by rw [rd_nthO a i (by omega)]; exact wrap_self (by omega) (by omega)
    have ht : (a.take i).map (-·) ++ [-a[i]] = (a.take (i + 1)).map (-·) := by
      rw [List.take_succ_eq_append_getElem (by omega), List.map_append]; rfl
    simp only [synopticlaw39_SamplingErrors.l2]
    rw [if_pos (by omega), if_pos (by omega), if_pos (by omega), if_pos (by rw [List.length_map, List.length_take]; omega), hw, hg, ht]
    exact hK k (by omega)
theorem errs_l1 {a b : List Int} {s : List Int} (hs : Bytes s) (m : List Int) (hE : ∀ n, n.Perm b → ∃ K, ∀ k, K ≤ k → synopticlaw39_SamplingErrors.l2 k a b m n ([] : List Int) a (a.length : Int) 0 = some true) :
    ∀ (d : Nat) (n : List Int) (j q : Int), n.Perm b → n.length ≤ 1000 → j ≤ d → j < (n.length : Int) → 0 ≤ q → q + d ≤ 1000000 → ∃ K, ∀ k, K ≤ k → synopticlaw39_SamplingErrors.l1 k a b m n j s q = some true := by
  intro d
  induction d with
  | zero =>
    intro n j q hn hl hj hj2 h0 h1
    obtain ⟨K, hK⟩ := hE n hn
    refine ⟨K + 1, fun k hk => ?_⟩
    obtain ⟨k, rfl⟩ : ∃ z, k = z + 1 := ⟨k - 1, by omega⟩
    simp only [synopticlaw39_SamplingErrors.l1]
    rw [if_neg (by omega)]
    exact hK k (by omega)
  | succ d ih =>
    intro n j q hn hl hj hj2 h0 h1
    by_cases hp : j > 0
    · obtain ⟨r, q2, e, a1, b1, c1, d1⟩ := next_some hs q (wrap64 (j + 1)) h0 (by omega) (by rw [wrap_self (by omega) (by omega)]; omega) (by rw [wrap_self (by omega) (by omega)]; omega)
      rw [wrap_self (x := j + 1) (by omega) (by omega)] at b1
      obtain ⟨K, hK⟩ := ih ((n.set r.toNat (rd n j)).set j.toNat (rd n r)) (j - 1) q2 ((swap_permO n r j a1 (by omega) (by omega) (by omega)).trans hn) (by simp; omega) (by omega) (by simp; omega) (by omega) (by omega)
      refine ⟨K + 1, fun k hk => ?_⟩
      obtain ⟨k, rfl⟩ : ∃ z, k = z + 1 := ⟨k - 1, by omega⟩
      simp only [synopticlaw39_SamplingErrors.l1]
      rw [if_pos hp, e]
      refine Eq.trans (Option.bind_some _ _) ?_
      rw [if_pos (by omega), if_pos hj2, if_pos a1, if_pos (show r < (n.length : Int) by omega), wrap_self (x := j - 1) (by omega) (by omega)]
      exact hK k (by omega)
    · obtain ⟨K, hK⟩ := hE n hn
      refine ⟨K + 1, fun k hk => ?_⟩
      obtain ⟨k, rfl⟩ : ∃ z, k = z + 1 := ⟨k - 1, by omega⟩
      simp only [synopticlaw39_SamplingErrors.l1]
      rw [if_neg hp]
      exact hK k (by omega)
theorem errs_l0 {a b : List Int} {s : List Int} (hs : Bytes s) (n : List Int) (hE : ∀ m q, m.Perm a → 0 ≤ q → q ≤ 10000 → ∃ K, ∀ k, K ≤ k → synopticlaw39_SamplingErrors.l1 k a b m n (wrap64 ((n.length : Int) - 1)) s q = some true) :
    ∀ (d : Nat) (m : List Int) (j q : Int), m.Perm a → m.length ≤ 1000 → j ≤ d → j < (m.length : Int) → 0 ≤ q → q + d ≤ 10000 → ∃ K, ∀ k, K ≤ k → synopticlaw39_SamplingErrors.l0 k a b m n j s q = some true := by
  intro d
  induction d with
  | zero =>
    intro m j q hn hl hj hj2 h0 h1
    obtain ⟨K, hK⟩ := hE m q hn h0 (by omega)
    refine ⟨K + 1, fun k hk => ?_⟩
    obtain ⟨k, rfl⟩ : ∃ z, k = z + 1 := ⟨k - 1, by omega⟩
    simp only [synopticlaw39_SamplingErrors.l0]
    rw [if_neg (by omega)]
    exact hK k (by omega)
  | succ d ih =>
    intro m j q hn hl hj hj2 h0 h1
    by_cases hp : j > 0
    · obtain ⟨r, q2, e, a1, b1, c1, d1⟩ := next_some hs q (wrap64 (j + 1)) h0 (by omega) (by rw [wrap_self (by omega) (by omega)]; omega) (by rw [wrap_self (by omega) (by omega)]; omega)
      rw [wrap_self (x := j + 1) (by omega) (by omega)] at b1
      obtain ⟨K, hK⟩ := ih ((m.set r.toNat (rd m j)).set j.toNat (rd m r)) (j - 1) q2 ((swap_permO m r j a1 (by omega) (by omega) (by omega)).trans hn) (by simp; omega) (by omega) (by simp; omega) (by omega) (by omega)
      refine ⟨K + 1, fun k hk => ?_⟩
      obtain ⟨k, rfl⟩ : ∃ z, k = z + 1 := ⟨k - 1, by omega⟩
      simp only [synopticlaw39_SamplingErrors.l0]
      rw [if_pos hp, e]
      refine Eq.trans (Option.bind_some _ _) ?_
      rw [if_pos (by omega), if_pos hj2, if_pos a1, if_pos (show r < (m.length : Int) by omega), wrap_self (x := j - 1) (by omega) (by omega)]
      exact hK k (by omega)
    · obtain ⟨K, hK⟩ := hE m q hn h0 (by omega)
      refine ⟨K + 1, fun k hk => ?_⟩
      obtain ⟨k, rfl⟩ : ∃ z, k = z + 1 := ⟨k - 1, by omega⟩
      simp only [synopticlaw39_SamplingErrors.l0]
      rw [if_neg hp]
      exact hK k (by omega)
theorem errors_pure : synopticlaw39_SamplingErrors.Pure := by
  intro s o _ hs hb _ ho ob
  obtain ⟨c, e1, hc⟩ := new_some s (bytes_of hb) (by omega) 80 (by omega)
  obtain ⟨p, e2, hp⟩ := new_some o (bytes_of ob) (by omega) 20 (by omega)
  obtain ⟨a, q, e3, fa, ha, hq0, hq1⟩ := sample_some hc 1000 (by omega) 0 5 (by omega) (by omega) (by omega)
  obtain ⟨b, q2, e4, fb, hb2, _, _⟩ := sample_some hc 1000 (by omega) q 5 (by omega) (by omega) (by omega)
  have hwa : wrap64 ((a.length : Int) - 1) = (a.length : Int) - 1 := wrap_self (by omega) (by omega)
  have hwb : wrap64 ((b.length : Int) - 1) = (b.length : Int) - 1 := wrap_self (by omega) (by omega)
  obtain ⟨K, hK⟩ := errs_l0 (a := a) (b := b) hp b (fun m q hm h0 h1 => by
    rw [hwb]
    exact errs_l1 hp m (fun n hn => by
      have h := errs_l2 (a := a) (b := b) (by omega) (by omega) fa fb hm hn a.length 0 (by omega)
      exact h) b.length b ((b.length : Int) - 1) q (.refl _) (by omega) (by omega) (by omega) h0 (by omega)) a.length a ((a.length : Int) - 1) 0 (.refl _) (by omega) (by omega) (by omega) (by omega) (by omega)
  refine ⟨K + 1000, ?_⟩
  have e3' := leO_upE synopticlaw39_sample.mono (K + 1000) 1000 (by omega) e3
  have e4' := leO_upE synopticlaw39_sample.mono (K + 1000) 1000 (by omega) e4
  unfold synopticlaw39_SamplingErrors.f
  rw [awake_true]
  refine Eq.trans (Option.bind_some _ _) ?_
  rw [if_pos rfl, e1]
  refine Eq.trans (Option.bind_some _ _) ?_
  rw [e3']
  refine Eq.trans (Option.bind_some _ _) ?_
  rw [e4']
  refine Eq.trans (Option.bind_some _ _) ?_
  rw [e2]
  refine Eq.trans (Option.bind_some _ _) ?_
  rw [if_pos (by simp; omega)]
  refine Eq.trans (Option.bind_some _ _) ?_
  rw [if_pos (by simp; omega)]
  rw [List.nil_append, List.nil_append, hwa]
  exact hK (K + 1000) (by omega)
end Go.Proofs.Ytcgjgpdandjicaa.B
