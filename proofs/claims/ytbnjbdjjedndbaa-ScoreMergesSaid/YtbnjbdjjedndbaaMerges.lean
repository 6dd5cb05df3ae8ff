/- The statement ScoreMerges without Go. -/
import Derived.Test.YtbnjbdjjedndbaaLMerges
import Derived.Test.YtbnjbdjjedndbaaSums
import Derived.Test.YtbnjbdjjedndbaaWide
namespace Go.Proofs.Ytbnjbdjjedndbaa.B
open Go.RowKit Go.Proofs.YtbnjbdjjedndbaaW.PrintWords Go.Proofs.YtbnjbdjjedndbaaW.PrintLast Go.Proofs.YtbnjbdjjedndbaaW.PrintMore

theorem awake_k (k : Nat) (hk : 10 ≤ k) : synopticlaw38_awake.f k = some true := by
  have h : ∀ d, synopticlaw38_awake.f (10 + d) = some true := by
    intro d
    induction d with
    | zero => kernel_rfl
    | succ d ih => exact synopticlaw38_awake.mono (10 + d) _ ih
  obtain ⟨d, rfl⟩ : ∃ d, k = 10 + d := ⟨k - 10, by omega⟩
  exact h d

theorem within_in (x lo hi : Int) (h0 : lo ≤ x) (h1 : x ≤ hi) : score_within.f x lo hi = some true := by
  unfold score_within.f
  rw [if_pos h0, decide_eq_true h1]
theorem added_ok (n s a q : Int) (hn : 0 ≤ n ∧ n ≤ 1000000) (hs : -576460752303423488 ≤ s ∧ s ≤ 576460752303423488) (ha : 0 ≤ a ∧ a ≤ 576460752303423488) (hq : 0 ≤ q ∧ q ≤ 576460752303423488) : score_added.f n s a q = some true := by
  unfold score_added.f
  rw [within_in _ _ _ hn.1 hn.2]
  simp only [Option.bind_some, if_true]
  rw [within_in _ _ _ hs.1 hs.2]
  simp only [Option.bind_some, if_true]
  rw [within_in _ _ _ ha.1 ha.2]
  simp only [Option.bind_some, if_true]
  rw [within_in _ _ _ hq.1 hq.2]
  rfl
theorem merge_ok (n s a q n' s' a' q' : Int) (hn : 0 ≤ n ∧ n ≤ 10000) (hs : -576460752303423488 ≤ s ∧ s ≤ 576460752303423488) (ha : 0 ≤ a ∧ a ≤ 576460752303423488) (hq : 0 ≤ q ∧ q ≤ 576460752303423488)
    (hn' : 0 ≤ n' ∧ n' ≤ 10000) (hs' : -576460752303423488 ≤ s' ∧ s' ≤ 576460752303423488) (ha' : 0 ≤ a' ∧ a' ≤ 576460752303423488) (hq' : 0 ≤ q' ∧ q' ≤ 576460752303423488) :
    score_Merge.f n s a q n' s' a' q' = some (n + n', s + s', a + a', q + q', 0) := by
  unfold score_Merge.f
  rw [added_ok n s a q (by omega) hs ha hq, added_ok n' s' a' q' (by omega) hs' ha' hq']
  simp only [Option.bind_some, if_true]
  rw [wrap_id (x := n + n') (by omega) (by omega), wrap_id (x := s + s') (by omega) (by omega), wrap_id (x := a + a') (by omega) (by omega), wrap_id (x := q + q') (by omega) (by omega), if_neg (by omega)]

theorem Fine.sub {a b : List S40} (h : Fine b) (hs : ∀ p ∈ a, p ∈ b) : Fine a := fun p hp => h p (hs p hp)

theorem merges_pure : synopticlaw38_ScoreMerges.Pure := by
  intro l0 a1 _ _ hw w1
  have ha := bounds_u8 w1
  have hb : Bytes (l0.take 200) := (Bytes.of_wf hw).take 200
  obtain ⟨k, hk⟩ : ∃ k : Nat, 2000 ≤ k := ⟨2000, Nat.le_refl _⟩
  refine ⟨k, ?_⟩
  obtain ⟨l, q, hp, hlen, hsm⟩ := pairs_some hb k (by omega) 30 (by omega) (by omega)
  have hf := Fine.of_small hsm
  have hll : l.length ≤ 30 := hlen
  unfold synopticlaw38_ScoreMerges.f
  rw [awake_k k (by omega), new_some l0 200 (by omega)]
  simp only [Option.bind_some, if_true]
  show (Option.bind (synopticfield_Codes_Pairs.f k (l0.take 200) 0 30) _) = _
  rw [hp]
  refine Eq.trans (Option.bind_some _ _) ?_
  dsimp only
  rw [wrap_id (x := (l.length : Int) + 1) (by omega) (by omega), wrap_id (x := a1) (by omega) (by omega), if_neg (by omega)]
  obtain ⟨j, hj⟩ : ∃ j, Int.tmod a1 ((l.length : Int) + 1) = j := ⟨_, rfl⟩
  have hj0 : 0 ≤ j := by rw [← hj]; exact Int.tmod_nonneg _ ha.1
  have hj1 : j ≤ (l.length : Int) := by have := Int.tmod_lt_of_pos a1 (show 0 < (l.length : Int) + 1 by omega); omega
  rw [hj, if_pos hj0, if_pos hj1]
  obtain ⟨n, rfl⟩ := Int.eq_ofNat_of_zero_le hj0
  rw [Int.toNat_natCast]
  have hft : Fine (l.take n) := hf.sub (fun p hp => List.mem_of_mem_take hp)
  have hfd : Fine (l.drop n) := hf.sub (fun p hp => List.mem_of_mem_drop hp)
  have hlt : (l.take n).length = n := by rw [List.length_take]; omega
  have hld : (l.drop n).length = l.length - n := List.length_drop
  rw [Of_ok _ (by omega) hft k (by omega)]
  refine Eq.trans (Option.bind_some _ _) ?_
  dsimp only
  rw [Of_ok _ (by omega) hfd k (by omega)]
  refine Eq.trans (Option.bind_some _ _) ?_
  dsimp only
  rw [Of_ok l (by omega) hf k (by omega)]
  refine Eq.trans (Option.bind_some _ _) ?_
  dsimp only
  have b1 := sums_bound hft
  have b2 := sums_bound hfd
  have b3 := sums_bound hf
  rw [hlt] at b1 ⊢
  rw [hld] at b2 ⊢
  rw [merge_ok _ _ _ _ _ _ _ _ (by omega) (by omega) (by omega) (by omega) (by omega) (by omega) (by omega) (by omega)]
  refine Eq.trans (Option.bind_some _ _) ?_
  dsimp only
  rw [merge_ok _ _ _ _ _ _ _ _ (by omega) (by omega) (by omega) (by omega) (by omega) (by omega) (by omega) (by omega)]
  refine Eq.trans (Option.bind_some _ _) ?_
  dsimp only
  rw [if_pos rfl, if_pos rfl, if_pos rfl, if_pos rfl, if_pos rfl]
  have hs : sS l = sS (l.take n) + sS (l.drop n) := by rw [← sS_append, List.take_append_drop]
  have hsa : sA l = sA (l.take n) + sA (l.drop n) := by rw [← sA_append, List.take_append_drop]
  have hsq : sQ l = sQ (l.take n) + sQ (l.drop n) := by rw [← sQ_append, List.take_append_drop]
  have t1 : ((l.length : Int) == (n : Int) + ((l.length - n : Nat) : Int) && (sS l == sS (l.take n) + sS (l.drop n) && (sA l == sA (l.take n) + sA (l.drop n) && sQ l == sQ (l.take n) + sQ (l.drop n)))) = true := by
    simp only [Bool.and_eq_true, beq_iff_eq]
    exact ⟨by omega, hs, hsa, hsq⟩
  have t2 : ((n : Int) + ((l.length - n : Nat) : Int) == ((l.length - n : Nat) : Int) + (n : Int) && (sS (l.take n) + sS (l.drop n) == sS (l.drop n) + sS (l.take n) && (sA (l.take n) + sA (l.drop n) == sA (l.drop n) + sA (l.take n) && sQ (l.take n) + sQ (l.drop n) == sQ (l.drop n) + sQ (l.take n)))) = true := by
    simp only [Bool.and_eq_true, beq_iff_eq]
    exact ⟨by omega, by omega, by omega, by omega⟩
  rw [if_pos t1, if_pos t2]
  rw [product_eq _ _ (by omega) (by omega) (by omega) (by omega)]
  refine Eq.trans (Option.bind_some _ _) ?_
  dsimp only
  rw [product_eq _ _ (by omega) (by omega) (by omega) (by omega)]
  refine Eq.trans (Option.bind_some _ _) ?_
  dsimp only
  rw [compare_eq k (by omega)]
  refine Eq.trans (Option.bind_some _ _) ?_
  have hc := cauchy l
  have hcm : cmpI (sS l * sS l) ((l.length : Int) * sQ l) ≤ 0 := by
    unfold cmpI
    split
    · omega
    · rw [if_neg (by omega)]; omega
  rw [if_pos hcm]
  have hab := sS_le_sA l
  have hmx : mx (sS l) (wrap64 (-sS l)) = ((sS l).natAbs : Int) := by
    rw [wrap_id (x := -sS l) (by omega) (by omega)]
    unfold mx
    split <;> omega
  rw [hmx, decide_eq_true (by omega)]
end Go.Proofs.Ytbnjbdjjedndbaa.B
