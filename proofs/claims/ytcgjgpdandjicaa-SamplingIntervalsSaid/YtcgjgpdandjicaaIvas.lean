/- Facts on ranks and on the ascending sample: what the statement SamplingIntervals asks. -/
import Derived.Test.YtcgjgpdandjicaaMedA
import Derived.Test.YtcgjgpdandjicaaBL
import Derived.Test.YtcgjgpdandjicaaBJ
import Derived.Test.YtcgjgpdandjicaaAwk
namespace Go.Proofs.Ytcgjgpdandjicaa.B
open Go.RowKit Go.Proofs.YtcgjgpdandjicaaW.PrintWords Go.Proofs.YtcgjgpdandjicaaW.PrintLast Go.Proofs.YtcgjgpdandjicaaW.PrintMore
open Go.Proofs.Ytcgjgpdandjicaa.Smp
set_option linter.unusedVariables false
set_option linter.unusedSimpArgs false
theorem asc_le (l : List Int) (i j : Nat) (h : i ≤ j) (hj : j < l.length) : rd (asc l) (i : Int) ≤ rd (asc l) (j : Int) := by
  have hl := asc_length l
  have hp := asc_sorted l
  have e1 : rd (asc l) (i : Int) = (asc l)[i] := rd_nat _ _ (by omega)
  have e2 : rd (asc l) (j : Int) = (asc l)[j] := rd_nat _ _ (by omega)
  rw [e1, e2]
  by_cases e : i = j
  · subst e; exact Int.le_refl _
  · exact of_decide_eq_true (List.pairwise_iff_getElem.1 hp i j (by omega) (by omega) (by omega))
theorem asc_mem (l : List Int) (i : Nat) (h : i < l.length) : rd (asc l) (i : Int) ∈ l := by
  have hl := asc_length l
  rw [rd_nat _ _ (show i < (asc l).length by omega)]
  exact (List.mergeSort_perm l _).mem_iff.1 (List.getElem_mem _)
theorem in_l0 (l : List Int) (hl : l.length ≤ 1000) (x : Int) : ∀ (d k i : Nat), i + d = l.length → d < k → x ∈ l.drop i → synopticlaw39_in.l0 k x l (l.length : Int) (i : Int) = some true := by
  intro d
  induction d with
  | zero =>
    intro k i hd hk hx
    rw [List.drop_of_length_le (by omega)] at hx
    cases hx
  | succ d ih =>
    intro k i hd hk hx
    obtain ⟨k, rfl⟩ : ∃ m, k = m + 1 := ⟨k - 1, by omega⟩
    have hi : i < l.length := by omega
    have hw : wrap64 ((i : Int) + 1) = ((i + 1 : Nat) : Int) := by unfold wrap64; omega
    simp only [synopticlaw39_in.l0]
    rw [if_pos (by omega), if_pos (by omega), if_pos (by omega), rd_nat l i hi, hw]
    by_cases e : x = l[i]
    · rw [if_pos e]
    · rw [if_neg e]
      rw [List.drop_eq_getElem_cons hi] at hx
      rcases List.mem_cons.1 hx with h | h
      · exact absurd h e
      · exact ih k (i + 1) (by omega) (by omega) h
theorem in_true (l : List Int) (hl : l.length ≤ 1000) (x : Int) (hx : x ∈ l) (k : Nat) (hk : 1001 ≤ k) : synopticlaw39_in.f k l x = some true := by
  unfold synopticlaw39_in.f
  exact in_l0 l hl x l.length k 0 (by omega) (by omega) hx
theorem bin_pos : ∀ (n k : Nat), k ≤ n → 1 ≤ bin n k
  | n, 0, _ => by rw [bin_zero]; exact Nat.le_refl _
  | 0, k + 1, h => by omega
  | n + 1, k + 1, h => by
    have := bin_pos n k (by omega)
    rw [bin]; omega
theorem rk_half (n : Nat) (a b : Int) (hb : 1 ≤ b) (ha : 0 ≤ a) (h1 : 1 ≤ rk n a b) : 2 * rk n a b ≤ n + 1 := by
  have hr := rk_le n a b hb ha
  have hs := (small_rk n a b hb (rk n a b - 1) (by omega)).2 (by omega)
  unfold smallB at hs
  rw [decide_eq_true_eq, show rk n a b - 1 + 1 = rk n a b by omega] at hs
  generalize rk n a b = r at h1 hr hs ⊢
  rcases Nat.lt_or_ge (n + 1) (2 * r) with h | h
  · exfalso
    have hb2 := tsum_both n r (n + 1 - r) (by omega)
    have hm := tsum_mono n (show n + 1 - r + 1 ≤ r by omega)
    have hp := bin_pos n (n + 1 - r) (by omega)
    have e : tsum n (n + 1 - r + 1) = tsum n (n + 1 - r) + bin n (n + 1 - r) := rfl
    have hlt : 2 ^ n < 2 * tsum n r := by omega
    have hM : (b - a) * ((2 ^ n : Nat) : Int) ≤ b * ((2 ^ n : Nat) : Int) := Int.mul_le_mul_of_nonneg_right (by omega) (Int.natCast_nonneg _)
    have hT : b * ((2 ^ n : Nat) : Int) < b * (2 * (tsum n r : Int)) := Int.mul_lt_mul_of_pos_left (by omega) (by omega)
    have e2 : (tsum n r : Int) * (2 * b) = b * (2 * (tsum n r : Int)) := by rw [Int.mul_comm, Int.mul_comm 2 b, Int.mul_assoc]
    rw [e2] at hs
    generalize b * (2 * (tsum n r : Int)) = X at hs hT
    generalize b * ((2 ^ n : Nat) : Int) = Y at hM hT
    generalize (b - a) * ((2 ^ n : Nat) : Int) = Z at hs hM
    clear hlt hm hb2 e hp e2
    omega
  · exact h
/-- A greater level has no greater rank. -/
theorem rk_anti (n : Nat) (a b c d : Int) (hb : 1 ≤ b) (hd : 1 ≤ d) (h : a * d ≤ c * b) : rk n c d ≤ rk n a b := by
  unfold rk
  refine List.countP_mono_left fun j _ hj => ?_
  unfold smallB at hj ⊢
  rw [decide_eq_true_eq] at hj ⊢
  generalize (tsum n (j + 1) : Int) = T at hj ⊢
  have hM : (0 : Int) ≤ ((2 ^ n : Nat) : Int) := Int.natCast_nonneg _
  generalize ((2 ^ n : Nat) : Int) = M at hj hM ⊢
  -- T * 2d ≤ (d - c) M; so d T 2b ≤ b (d - c) M ≤ d (b - a) M
  have h1 : b * (T * (2 * d)) ≤ b * ((d - c) * M) := Int.mul_le_mul_of_nonneg_left hj (by omega)
  have h2 : b * (d - c) ≤ d * (b - a) := by
    rw [Int.mul_sub, Int.mul_sub, Int.mul_comm b d, Int.mul_comm b c, Int.mul_comm d a]
    omega
  have h3 : b * (d - c) * M ≤ d * (b - a) * M := Int.mul_le_mul_of_nonneg_right h2 hM
  have e1 : b * (T * (2 * d)) = d * (T * (2 * b)) := by
    rw [Int.mul_left_comm b T, Int.mul_left_comm d T, Int.mul_left_comm b 2 d, Int.mul_left_comm d 2 b, Int.mul_comm b d]
  have e2 : b * ((d - c) * M) = b * (d - c) * M := (Int.mul_assoc ..).symm
  have e3 : d * ((b - a) * M) = d * (b - a) * M := (Int.mul_assoc ..).symm
  refine Int.le_of_mul_le_mul_left (a := d) ?_ (by omega)
  rw [e3, ← e1]
  rw [e2] at h1
  exact Int.le_trans h1 h3
/-- The levels of the statement. -/
def lev (m : Nat) : Int × Int := ((red (m : Int) 100).1, (red (m : Int) 100).2.1)
def levB (m : Nat) : Bool := reducedB (lev m).1 (lev m).2
theorem lev_all : ∀ m : Fin 101, levB m.1 = true := by decide +kernel
theorem level_lev (k : Nat) (a : Int) (ha : 0 ≤ a ∧ a ≤ 255) : ∃ m : Nat, m ≤ 100 ∧ ∃ K, ∀ k, K ≤ k → synopticlaw39_level.f k a = some (lev m) := by
  obtain ⟨m, hm⟩ : ∃ m : Nat, Int.tmod a 101 = (m : Int) := ⟨(Int.tmod a 101).toNat, by rw [Int.tmod_eq_emod_of_nonneg ha.1]; omega⟩
  have hm2 : m ≤ 100 := by
    rw [Int.tmod_eq_emod_of_nonneg ha.1] at hm
    omega
  obtain ⟨K, hK⟩ := refred_some (m : Int) 100
  refine ⟨m, hm2, K, fun k hk => ?_⟩
  unfold synopticlaw39_level.f synopticfield_Mod.f
  rw [if_neg (by decide), if_neg (by decide), hm, if_neg (by omega)]
  refine Eq.trans (Option.bind_some _ _) ?_
  rw [hK k hk]
  rfl
/-- What the tails of the statement add up to. -/
theorem tail_frac (m : Nat) (hm : m ≤ 50) (k : Int) (T : Nat) (hT : tailN (m : Int) k = T) (M : Nat) (hM : 2 ^ m = M) : ∃ g x y : Int, tailR (m : Int) k = (x, y, 0) ∧ 0 < g ∧ (tsum m T : Int) = g * x ∧ (M : Int) = g * y ∧ 1 ≤ y := by
  subst hT hM
  have h2 := two_pow_le hm
  have h3 := tsum_le m (tailN (m : Int) k)
  obtain ⟨g, x, y, hr, hg, hx, hy, hy1, _⟩ := red_pos (tsum m (tailN (m : Int) k) : Int) ((2 ^ m : Nat) : Int) (by unfold In60; omega) (by omega)
  refine ⟨g, x, y, ?_, hg, hx, hy, hy1⟩
  unfold tailR
  rw [if_pos (by omega)]
  exact hr
theorem red_one (M : Int) (h1 : 1 ≤ M) (h2 : M ≤ 1125899906842624) : red M M = (1, 1, 0) := by
  obtain ⟨g, x, y, hr, hg, hx, hy, hy1, hy2, hx2, h⟩ := red_pos M M (by unfold In60; omega) (by omega)
  obtain ⟨rfl, rfl⟩ := h rfl
  exact hr
theorem part_back (g x y M T : Int) (hg : 0 < g) (hx : T = g * x) (hy : M = g * y) (hy1 : 1 ≤ y) (hM : M ≤ 1125899906842624) (hM1 : 1 ≤ M) (h0 : 0 ≤ T) (h1 : T ≤ M) : wrap64 (x * wrap64 (Int.tdiv M y)) = T := by
  have e : Int.tdiv M y = g := by rw [hy]; exact Int.mul_tdiv_cancel g (by omega)
  have hgM : g ≤ g * y := by
    have := Int.mul_le_mul_of_nonneg_left hy1 (show 0 ≤ g by omega)
    rw [Int.mul_one] at this
    exact this
  rw [← hy] at hgM
  rw [e, wrap_id (x := g) (Int.le_trans (by decide) (Int.le_of_lt hg)) (Int.le_trans hgM (Int.le_trans hM (by decide))), Int.mul_comm, ← hx]
  exact wrap_id (Int.le_trans (by decide) h0) (Int.le_trans h1 (Int.le_trans hM (by decide)))
end Go.Proofs.Ytcgjgpdandjicaa.B
