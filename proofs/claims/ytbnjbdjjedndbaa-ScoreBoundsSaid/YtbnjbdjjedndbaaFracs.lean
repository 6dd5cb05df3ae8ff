/- The statement ScoreBounds without Go: the exact comparison of fractions, the table's sum, the ranges of the scores. -/
import Derived.Test.YtbnjbdjjedndbaaBY
import Derived.Test.YtbnjbdjjedndbaaBT
import Derived.Test.YtbnjbdjjedndbaaScores
import Derived.Test.YtbnjbdjjedndbaaWide
import Derived.Test.YtbnjbdjjedndbaaSums
import Derived.Test.YtbnjbdjjedndbaaRed
namespace Go.Proofs.Ytbnjbdjjedndbaa.B
open Go.RowKit Go.Proofs.YtbnjbdjjedndbaaW.PrintWords Go.Proofs.YtbnjbdjjedndbaaW.PrintLast Go.Proofs.YtbnjbdjjedndbaaW.PrintMore
set_option linter.unusedVariables false
set_option linter.unusedSimpArgs false

theorem awake_at (k : Nat) (hk : 10 ≤ k) : synopticlaw38_awake.f k = some true := by
  have h : ∀ d, synopticlaw38_awake.f (10 + d) = some true := by
    intro d
    induction d with
    | zero => kernel_rfl
    | succ d ih => exact synopticlaw38_awake.mono (10 + d) _ ih
  obtain ⟨d, rfl⟩ : ∃ d, k = 10 + d := ⟨k - 10, by omega⟩
  exact h d

theorem red_f (a b : Int) (k : Nat) (hk : b.natAbs + 5 ≤ k) : score_Reduce.f k a b = some (red a b) := by
  obtain ⟨k, rfl⟩ : ∃ m, k = m + 1 := ⟨k - 1, by omega⟩
  unfold score_Reduce.f red
  simp only [within_eq, Option.bind_some, score_Reduce.j0]
  by_cases h0 : b = 0
  · simp [h0]
  · rw [if_neg h0]
    by_cases h1 : -1152921504606846976 ≤ a ∧ a ≤ 1152921504606846976
    · rw [decide_eq_true h1]
      by_cases h2 : -1152921504606846976 ≤ b ∧ b ≤ 1152921504606846976
      · rw [decide_eq_true h2, if_neg (c := b = 0 ∨ _) (by omega)]
        simp only [if_true, Bool.not_true]
        rw [if_neg (by simp)]
        by_cases h3 : b < 0
        · rw [if_pos h3, if_pos h3, wrap_small (x := -a) (by omega) (by omega), wrap_small (x := -b) (by omega) (by omega), j1_some k (-a) (-b) (by omega) (by omega) (by omega)]
          rw [Int.neg_gcd, Int.gcd_neg]
        · rw [if_neg h3, if_neg h3, j1_some k a b h1 (by omega) (by omega)]
      · rw [decide_eq_false h2, if_pos (c := b = 0 ∨ _) (by omega)]
        simp
    · rw [decide_eq_false h1, if_pos (c := b = 0 ∨ _) (by omega)]
      simp

/-- A whole number in the range that the fractions keep. -/
def In60 (x : Int) : Prop := -1152921504606846976 ≤ x ∧ x ≤ 1152921504606846976
theorem cmp_words (k : Nat) (hk : 3 ≤ k) (P Q : Int) : ((cmp_Compare_uint64.f (P / 18446744073709551616) (Q / 18446744073709551616)).bind fun t192 => ((cmp_Compare_uint64.f (P % 18446744073709551616) (Q % 18446744073709551616)).bind fun t193 => (cmp_Or_int.f k [t192, t193]).bind fun t => some t)) = some (cmpI P Q) := by
  have h := compare_eq k hk P Q
  unfold precision_Compare.f at h
  rw [cmp_int, cmp_u64] at h
  rw [cmp_u64, cmp_u64]
  exact h
theorem sign_eq (a : Int) : score_sign.f a = some (cmpI a 0) := by
  unfold score_sign.f
  rw [cmp_int]
  rfl
theorem abs_word (a : Int) (ha : In60 a) : IntKind.u64.wrap (mx a (wrap64 (-a))) = (a.natAbs : Int) := by
  obtain ⟨h0, h1⟩ := ha
  rw [wrap_id (by omega) (by omega), u64_wrap]
  unfold mx
  by_cases h : a < -a
  · rw [if_pos h]; omega
  · rw [if_neg h]; omega
theorem mul_word (x y : Int) (hx : 0 ≤ x ∧ x ≤ 1152921504606846976) (hy : 0 ≤ y ∧ y ≤ 1152921504606846976) : bits_Mul64.f x y = some ((x * y) / 18446744073709551616, (x * y) % 18446744073709551616) :=
  mul64_eq x y hx.1 (by omega) hy.1 (by omega)
/-- Compare answers by the cross products. -/
theorem compare_frac (k : Nat) (hk : 4 ≤ k) (a b c d : Int) (ha : In60 a) (hb : 1 ≤ b ∧ b ≤ 1152921504606846976) (hc : In60 c) (hd : 1 ≤ d ∧ d ≤ 1152921504606846976) :
    score_Compare.f k a b c d = some (cmpI (a * d) (c * b)) := by
  obtain ⟨k, rfl⟩ : ∃ m, k = m + 1 := ⟨k - 1, by omega⟩
  have pos : ∀ x y : Int, 0 < x → 1 ≤ y → 0 < x * y := fun x y h1 h2 => Int.mul_pos h1 (by omega)
  have neg : ∀ x y : Int, x < 0 → 1 ≤ y → x * y < 0 := fun x y h1 h2 => Int.mul_neg_of_neg_of_pos h1 (by omega)
  have key : ∀ s : Int, wrap64 (s * cmpI ((a.natAbs : Int) * d) ((c.natAbs : Int) * b)) = s * cmpI ((a.natAbs : Int) * d) ((c.natAbs : Int) * b) ∨ ¬ (s = 1 ∨ s = -1) := by
    intro s
    by_cases hs : s = 1 ∨ s = -1
    · refine .inl ?_
      unfold cmpI
      rcases hs with rfl | rfl <;> (repeat' split) <;> exact wrap_id (by decide) (by decide)
    · exact .inr hs
  unfold score_Compare.f
  rw [sign_eq, sign_eq]
  refine Eq.trans (Option.bind_some _ _) ?_
  refine Eq.trans (Option.bind_some _ _) ?_
  simp only [score_Compare.j0]
  rw [abs_word a ha, abs_word c hc, show IntKind.u64.wrap d = d from by rw [u64_wrap]; omega, show IntKind.u64.wrap b = b from by rw [u64_wrap]; omega, mul_word _ d (by unfold In60 at ha; omega) (by omega), mul_word _ b (by unfold In60 at hc; omega) (by omega)]
  have cw := cmp_words k (by omega) ((a.natAbs : Int) * d) ((c.natAbs : Int) * b)
  simp only [Option.bind_some]
  rw [cmp_int]
  simp only [cmp_u64, Option.bind_some] at cw ⊢
  rw [or_two k (by omega)] at cw ⊢
  simp only [Option.bind_some, Option.some.injEq] at cw ⊢
  rw [cw]
  rcases Int.lt_trichotomy a 0 with h1 | h1 | h1
  · have s1 : cmpI a 0 = -1 := by unfold cmpI; rw [if_pos h1]
    have e1 : (a.natAbs : Int) * d = -(a * d) := by rw [show (a.natAbs : Int) = -a from by omega, Int.neg_mul]
    have n1 := neg a d h1 hd.1
    rcases Int.lt_trichotomy c 0 with h2 | h2 | h2
    · have s2 : cmpI c 0 = -1 := by unfold cmpI; rw [if_pos h2]
      have e2 : (c.natAbs : Int) * b = -(c * b) := by rw [show (c.natAbs : Int) = -c from by omega, Int.neg_mul]
      rw [s1, s2, if_pos rfl, if_neg (by simp), (key (-1)).resolve_right (by simp), e1, e2]
      unfold cmpI
      congr 1
      repeat' split
      all_goals omega
    · subst h2
      have s2 : cmpI 0 0 = 0 := rfl
      rw [s1, s2, if_neg (by simp), if_pos trivial, Int.zero_mul]
      unfold cmpI
      rw [if_pos n1]
      rfl
    · have s2 : cmpI c 0 = 1 := by unfold cmpI; rw [if_neg (by omega), if_pos h2]
      have n2 := pos c b h2 hb.1
      rw [s1, s2, if_neg (by simp), if_pos trivial]
      unfold cmpI
      rw [if_pos (by omega), if_pos (by omega)]
  · subst h1
    have s1 : cmpI 0 0 = 0 := rfl
    rcases Int.lt_trichotomy c 0 with h2 | h2 | h2
    · have s2 : cmpI c 0 = -1 := by unfold cmpI; rw [if_pos h2]
      have n2 := neg c b h2 hb.1
      rw [s1, s2, if_neg (by simp), if_pos trivial, Int.zero_mul]
      unfold cmpI
      rw [if_neg (by omega), if_pos (by omega), if_neg (by omega), if_pos (by omega)]
    · subst h2
      rw [s1, if_pos rfl, if_pos (by simp), Int.zero_mul, Int.zero_mul]
    · have s2 : cmpI c 0 = 1 := by unfold cmpI; rw [if_neg (by omega), if_pos h2]
      have n2 := pos c b h2 hb.1
      rw [s1, s2, if_neg (by simp), if_pos trivial, Int.zero_mul]
      unfold cmpI
      rw [if_pos (by omega), if_pos (by omega)]
  · have s1 : cmpI a 0 = 1 := by unfold cmpI; rw [if_neg (by omega), if_pos h1]
    have e1 : (a.natAbs : Int) * d = a * d := by rw [show (a.natAbs : Int) = a from by omega]
    have n1 := pos a d h1 hd.1
    rcases Int.lt_trichotomy c 0 with h2 | h2 | h2
    · have s2 : cmpI c 0 = -1 := by unfold cmpI; rw [if_pos h2]
      have n2 := neg c b h2 hb.1
      rw [s1, s2, if_neg (by simp), if_pos trivial]
      unfold cmpI
      rw [if_neg (by omega), if_pos (by omega), if_neg (by omega), if_pos (by omega)]
    · subst h2
      have s2 : cmpI 0 0 = 0 := rfl
      rw [s1, s2, if_neg (by simp), if_pos trivial, Int.zero_mul]
      unfold cmpI
      rw [if_neg (by omega), if_pos (by omega), if_neg (by omega), if_pos (by omega)]
    · have s2 : cmpI c 0 = 1 := by unfold cmpI; rw [if_neg (by omega), if_pos h2]
      have e2 : (c.natAbs : Int) * b = c * b := by rw [show (c.natAbs : Int) = c from by omega]
      rw [s1, s2, if_pos rfl, if_neg (by simp), (key 1).resolve_right (by simp), e1, e2, Int.one_mul]

/-- A reduced fraction with a positive denominator. -/
theorem red_pos (n d : Int) (hn : In60 n) (hd : 1 ≤ d ∧ d ≤ 1152921504606846976) :
    ∃ g n' d' : Int, red n d = (n', d', 0) ∧ 0 < g ∧ n = g * n' ∧ d = g * d' ∧ 1 ≤ d' ∧ d' ≤ 1152921504606846976 ∧ In60 n' ∧ (n = d → n' = 1 ∧ d' = 1) := by
  unfold In60 at hn ⊢
  have hg : 0 < Int.gcd n d := Int.gcd_pos_of_ne_zero_right n (by omega)
  obtain ⟨x, hx⟩ := Int.gcd_dvd_left (a := n) (b := d)
  obtain ⟨y, hy⟩ := Int.gcd_dvd_right (a := n) (b := d)
  have hr : red n d = (n.tdiv (Int.gcd n d), d.tdiv (Int.gcd n d), 0) := by
    unfold red
    rw [if_neg (by omega), if_neg (by omega)]
  have h1 : n.tdiv (Int.gcd n d) = x := by
    conv => lhs; arg 1; rw [hx]
    exact Int.mul_tdiv_cancel_left _ (by omega)
  have h2 : d.tdiv (Int.gcd n d) = y := by
    conv => lhs; arg 1; rw [hy]
    exact Int.mul_tdiv_cancel_left _ (by omega)
  rw [h1, h2] at hr
  generalize hG : (Int.gcd n d : Int) = g at hx hy hg
  have hg' : 0 < g := by omega
  have hy0 : 1 ≤ y := by
    rcases Int.lt_or_le 0 y with h | h
    · omega
    · have := Int.mul_nonpos_of_nonneg_of_nonpos (by omega : (0 : Int) ≤ g) h; omega
  have hy1 : y ≤ d := by
    have := Int.mul_le_mul_of_nonneg_right (by omega : (1 : Int) ≤ g) (by omega : (0 : Int) ≤ y); omega
  have hx1 : -1152921504606846976 ≤ x ∧ x ≤ 1152921504606846976 := by
    rcases Int.lt_or_le x 0 with h | h
    · have := Int.mul_le_mul_of_nonpos_right (by omega : (1 : Int) ≤ g) (by omega : x ≤ 0); omega
    · have := Int.mul_le_mul_of_nonneg_right (by omega : (1 : Int) ≤ g) h; omega
  refine ⟨g, x, y, hr, hg', hx, hy, hy0, by omega, hx1, fun e => ?_⟩
  have hgd : g = d := by
    rw [← hG, e, Int.gcd_self]; omega
  have : g * x = g * 1 := by rw [← hx, Int.mul_one]; omega
  have ex := Int.eq_of_mul_eq_mul_left (by omega) this
  have : g * y = g * 1 := by rw [← hy, Int.mul_one]; omega
  exact ⟨ex, Int.eq_of_mul_eq_mul_left (by omega) this⟩
/-- Of cross products the common factors fall out. -/
theorem cmp_mul {g : Int} (hg : 0 < g) (a b : Int) : cmpI (g * a) (g * b) = cmpI a b := by
  unfold cmpI
  have h1 : g * a < g * b ↔ a < b := ⟨fun h => Int.lt_of_mul_lt_mul_left h (by omega), fun h => Int.mul_lt_mul_of_pos_left h hg⟩
  have h2 : g * a > g * b ↔ a > b := ⟨fun h => Int.lt_of_mul_lt_mul_left h (by omega), fun h => Int.mul_lt_mul_of_pos_left h hg⟩
  simp only [h1, h2]
theorem cmp_le {a b : Int} (h : a ≤ b) : cmpI a b ≤ 0 := by unfold cmpI; rw [if_neg (c := a > b) (by omega)]; split <;> omega
theorem cmp_ge {a b : Int} (h : b ≤ a) : 0 ≤ cmpI a b := by unfold cmpI; rw [if_neg (c := a < b) (by omega)]; split <;> omega

/-- The table of any fine pairs: the four counts add up. -/
theorem table_add (l : List S40) (hl : l.length ≤ 10000) (t : Int) : ∀ (d k i : Nat) (h a m o : Int), i + d = l.length → 2 * d + 1 < k → 0 ≤ h → 0 ≤ a → 0 ≤ m → 0 ≤ o → h + a + m + o = i →
    ∃ h' a' m' o', score_Table.l0 k t l (l.length : Int) (i : Int) h a m o = some (h', a', m', o', 0) ∧ 0 ≤ h' ∧ 0 ≤ a' ∧ 0 ≤ m' ∧ 0 ≤ o' ∧ h' + a' + m' + o' = l.length := by
  intro d
  induction d with
  | zero =>
    intro k i h a m o hd hk h0 a0 m0 o0 hs
    obtain ⟨k, rfl⟩ : ∃ m, k = m + 1 := ⟨k - 1, by omega⟩
    simp only [score_Table.l0]
    rw [if_neg (by omega)]
    exact ⟨_, _, _, _, rfl, h0, a0, m0, o0, by omega⟩
  | succ d ih =>
    intro k i h a m o hd hk h0 a0 m0 o0 hs
    obtain ⟨k, rfl⟩ : ∃ m, k = m + 2 := ⟨k - 2, by omega⟩
    have hw : wrap64 ((i : Int) + 1) = ((i + 1 : Nat) : Int) := by rw [wrap_id (by omega) (by omega)]; omega
    have st : ∀ x10 x11 x36 : Bool, ∃ h' a' m' o', score_Table.j1 (k + 1) t x10 x11 l (l.length : Int) (i : Int) x36 h a m o = some (h', a', m', o', 0) ∧ 0 ≤ h' ∧ 0 ≤ a' ∧ 0 ≤ m' ∧ 0 ≤ o' ∧ h' + a' + m' + o' = l.length := by
      intro x10 x11 x36
      simp only [score_Table.j1]
      rw [hw, wrap_id (x := h + 1) (by omega) (by omega), wrap_id (x := a + 1) (by omega) (by omega), wrap_id (x := m + 1) (by omega) (by omega), wrap_id (x := o + 1) (by omega) (by omega)]
      by_cases c1 : x36 = true
      · rw [if_pos c1]
        exact ih k (i + 1) (h + 1) a m o (by omega) (by omega) (by omega) (by omega) (by omega) (by omega) (by omega)
      · rw [if_neg c1]
        by_cases c2 : x10 = true
        · rw [if_pos c2]
          exact ih k (i + 1) h (a + 1) m o (by omega) (by omega) (by omega) (by omega) (by omega) (by omega) (by omega)
        · rw [if_neg c2]
          by_cases c3 : x11 = true
          · rw [if_pos c3]
            exact ih k (i + 1) h a (m + 1) o (by omega) (by omega) (by omega) (by omega) (by omega) (by omega) (by omega)
          · rw [if_neg c3]
            exact ih k (i + 1) h a m (o + 1) (by omega) (by omega) (by omega) (by omega) (by omega) (by omega) (by omega)
    simp only [score_Table.l0]
    rw [if_pos (by omega), if_pos (by omega), if_pos (by omega)]
    by_cases hc : (rd_T40 l (i : Int)).f0 ≥ t
    · rw [if_pos hc]; exact st _ _ _
    · rw [if_neg hc]; exact st _ _ _
theorem table_any (l : List S40) (hl : l.length ≤ 10000) (hf : Fine l) (t : Int) (k : Nat) (hk : 20010 < k) : ∃ h a m o, score_Table.f k l t = some (h, a, m, o, 0) ∧ 0 ≤ h ∧ 0 ≤ a ∧ 0 ≤ m ∧ 0 ≤ o ∧ h + a + m + o = l.length := by
  unfold score_Table.f
  rw [check_ok l hl hf k (by omega)]
  obtain ⟨h, a, m, o, e, q⟩ := table_add l hl t l.length k 0 0 0 0 0 (by omega) (by omega) (by omega) (by omega) (by omega) (by omega) (by omega)
  refine ⟨h, a, m, o, ?_, q⟩
  refine Eq.trans (Option.bind_some _ _) ?_
  rw [if_pos rfl]
  exact e

/-- A fraction and the error: of a denominator zero none, else the reduced one. -/
def Frac (n d : Int) (x : Int × Int × Int) : Prop :=
  (d = 0 ∧ x = (0, 0, 9)) ∨ (1 ≤ d ∧ ∃ g n' d' : Int, x = (n', d', 0) ∧ 0 < g ∧ n = g * n' ∧ d = g * d' ∧ 1 ≤ d' ∧ d' ≤ 1152921504606846976 ∧ In60 n' ∧ (n = d → n' = 1 ∧ d' = 1))
theorem frac_of (n d h a m o : Int) (hh : 0 ≤ h ∧ h ≤ 20) (ha : 0 ≤ a ∧ a ≤ 20) (hm : 0 ≤ m ∧ m ≤ 20) (ho : 0 ≤ o ∧ o ≤ 20) (hn : In60 n) (hd : 0 ≤ d ∧ d ≤ 1152921504606846976) : Frac n d (ofR n d h a m o) := by
  rw [ofR_all n d h a m o (by unfold inr; exact decide_eq_true (by omega)) (by unfold inr; exact decide_eq_true (by omega)) (by unfold inr; exact decide_eq_true (by omega)) (by unfold inr; exact decide_eq_true (by omega))]
  by_cases h0 : d = 0
  · exact .inl ⟨h0, scR_zero h0⟩
  · obtain ⟨g, n', d', e, q⟩ := red_pos n d hn (by omega)
    exact .inr ⟨by omega, g, n', d', by rw [scR_some h0, e], q⟩
theorem one60 : In60 1 := by unfold In60; omega
theorem frac_one {g n d n' d' : Int} (hg : 0 < g) (hn : n = g * n') (hd : d = g * d') (h1 : 1 ≤ d' ∧ d' ≤ 1152921504606846976) (h2 : In60 n') (k : Nat) (hk : 4 ≤ k) : score_Compare.f k n' d' 1 1 = some (cmpI n d) := by
  rw [compare_frac k hk n' d' 1 1 h2 h1 one60 (by omega), Int.mul_one, Int.one_mul, hn, hd, cmp_mul hg]
theorem frac_zero {g n n' d' : Int} (hg : 0 < g) (hn : n = g * n') (h1 : 1 ≤ d' ∧ d' ≤ 1152921504606846976) (h2 : In60 n') (k : Nat) (hk : 4 ≤ k) : score_Compare.f k n' d' 0 1 = some (cmpI n 0) := by
  have e := cmp_mul hg n' 0
  rw [compare_frac k hk n' d' 0 1 h2 h1 (by unfold In60; omega) (by omega), Int.mul_one, Int.zero_mul, hn, ← e, Int.mul_zero]
theorem frac_neg {g n d n' d' : Int} (hg : 0 < g) (hn : n = g * n') (hd : d = g * d') (h1 : 1 ≤ d' ∧ d' ≤ 1152921504606846976) (h2 : In60 n') (k : Nat) (hk : 4 ≤ k) : score_Compare.f k n' d' (-1) 1 = some (cmpI n (-d)) := by
  have e := cmp_mul hg n' (-d')
  rw [compare_frac k hk n' d' (-1) 1 h2 h1 (by unfold In60; omega) (by omega), Int.mul_one, Int.neg_mul, Int.one_mul, hn, hd, ← e, Int.mul_neg]
theorem frac_two {g n d n' d' G N D N' D' : Int} (hg : 0 < g) (hn : n = g * n') (hd : d = g * d') (h1 : 1 ≤ d' ∧ d' ≤ 1152921504606846976) (h2 : In60 n') (hG : 0 < G) (hN : N = G * N') (hD : D = G * D') (H1 : 1 ≤ D' ∧ D' ≤ 1152921504606846976) (H2 : In60 N') (k : Nat) (hk : 4 ≤ k) :
    score_Compare.f k n' d' N' D' = some (cmpI (n * D) (N * d)) := by
  have e := cmp_mul (g := g * G) (Int.mul_pos hg hG) (n' * D') (N' * d')
  rw [compare_frac k hk n' d' N' D' h2 h1 H2 H1, ← e, hn, hd, hN, hD]
  congr 2
  · rw [Int.mul_assoc, Int.mul_assoc, Int.mul_left_comm G]
  · rw [Int.mul_assoc, Int.mul_left_comm g, Int.mul_assoc, Int.mul_left_comm N']
end Go.Proofs.Ytbnjbdjjedndbaa.B
