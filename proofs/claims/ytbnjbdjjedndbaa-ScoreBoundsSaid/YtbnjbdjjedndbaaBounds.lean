/- The statement ScoreBounds without Go: the ranges of the scores. -/
import Derived.Test.YtbnjbdjjedndbaaLBounds
import Derived.Test.YtbnjbdjjedndbaaFracs
namespace Go.Proofs.Ytbnjbdjjedndbaa.B
open Go.RowKit Go.Proofs.YtbnjbdjjedndbaaW.PrintWords Go.Proofs.YtbnjbdjjedndbaaW.PrintLast Go.Proofs.YtbnjbdjjedndbaaW.PrintMore
set_option linter.unusedVariables false

theorem prod20 (x y : Int) (hx : 0 ≤ x ∧ x ≤ 40) (hy : 0 ≤ y ∧ y ≤ 40) : 0 ≤ x * y ∧ x * y ≤ 1600 :=
  ⟨Int.mul_nonneg hx.1 hy.1, by have := Int.mul_le_mul hx.2 hy.2 hy.1 (by omega : (0 : Int) ≤ 40); omega⟩

theorem bounds_j0 (k : Nat) (hk : 10 ≤ k) (l m : List S40) (h a s o : Int) (hh : 0 ≤ h ∧ h ≤ 20) (ha : 0 ≤ a ∧ a ≤ 20) (hs : 0 ≤ s ∧ s ≤ 20) (ho : 0 ≤ o ∧ o ≤ 20)
    (J : synopticlaw38_ScoreBounds.j1 k l m (heiR h a s o).2.2 false h a s o 1 1 (heiR h a s o).1 (heiR h a s o).2.1 = some true) :
    synopticlaw38_ScoreBounds.j0 (k + 1) l m false h a s o = some true := by
  have W1 : wrap64 (h + s) = h + s := wrap_id (by omega) (by omega)
  have W2 : wrap64 (h + a) = h + a := wrap_id (by omega) (by omega)
  have W3 : wrap64 (h + a + s) = h + a + s := wrap_id (by omega) (by omega)
  have D : Frac h (h + s) (detR h a s o) := by unfold detR; rw [W1]; exact frac_of _ _ _ _ _ _ hh ha hs ho (by unfold In60; omega) (by omega)
  have F : Frac a (h + a) (falR h a s o) := by unfold falR; rw [W2]; exact frac_of _ _ _ _ _ _ hh ha hs ho (by unfold In60; omega) (by omega)
  have T : Frac h (h + a + s) (thrR h a s o) := by unfold thrR; rw [W2, W3]; exact frac_of _ _ _ _ _ _ hh ha hs ho (by unfold In60; omega) (by omega)
  simp only [synopticlaw38_ScoreBounds.j0]
  rw [if_neg (by simp)]
  unfold score_Detection.f score_Threat.f score_Heidke.f score_FalseAlarm.f
  refine Eq.trans (Option.bind_some _ _) ?_
  refine Eq.trans (Option.bind_some _ _) ?_
  refine Eq.trans (Option.bind_some _ _) ?_
  refine Eq.trans (Option.bind_some _ _) ?_
  generalize detR h a s o = dx at D ⊢
  generalize falR h a s o = fx at F ⊢
  generalize thrR h a s o = tx at T ⊢
  rcases D with ⟨d0, rfl⟩ | ⟨d0, g, d1, d2, rfl, hg, e1, e2, b1, b2, b3, _⟩
  · dsimp only
    rw [if_neg (by simp)]
    rcases F with ⟨f0, rfl⟩ | ⟨f0, G, f1, f2, rfl, hG, e3, e4, b4, b5, b6, _⟩
    · dsimp only
      rw [if_neg (by simp)]
      rcases T with ⟨t0, rfl⟩ | ⟨t0, H, t1, t2, rfl, hH, e5, e6, b7, b8, b9, _⟩
      · dsimp only
        rw [if_neg (by simp)]
        exact J
      · dsimp only
        rw [if_pos rfl, frac_zero hH e5 ⟨b7, b8⟩ b9 k (by omega)]
        refine Eq.trans (Option.bind_some _ _) ?_
        have c1 := cmp_ge (a := h) (b := 0) (by omega)
        rw [if_neg (by omega)]
        exact J
    · dsimp only
      rw [if_pos rfl, frac_one hG e3 e4 ⟨b4, b5⟩ b6 k (by omega)]
      refine Eq.trans (Option.bind_some _ _) ?_
      have c1 := cmp_le (a := a) (b := h + a) (by omega)
      rw [if_neg (by omega), frac_zero hG e3 ⟨b4, b5⟩ b6 k (by omega)]
      refine Eq.trans (Option.bind_some _ _) ?_
      have c2 := cmp_ge (a := a) (b := 0) (by omega)
      rw [if_neg (by omega)]
      rcases T with ⟨t0, rfl⟩ | ⟨t0, H, t1, t2, rfl, hH, e5, e6, b7, b8, b9, _⟩
      · omega
      · dsimp only
        rw [if_pos rfl, frac_zero hH e5 ⟨b7, b8⟩ b9 k (by omega)]
        refine Eq.trans (Option.bind_some _ _) ?_
        have c3 := cmp_ge (a := h) (b := 0) (by omega)
        rw [if_neg (by omega)]
        exact J
  · dsimp only
    rw [if_pos rfl, frac_one hg e1 e2 ⟨b1, b2⟩ b3 k (by omega)]
    refine Eq.trans (Option.bind_some _ _) ?_
    have c1 := cmp_le (a := h) (b := h + s) (by omega)
    rw [if_neg (by omega), frac_zero hg e1 ⟨b1, b2⟩ b3 k (by omega)]
    refine Eq.trans (Option.bind_some _ _) ?_
    have c2 := cmp_ge (a := h) (b := 0) (by omega)
    rw [if_neg (by omega)]
    rcases T with ⟨t0, rfl⟩ | ⟨t0, H, t1, t2, rfl, hH, e5, e6, b7, b8, b9, _⟩
    · omega
    · dsimp only
      rw [if_pos rfl, frac_two hH e5 e6 ⟨b7, b8⟩ b9 hg e1 e2 ⟨b1, b2⟩ b3 k (by omega)]
      refine Eq.trans (Option.bind_some _ _) ?_
      have c3 : cmpI (h * (h + s)) (h * (h + a + s)) ≤ 0 := cmp_le (Int.mul_le_mul_of_nonneg_left (by omega) hh.1)
      rw [if_neg (by omega)]
      have z := frac_zero hH e5 ⟨b7, b8⟩ b9 k (by omega)
      have c4 := cmp_ge (a := h) (b := 0) (by omega)
      rcases F with ⟨f0, rfl⟩ | ⟨f0, G, f1, f2, rfl, hG, e3, e4, b4, b5, b6, _⟩
      · dsimp only
        rw [if_neg (by simp), z]
        refine Eq.trans (Option.bind_some _ _) ?_
        rw [if_neg (by omega)]
        exact J
      · dsimp only
        rw [if_pos rfl, frac_one hG e3 e4 ⟨b4, b5⟩ b6 k (by omega)]
        refine Eq.trans (Option.bind_some _ _) ?_
        have c5 := cmp_le (a := a) (b := h + a) (by omega)
        rw [if_neg (by omega), frac_zero hG e3 ⟨b4, b5⟩ b6 k (by omega)]
        refine Eq.trans (Option.bind_some _ _) ?_
        have c6 := cmp_ge (a := a) (b := 0) (by omega)
        rw [if_neg (by omega), z]
        refine Eq.trans (Option.bind_some _ _) ?_
        rw [if_neg (by omega)]
        exact J

theorem bounds_j1 (k : Nat) (hk : 10 ≤ k) (l m : List S40) (h a s o : Int) (hh : 0 ≤ h ∧ h ≤ 20) (ha : 0 ≤ a ∧ a ≤ 20) (hs : 0 ≤ s ∧ s ≤ 20) (ho : 0 ≤ o ∧ o ≤ 20)
    (J : synopticlaw38_ScoreBounds.j2 k l m false 1 1 = some true) :
    synopticlaw38_ScoreBounds.j1 (k + 1) l m (heiR h a s o).2.2 false h a s o 1 1 (heiR h a s o).1 (heiR h a s o).2.1 = some true := by
  have p1 := prod20 h o (by omega) (by omega)
  have p2 := prod20 a s (by omega) (by omega)
  have p3 := prod20 (h + s) (s + o) (by omega) (by omega)
  have p4 := prod20 (h + a) (a + o) (by omega) (by omega)
  have q1 := prod20 h s (by omega) (by omega)
  have q2 := prod20 s s (by omega) (by omega)
  have q3 := prod20 s o (by omega) (by omega)
  have q4 := prod20 h a (by omega) (by omega)
  have q5 := prod20 a a (by omega) (by omega)
  have q6 := prod20 a o (by omega) (by omega)
  have x3 : (h + s) * (s + o) = h * s + h * o + s * s + s * o := by rw [Int.add_mul, Int.mul_add, Int.mul_add]; omega
  have x4 : (h + a) * (a + o) = h * a + h * o + a * a + a * o := by rw [Int.add_mul, Int.mul_add, Int.mul_add]; omega
  have W : heiR h a s o = ofR (2 * (h * o - a * s)) ((h + s) * (s + o) + (h + a) * (a + o)) h a s o := by
    unfold heiR
    rw [wrap_id (x := h * o) (by omega) (by omega), wrap_id (x := a * s) (by omega) (by omega), wrap_id (x := h * o - a * s) (by omega) (by omega), wrap_id (x := 2 * (h * o - a * s)) (by omega) (by omega),
      wrap_id (x := h + s) (by omega) (by omega), wrap_id (x := s + o) (by omega) (by omega), wrap_id (x := h + a) (by omega) (by omega), wrap_id (x := a + o) (by omega) (by omega),
      wrap_id (x := (h + s) * (s + o)) (by omega) (by omega), wrap_id (x := (h + a) * (a + o)) (by omega) (by omega), wrap_id (x := (h + s) * (s + o) + (h + a) * (a + o)) (by omega) (by omega)]
  have X : Frac (2 * (h * o - a * s)) ((h + s) * (s + o) + (h + a) * (a + o)) (heiR h a s o) := by
    rw [W]
    exact frac_of _ _ _ _ _ _ hh ha hs ho (by unfold In60; omega) (by omega)
  have sq : (a - s) * (a - s) = a * a - 2 * (a * s) + s * s := by
    rw [Int.sub_mul, Int.mul_sub, Int.mul_sub, Int.mul_comm s a]; omega
  have sq0 : 0 ≤ (a - s) * (a - s) := by
    rcases Int.le_total 0 (a - s) with z | z
    · exact Int.mul_nonneg z z
    · exact Int.mul_nonneg_of_nonpos_of_nonpos z z
  generalize heiR h a s o = x at X ⊢
  simp only [synopticlaw38_ScoreBounds.j1]
  rw [if_neg (by simp)]
  rcases X with ⟨d0, rfl⟩ | ⟨d0, g, n', d', rfl, hg, e1, e2, b1, b2, b3, one⟩
  · dsimp only
    rw [if_neg (by simp)]
    exact J
  · dsimp only
    rw [if_pos rfl, frac_one hg e1 e2 ⟨b1, b2⟩ b3 k (by omega)]
    refine Eq.trans (Option.bind_some _ _) ?_
    have c1 := cmp_le (a := 2 * (h * o - a * s)) (b := (h + s) * (s + o) + (h + a) * (a + o)) (by omega)
    rw [if_neg (by omega), frac_neg hg e1 e2 ⟨b1, b2⟩ b3 k (by omega)]
    refine Eq.trans (Option.bind_some _ _) ?_
    have c2 := cmp_ge (a := 2 * (h * o - a * s)) (b := -((h + s) * (s + o) + (h + a) * (a + o))) (by omega)
    rw [if_neg (by omega)]
    have iff1 : (n' = 1 ∧ d' = 1) ↔ (a = 0 ∧ s = 0) := by
      constructor
      · rintro ⟨rfl, rfl⟩
        have e : h * s + s * s + s * o + h * a + a * a + a * o + 2 * (a * s) = 0 := by omega
        constructor
        · rcases Int.lt_or_le 0 a with z | z
          · have := Int.mul_pos z z; omega
          · omega
        · rcases Int.lt_or_le 0 s with z | z
          · have := Int.mul_pos z z; omega
          · omega
      · rintro ⟨rfl, rfl⟩
        refine one ?_
        simp only [Int.mul_zero, Int.zero_mul, Int.add_zero, Int.zero_add, Int.sub_zero] at *
        omega
    by_cases ca : a = 0
    · rw [if_pos ca]
      by_cases cs : s = 0
      · obtain ⟨u, v⟩ := iff1.2 ⟨ca, cs⟩
        rw [if_neg (by simp [u, v, cs])]
        exact J
      · have : ¬ (n' = 1 ∧ d' = 1) := fun z => cs (iff1.1 z).2
        rw [if_neg (by simp only [bne_iff_ne, ne_eq, Decidable.not_not]; rw [beq_eq_false_iff_ne.2 cs, Bool.eq_false_iff]; simpa using this)]
        exact J
    · rw [if_neg ca]
      have : ¬ (n' = 1 ∧ d' = 1) := fun z => ca (iff1.1 z).1
      rw [if_neg (by simp only [bne_iff_ne, ne_eq, Decidable.not_not]; rw [Bool.eq_false_iff]; simpa using this)]
      exact J

theorem Skill_none (k : Nat) (hk : 2 ≤ k) (n s1 a1 q1 n2 s2 a2 q2 : Int) (h : n < 1 ∨ n2 < 1 ∨ n ≠ n2 ∨ q2 = 0) : score_Skill.f k n s1 a1 q1 n2 s2 a2 q2 = some (0, 0, 9) := by
  obtain ⟨k, rfl⟩ : ∃ m, k = m + 1 := ⟨k - 1, by omega⟩
  unfold score_Skill.f
  have z : score_Skill.j0 (k + 1) true n s1 a1 q1 n2 s2 a2 q2 = some (0, 0, 9) := by simp only [score_Skill.j0]; rfl
  by_cases c1 : n < 1
  · rw [if_pos c1]; exact z
  · rw [if_neg c1]
    by_cases c2 : n2 < 1
    · rw [if_pos c2]; exact z
    · rw [if_neg c2]
      by_cases c3 : n = n2
      · have : q2 = 0 := by omega
        rw [if_pos c3, this]
        subst this
        exact z
      · rw [if_neg c3]; exact z
theorem Skill_some (k : Nat) (n s1 a1 q1 s2 a2 q2 : Int) (hn : 1 ≤ n) (hq1 : 0 ≤ q1 ∧ q1 ≤ 288230376151711744) (hq : 0 < q2) (hq2 : q2 ≤ 288230376151711744) (hk : q2.natAbs + 6 ≤ k) : score_Skill.f k n s1 a1 q1 n s2 a2 q2 = some (red (q2 - q1) q2) := by
  obtain ⟨k, rfl⟩ : ∃ m, k = m + 1 := ⟨k - 1, by omega⟩
  unfold score_Skill.f
  rw [if_neg (by omega), if_neg (by omega), if_pos rfl]
  have hb : (q2 == 0) = false := beq_eq_false_iff_ne.2 (by omega)
  rw [hb]
  simp only [score_Skill.j0]
  rw [if_neg (by simp), within_eq, decide_eq_true (by omega)]
  refine Eq.trans (Option.bind_some _ _) ?_
  rw [if_pos rfl, within_eq, decide_eq_true (by omega)]
  refine Eq.trans (Option.bind_some _ _) ?_
  rw [if_pos rfl, wrap_id (by omega) (by omega), red_f (q2 - q1) q2 k (by omega)]
  rfl

theorem bounds_j2 (k : Nat) (hk : 2000000000000000 ≤ k) (l m : List S40) (hl : l.length ≤ 20) (hm : m.length ≤ 20) (hs : SmallPairs l) (hs' : SmallPairs m) :
    synopticlaw38_ScoreBounds.j2 (k + 1) l m false 1 1 = some true := by
  obtain ⟨n, hn⟩ : ∃ n : Nat, n = min l.length m.length := ⟨_, rfl⟩
  have hmn : mn (l.length : Int) (m.length : Int) = (n : Int) := by
    unfold mn
    by_cases h : (m.length : Int) < (l.length : Int)
    · rw [if_pos h]; omega
    · rw [if_neg h]; omega
  have hf : Fine (l.take n) := fun p hp => (Fine.of_small hs) p (List.mem_of_mem_take hp)
  have hf' : Fine (m.take n) := fun p hp => (Fine.of_small hs') p (List.mem_of_mem_take hp)
  have hlen : (l.take n).length = n := by rw [List.length_take]; omega
  have hlen' : (m.take n).length = n := by rw [List.length_take]; omega
  have hb := sums_bound hf
  have hb' := sums_bound hf'
  rw [hlen] at hb
  rw [hlen'] at hb'
  simp only [synopticlaw38_ScoreBounds.j2]
  rw [if_neg (by simp), hmn, if_pos (by omega), if_pos (by omega), Int.toNat_natCast, Of_ok _ (by omega) hf k (by omega)]
  refine Eq.trans (Option.bind_some _ _) ?_
  rw [if_pos (by omega), Of_ok _ (by omega) hf' k (by omega)]
  refine Eq.trans (Option.bind_some _ _) ?_
  dsimp only
  rw [hlen, hlen']
  by_cases hz : (n : Int) < 1 ∨ sQ (m.take n) = 0
  · rw [Skill_none k (by omega) _ _ _ _ _ _ _ _ (by omega)]
    refine Eq.trans (Option.bind_some _ _) ?_
    dsimp only
    rw [if_pos rfl, if_pos rfl, if_neg (by simp)]
    by_cases h0 : (n : Int) = 0
    · rw [if_pos h0]
    · rw [if_neg h0, if_pos (by omega)]
  · rw [Skill_some k _ _ _ _ _ _ _ (by omega) (by omega) (by omega) (by omega) (by omega)]
    obtain ⟨g, n', d', e, hg, e1, e2, b1, b2, b3, one⟩ := red_pos (sQ (m.take n) - sQ (l.take n)) (sQ (m.take n)) (by unfold In60; omega) (by omega)
    rw [e]
    refine Eq.trans (Option.bind_some _ _) ?_
    dsimp only
    rw [if_pos rfl, if_pos rfl, if_pos rfl, frac_one hg e1 e2 ⟨b1, b2⟩ b3 k (by omega)]
    refine Eq.trans (Option.bind_some _ _) ?_
    have c1 := cmp_le (a := sQ (m.take n) - sQ (l.take n)) (b := sQ (m.take n)) (by omega)
    rw [if_pos c1]
    by_cases h0 : sQ (l.take n) = 0
    · obtain ⟨u, v⟩ := one (by omega)
      simp [u, v, h0]
    · have : ¬ (n' = 1 ∧ d' = 1) := fun z => by
        rw [z.1] at e1; rw [z.2] at e2; omega
      simp only [Option.some.injEq]
      rw [beq_eq_false_iff_ne.2 h0]
      have q : (n' == 1 && d' == 1) = false := by rw [Bool.eq_false_iff]; simpa using this
      rw [q]
      rfl

theorem bounds_pure : synopticlaw38_ScoreBounds.Pure := by
  intro l0 l1 a2 _ _ hw0 _ _ hw1 w2
  have hb0 : Bytes (l0.take 160) := (Bytes.of_wf hw0).take 160
  have hb1 : Bytes (l1.take 160) := (Bytes.of_wf hw1).take 160
  obtain ⟨k, hk⟩ : ∃ k : Nat, 2000000000001000 ≤ k := ⟨2000000000001000, Nat.le_refl _⟩
  refine ⟨k, ?_⟩
  obtain ⟨l, q, hp, hlen, hsm⟩ := pairs_some hb0 k (by omega) 20 (by omega) (by omega)
  obtain ⟨m, q', hp', hlen', hsm'⟩ := pairs_some hb1 k (by omega) 20 (by omega) (by omega)
  have hll : l.length ≤ 20 := hlen
  have hml : m.length ≤ 20 := hlen'
  obtain ⟨h, a, s, o, ht, h0, a0, s0, o0, hsum⟩ := table_any l (by omega) (Fine.of_small hsm) (Int.tmod (wrap64 a2) 10) k (by omega)
  unfold synopticlaw38_ScoreBounds.f
  rw [awake_at k (by omega), new_some l0 160 (by omega), new_some l1 160 (by omega)]
  simp only [Option.bind_some, if_true]
  show (Option.bind (synopticfield_Codes_Pairs.f k (l0.take 160) 0 20) _) = _
  rw [hp]
  refine Eq.trans (Option.bind_some _ _) ?_
  show (Option.bind (synopticfield_Codes_Pairs.f k (l1.take 160) 0 20) _) = _
  rw [hp']
  refine Eq.trans (Option.bind_some _ _) ?_
  dsimp only
  rw [ht]
  refine Eq.trans (Option.bind_some _ _) ?_
  dsimp only
  clear hp hp' ht
  rw [if_pos rfl, wrap_id (x := h + a) (by omega) (by omega), wrap_id (x := h + a + s) (by omega) (by omega), wrap_id (x := h + a + s + o) (by omega) (by omega), hsum, if_neg (by simp)]
  obtain ⟨k, rfl⟩ : ∃ j, k = j + 3 := ⟨k - 3, by omega⟩
  exact bounds_j0 (k + 2) (by omega) l m h a s o (by omega) (by omega) (by omega) (by omega) (bounds_j1 (k + 1) (by omega) l m h a s o (by omega) (by omega) (by omega) (by omega) (bounds_j2 k (by omega) l m hll hml hsm hsm'))
end Go.Proofs.Ytbnjbdjjedndbaa.B
