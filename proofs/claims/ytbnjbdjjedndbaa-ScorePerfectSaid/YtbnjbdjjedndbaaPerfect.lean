/- The statement ScorePerfect without Go. -/
import Derived.Test.YtbnjbdjjedndbaaLPerfect
import Derived.Test.YtbnjbdjjedndbaaSums
import Derived.Test.YtbnjbdjjedndbaaRed
namespace Go.Proofs.Ytbnjbdjjedndbaa.B
open Go.RowKit Go.Proofs.YtbnjbdjjedndbaaW.PrintWords Go.Proofs.YtbnjbdjjedndbaaW.PrintLast Go.Proofs.YtbnjbdjjedndbaaW.PrintMore
set_option linter.unusedVariables false
set_option linter.unusedSimpArgs false

theorem awake_le (k : Nat) (hk : 10 ≤ k) : synopticlaw38_awake.f k = some true := by
  have h : ∀ d, synopticlaw38_awake.f (10 + d) = some true := by
    intro d
    induction d with
    | zero => kernel_rfl
    | succ d ih => exact synopticlaw38_awake.mono (10 + d) _ ih
  obtain ⟨d, rfl⟩ : ∃ d, k = 10 + d := ⟨k - 10, by omega⟩
  exact h d

/-- The pairs of forecasts that are right. -/
def rightP (p : S40) : S40 := ⟨p.f0, p.f0⟩
/-- The pairs with a constant error. -/
def shiftP (b : Int) (p : S40) : S40 := ⟨p.f0 + b, p.f0⟩
theorem sums_right (l : List S40) : sS (l.map rightP) = 0 ∧ sA (l.map rightP) = 0 ∧ sQ (l.map rightP) = 0 := by
  induction l with
  | nil => simp [sS, sA, sQ]
  | cons p l ih =>
    have e : dif (rightP p) = 0 := by unfold dif rightP; simp
    simp only [List.map_cons, sS, sA, sQ, e, ih.1, ih.2.1, ih.2.2]
    simp
theorem sums_shift (b : Int) (l : List S40) : sS (l.map (shiftP b)) = (l.length : Int) * b ∧ sQ (l.map (shiftP b)) = (l.length : Int) * (b * b) := by
  induction l with
  | nil => simp [sS, sQ]
  | cons p l ih =>
    have e : dif (shiftP b p) = b := by unfold dif shiftP; simp only; omega
    simp only [List.map_cons, sS, sQ, e, ih.1, ih.2, List.length_cons]
    have e1 : ((l.length + 1 : Nat) : Int) * b = b + (l.length : Int) * b := by rw [Int.natCast_add, Int.add_mul]; simp [Int.add_comm]
    have e2 : ((l.length + 1 : Nat) : Int) * (b * b) = b * b + (l.length : Int) * (b * b) := by rw [Int.natCast_add, Int.add_mul]; simp [Int.add_comm]
    rw [e1, e2]
    exact ⟨rfl, rfl⟩

theorem table_loop (l : List S40) (hl : l.length ≤ 10000) (hr : ∀ p ∈ l, p.f0 = p.f1) (t : Int) : ∀ (d k i : Nat) (h o : Int), i + d = l.length → 2 * d + 1 < k → 0 ≤ h → h ≤ i → 0 ≤ o → o ≤ i →
    ∃ h' o', score_Table.l0 k t l (l.length : Int) (i : Int) h 0 0 o = some (h', 0, 0, o', 0) := by
  intro d
  induction d with
  | zero =>
    intro k i h o hd hk _ _ _ _
    obtain ⟨k, rfl⟩ : ∃ m, k = m + 1 := ⟨k - 1, by omega⟩
    simp only [score_Table.l0]
    rw [if_neg (by omega)]
    exact ⟨_, _, rfl⟩
  | succ d ih =>
    intro k i h o hd hk h0 h1 o0 o1
    obtain ⟨k, rfl⟩ : ∃ m, k = m + 2 := ⟨k - 2, by omega⟩
    have hp := hr _ (rd_mem l i (by omega))
    have hw : wrap64 ((i : Int) + 1) = ((i + 1 : Nat) : Int) := by rw [wrap_id (by omega) (by omega)]; omega
    simp only [score_Table.l0]
    rw [if_pos (by omega), if_pos (by omega), if_pos (by omega), ← hp]
    by_cases hc : (rd_T40 l (i : Int)).f0 ≥ t
    · rw [if_pos hc, decide_eq_true hc]
      simp only [score_Table.j1, if_true]
      rw [hw, wrap_id (x := h + 1) (by omega) (by omega)]
      exact ih k (i + 1) (h + 1) o (by omega) (by omega) (by omega) (by omega) (by omega) (by omega)
    · rw [if_neg hc, decide_eq_false hc]
      simp only [score_Table.j1]
      rw [if_neg (by simp), if_neg (by simp), if_neg (by simp), hw, wrap_id (x := o + 1) (by omega) (by omega)]
      exact ih k (i + 1) h (o + 1) (by omega) (by omega) (by omega) (by omega) (by omega) (by omega)
theorem table_right (l : List S40) (hl : l.length ≤ 10000) (hf : Fine l) (hr : ∀ p ∈ l, p.f0 = p.f1) (t : Int) (k : Nat) (hk : 20010 < k) : ∃ h o, score_Table.f k l t = some (h, 0, 0, o, 0) := by
  unfold score_Table.f
  rw [check_ok l hl hf k (by omega)]
  refine (table_loop l hl hr t l.length k 0 0 0 (by omega) (by omega) (by omega) (by omega) (by omega) (by omega)).imp fun h hh => hh.imp fun o ho => ?_
  refine Eq.trans (Option.bind_some _ _) ?_
  rw [if_pos rfl]
  exact ho

theorem red_at (a b : Int) (k : Nat) (hk : b.natAbs + 5 ≤ k) : score_Reduce.f k a b = some (red a b) := by
  obtain ⟨k, rfl⟩ : ∃ m, k = m + 1 := ⟨k - 1, by omega⟩
  unfold score_Reduce.f red
  simp only [within_eq, Option.bind_some, score_Reduce.j0]
  by_cases h0 : b = 0
  · simp [h0]
  · rw [if_neg h0]
    by_cases h1 : -1152921504606846976 ≤ a ∧ a ≤ 1152921504606846976
    · rw [decide_eq_true h1]
      by_cases h2 : -1152921504606846976 ≤ b ∧ b ≤ 1152921504606846976
      · rw [decide_eq_true h2, if_neg (c := b = 0 ∨ _) (by omega)]
        simp only [if_true, Bool.not_true]
        rw [if_neg (by simp)]
        by_cases h3 : b < 0
        · rw [if_pos h3, if_pos h3, wrap_small (x := -a) (by omega) (by omega), wrap_small (x := -b) (by omega) (by omega), j1_some k (-a) (-b) (by omega) (by omega) (by omega)]
          rw [Int.neg_gcd, Int.gcd_neg]
        · rw [if_neg h3, if_neg h3, j1_some k a b h1 (by omega) (by omega)]
      · rw [decide_eq_false h2, if_pos (c := b = 0 ∨ _) (by omega)]
        simp
    · rw [decide_eq_false h1, if_pos (c := b = 0 ∨ _) (by omega)]
      simp

theorem red_mul (n b : Int) (hn : 0 < n) (hn2 : n ≤ 1152921504606846976) (h : -1152921504606846976 ≤ n * b ∧ n * b ≤ 1152921504606846976) : red (n * b) n = (b, 1, 0) := by
  unfold red
  rw [if_neg (by omega), if_neg (by omega)]
  have hg : (Int.gcd (n * b) n : Int) = n := by
    have : Int.gcd (n * b) n = n.natAbs := by
      unfold Int.gcd
      rw [Int.natAbs_mul]
      exact Nat.gcd_mul_right_left _ _
    omega
  rw [hg, Int.mul_tdiv_cancel_left _ (by omega), Int.tdiv_self (by omega)]
theorem red_self (n : Int) (hn : 0 < n) (hn2 : n ≤ 1152921504606846976) : red n n = (1, 1, 0) := by
  have := red_mul n 1 hn hn2 (by omega)
  rwa [Int.mul_one] at this

theorem Mean_at (k : Nat) (n s a q : Int) (hn : 1 ≤ n) (hk : n.natAbs + 5 ≤ k) : score_Mean.f k n s a q = some (red s n) := by
  unfold score_Mean.f score_mean.f
  rw [if_neg (by omega), red_at s n k hk]
  rfl
theorem MeanSquare_at (k : Nat) (n s a q : Int) (hn : 1 ≤ n) (hk : n.natAbs + 5 ≤ k) : score_MeanSquare.f k n s a q = some (red q n) := by
  unfold score_MeanSquare.f score_mean.f
  rw [if_neg (by omega), red_at q n k hk]
  rfl
theorem Skill_zero (k : Nat) (hk : 2 ≤ k) (n s' a' : Int) (hn : 1 ≤ n) : score_Skill.f k n 0 0 0 n s' a' 0 = some (0, 0, 9) := by
  obtain ⟨k, rfl⟩ : ∃ m, k = m + 1 := ⟨k - 1, by omega⟩
  unfold score_Skill.f
  rw [if_neg (by omega), if_neg (by omega), if_pos rfl]
  simp only [score_Skill.j0]
  rfl
theorem Skill_one (k : Nat) (n s' a' q : Int) (hn : 1 ≤ n) (hq : 0 < q) (hq2 : q ≤ 288230376151711744) (hk : q.natAbs + 6 ≤ k) : score_Skill.f k n 0 0 0 n s' a' q = some (1, 1, 0) := by
  obtain ⟨k, rfl⟩ : ∃ m, k = m + 1 := ⟨k - 1, by omega⟩
  unfold score_Skill.f
  rw [if_neg (by omega), if_neg (by omega), if_pos rfl]
  have hb : (q == 0) = false := beq_eq_false_iff_ne.2 (by omega)
  rw [hb]
  simp only [score_Skill.j0]
  rw [if_neg (by simp), within_eq, decide_eq_true (by omega)]
  refine Eq.trans (Option.bind_some _ _) ?_
  rw [if_pos rfl, within_eq, decide_eq_true (by omega)]
  refine Eq.trans (Option.bind_some _ _) ?_
  rw [if_pos rfl, Int.sub_zero, wrap_id (by omega) (by omega), red_at q q k (by omega), red_self q hq (by omega)]
  rfl
end Go.Proofs.Ytbnjbdjjedndbaa.B
namespace Go.Proofs.Ytbnjbdjjedndbaa.B
open Go.RowKit Go.Proofs.YtbnjbdjjedndbaaW.PrintWords Go.Proofs.YtbnjbdjjedndbaaW.PrintLast Go.Proofs.YtbnjbdjjedndbaaW.PrintMore

theorem take_snoc_map {β : Type} (f : S40 → β) (l : List S40) (i : Nat) (h : i < l.length) : (l.take (i + 1)).map f = (l.take i).map f ++ [f (rd_T40 l (i : Int))] := by
  rw [List.take_succ_eq_append_getElem h, List.map_append]
  unfold rd_T40
  rw [Int.toNat_natCast, List.getD_eq_getElem?_getD, List.getElem?_eq_getElem h]
  rfl

theorem perfect_loop (l m : List S40) (hl : l.length ≤ 20) (hs : SmallPairs l) (a2 a3 : Int) (ha : -32768 ≤ a2 ∧ a2 ≤ 32767) : ∀ (d k i : Nat), i + d = l.length →
    synopticlaw38_ScorePerfect.l0 (k + d) a2 a3 l m ((l.take i).map rightP) ((l.take i).map (shiftP a2)) l (l.length : Int) (i : Int) = synopticlaw38_ScorePerfect.l0 k a2 a3 l m (l.map rightP) (l.map (shiftP a2)) l (l.length : Int) (l.length : Int) := by
  intro d
  induction d with
  | zero =>
    intro k i hd
    have : i = l.length := by omega
    subst this
    rw [List.take_length]
    rfl
  | succ d ih =>
    intro k i hd
    have hp := hs _ (rd_mem l i (by omega))
    have e := ih k (i + 1) (by omega)
    rw [take_snoc_map rightP l i (by omega), take_snoc_map (shiftP a2) l i (by omega)] at e
    rw [← e, ← Nat.add_assoc]
    have t1 : ((l.take i).map rightP).length < 8796093022208 := by rw [List.length_map, List.length_take]; omega
    have t2 : ((l.take i).map (shiftP a2)).length < 8796093022208 := by rw [List.length_map, List.length_take]; omega
    have hc : wrap64 ((i : Int) + 1) = ((i + 1 : Nat) : Int) := by rw [wrap_id (by omega) (by omega)]; omega
    have hw : wrap64 a2 = a2 := wrap_id (by omega) (by omega)
    have hw2 : wrap64 ((rd_T40 l (i : Int)).f0 + a2) = (rd_T40 l (i : Int)).f0 + a2 := wrap_id (by omega) (by omega)
    conv => lhs; rw [synopticlaw38_ScorePerfect.l0]
    rw [if_pos (by omega), if_pos (by omega), if_pos (by omega), if_pos t1, if_pos t2, hc, hw, hw2]
    rfl

theorem fine_right {l : List S40} (hs : SmallPairs l) : Fine (l.map rightP) := by
  intro p hp
  obtain ⟨q, hq, rfl⟩ := List.mem_map.1 hp
  have := hs q hq
  unfold rightP
  simp only
  omega
theorem fine_shift {l : List S40} (hs : SmallPairs l) (a : Int) (ha : -32768 ≤ a ∧ a ≤ 32767) : Fine (l.map (shiftP a)) := by
  intro p hp
  obtain ⟨q, hq, rfl⟩ := List.mem_map.1 hp
  have := hs q hq
  unfold shiftP
  simp only
  omega

theorem perfect_j2 (k : Nat) (hk : 2000000000000000 ≤ k) (l m : List S40) (hl : l.length ≤ 20) (_hm : m.length ≤ 20) (hn : 1 ≤ l.length) (hs : SmallPairs m) :
    synopticlaw38_ScorePerfect.j2 k l m false (l.length : Int) 0 0 0 = some true := by
  obtain ⟨k, rfl⟩ : ∃ j, k = j + 1 := ⟨k - 1, by omega⟩
  simp only [synopticlaw38_ScorePerfect.j2]
  rw [if_neg (by simp)]
  by_cases h : (m.length : Int) < (l.length : Int)
  · rw [if_pos h]
  · rw [if_neg h, if_pos (by omega), if_pos (by omega), Int.toNat_natCast]
    have hf : Fine (m.take l.length) := fun p hp => (Fine.of_small hs) p (List.mem_of_mem_take hp)
    have hlen : (m.take l.length).length = l.length := by rw [List.length_take]; omega
    have hb := sums_bound hf
    rw [Of_ok _ (by omega) hf k (by omega)]
    refine Eq.trans (Option.bind_some _ _) ?_
    dsimp only
    rw [hlen] at hb ⊢
    by_cases hq : sQ (m.take l.length) = 0
    · rw [hq, Skill_zero k (by omega) _ _ _ (by omega)]
      refine Eq.trans (Option.bind_some _ _) ?_
      dsimp only
      rw [if_pos rfl, if_pos rfl, if_pos rfl]
    · rw [Skill_one k _ _ _ _ (by omega) (by omega) (by omega) (by omega)]
      refine Eq.trans (Option.bind_some _ _) ?_
      dsimp only
      rw [if_pos rfl, if_neg hq, if_pos rfl]
      rfl

theorem mul_small (n a : Int) (hn : 0 ≤ n ∧ n ≤ 20) (ha : -1073741824 ≤ a ∧ a ≤ 1073741824) : -21474836480 ≤ n * a ∧ n * a ≤ 21474836480 := by
  have h : (n * a).natAbs ≤ 21474836480 := by
    rw [Int.natAbs_mul]
    exact Nat.mul_le_mul (show n.natAbs ≤ 20 by omega) (show a.natAbs ≤ 1073741824 by omega)
  omega

theorem perfect_pure : synopticlaw38_ScorePerfect.Pure := by
  intro l0 l1 a2 a3 _ _ hw0 _ _ hw1 w2 w3
  have ha : -32768 ≤ a2 ∧ a2 ≤ 32767 := by
    simp [Lit.wf, IntKind.min, IntKind.max, IntKind.signed, IntKind.bits] at w2
    omega
  have hb0 : Bytes (l0.take 160) := (Bytes.of_wf hw0).take 160
  have hb1 : Bytes (l1.take 160) := (Bytes.of_wf hw1).take 160
  obtain ⟨k, hk⟩ : ∃ k : Nat, 2000000000001000 ≤ k := ⟨2000000000001000, Nat.le_refl _⟩
  refine ⟨k, ?_⟩
  obtain ⟨l, q, hp, hlen, hsm⟩ := pairs_some hb0 k (by omega) 20 (by omega) (by omega)
  obtain ⟨m, q', hp', hlen', hsm'⟩ := pairs_some hb1 k (by omega) 20 (by omega) (by omega)
  have hll : l.length ≤ 20 := hlen
  have hml : m.length ≤ 20 := hlen'
  unfold synopticlaw38_ScorePerfect.f
  rw [awake_le k (by omega), new_some l0 160 (by omega), new_some l1 160 (by omega)]
  simp only [Option.bind_some, if_true]
  show (Option.bind (synopticfield_Codes_Pairs.f k (l0.take 160) 0 20) _) = _
  rw [hp]
  refine Eq.trans (Option.bind_some _ _) ?_
  show (Option.bind (synopticfield_Codes_Pairs.f k (l1.take 160) 0 20) _) = _
  rw [hp']
  refine Eq.trans (Option.bind_some _ _) ?_
  dsimp only
  clear hp hp' hb0 hb1 hw0 hw1 w2 w3 hlen hlen'
  obtain ⟨k, rfl⟩ : ∃ j, k = (j + 2) + l.length := ⟨k - l.length - 2, by omega⟩
  have hL := perfect_loop l m hll hsm a2 a3 ha l.length (k + 2) 0 (by omega)
  rw [List.take_zero] at hL
  refine Eq.trans hL ?_
  clear hL
  have hfr := fine_right hsm
  have hfs := fine_shift hsm a2 ha
  have er := sums_right l
  have es := sums_shift a2 l
  simp only [synopticlaw38_ScorePerfect.l0]
  rw [if_neg (by omega), Of_ok _ (by rw [List.length_map]; omega) hfr (k + 1) (by rw [List.length_map]; omega)]
  refine Eq.trans (Option.bind_some _ _) ?_
  rw [Of_ok _ (by rw [List.length_map]; omega) hfs (k + 1) (by rw [List.length_map]; omega)]
  refine Eq.trans (Option.bind_some _ _) ?_
  obtain ⟨h, o, ht⟩ := table_right (l.map rightP) (by rw [List.length_map]; omega) hfr (by
    intro p hp
    obtain ⟨q, _, rfl⟩ := List.mem_map.1 hp
    rfl) (Int.tmod (wrap64 a3) 9) (k + 1) (by omega)
  rw [ht]
  refine Eq.trans (Option.bind_some _ _) ?_
  dsimp only
  rw [er.1, er.2.1, er.2.2, es.1, es.2, List.length_map, List.length_map, if_pos rfl, if_pos rfl, if_pos rfl, if_neg (by simp), if_pos rfl]
  simp only [synopticlaw38_ScorePerfect.j1]
  rw [if_neg (by simp)]
  by_cases hz : (l.length : Int) = 0
  · rw [if_pos hz]
    simp
  · rw [if_neg hz]
    have hw : wrap64 a2 = a2 := wrap_id (by omega) (by omega)
    have hsq := sq_bound (M := 32768) (by omega : -32768 ≤ a2) (by omega)
    have hw2 : wrap64 (a2 * a2) = a2 * a2 := wrap_id (by omega) (by omega)
    have m1 := mul_small (l.length : Int) a2 (by omega) (by omega)
    have m2 := mul_small (l.length : Int) (a2 * a2) (by omega) (by omega)
    rw [Mean_at k _ _ _ _ (by omega) (by omega), red_mul _ _ (by omega) (by omega) (by omega)]
    refine Eq.trans (Option.bind_some _ _) ?_
    rw [MeanSquare_at k _ _ _ _ (by omega) (by omega), red_mul _ _ (by omega) (by omega) (by omega)]
    refine Eq.trans (Option.bind_some _ _) ?_
    dsimp only
    rw [hw, hw2]
    refine Eq.trans (Option.bind_some _ _) ?_
    dsimp only
    rw [if_pos rfl, if_pos rfl, if_neg (by simp), if_neg (by simp)]
    exact perfect_j2 k (by omega) l m hll hml (by omega) hsm'
end Go.Proofs.Ytbnjbdjjedndbaa.B
