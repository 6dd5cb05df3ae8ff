/- What the reference's Exchange computes: the same as the program. -/
import Derived.Test.YtcgjgpdandjicaaRefs
namespace Go.Proofs.Ytcgjgpdandjicaa.B
open Go.RowKit Go.Proofs.YtcgjgpdandjicaaW.PrintWords Go.Proofs.YtcgjgpdandjicaaW.PrintLast Go.Proofs.YtcgjgpdandjicaaW.PrintMore
open Go.Proofs.Ytcgjgpdandjicaa.Smp
set_option linter.unusedVariables false
set_option linter.unusedSimpArgs false

theorem ones_drop (d m i : Nat) : ones (d + 1) (m / 2 ^ i) = m / 2 ^ i % 2 + ones d (m / 2 ^ (i + 1)) := by
  rw [ones, Nat.div_div_eq_div_mul, ← Nat.pow_succ]
theorem mul_small {x : Int} {n : Nat} (h0 : -12000000 ≤ x) (h1 : x ≤ 12000000) (hn : n ≤ 12) : wrap64 (x * (n : Int)) = x * (n : Int) := by
  have := mul_bound h0 h1 hn
  exact wrap_self (by omega) (by omega)
theorem size_dif {x T : Int} {n m : Nat} (h0 : -12000000 ≤ x) (h1 : x ≤ 12000000) (h2 : -12000000 ≤ T) (h3 : T ≤ 12000000) (hn : n ≤ 12) (hm : m ≤ 12) :
    synopticref39_size.f (wrap64 (wrap64 (x * (n : Int)) - wrap64 (T * (m : Int)))) = some (ab (x * (n : Int) - T * (m : Int))) := by
  have b1 := mul_bound h0 h1 hn
  have b2 := mul_bound h2 h3 hm
  rw [mul_small h0 h1 hn, mul_small h2 h3 hm, wrap_self (by omega) (by omega), size_ab _ (by omega) (by omega)]
theorem ab_nonneg (x : Int) : 0 ≤ ab x := by unfold ab; split <;> omega

theorem rd_nth (l : List Int) (i : Nat) (h : i < l.length) : rd l (i : Int) = l[i] := by unfold rd; simp [h]
theorem rexch_l0 (a l : List Int) (hl : l.length ≤ 12) (hf : Fine l) (hal : a.length ≤ l.length) (hpre : ∀ i (h : i < a.length) (h2 : i < l.length), l[i] = a[i]) : ∀ (d k i : Nat) (s o : Int), i + d = l.length → d < k → -(1000000 * (i : Int)) ≤ s → s ≤ 1000000 * (i : Int) → -(1000000 * (i : Int)) ≤ o → o ≤ 1000000 * (i : Int) →
    synopticref39_Exchange.l0 k a l s o (i : Int) = synopticref39_Exchange.l0 (k - d) a l (s + total (l.drop i)) (o + total (a.drop i)) (l.length : Int) := by
  intro d
  induction d with
  | zero =>
    intro k i s o hd hk h0 h1 h2 h3
    obtain rfl : i = l.length := by omega
    rw [drop_end l _ (Nat.le_refl _), drop_end a _ hal, total, Int.add_zero, Int.add_zero, Nat.sub_zero]
  | succ d ih =>
    intro k i s o hd hk h0 h1 h2 h3
    obtain ⟨k, rfl⟩ : ∃ m, k = m + 1 := ⟨k - 1, by omega⟩
    have hi : i < l.length := by omega
    have hx := hf l[i] (List.getElem_mem hi)
    have er := rd_nth l i hi
    have et := total_drop l i hi
    have hp : ∀ h : i < a.length, l[i] = a[i] := fun h => hpre i h hi
    obtain ⟨x, hxe⟩ : ∃ x, x = l[i] := ⟨_, rfl⟩
    rw [← hxe] at hx er et hp
    clear hxe
    have ER := Aside0.mk er
    have ET := Aside0.mk et
    have HP := Aside0.mk hp
    clear er et hp
    have hw : wrap64 ((i : Int) + 1) = ((i + 1 : Nat) : Int) := wrap_succ i (by omega)
    have hs : wrap64 (s + x) = s + x := wrap_self (by omega) (by omega)
    have ho : wrap64 (o + x) = o + x := wrap_self (by omega) (by omega)
    conv => lhs; rw [synopticref39_Exchange.l0]
    rw [if_pos (by omega), if_pos (by omega), ER.out, hs, ho, hw, ET.out, show k + 1 - (d + 1) = k - d by omega]
    by_cases hc : i < a.length
    · rw [if_pos (by omega), ih k (i + 1) _ _ (by omega) (by omega) (by omega) (by omega) (by omega) (by omega), total_drop a i hc, ← HP.out hc, Int.add_assoc, Int.add_assoc]
    · rw [if_neg (by omega), ih k (i + 1) _ _ (by omega) (by omega) (by omega) (by omega) (by omega) (by omega), drop_end a i (by omega), drop_end a (i + 1) (by omega), Int.add_assoc]
theorem rexch_l2 (a l : List Int) (hl : l.length ≤ 12) (hf : Fine l) (T own n of_ : Int) (m : Nat) (hm : m < 4096) : ∀ (d k i : Nat) (q : Nat) (s : Int), i + d = l.length → d < k → q ≤ i → -(1000000 * (i : Int)) ≤ s → s ≤ 1000000 * (i : Int) →
    synopticref39_Exchange.l2 k a l T own n of_ (m : Int) (q : Int) s (i : Int) = synopticref39_Exchange.l2 (k - d) a l T own n of_ (m : Int) ((q + ones d (m / 2 ^ i) : Nat) : Int) (s + chosen (l.drop i) (m / 2 ^ i)) (l.length : Int) := by
  intro d
  induction d with
  | zero =>
    intro k i q s hd hk hq h0 h1
    obtain rfl : i = l.length := by omega
    rw [drop_end l _ (Nat.le_refl _), chosen, Int.add_zero, ones, Nat.add_zero, Nat.sub_zero]
  | succ d ih =>
    intro k i q s hd hk hq h0 h1
    obtain ⟨k, rfl⟩ : ∃ m, k = m + 1 := ⟨k - 1, by omega⟩
    have hi : i < l.length := by omega
    have hx := hf l[i] (List.getElem_mem hi)
    have er := rd_nth l i hi
    have et := chosen_drop l i m hi
    obtain ⟨x, hxe⟩ : ∃ x, x = l[i] := ⟨_, rfl⟩
    rw [← hxe] at hx er et
    clear hxe
    have ER := Aside0.mk er
    have ET := Aside0.mk et
    clear er et
    have HB64 := Aside0.mk (bit_at64 m i (by omega) (by omega))
    have EO := Aside0.mk (ones_drop d m i)
    have hw : wrap64 ((i : Int) + 1) = ((i + 1 : Nat) : Int) := wrap_succ i (by omega)
    have hwq : wrap64 ((q : Int) + 1) = ((q + 1 : Nat) : Int) := wrap_succ q (by omega)
    have hu : IntKind.u64.wrap (i : Int) = (i : Int) := u64_small (by omega) (by omega)
    have hs : wrap64 (s + x) = s + x := wrap_self (by omega) (by omega)
    have hi0 : (i : Int) < (l.length : Int) := by omega
    have hi1 : (0 : Int) ≤ (i : Int) := by omega
    have e0 := Aside0.mk (ih k (i + 1) q s (by omega) (by omega) (by omega) (by omega) (by omega))
    have e1 := Aside0.mk (ih k (i + 1) (q + 1) (s + x) (by omega) (by omega) (by omega) (by omega) (by omega))
    conv => lhs; rw [synopticref39_Exchange.l2]
    rw [if_pos hi0, hu, if_pos hi1, HB64.out, hw, ER.out, hs, hwq, ET.out, EO.out, show k + 1 - (d + 1) = k - d by omega]
    obtain ⟨bit, hbit⟩ : ∃ bit, bit = m / 2 ^ i % 2 := ⟨_, rfl⟩
    have hb2 : bit < 2 := by rw [hbit]; exact Nat.mod_lt _ (by decide)
    rw [← hbit]
    clear hbit
    by_cases hb : bit = 1
    · subst hb
      rw [if_pos (show ((1 : Nat) : Int) = 1 from rfl), if_pos hi1, if_pos rfl, e1.out, Int.add_assoc, Nat.add_assoc]
    · obtain rfl : bit = 0 := by omega
      rw [if_neg (show ¬ (((0 : Nat) : Int) = 1) by decide), if_neg hb, e0.out, Nat.zero_add, Int.zero_add]
section
variable (a b : List Int) (hl : (a ++ b).length ≤ 12) (hf : Fine (a ++ b))
include hl hf
theorem rexch_l1 (M K N : Nat) (hN : (a ++ b).length = N) (hM : 2 ^ N = M) (hM2 : M ≤ 4096) (hK : ∀ k', K ≤ k' → synopticref38_ReduceP.f k' (exNum a b : Int) (exOf a b : Int) = some (red (exNum a b : Int) (exOf a b : Int))) : ∀ (d k m c o : Nat), m + d = M → K + d * 20 < k →
    c = ((List.range m).countP fun y => decide (ones N y = a.length) && decide (dif (a ++ b) a.length (2 ^ a.length - 1) ≤ dif (a ++ b) a.length y)) → o = ((List.range m).countP fun y => decide (ones N y = a.length)) →
    synopticref39_Exchange.l1 k a (a ++ b) (total (a ++ b)) (dif (a ++ b) a.length (2 ^ a.length - 1)) (c : Int) (o : Int) (m : Int) = some (red (exNum a b : Int) (exOf a b : Int)) := by
  have hT : -12000000 ≤ total (a ++ b) ∧ total (a ++ b) ≤ 12000000 := by have := total_bound (a ++ b) hf; omega
  have hla : a.length ≤ 12 := by rw [List.length_append] at hl; omega
  intro d
  induction d with
  | zero =>
    intro k m c o hd hk hc ho
    obtain ⟨k, rfl⟩ : ∃ j, k = j + 1 := ⟨k - 1, by omega⟩
    obtain rfl : m = M := by omega
    have hu : IntKind.u64.wrap (((a ++ b).length : Nat) : Int) = (((a ++ b).length : Nat) : Int) := u64_small (by omega) (by omega)
    have hcc : c = exNum a b := by rw [hc]; unfold exNum; rw [hN, hM]
    have hoo : o = exOf a b := by rw [ho]; unfold exOf; rw [hN, hM]
    simp only [synopticref39_Exchange.l1]
    rw [if_pos (by rw [hu]; omega), shl_len (a ++ b).length m (by omega) (by rw [hN]; exact hM) (by omega), if_neg (by omega), hcc, hoo, hK k (by omega)]
    refine Eq.trans (Option.bind_some _ _) ?_
    rfl
  | succ d ih =>
    intro k m c o hd hk hc ho
    rw [Nat.succ_mul] at hk
    obtain ⟨k, rfl⟩ : ∃ j, k = j + 1 := ⟨k - 1, by omega⟩
    have hu : IntKind.u64.wrap (((a ++ b).length : Nat) : Int) = (((a ++ b).length : Nat) : Int) := u64_small (by omega) (by omega)
    have hcl : c ≤ m := by rw [hc]; exact Nat.le_trans List.countP_le_length (Nat.le_of_eq List.length_range)
    have hol : o ≤ m := by rw [ho]; exact Nat.le_trans List.countP_le_length (Nat.le_of_eq List.length_range)
    have HC := Aside0.mk hc
    have HO := Aside0.mk ho
    clear hc ho
    have hw : wrap64 ((m : Int) + 1) = ((m + 1 : Nat) : Int) := wrap_succ m (by clear hk hT hM hu ih; omega)
    have hw2 : wrap64 ((c : Int) + 1) = ((c + 1 : Nat) : Int) := wrap_succ c (by clear hk hT hM hu ih; omega)
    have hw3 : wrap64 ((o : Int) + 1) = ((o + 1 : Nat) : Int) := wrap_succ o (by clear hk hT hM hu ih; omega)
    have hcb : -12000000 ≤ chosen (a ++ b) m ∧ chosen (a ++ b) m ≤ 12000000 := by have := chosen_bound (a ++ b) hf m; clear hk hT hM hu ih; omega
    conv => lhs; rw [synopticref39_Exchange.l1]
    rw [if_pos (by rw [hu]; omega), shl_len (a ++ b).length M (by omega) (by rw [hN]; exact hM) (by omega), if_pos (by omega)]
    have e := rexch_l2 a (a ++ b) hl hf (total (a ++ b)) (dif (a ++ b) a.length (2 ^ a.length - 1)) (c : Int) (o : Int) m (by clear hk hT hM hu ih; omega) (a ++ b).length k 0 0 0 (by omega) (by omega) (by omega) (by omega) (by omega)
    rw [drop_at0, Int.zero_add, Nat.zero_add, Nat.pow_zero, Nat.div_one] at e
    refine Eq.trans e ?_
    obtain ⟨q, hq⟩ : ∃ q, k - (a ++ b).length = q + 1 := ⟨k - (a ++ b).length - 1, by omega⟩
    rw [hq, synopticref39_Exchange.l2, if_neg (by omega), hw, hw2, hw3]
    by_cases hon : ones N m = a.length
    · rw [if_pos (by rw [hN]; omega), size_dif hcb.1 hcb.2 hT.1 hT.2 hl hla]
      refine Eq.trans (Option.bind_some _ _) ?_
      have ed : ab (chosen (a ++ b) m * ((a ++ b).length : Int) - total (a ++ b) * (a.length : Int)) = dif (a ++ b) a.length m := rfl
      rw [ed]
      by_cases hq2 : dif (a ++ b) a.length (2 ^ a.length - 1) ≤ dif (a ++ b) a.length m
      · rw [if_pos hq2]
        refine ih q (m + 1) (c + 1) (o + 1) (by omega) (by omega) ?_ ?_
        · rw [List.range_succ, List.countP_append, List.countP_cons_of_pos (by simp [hon, hq2]), HC.out]; rfl
        · rw [List.range_succ, List.countP_append, List.countP_cons_of_pos (by simp [hon]), HO.out]; rfl
      · rw [if_neg hq2]
        refine ih q (m + 1) c (o + 1) (by omega) (by omega) ?_ ?_
        · rw [List.range_succ, List.countP_append, List.countP_cons_of_neg (by simp [hq2]), HC.out]; rfl
        · rw [List.range_succ, List.countP_append, List.countP_cons_of_pos (by simp [hon]), HO.out]; rfl
    · rw [if_neg (by rw [hN]; omega)]
      refine ih q (m + 1) c o (by omega) (by omega) ?_ ?_
      · rw [List.range_succ, List.countP_append, List.countP_cons_of_neg (by simp [hon]), HC.out]; rfl
      · rw [List.range_succ, List.countP_append, List.countP_cons_of_neg (by simp [hon]), HO.out]; rfl
end
theorem rexch_some (a b : List Int) (ha : a.length ≤ 1000) (hb : b.length ≤ 1000) : ∃ K, ∀ k, K ≤ k → synopticref39_Exchange.f k a b = some (exchR a b) := by
  have hab : (a ++ b).length = a.length + b.length := List.length_append
  by_cases h12 : 12 < (a ++ b).length
  · refine ⟨2, fun k hk => ?_⟩
    obtain ⟨k, rfl⟩ : ∃ m, k = m + 1 := ⟨k - 1, by omega⟩
    unfold synopticref39_Exchange.f exchR
    rw [if_pos (by simp only [List.length_nil]; omega)]
    refine Eq.trans (Option.bind_some _ _) ?_
    rw [List.nil_append, if_pos (by omega)]
    refine Eq.trans (Option.bind_some _ _) ?_
    rw [if_pos (by omega), if_pos h12]
    simp only [synopticref39_Exchange.j0, if_true]
  · obtain ⟨K, hK⟩ := refP_some (exNum a b : Int) (exOf a b : Int)
    refine ⟨K + 100000, fun k hk => ?_⟩
    unfold synopticref39_Exchange.f exchR
    rw [if_pos (by simp only [List.length_nil]; omega)]
    refine Eq.trans (Option.bind_some _ _) ?_
    rw [List.nil_append, if_pos (by omega)]
    refine Eq.trans (Option.bind_some _ _) ?_
    rw [if_neg (by omega), if_neg h12, small_eq (a ++ b) (by omega) k (by omega)]
    refine Eq.trans (Option.bind_some _ _) ?_
    obtain ⟨k, rfl⟩ : ∃ m, k = m + 1 := ⟨k - 1, by omega⟩
    by_cases ho : outB (a ++ b) = true
    · rw [if_pos ho, ho]; simp only [synopticref39_Exchange.j0, Bool.not_true, Bool.not_false, if_true]
    · have ho' := Bool.eq_false_iff.mpr ho
      have hf := (outB_fine (a ++ b)).1 ho'
      have hp : 2 ^ (a ++ b).length ≤ 2 ^ 12 := Nat.pow_le_pow_right (by decide) (by omega)
      have h0 := rexch_l0 a (a ++ b) (by omega) hf (by omega) (fun i h h2 => List.getElem_append_left h) (a ++ b).length k 0 0 0 (by omega) (by omega) (by omega) (by omega) (by omega) (by omega)
      rw [drop_at0, drop_at0, Int.zero_add, Int.zero_add] at h0
      rw [if_neg ho, ho']
      simp only [synopticref39_Exchange.j0, Bool.not_true, Bool.not_false]
      rw [if_neg (by simp)]
      refine Eq.trans h0 ?_
      obtain ⟨q, hq⟩ : ∃ q, k - (a ++ b).length = q + 1 := ⟨k - (a ++ b).length - 1, by omega⟩
      have hT := total_bound (a ++ b) hf
      have hTa := total_bound a (fun x hx => hf x (List.mem_append_left _ hx))
      rw [hq, synopticref39_Exchange.l0, if_neg (by omega), size_dif (by omega) (by omega) (by omega) (by omega) (by omega) (by omega)]
      refine Eq.trans (Option.bind_some _ _) ?_
      have ed : ab (total a * ((a ++ b).length : Int) - total (a ++ b) * (a.length : Int)) = dif (a ++ b) a.length (2 ^ a.length - 1) := by
        unfold dif; rw [chosen_first]
      rw [ed]
      exact rexch_l1 a b (by omega) hf (2 ^ (a ++ b).length) K (a ++ b).length rfl rfl (by omega) hK (2 ^ (a ++ b).length) q 0 0 0 (by omega) (by omega) rfl rfl
end Go.Proofs.Ytcgjgpdandjicaa.B
