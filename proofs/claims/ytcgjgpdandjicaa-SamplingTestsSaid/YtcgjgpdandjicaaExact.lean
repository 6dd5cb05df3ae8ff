/- The statement SamplingExact without Go: whatever the choices, it answers true. -/
import Derived.Test.YtcgjgpdandjicaaLExact
import Derived.Test.YtcgjgpdandjicaaExa
import Derived.Test.YtcgjgpdandjicaaSamp
import Derived.KernelRfl
namespace Go.Proofs.Ytcgjgpdandjicaa.B
open Go.RowKit Go.Proofs.YtcgjgpdandjicaaW.PrintWords Go.Proofs.YtcgjgpdandjicaaW.PrintLast Go.Proofs.YtcgjgpdandjicaaW.PrintMore
open Go.Proofs.Ytcgjgpdandjicaa.Smp
set_option linter.unusedVariables false
set_option linter.unusedSimpArgs false

theorem exact_l3 {R : List S31} {G : Nat → Nat} (h : Good R G) (x : Nat) (hx : x < R.length) (xs : List S31) (n i : Int) : ∀ (d k j c : Nat), j + d = R.length → d < k → c = ((List.range j).countP fun y => decide (G y ≤ G x)) →
    synopticlaw39_SamplingExact.l3 k R (c : Int) xs n i R (R.length : Int) (j : Int) (rd_T31 R (x : Int)).f0 (rd_T31 R (x : Int)).f1 = synopticlaw39_SamplingExact.l2 (k - d - 1) R xs n (wrap64 (i + 1)) := by
  intro d
  induction d with
  | zero =>
    intro k j c hd hk hc
    obtain ⟨k, rfl⟩ : ∃ m, k = m + 1 := ⟨k - 1, by omega⟩
    obtain rfl : j = R.length := by omega
    obtain ⟨t, e, ht⟩ := h.last hx
    simp only [synopticlaw39_SamplingExact.l3]
    rw [if_neg (by omega), hc, e]
    refine Eq.trans (Option.bind_some _ _) ?_
    rw [if_neg ht]
    congr 1
  | succ d ih =>
    intro k j c hd hk hc
    obtain ⟨k, rfl⟩ : ∃ m, k = m + 1 := ⟨k - 1, by omega⟩
    have hm := h.most
    have hcl := List.countP_le_length (p := fun y => decide (G y ≤ G x)) (l := List.range j)
    rw [List.length_range] at hcl
    have hw : wrap64 ((j : Int) + 1) = ((j + 1 : Nat) : Int) := by unfold wrap64; omega
    have hw2 : wrap64 ((c : Int) + 1) = ((c + 1 : Nat) : Int) := by unfold wrap64; omega
    simp only [synopticlaw39_SamplingExact.l3]
    rw [if_pos (by omega), if_pos (by omega), if_pos (by omega), h.cmp (show j < R.length by omega) hx]
    refine Eq.trans (Option.bind_some _ _) ?_
    rw [hw, hw2, show k + 1 - (d + 1) - 1 = k - d - 1 by omega]
    by_cases hq : G j ≤ G x
    · rw [if_pos (cmpI_le.2 (by omega))]
      exact ih k (j + 1) (c + 1) (by omega) (by omega) (by rw [List.range_succ, List.countP_append, List.countP_cons_of_pos (by simpa using hq), hc]; rfl)
    · rw [if_neg (fun z => hq (by have := cmpI_le.1 z; omega))]
      exact ih k (j + 1) c (by omega) (by omega) (by rw [List.range_succ, List.countP_append, List.countP_cons_of_neg (by simpa using hq), hc]; rfl)
theorem exact_l2 {R : List S31} {G : Nat → Nat} (h : Good R G) : ∀ (d k i : Nat), i + d = R.length → d * (R.length + 3) < k → synopticlaw39_SamplingExact.l2 k R R (R.length : Int) (i : Int) = some true := by
  intro d
  induction d with
  | zero =>
    intro k i hd hk
    obtain ⟨k, rfl⟩ : ∃ m, k = m + 1 := ⟨k - 1, by omega⟩
    simp only [synopticlaw39_SamplingExact.l2]
    rw [if_neg (by omega)]
  | succ d ih =>
    intro k i hd hk
    rw [Nat.succ_mul] at hk
    obtain ⟨k, rfl⟩ : ∃ m, k = m + 1 := ⟨k - 1, by omega⟩
    have hm := h.most
    have hw : wrap64 ((i : Int) + 1) = ((i + 1 : Nat) : Int) := by unfold wrap64; omega
    simp only [synopticlaw39_SamplingExact.l2]
    rw [if_pos (by omega), if_pos (by omega), if_pos (by omega)]
    have e := exact_l3 h i (by omega) R (R.length : Int) (i : Int) R.length k 0 0 (by omega) (by omega) rfl
    refine Eq.trans e ?_
    rw [hw]
    exact ih _ (i + 1) (by omega) (by omega)

/-- The signs of the chosen elements are turned. -/
def flip : List Int → Nat → List Int
  | [], _ => []
  | x :: l, m => (if m % 2 = 1 then -x else x) :: flip l (m / 2)
theorem flip_length : ∀ (l : List Int) (m : Nat), (flip l m).length = l.length
  | [], _ => rfl
  | x :: l, m => by simp [flip, flip_length l]
theorem flip_turned : ∀ (l : List Int) (m : Nat), Turned l (flip l m)
  | [], _ => .nil
  | x :: l, m => by
    rw [flip]
    split
    · exact .turn x (flip_turned l _)
    · exact .same x (flip_turned l _)
theorem flip_total : ∀ (l : List Int) (m : Nat), total (flip l m) = total l - 2 * chosen l m
  | [], _ => by simp [flip, total, chosen]
  | x :: l, m => by
    simp only [flip, total, chosen, flip_total l]
    split <;> omega
theorem flip_fine : ∀ (l : List Int), Fine l → ∀ m, Fine (flip l m)
  | [], _, m => by intro y hy; cases hy
  | x :: l, h, m => by
    intro y hy
    have hx := h x (List.mem_cons_self ..)
    rw [flip] at hy
    rcases List.mem_cons.1 hy with rfl | hy
    · split <;> omega
    · exact flip_fine l h.tail _ y hy
theorem flip_snoc : ∀ (a : List Int) (x : Int) (m : Nat), flip (a ++ [x]) m = flip a m ++ [if m / 2 ^ a.length % 2 = 1 then -x else x]
  | [], x, m => by simp [flip]
  | y :: a, x, m => by
    rw [List.cons_append, flip, flip, flip_snoc a x (m / 2), List.cons_append, Nat.div_div_eq_div_mul, List.length_cons, Nat.pow_succ, Nat.mul_comm]
theorem bit_at64 (c i : Nat) (hc : c < 9223372036854775808) (hi : i ≤ 64) : Go.bits .and .i64 (shr .i64 (c : Int) (i : Int)) 1 = ((c / 2 ^ i % 2 : Nat) : Int) := by
  have e : shr .i64 (c : Int) (i : Int) = ((c / 2 ^ i : Nat) : Int) := by
    unfold shr
    rw [show ((i : Int).toNat) = i from rfl, show IntKind.bits .i64 = 64 from rfl, Nat.min_eq_left hi]
    rw [Int.natCast_ediv, Int.natCast_pow]; rfl
  have hlt : c / 2 ^ i < 9223372036854775808 := Nat.lt_of_le_of_lt (Nat.div_le_self _ _) hc
  rw [e]
  clear e
  generalize c / 2 ^ i = q at hlt ⊢
  have h := bits_mask .i64 63 (by decide) (fun n a b => by rw [IntKind.wrap_i64]; omega) 1 (by decide) (q : Int) (by omega) (by omega)
  have h2 : ((2 : Int) ^ 1 - 1) = 1 := by decide
  rw [h2] at h
  rw [h]
  omega

/-- How many choices of signs have a sum as great as that of choice m. -/
def gs (l : List Int) (m : Nat) : Nat := great (devs l) (total l - 2 * chosen l m)
theorem cnt_great (l : List Int) : cnt l = great (devs l) (total l) := by
  rw [← great_perm (devs_range l)]
  unfold cnt great
  rw [List.countP_map]
  rfl
theorem cnt_flip (l : List Int) (m : Nat) : cnt (flip l m) = gs l m := by
  rw [cnt_great, great_perm (devs_turned (flip_turned l m)), flip_total]; rfl
theorem cnt_le (l : List Int) : cnt l ≤ 2 ^ l.length := by
  have := List.countP_le_length (p := fun c => decide (ab (total l) ≤ ab (total l - 2 * chosen l c))) (l := List.range (2 ^ l.length))
  rw [List.length_range] at this
  exact this
theorem gs_part (l : List Int) (x : Nat) : ((List.range (2 ^ l.length)).countP fun y => decide (gs l y ≤ gs l x)) ≤ gs l x := by
  have h := exact_of (devs l) (total l - 2 * chosen l x)
  rw [← (devs_range l).countP_eq, List.countP_map] at h
  exact h
/-- The result of the choice m. -/
def rs (l : List Int) (m : Nat) : S31 := ⟨(red (gs l m : Int) ((2 ^ l.length : Nat) : Int)).1, (red (gs l m : Int) ((2 ^ l.length : Nat) : Int)).2.1⟩
theorem rd_map (f : Nat → S31) (M j : Nat) (h : j < M) : rd_T31 ((List.range M).map f) (j : Int) = f j := by
  unfold rd_T31
  simp [h]
theorem good_of (l : List Int) (hl : l.length ≤ 6) : Good ((List.range (2 ^ l.length)).map (rs l)) (gs l) := by
  have hp : 2 ^ l.length ≤ 2 ^ 6 := Nat.pow_le_pow_right (by decide) hl
  have h1 := Nat.two_pow_pos l.length
  have hlen : ((List.range (2 ^ l.length)).map (rs l)).length = 2 ^ l.length := by simp
  refine ⟨by rw [hlen]; omega, by rw [hlen]; omega, ?_, ?_⟩
  · intro j hj
    rw [hlen] at hj ⊢
    rw [rd_map _ _ _ hj]
    have hg : gs l j ≤ 2 ^ l.length := by rw [← cnt_flip]; have := cnt_le (flip l j); rwa [flip_length] at this
    obtain ⟨x, y, e, h⟩ := isRed_of (gs l j) (2 ^ l.length) (by omega) (by omega) (by omega)
    have e1 : (rs l j).f0 = x := by unfold rs; rw [e]
    have e2 : (rs l j).f1 = y := by unfold rs; rw [e]
    rw [e1, e2]
    exact h
  · intro x hx
    rw [hlen] at hx ⊢
    exact gs_part l x
theorem signs_flip (l : List Int) (hl : l.length ≤ 6) (hf : Fine l) (m : Nat) : sampling_Signs.f (flip l m) = some ((rs l m).f0, (rs l m).f1, 0) := by
  have hp : 2 ^ l.length ≤ 2 ^ 6 := Nat.pow_le_pow_right (by decide) hl
  have h1 := Nat.two_pow_pos l.length
  have hg : gs l m ≤ 2 ^ l.length := by rw [← cnt_flip]; have := cnt_le (flip l m); rwa [flip_length] at this
  obtain ⟨x, y, e, h⟩ := isRed_of (gs l m) (2 ^ l.length) (by omega) (by omega) (by omega)
  unfold sampling_Signs.f
  rw [if_pos (by rw [flip_length]; omega)]
  unfold signsR
  rw [if_neg (by rw [flip_length]; omega), if_neg (by rw [(outB_fine _).2 (flip_fine l hf m)]; simp), cnt_flip, flip_length, e]
  have e1 : (rs l m).f0 = x := by unfold rs; rw [e]
  have e2 : (rs l m).f1 = y := by unfold rs; rw [e]
  rw [e1, e2]
theorem exact_l1 (l : List Int) (hl : l.length ≤ 6) (hf : Fine l) (res : List S31) (m : Nat) (hm : m < 64) : ∀ (d k i : Nat), i + d = l.length → d < k →
    synopticlaw39_SamplingExact.l1 k l res (m : Int) (flip (l.take i) m ++ l.drop i) (l.length : Int) (i : Int) = synopticlaw39_SamplingExact.l1 (k - d) l res (m : Int) (flip l m) (l.length : Int) (l.length : Int) := by
  intro d
  induction d with
  | zero =>
    intro k i hd hk
    obtain rfl : i = l.length := by omega
    rw [List.take_length, List.drop_length, List.append_nil, Nat.sub_zero]
  | succ d ih =>
    intro k i hd hk
    obtain ⟨k, rfl⟩ : ∃ m, k = m + 1 := ⟨k - 1, by omega⟩
    have hi : i < l.length := by omega
    have hfl : (flip (l.take i) m).length = i := by rw [flip_length, List.length_take]; omega
    have hlen : (flip (l.take i) m ++ l.drop i).length = l.length := by rw [List.length_append, hfl, List.length_drop]; omega
    have er : rd (flip (l.take i) m ++ l.drop i) (i : Int) = l[i] := by
      unfold rd
      rw [List.drop_eq_getElem_cons hi]
      simp [List.getElem?_append_right, hfl, hi]
    have hw : wrap64 ((i : Int) + 1) = ((i + 1 : Nat) : Int) := by unfold wrap64; omega
    have hu : IntKind.u64.wrap (i : Int) = (i : Int) := u64_small (by omega) (by omega)
    have es : flip (l.take (i + 1)) m ++ l.drop (i + 1) = (flip (l.take i) m ++ l.drop i).set i (if m / 2 ^ i % 2 = 1 then -l[i] else l[i]) := by
      rw [List.take_succ_eq_append_getElem hi, flip_snoc, List.length_take, Nat.min_eq_left (by omega), List.drop_eq_getElem_cons hi, List.append_assoc, List.set_append_right _ _ (by omega), hfl, Nat.sub_self]
      rfl
    have hb := ih k (i + 1) (by omega) (by omega)
    rw [show k + 1 - (d + 1) = k - d by omega, ← hb, es]
    conv => lhs; rw [synopticlaw39_SamplingExact.l1]
    rw [if_pos (by omega), hu, if_pos (by omega), bit_at64 m i (by omega) (by omega), hw]
    by_cases hc : m / 2 ^ i % 2 = 1
    · have hx := hf l[i] (List.getElem_mem hi)
      rw [if_pos (by omega), if_pos (by omega), if_pos (by rw [hlen]; omega), er, if_pos hc, wrap_self (by omega) (by omega)]
      rfl
    · have hself : (flip (l.take i) m ++ l.drop i).set i l[i] = flip (l.take i) m ++ l.drop i := by
        rw [List.drop_eq_getElem_cons hi, List.set_append_right _ _ (by omega), hfl, Nat.sub_self]; rfl
      rw [if_neg (by omega), if_neg hc, hself]
theorem shl_len (n M : Nat) (hn : n ≤ 12) (hM : 2 ^ n = M) (hM2 : M ≤ 4096) : shl .i64 1 (IntKind.u64.wrap (n : Int)) = (M : Int) := by
  rw [u64_small (by omega) (by omega)]
  unfold shl
  rw [show ((n : Int).toNat) = n from rfl, show IntKind.bits .i64 = 64 from rfl, Nat.min_eq_left (by omega), Int.one_mul, show ((2 : Int) ^ n) = ((2 ^ n : Nat) : Int) by rw [Int.natCast_pow]; rfl, hM, IntKind.wrap_i64]
  omega
theorem exact_l0 (l : List Int) (hl : l.length ≤ 6) (hf : Fine l) (M : Nat) (hM : 2 ^ l.length = M) (hM2 : M ≤ 64) : ∀ (d k m : Nat), m + d = M → d * (l.length + 3) + M * (M + 3) + 5 < k →
    synopticlaw39_SamplingExact.l0 k l ((List.range m).map (rs l)) (m : Int) = some true := by
  intro d
  induction d with
  | zero =>
    intro k m hd hk
    obtain ⟨k, rfl⟩ : ∃ j, k = j + 1 := ⟨k - 1, by omega⟩
    obtain rfl : m = M := by omega
    have hu : IntKind.u64.wrap ((l.length : Nat) : Int) = ((l.length : Nat) : Int) := u64_small (by omega) (by omega)
    simp only [synopticlaw39_SamplingExact.l0]
    rw [if_pos (by rw [hu]; omega), shl_len l.length m (by omega) hM (by omega), if_neg (by omega)]
    have hg := good_of l hl
    rw [hM] at hg
    have hlen : ((List.range m).map (rs l)).length = m := by simp
    have e := exact_l2 hg m k 0 (by rw [hlen]; omega) (by rw [hlen]; omega)
    exact e
  | succ d ih =>
    intro k m hd hk
    rw [Nat.succ_mul] at hk
    obtain ⟨k, rfl⟩ : ∃ j, k = j + 1 := ⟨k - 1, by omega⟩
    have hu : IntKind.u64.wrap ((l.length : Nat) : Int) = ((l.length : Nat) : Int) := u64_small (by omega) (by omega)
    have hlen : ((List.range m).map (rs l)).length = m := by simp
    simp only [synopticlaw39_SamplingExact.l0]
    rw [if_pos (by rw [hu]; omega), shl_len l.length M (by omega) hM (by omega), if_pos (by omega), if_pos (by simp only [List.length_nil]; omega)]
    refine Eq.trans (Option.bind_some _ _) ?_
    rw [List.nil_append]
    have e := exact_l1 l hl hf ((List.range m).map (rs l)) m (by omega) l.length k 0 (by omega) (by omega)
    rw [List.take_zero, List.drop_zero, flip, List.nil_append] at e
    refine Eq.trans e ?_
    obtain ⟨q, hq⟩ : ∃ q, k - l.length = q + 1 := ⟨k - l.length - 1, by omega⟩
    rw [hq]
    simp only [synopticlaw39_SamplingExact.l1]
    rw [if_neg (by omega), signs_flip l hl hf m]
    refine Eq.trans (Option.bind_some _ _) ?_
    rw [if_pos rfl, if_pos (by rw [hlen]; omega)]
    have hw : wrap64 ((m : Int) + 1) = ((m + 1 : Nat) : Int) := by unfold wrap64; omega
    have h2 := ih q (m + 1) (by omega) (by omega)
    rw [List.range_succ, List.map_append] at h2
    rw [hw]
    exact h2
theorem awake_true : synopticlaw39_awake.f = some true := by
  have e : cnt [1, 1, 1] = 2 := by decide
  have h : signsR [1, 1, 1] = (1, 4, 0) := by
    unfold signsR
    rw [if_neg (by decide), if_neg (by decide), e]
    kernel_rfl
  have h2 : sampling_Signs.f [1, 1, 1] = some (1, 4, 0) := by
    unfold sampling_Signs.f
    rw [if_pos (by decide), h]
  unfold synopticlaw39_awake.f
  rw [h2]
  rfl
theorem exact_pure : synopticlaw39_SamplingExact.Pure := by
  intro s _ hs hb
  obtain ⟨c, e1, hc⟩ := new_some s (bytes_of hb) (by omega) 40 (by omega)
  refine ⟨20000, ?_⟩
  obtain ⟨k, hk⟩ : ∃ k, 20000 = k := ⟨_, rfl⟩
  rw [hk]
  obtain ⟨l, q, e2, hf, hl, _, _⟩ := sample_some hc k (by omega) 0 6 (by omega) (by omega) (by omega)
  unfold synopticlaw39_SamplingExact.f
  rw [awake_true]
  refine Eq.trans (Option.bind_some _ _) ?_
  rw [if_pos rfl, e1]
  refine Eq.trans (Option.bind_some _ _) ?_
  rw [e2]
  refine Eq.trans (Option.bind_some _ _) ?_
  have hp : 2 ^ l.length ≤ 2 ^ 6 := Nat.pow_le_pow_right (by decide) (by omega)
  have h0 := exact_l0 l (by omega) hf (2 ^ l.length) rfl (by omega) (2 ^ l.length) k 0 (by omega) (by
    have h1 : 2 ^ l.length * (l.length + 3) ≤ 64 * 9 := Nat.mul_le_mul (by omega) (by omega)
    have h2 : 2 ^ l.length * (2 ^ l.length + 3) ≤ 64 * 67 := Nat.mul_le_mul (by omega) (by omega)
    omega)
  exact h0
end Go.Proofs.Ytcgjgpdandjicaa.B
