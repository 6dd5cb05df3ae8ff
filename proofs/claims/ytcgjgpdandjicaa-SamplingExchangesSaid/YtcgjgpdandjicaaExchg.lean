/- The statement SamplingExchanges without Go: whatever the choices, it answers true. -/
import Derived.Test.YtcgjgpdandjicaaLExchanges
import Derived.Test.YtcgjgpdandjicaaExact
import Derived.Test.YtcgjgpdandjicaaParts
namespace Go.Proofs.Ytcgjgpdandjicaa.B
open Go.RowKit Go.Proofs.YtcgjgpdandjicaaW.PrintWords Go.Proofs.YtcgjgpdandjicaaW.PrintLast Go.Proofs.YtcgjgpdandjicaaW.PrintMore
open Go.Proofs.Ytcgjgpdandjicaa.Smp
set_option linter.unusedVariables false
set_option linter.unusedSimpArgs false

theorem exchg_l3 {R : List S31} {G : Nat → Nat} (h : Good R G) (x : Nat) (hx : x < R.length) (xs : List S31) (n i : Int) : ∀ (d k j c : Nat), j + d = R.length → d < k → c = ((List.range j).countP fun y => decide (G y ≤ G x)) →
    synopticlaw39_SamplingExchanges.l3 k R (c : Int) xs n i R (R.length : Int) (j : Int) (rd_T31 R (x : Int)).f0 (rd_T31 R (x : Int)).f1 = synopticlaw39_SamplingExchanges.l2 (k - d - 1) R xs n (wrap64 (i + 1)) := by
  intro d
  induction d with
  | zero =>
    intro k j c hd hk hc
    obtain ⟨k, rfl⟩ : ∃ m, k = m + 1 := ⟨k - 1, by omega⟩
    obtain rfl : j = R.length := by omega
    obtain ⟨t, e, ht⟩ := h.last hx
    simp only [synopticlaw39_SamplingExchanges.l3]
    rw [if_neg (by omega), hc, e]
    refine Eq.trans (Option.bind_some _ _) ?_
    rw [if_neg ht]
    congr 1
  | succ d ih =>
    intro k j c hd hk hc
    obtain ⟨k, rfl⟩ : ∃ m, k = m + 1 := ⟨k - 1, by omega⟩
    have hm := h.most
    have hcl := List.countP_le_length (p := fun y => decide (G y ≤ G x)) (l := List.range j)
    rw [List.length_range] at hcl
    have hw : wrap64 ((j : Int) + 1) = ((j + 1 : Nat) : Int) := by unfold wrap64; omega
    have hw2 : wrap64 ((c : Int) + 1) = ((c + 1 : Nat) : Int) := by unfold wrap64; omega
    simp only [synopticlaw39_SamplingExchanges.l3]
    rw [if_pos (by omega), if_pos (by omega), if_pos (by omega), h.cmp (show j < R.length by omega) hx]
    refine Eq.trans (Option.bind_some _ _) ?_
    rw [hw, hw2, show k + 1 - (d + 1) - 1 = k - d - 1 by omega]
    by_cases hq : G j ≤ G x
    · rw [if_pos (cmpI_le.2 (by omega))]
      exact ih k (j + 1) (c + 1) (by omega) (by omega) (by rw [List.range_succ, List.countP_append, List.countP_cons_of_pos (by simpa using hq), hc]; rfl)
    · rw [if_neg (fun z => hq (by have := cmpI_le.1 z; omega))]
      exact ih k (j + 1) c (by omega) (by omega) (by rw [List.range_succ, List.countP_append, List.countP_cons_of_neg (by simpa using hq), hc]; rfl)
theorem exchg_l2 {R : List S31} {G : Nat → Nat} (h : R.length = 0 ∨ Good R G) : ∀ (d k i : Nat), i + d = R.length → d * (R.length + 3) < k → synopticlaw39_SamplingExchanges.l2 k R R (R.length : Int) (i : Int) = some true := by
  intro d
  induction d with
  | zero =>
    intro k i hd hk
    obtain ⟨k, rfl⟩ : ∃ m, k = m + 1 := ⟨k - 1, by omega⟩
    simp only [synopticlaw39_SamplingExchanges.l2]
    rw [if_neg (by omega)]
  | succ d ih =>
    intro k i hd hk
    rw [Nat.succ_mul] at hk
    obtain ⟨k, rfl⟩ : ∃ m, k = m + 1 := ⟨k - 1, by omega⟩
    have h := h.resolve_left (by omega)
    have hm := h.most
    have hw : wrap64 ((i : Int) + 1) = ((i + 1 : Nat) : Int) := by unfold wrap64; omega
    simp only [synopticlaw39_SamplingExchanges.l2]
    rw [if_pos (by omega), if_pos (by omega), if_pos (by omega)]
    have e := exchg_l3 h i (by omega) R (R.length : Int) (i : Int) R.length k 0 0 (by omega) (by omega) rfl
    refine Eq.trans e ?_
    rw [hw]
    exact ih _ (i + 1) (by omega) (by omega)

/-- The chosen elements, and the others. -/
def sel : List Int → Nat → List Int
  | [], _ => []
  | x :: l, m => (if m % 2 = 1 then [x] else []) ++ sel l (m / 2)
def rst : List Int → Nat → List Int
  | [], _ => []
  | x :: l, m => (if m % 2 = 1 then [] else [x]) ++ rst l (m / 2)
theorem sel_length : ∀ (l : List Int) (m : Nat), (sel l m).length = ones l.length m
  | [], _ => rfl
  | x :: l, m => by
    rw [sel, List.length_append, sel_length l, List.length_cons, ones]
    split
    · simp; omega
    · simp; omega
theorem sel_total : ∀ (l : List Int) (m : Nat), total (sel l m) = chosen l m
  | [], _ => rfl
  | x :: l, m => by
    rw [sel, total_append, sel_total l, chosen]
    split <;> simp [total]
theorem sel_rst : ∀ (l : List Int) (m : Nat), (sel l m ++ rst l m).Perm l
  | [], _ => .nil
  | x :: l, m => by
    have ih := sel_rst l (m / 2)
    rw [sel, rst]
    split
    · rw [List.nil_append]; exact ih.cons x
    · rw [List.nil_append]; exact (List.perm_middle).trans (ih.cons x)
theorem sel_snoc : ∀ (a : List Int) (x : Int) (m : Nat), sel (a ++ [x]) m = sel a m ++ if m / 2 ^ a.length % 2 = 1 then [x] else []
  | [], x, m => by simp [sel]
  | y :: a, x, m => by
    rw [List.cons_append, sel, sel, sel_snoc a x (m / 2), List.append_assoc, Nat.div_div_eq_div_mul, List.length_cons, Nat.pow_succ, Nat.mul_comm]
theorem rst_snoc : ∀ (a : List Int) (x : Int) (m : Nat), rst (a ++ [x]) m = rst a m ++ if m / 2 ^ a.length % 2 = 1 then [] else [x]
  | [], x, m => by simp [rst]
  | y :: a, x, m => by
    rw [List.cons_append, rst, rst, rst_snoc a x (m / 2), List.append_assoc, Nat.div_div_eq_div_mul, List.length_cons, Nat.pow_succ, Nat.mul_comm]
theorem sel_short (l : List Int) (m : Nat) : (sel l m).length + (rst l m).length = l.length := by
  have := (sel_rst l m).length_eq
  rwa [List.length_append] at this

/-- How many parts of the same size lie as far off. -/
def gx (l : List Int) (K m : Nat) : Nat := great (offs l K) (off l.length (total l) K (chosen l m))
/-- The parts with K elements. -/
def parts (n K m : Nat) : List Nat := (List.range m).filter fun c => decide (ones n c = K)
theorem parts_succ (n K m : Nat) : parts n K (m + 1) = parts n K m ++ if ones n m = K then [m] else [] := by
  unfold parts
  rw [List.range_succ, List.filter_append]
  by_cases h : ones n m = K
  · rw [if_pos h]; simp [h]
  · rw [if_neg h]; simp [h]
theorem parts_le (n K m : Nat) : (parts n K m).length ≤ m := by
  have := List.length_filter_le (fun c => decide (ones n c = K)) (List.range m)
  rwa [List.length_range] at this
theorem offs_parts (l : List Int) (K : Nat) : ((parts l.length K (2 ^ l.length)).map fun c => off l.length (total l) K (chosen l c)).Perm (offs l K) := by
  unfold offs parts
  refine Eq.subst (motive := fun z => List.Perm z _) ?_ (((subs_range l).filter fun p => decide (p.1 = K)).map fun p => off l.length (total l) K p.2)
  rw [List.filter_map, List.map_map]
  rfl
/-- The result of the part m. -/
def rx (l : List Int) (K m : Nat) : S31 := ⟨(red (gx l K m : Int) ((offs l K).length : Int)).1, (red (gx l K m : Int) ((offs l K).length : Int)).2.1⟩
theorem rd_map2 (f : Nat → S31) (ms : List Nat) (j : Nat) (h : j < ms.length) : rd_T31 (ms.map f) (j : Int) = f (ms.getD j 0) := by
  unfold rd_T31
  simp [h]
theorem great_le_length (l : List Int) (x : Int) : great l x ≤ l.length := List.countP_le_length
theorem countP_at (ms : List Nat) (p : Nat → Bool) : ((List.range ms.length).countP fun y => p (ms.getD y 0)) = ms.countP p := by
  have e : (List.range ms.length).map (fun y => ms.getD y 0) = ms := by
    refine List.ext_getElem (by simp) fun i h1 h2 => ?_
    simp [h2]
  conv => rhs; rw [← e, List.countP_map]
  rfl
theorem good_parts (l : List Int) (hl : l.length ≤ 7) (K : Nat) : ((parts l.length K (2 ^ l.length)).map (rx l K)).length = 0 ∨ Good ((parts l.length K (2 ^ l.length)).map (rx l K)) (fun j => gx l K ((parts l.length K (2 ^ l.length)).getD j 0)) := by
  have hp : 2 ^ l.length ≤ 2 ^ 7 := Nat.pow_le_pow_right (by decide) hl
  have hle := parts_le l.length K (2 ^ l.length)
  have hof := (offs_parts l K).length_eq
  rw [List.length_map] at hof
  by_cases h0 : (parts l.length K (2 ^ l.length)).length = 0
  · exact .inl (by rw [List.length_map]; exact h0)
  refine .inr ⟨by rw [List.length_map]; omega, by rw [List.length_map]; omega, ?_, ?_⟩
  · intro j hj
    rw [List.length_map] at hj ⊢
    rw [rd_map2 _ _ _ hj]
    have hg := great_le_length (offs l K) (off l.length (total l) K (chosen l ((parts l.length K (2 ^ l.length)).getD j 0)))
    obtain ⟨x, y, e, h⟩ := isRed_of (gx l K ((parts l.length K (2 ^ l.length)).getD j 0)) (offs l K).length (by unfold gx; omega) (by omega) (by omega)
    rw [hof]
    have e1 : (rx l K ((parts l.length K (2 ^ l.length)).getD j 0)).f0 = x := by unfold rx; rw [e]
    have e2 : (rx l K ((parts l.length K (2 ^ l.length)).getD j 0)).f1 = y := by unfold rx; rw [e]
    rw [e1, e2]
    exact h
  · intro x hx
    rw [List.length_map] at hx ⊢
    have h := exact_of (offs l K) (off l.length (total l) K (chosen l ((parts l.length K (2 ^ l.length)).getD x 0)))
    rw [← (offs_parts l K).countP_eq, List.countP_map] at h
    refine Nat.le_trans (Nat.le_of_eq ?_) h
    exact countP_at (parts l.length K (2 ^ l.length)) fun c => decide (gx l K c ≤ gx l K ((parts l.length K (2 ^ l.length)).getD x 0))
theorem exch_part (l : List Int) (hl : l.length ≤ 7) (hf : Fine l) (K m : Nat) (hm : m < 2 ^ l.length) (hK : ones l.length m = K) :
    exchR (sel l m) (rst l m) = ((rx l K m).f0, (rx l K m).f1, 0) := by
  have hp : 2 ^ l.length ≤ 2 ^ 7 := Nat.pow_le_pow_right (by decide) hl
  have hle := parts_le l.length K (2 ^ l.length)
  have hof := (offs_parts l K).length_eq
  rw [List.length_map] at hof
  have hpe := sel_rst l m
  have hk : (sel l m).length = K := by rw [sel_length, hK]
  have hmem : m ∈ parts l.length K (2 ^ l.length) := by
    unfold parts
    rw [List.mem_filter]
    exact ⟨List.mem_range.2 hm, by simpa using hK⟩
  have hpos := List.length_pos_of_mem hmem
  have hg := great_le_length (offs l K) (off l.length (total l) K (chosen l m))
  obtain ⟨x, y, e, h⟩ := isRed_of (gx l K m) (offs l K).length (by unfold gx; omega) (by omega) (by omega)
  unfold exchR
  have hnum : exNum (sel l m) (rst l m) = gx l K m := by
    rw [exNum_perm hpe, hk, sel_total]; rfl
  have hofs : exOf (sel l m) (rst l m) = (offs l K).length := by
    rw [exOf_perm hpe, hk]
  rw [if_neg (by rw [hpe.length_eq]; omega), if_neg (by rw [outB_perm hpe, (outB_fine _).2 hf]; simp), hnum, hofs, e]
  have e1 : (rx l K m).f0 = x := by unfold rx; rw [e]
  have e2 : (rx l K m).f1 = y := by unfold rx; rw [e]
  rw [e1, e2]
theorem exchg_l1 (l : List Int) (hl : l.length ≤ 7) (q : Int) (res : List S31) (m : Nat) (hm : m < 128) : ∀ (d k i : Nat), i + d = l.length → d < k →
    synopticlaw39_SamplingExchanges.l1 k l q res (m : Int) (sel (l.take i) m) (rst (l.take i) m) (l.length : Int) (i : Int) = synopticlaw39_SamplingExchanges.l1 (k - d) l q res (m : Int) (sel l m) (rst l m) (l.length : Int) (l.length : Int) := by
  intro d
  induction d with
  | zero =>
    intro k i hd hk
    obtain rfl : i = l.length := by omega
    rw [List.take_length, Nat.sub_zero]
  | succ d ih =>
    intro k i hd hk
    obtain ⟨k, rfl⟩ : ∃ m, k = m + 1 := ⟨k - 1, by omega⟩
    have hi : i < l.length := by omega
    have er : rd l (i : Int) = l[i] := by unfold rd; simp [hi]
    have hw : wrap64 ((i : Int) + 1) = ((i + 1 : Nat) : Int) := by unfold wrap64; omega
    have hu : IntKind.u64.wrap (i : Int) = (i : Int) := u64_small (by omega) (by omega)
    have htl : (l.take i).length = i := by rw [List.length_take]; omega
    have hs := sel_short (l.take i) m
    rw [htl] at hs
    have e1 : sel (l.take (i + 1)) m = sel (l.take i) m ++ if m / 2 ^ i % 2 = 1 then [l[i]] else [] := by
      rw [List.take_succ_eq_append_getElem hi, sel_snoc, htl]
    have e2 : rst (l.take (i + 1)) m = rst (l.take i) m ++ if m / 2 ^ i % 2 = 1 then [] else [l[i]] := by
      rw [List.take_succ_eq_append_getElem hi, rst_snoc, htl]
    have hb := ih k (i + 1) (by omega) (by omega)
    rw [show k + 1 - (d + 1) = k - d by omega, ← hb, e1, e2]
    conv => lhs; rw [synopticlaw39_SamplingExchanges.l1]
    rw [if_pos (by omega), hu, if_pos (by omega), bit_at64 m i (by omega) (by omega), hw]
    by_cases hc : m / 2 ^ i % 2 = 1
    · rw [if_pos (by omega), if_pos (by omega), if_pos (by omega), if_pos (by omega), er, if_pos hc, if_pos hc, List.append_nil]
    · rw [if_neg (by omega), if_pos (by omega), if_pos (by omega), if_pos (by omega), er, if_neg hc, if_neg hc, List.append_nil]
theorem exchg_l0 (l : List Int) (hl : l.length ≤ 7) (hf : Fine l) (K M : Nat) (hM : 2 ^ l.length = M) (hM2 : M ≤ 128) : ∀ (d k m : Nat), m + d = M → d * (l.length + 3) + M * (M + 3) + 5 < k →
    synopticlaw39_SamplingExchanges.l0 k l (K : Int) ((parts l.length K m).map (rx l K)) (m : Int) = some true := by
  intro d
  induction d with
  | zero =>
    intro k m hd hk
    obtain ⟨k, rfl⟩ : ∃ j, k = j + 1 := ⟨k - 1, by omega⟩
    obtain rfl : m = M := by omega
    have hu : IntKind.u64.wrap ((l.length : Nat) : Int) = ((l.length : Nat) : Int) := u64_small (by omega) (by omega)
    simp only [synopticlaw39_SamplingExchanges.l0]
    rw [if_pos (by rw [hu]; omega), shl_len l.length m (by omega) hM (by omega), if_neg (by omega)]
    have hg := good_parts l hl K
    rw [hM] at hg
    have hlen : ((parts l.length K m).map (rx l K)).length ≤ m := by rw [List.length_map]; exact parts_le _ _ _
    have hmul : ((parts l.length K m).map (rx l K)).length * (((parts l.length K m).map (rx l K)).length + 3) ≤ m * (m + 3) := Nat.mul_le_mul hlen (by omega)
    exact exchg_l2 hg ((parts l.length K m).map (rx l K)).length k 0 (by omega) (by omega)
  | succ d ih =>
    intro k m hd hk
    rw [Nat.succ_mul] at hk
    obtain ⟨k, rfl⟩ : ∃ j, k = j + 1 := ⟨k - 1, by omega⟩
    have hu : IntKind.u64.wrap ((l.length : Nat) : Int) = ((l.length : Nat) : Int) := u64_small (by omega) (by omega)
    have hlen : ((parts l.length K m).map (rx l K)).length ≤ m := by rw [List.length_map]; exact parts_le _ _ _
    have hlt0 : m < 8796093022208 := by clear hk ih; omega
    have hlt : ((parts l.length K m).map (rx l K)).length < 8796093022208 := Nat.lt_of_le_of_lt hlen hlt0
    simp only [synopticlaw39_SamplingExchanges.l0]
    rw [if_pos (by rw [hu]; omega), shl_len l.length M (by omega) hM (by omega), if_pos (by omega)]
    have e := exchg_l1 l hl (K : Int) ((parts l.length K m).map (rx l K)) m (by omega) l.length k 0 (by omega) (by omega)
    rw [List.take_zero, sel, rst] at e
    refine Eq.trans e ?_
    obtain ⟨q, hq⟩ : ∃ q, k - l.length = q + 1 := ⟨k - l.length - 1, by omega⟩
    rw [hq]
    have hw : wrap64 ((m : Int) + 1) = ((m + 1 : Nat) : Int) := by unfold wrap64; omega
    have h2 := ih q (m + 1) (by omega) (by omega)
    rw [parts_succ, List.map_append] at h2
    have hsh := sel_short l m
    have hsl := sel_length l m
    simp only [synopticlaw39_SamplingExchanges.l1]
    rw [if_neg (by omega)]
    by_cases hK : ones l.length m = K
    · have hx := exch_part l hl hf K m (by omega) hK
      have e1 : sampling_Exchange.f (sel l m) (rst l m) = some ((rx l K m).f0, (rx l K m).f1, 0) := by
        unfold sampling_Exchange.f
        rw [if_pos (by omega), hx]
      have e2 : sampling_Exchange.f (rst l m) (sel l m) = some ((rx l K m).f0, (rx l K m).f1, 0) := by
        unfold sampling_Exchange.f
        rw [if_pos (by omega), exchR_comm, hx]
      rw [if_pos (by omega), e1]
      refine Eq.trans (Option.bind_some _ _) ?_
      rw [e2]
      refine Eq.trans (Option.bind_some _ _) ?_
      dsimp only
      rw [if_pos rfl, if_pos rfl, if_neg (by simp), if_pos hlt, hw]
      rw [if_pos hK] at h2
      exact h2
    · rw [if_neg (by omega), hw]
      rw [if_neg hK, List.map_nil, List.append_nil] at h2
      exact h2
theorem exchanges_pure : synopticlaw39_SamplingExchanges.Pure := by
  intro s a1 _ hs hb ha
  have hau := bounds_u8 ha
  obtain ⟨c, e1, hc⟩ := new_some s (bytes_of hb) (by omega) 40 (by omega)
  refine ⟨20000, ?_⟩
  obtain ⟨k, hk⟩ : ∃ k, 20000 = k := ⟨_, rfl⟩
  rw [hk]
  obtain ⟨l, q, e2, hf, hl, _, _⟩ := sample_some hc k (by omega) 0 7 (by omega) (by omega) (by omega)
  unfold synopticlaw39_SamplingExchanges.f
  rw [awake_true]
  refine Eq.trans (Option.bind_some _ _) ?_
  rw [if_pos rfl, e1]
  refine Eq.trans (Option.bind_some _ _) ?_
  rw [e2]
  refine Eq.trans (Option.bind_some _ _) ?_
  have hw : wrap64 ((l.length : Int) + 1) = (l.length : Int) + 1 := wrap_self (by omega) (by omega)
  rw [if_neg (by rw [hw]; omega), hw, wrap_self (x := a1) (by omega) (by omega)]
  obtain ⟨K, hK⟩ : ∃ K : Nat, Int.tmod a1 ((l.length : Int) + 1) = (K : Int) := ⟨(Int.tmod a1 ((l.length : Int) + 1)).toNat, by have := Int.tmod_nonneg ((l.length : Int) + 1) hau.1; omega⟩
  rw [hK]
  have hp : 2 ^ l.length ≤ 2 ^ 7 := Nat.pow_le_pow_right (by decide) (by omega)
  have h0 := exchg_l0 l (by omega) hf K (2 ^ l.length) rfl (by omega) (2 ^ l.length) k 0 (by omega) (by
    have h1 : 2 ^ l.length * (l.length + 3) ≤ 128 * 10 := Nat.mul_le_mul (by omega) (by omega)
    have h2 : 2 ^ l.length * (2 ^ l.length + 3) ≤ 128 * 131 := Nat.mul_le_mul (by omega) (by omega)
    omega)
  exact h0
end Go.Proofs.Ytcgjgpdandjicaa.B
