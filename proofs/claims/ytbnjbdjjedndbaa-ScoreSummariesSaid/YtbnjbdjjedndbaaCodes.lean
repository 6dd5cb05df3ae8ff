/- What a list of choices gives: Next, Signed and Pairs always return, within their bounds. -/
import Derived.Test.YtbnjbdjjedndbaaBC
import Derived.OpenShut
namespace Go.Proofs.Ytbnjbdjjedndbaa.B
open Go.RowKit Go.Proofs.YtbnjbdjjedndbaaW.PrintWords Go.Proofs.YtbnjbdjjedndbaaW.PrintLast Go.Proofs.YtbnjbdjjedndbaaW.PrintMore

theorem wrap_id {x : Int} (h0 : -9223372036854775808 ≤ x) (h1 : x ≤ 9223372036854775807) : wrap64 x = x := by unfold wrap64; omega
/-- All choices are bytes. -/
def Bytes (s : List Int) : Prop := ∀ x ∈ s, 0 ≤ x ∧ x ≤ 255
theorem rd_bytes {s : List Int} (hs : Bytes s) (i : Int) : 0 ≤ rd s i ∧ rd s i ≤ 255 := by
  unfold rd
  rw [List.getD_eq_getElem?_getD]
  by_cases h : i.toNat < s.length
  · rw [List.getElem?_eq_getElem h]
    exact hs _ (List.getElem_mem h)
  · rw [List.getElem?_eq_none (by omega)]
    simp

theorem next_some {s : List Int} (hs : Bytes s) (at_ n : Int) (h0 : 0 ≤ at_) (h1 : at_ ≤ 1000000000000) (hn : 1 ≤ n) (hn2 : n ≤ 1000000) :
    ∃ r q, synopticfield_Codes_Next.f s at_ n = some (r, q) ∧ 0 ≤ r ∧ r < n ∧ at_ ≤ q ∧ q ≤ at_ + 1 := by
  unfold synopticfield_Codes_Next.f synopticfield_Codes_Left.f
  simp only [Option.bind_some]
  by_cases hl : at_ < (s.length : Int)
  · have e1 : wrap64 (at_ + 1) = at_ + 1 := wrap_id (by omega) (by omega)
    have e2 : wrap64 (at_ + 1 - 1) = at_ := by rw [wrap_id (by omega) (by omega)]; omega
    have hb := rd_bytes hs at_
    have e3 : wrap64 (rd s at_) = rd s at_ := wrap_id (by omega) (by omega)
    rw [decide_eq_true hl, if_pos rfl, if_neg (by omega), e1, e2, if_pos h0, if_pos hl, if_neg (by omega), e3]
    refine ⟨_, _, rfl, ?_, ?_, by omega, by omega⟩
    · exact Int.tmod_nonneg _ hb.1
    · exact Int.tmod_lt_of_pos _ (by omega)
  · rw [decide_eq_false hl, if_neg (by simp)]
    exact ⟨0, at_, rfl, by omega, by omega, by omega, by omega⟩

theorem tmod_bounds (a n : Int) (hn : 0 < n) : -n < a.tmod n ∧ a.tmod n < n := by
  refine ⟨?_, Int.tmod_lt_of_pos _ hn⟩
  have h : (-a).tmod n < n := Int.tmod_lt_of_pos _ hn
  rw [Int.neg_tmod] at h
  omega

theorem signed_some {s : List Int} (hs : Bytes s) (at_ : Int) (h0 : 0 ≤ at_) (h1 : at_ ≤ 100000000000) :
    ∃ r q, synopticfield_Codes_Signed.f s at_ 1000000 = some (r, q) ∧ -1000000 ≤ r ∧ r ≤ 1000000 ∧ at_ ≤ q ∧ q ≤ at_ + 4 := by
  unfold synopticfield_Codes_Signed.f
  obtain ⟨r1, q1, e1, a1, b1, c1, d1⟩ := next_some hs at_ 256 h0 (by omega) (by omega) (by omega)
  obtain ⟨r2, q2, e2, a2, b2, c2, d2⟩ := next_some hs q1 256 (by omega) (by omega) (by omega) (by omega)
  obtain ⟨r3, q3, e3, a3, b3, c3, d3⟩ := next_some hs q2 256 (by omega) (by omega) (by omega) (by omega)
  obtain ⟨r4, q4, e4, a4, b4, c4, d4⟩ := next_some hs q3 2 (by omega) (by omega) (by omega) (by omega)
  rw [e1]
  simp only [Option.bind_some]
  rw [e2]
  simp only [Option.bind_some]
  rw [e3]
  simp only [Option.bind_some]
  have ew : wrap64 (1000000 + 1) = 1000001 := by unfold wrap64; omega
  rw [ew, if_neg (by omega), e4]
  simp only [Option.bind_some]
  obtain ⟨t, ht⟩ : ∃ t, Int.tmod (Go.bits .or .i64 (Go.bits .or .i64 (wrap64 (r1 * 65536)) (wrap64 (r2 * 256))) r3) 1000001 = t := ⟨_, rfl⟩
  have hb := tmod_bounds (Go.bits .or .i64 (Go.bits .or .i64 (wrap64 (r1 * 65536)) (wrap64 (r2 * 256))) r3) 1000001 (by omega)
  rw [ht] at hb ⊢
  split
  · rw [wrap_id (x := -t) (by omega) (by omega)]
    exact ⟨_, _, rfl, by omega, by omega, by omega, by omega⟩
  · exact ⟨_, _, rfl, by omega, by omega, by omega, by omega⟩

/-- Pairs of small numbers. -/
def SmallPairs (l : List S40) : Prop := ∀ p ∈ l, (0 ≤ p.f0 ∧ p.f0 ≤ 8) ∧ (-500000 ≤ p.f1 ∧ p.f1 ≤ 500008)

theorem observed_bounds (r2 r3 r4 : Int) (h2 : 0 ≤ r2 ∧ r2 < 9) (h3 : 0 ≤ r3 ∧ r3 < 20) (h4 : -1000000 ≤ r4 ∧ r4 ≤ 1000000) :
    -500000 ≤ wrap64 (r2 + wrap64 (Int.tdiv (wrap64 (wrap64 (Int.tdiv r3 19) * r4)) 2)) ∧ wrap64 (r2 + wrap64 (Int.tdiv (wrap64 (wrap64 (Int.tdiv r3 19) * r4)) 2)) ≤ 500008 := by
  have e : Int.tdiv r3 19 = 0 ∨ Int.tdiv r3 19 = 1 := by
    rw [Int.tdiv_eq_ediv_of_nonneg h3.1]
    omega
  have hx : ∀ x : Int, -1000000 ≤ x → x ≤ 1000000 → -500000 ≤ wrap64 (r2 + wrap64 (Int.tdiv (wrap64 x) 2)) ∧ wrap64 (r2 + wrap64 (Int.tdiv (wrap64 x) 2)) ≤ 500008 := by
    intro x hx0 hx1
    rw [wrap_id (x := x) (by omega) (by omega)]
    have hn : (x.tdiv 2).natAbs = x.natAbs / 2 := by rw [Int.natAbs_tdiv]; rfl
    rw [wrap_id (x := x.tdiv 2) (by omega) (by omega), wrap_id (by omega) (by omega)]
    omega
  rcases e with e | e
  · rw [e]
    have e0 : wrap64 0 = 0 := by unfold wrap64; omega
    rw [e0, Int.zero_mul]
    exact hx 0 (by omega) (by omega)
  · rw [e]
    have e0 : wrap64 1 = 1 := by unfold wrap64; omega
    rw [e0, Int.one_mul]
    exact hx r4 h4.1 h4.2

theorem pairs_loop {s : List Int} (hs : Bytes s) : ∀ (d k : Nat) (l : List S40) (n at_ : Int), n = d → d ≤ 1000 → d < k → l.length + d ≤ 2000 → 0 ≤ at_ → at_ ≤ 10000000 + 10 * (1000 - d) → SmallPairs l →
    ∃ r q, synopticfield_Codes_Pairs.l0 k l n s at_ = some (r, q) ∧ r.length = l.length + d ∧ SmallPairs r := by
  intro d
  induction d with
  | zero =>
    intro k l n at_ hn _ hk _ _ _ hl
    obtain ⟨k, rfl⟩ : ∃ m, k = m + 1 := ⟨k - 1, by omega⟩
    simp only [synopticfield_Codes_Pairs.l0]
    rw [if_neg (by omega)]
    exact ⟨_, _, rfl, rfl, hl⟩
  | succ d ih =>
    intro k l n at_ hn hd hk hll h0 h1 hl
    obtain ⟨k, rfl⟩ : ∃ m, k = m + 1 := ⟨k - 1, by omega⟩
    simp only [synopticfield_Codes_Pairs.l0]
    rw [if_pos (by omega)]
    obtain ⟨r1, q1, e1, a1, b1, c1, d1⟩ := next_some hs at_ 9 h0 (by omega) (by omega) (by omega)
    obtain ⟨r2, q2, e2, a2, b2, c2, d2⟩ := next_some hs q1 9 (by omega) (by omega) (by omega) (by omega)
    obtain ⟨r3, q3, e3, a3, b3, c3, d3⟩ := next_some hs q2 20 (by omega) (by omega) (by omega) (by omega)
    obtain ⟨r4, q4, e4, a4, b4, c4, d4⟩ := signed_some hs q3 (by omega) (by omega)
    rw [e1]
    simp only [Option.bind_some]
    rw [e2]
    simp only [Option.bind_some]
    rw [e3]
    simp only [Option.bind_some]
    rw [e4]
    simp only [Option.bind_some]
    rw [if_pos (by omega), wrap_id (x := n - 1) (by omega) (by omega)]
    have ho := observed_bounds r2 r3 r4 ⟨a2, b2⟩ ⟨a3, b3⟩ ⟨a4, b4⟩
    obtain ⟨r, q, e, hlen, hsm⟩ := ih k (l ++ [⟨r1, wrap64 (r2 + wrap64 (Int.tdiv (wrap64 (wrap64 (Int.tdiv r3 19) * r4)) 2))⟩]) (n - 1) q4 (by omega) (by omega) (by omega) (by simp; omega) (by omega) (by omega) (by
      intro p hp
      rcases List.mem_append.1 hp with hp | hp
      · exact hl p hp
      · rw [List.mem_singleton.1 hp]
        exact ⟨⟨a1, by show r1 ≤ 8; omega⟩, ho⟩)
    exact ⟨r, q, e, by rw [hlen]; simp; omega, hsm⟩

theorem pairs_some {s : List Int} (hs : Bytes s) (k : Nat) (hk : 1000 < k) (n : Int) (hn : 0 ≤ n) (hn2 : n ≤ 900) :
    ∃ r q, synopticfield_Codes_Pairs.f k s 0 n = some (r, q) ∧ r.length ≤ n.toNat ∧ SmallPairs r := by
  unfold synopticfield_Codes_Pairs.f
  rw [wrap_id (x := n + 1) (by omega) (by omega)]
  obtain ⟨r1, q1, e1, a1, b1, c1, d1⟩ := next_some hs 0 (n + 1) (by omega) (by omega) (by omega) (by omega)
  rw [e1]
  simp only [Option.bind_some]
  obtain ⟨d, rfl⟩ := Int.eq_ofNat_of_zero_le a1
  obtain ⟨r, q, e, hl, hsm⟩ := pairs_loop hs d k [] d q1 rfl (by omega) (by omega) (by simp; omega) (by omega) (by omega) (by intro p hp; simp at hp)
  exact ⟨r, q, e, by rw [hl]; simp; omega, hsm⟩

theorem new_some (l : List Int) (n : Int) (hn : 0 ≤ n) : synopticfield_New.f l n = some (l.take n.toNat, 0) := by
  unfold synopticfield_New.f
  by_cases h : (l.length : Int) > n
  · rw [if_pos h, if_pos hn, if_pos (by omega)]
  · rw [if_neg h, List.take_of_length_le (by omega)]
theorem Bytes.take {s : List Int} (hs : Bytes s) (n : Nat) : Bytes (s.take n) := fun x hx => hs x (List.mem_of_mem_take hx)
theorem Bytes.of_wf {s : List Int} (hs : ∀ x ∈ s, (Lit.int .u8 x).wf = true) : Bytes s := by
  intro x hx
  have := bounds_u8 (hs x hx)
  omega
end Go.Proofs.Ytbnjbdjjedndbaa.B
