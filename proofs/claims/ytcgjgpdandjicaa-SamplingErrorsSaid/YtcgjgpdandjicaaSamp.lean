/- A sample that is made from choices is short, and its elements are scores. -/
import Derived.Test.YtcgjgpdandjicaaBC
import Derived.Test.YtcgjgpdandjicaaChs
import Derived.OpenShut
namespace Go.Proofs.Ytcgjgpdandjicaa.B
open Go.RowKit Go.Proofs.YtcgjgpdandjicaaW.PrintWords Go.Proofs.YtcgjgpdandjicaaW.PrintLast Go.Proofs.YtcgjgpdandjicaaW.PrintMore
open Go.Proofs.Ytcgjgpdandjicaa.Smp
set_option linter.unusedVariables false
set_option linter.unusedSimpArgs false

theorem wrap_self {x : Int} (h0 : -9223372036854775808 ≤ x) (h1 : x ≤ 9223372036854775807) : wrap64 x = x := by unfold wrap64; omega
/-- All choices are bytes. -/
def Bytes (s : List Int) : Prop := ∀ x ∈ s, 0 ≤ x ∧ x ≤ 255
theorem rd_bytes {s : List Int} (hs : Bytes s) (i : Int) : 0 ≤ rd s i ∧ rd s i ≤ 255 := by
  unfold rd
  rw [List.getD_eq_getElem?_getD]
  by_cases h : i.toNat < s.length
  · rw [List.getElem?_eq_getElem h]
    exact hs _ (List.getElem_mem h)
  · rw [List.getElem?_eq_none (by omega)]
    simp
theorem next_some {s : List Int} (hs : Bytes s) (at_ n : Int) (h0 : 0 ≤ at_) (h1 : at_ ≤ 1000000000000) (hn : 1 ≤ n) (hn2 : n ≤ 1000000) :
    ∃ r q, synopticfield_Codes_Next.f s at_ n = some (r, q) ∧ 0 ≤ r ∧ r < n ∧ at_ ≤ q ∧ q ≤ at_ + 1 := by
  unfold synopticfield_Codes_Next.f synopticfield_Codes_Left.f
  simp only [Option.bind_some]
  by_cases hl : at_ < (s.length : Int)
  · have e1 : wrap64 (at_ + 1) = at_ + 1 := wrap_self (by omega) (by omega)
    have e2 : wrap64 (at_ + 1 - 1) = at_ := by rw [wrap_self (by omega) (by omega)]; omega
    have hb := rd_bytes hs at_
    have e3 : wrap64 (rd s at_) = rd s at_ := wrap_self (by omega) (by omega)
    rw [decide_eq_true hl, if_pos rfl, if_neg (by omega), e1, e2, if_pos h0, if_pos hl, if_neg (by omega), e3]
    refine ⟨_, _, rfl, ?_, ?_, by omega, by omega⟩
    · exact Int.tmod_nonneg _ hb.1
    · exact Int.tmod_lt_of_pos _ (by omega)
  · rw [decide_eq_false hl, if_neg (by simp)]
    exact ⟨0, at_, rfl, by omega, by omega, by omega, by omega⟩
theorem new_some (s : List Int) (hs : Bytes s) (hl : s.length ≤ 140737488351232) (m : Int) (hm : 0 ≤ m ∧ m ≤ 1000) : ∃ r, synopticfield_New.f s m = some (r, 0) ∧ Bytes r := by
  unfold synopticfield_New.f
  by_cases h : (s.length : Int) > m
  · rw [if_pos h, if_pos hm.1, if_pos (by omega)]
    exact ⟨_, rfl, fun x hx => hs x (List.mem_of_mem_take hx)⟩
  · rw [if_neg h]
    exact ⟨_, rfl, hs⟩
theorem sample_l0 {s : List Int} (hs : Bytes s) : ∀ (d k : Nat) (l : List Int) (n at_ : Int), n = d → d < k → Fine l → (l.length : Int) + n ≤ 1000 → 0 ≤ at_ → at_ + 3 * n ≤ 1000000 →
    ∃ r q, synopticlaw39_sample.l0 k l n s at_ = some (r, q) ∧ Fine r ∧ (r.length : Int) = l.length + n ∧ 0 ≤ q ∧ q ≤ at_ + 3 * n := by
  intro d
  induction d with
  | zero =>
    intro k l n at_ hn hk hf hl h0 h1
    obtain ⟨k, rfl⟩ : ∃ m, k = m + 1 := ⟨k - 1, by omega⟩
    simp only [synopticlaw39_sample.l0]
    rw [if_neg (by omega)]
    exact ⟨_, _, rfl, hf, by omega, h0, by omega⟩
  | succ d ih =>
    intro k l n at_ hn hk hf hl h0 h1
    obtain ⟨k, rfl⟩ : ∃ m, k = m + 1 := ⟨k - 1, by omega⟩
    obtain ⟨r1, q1, e1, a1, b1, c1, d1⟩ := next_some hs at_ 7 h0 (by omega) (by omega) (by omega)
    obtain ⟨r2, q2, e2, a2, b2, c2, d2⟩ := next_some hs q1 200 (by omega) (by omega) (by omega) (by omega)
    obtain ⟨r3, q3, e3, a3, b3, c3, d3⟩ := next_some hs q2 5 (by omega) (by omega) (by omega) (by omega)
    simp only [synopticlaw39_sample.l0]
    rw [if_pos (by omega), e1]
    simp only [Option.bind_some]
    rw [e2]
    simp only [Option.bind_some]
    rw [e3]
    simp only [Option.bind_some]
    rw [wrap_self (x := r1 - 3) (by omega) (by omega), wrap_self (x := r2 - 100) (by omega) (by omega), wrap_self (x := n - 1) (by omega) (by omega)]
    rw [if_pos a3, if_pos (by simpa using b3), if_pos (by omega)]
    have hx : -1000000 ≤ rd [r1 - 3, r2 - 100, 1000000, -1000000, 0] r3 ∧ rd [r1 - 3, r2 - 100, 1000000, -1000000, 0] r3 ≤ 1000000 := by
      have h5 : r3 = 0 ∨ r3 = 1 ∨ r3 = 2 ∨ r3 = 3 ∨ r3 = 4 := by omega
      rcases h5 with rfl | rfl | rfl | rfl | rfl
      · show -1000000 ≤ r1 - 3 ∧ r1 - 3 ≤ 1000000; omega
      · show -1000000 ≤ r2 - 100 ∧ r2 - 100 ≤ 1000000; omega
      · show (-1000000 : Int) ≤ 1000000 ∧ (1000000 : Int) ≤ 1000000; omega
      · show (-1000000 : Int) ≤ -1000000 ∧ (-1000000 : Int) ≤ 1000000; omega
      · show (-1000000 : Int) ≤ 0 ∧ (0 : Int) ≤ 1000000; omega
    obtain ⟨r, q, e, hf2, hl2, hq0, hq1⟩ := ih k (l ++ [rd [r1 - 3, r2 - 100, 1000000, -1000000, 0] r3]) (n - 1) q3 (by omega) (by omega) (by
      intro x hx2
      rcases List.mem_append.1 hx2 with h | h
      · exact hf x h
      · rw [List.mem_singleton.1 h]; exact hx) (by simp; omega) (by omega) (by omega)
    exact ⟨r, q, e, hf2, by simp at hl2; omega, hq0, by omega⟩
theorem sample_some {s : List Int} (hs : Bytes s) (k : Nat) (hk : 1000 ≤ k) (at_ m : Int) (h0 : 0 ≤ at_) (h1 : at_ ≤ 900000) (hm : 0 ≤ m ∧ m ≤ 100) :
    ∃ r q, synopticlaw39_sample.f k s at_ m = some (r, q) ∧ Fine r ∧ (r.length : Int) ≤ m ∧ 0 ≤ q ∧ q ≤ at_ + 400 := by
  unfold synopticlaw39_sample.f
  rw [wrap_self (x := m + 1) (by omega) (by omega)]
  obtain ⟨r1, q1, e1, a1, b1, c1, d1⟩ := next_some hs at_ (m + 1) h0 (by omega) (by omega) (by omega)
  rw [e1]
  simp only [Option.bind_some]
  obtain ⟨r, q, e, hf, hl, hq0, hq1⟩ := sample_l0 hs r1.toNat k [] r1 q1 (by omega) (by omega) (by intro x hx; cases hx) (by simp; omega) (by omega) (by omega)
  exact ⟨r, q, e, hf, by simp at hl; omega, hq0, by omega⟩
theorem bytes_of {s : List Int} (h : ∀ x ∈ s, (Lit.int .u8 x).wf = true) : Bytes s := by
  intro x hx
  have := bounds_u8 (h x hx)
  omega
end Go.Proofs.Ytcgjgpdandjicaa.B
