/- The lists of readings that the statements of chapter 14 look at: at most eleven readings, their elements strictly ascending, their values within the ranges. -/
import Derived.Test.YtbnkcajdgmbidaaDoorBV
import Derived.Test.YtbnkcajdgmbidaaDoorChk
import Derived.Test.YtbnkcajdgmbidaaDoorCpt
import Derived.KernelRfl
namespace Go.Proofs.YtbnkcajdgmbidaaDoor.B
open Go.RowKit Go.Proofs.YtbnkcajdgmbidaaDoorW.PrintWords Go.Proofs.YtbnkcajdgmbidaaDoorW.PrintLast Go.Proofs.YtbnkcajdgmbidaaDoorW.PrintMore
set_option linter.unusedVariables false
set_option linter.unusedSimpArgs false
theorem wrap_fit {x : Int} (h0 : -9223372036854775808 ≤ x) (h1 : x ≤ 9223372036854775807) : wrap64 x = x := by unfold wrap64; omega
theorem mod_in (v a : Int) (ha : 1 ≤ a) (ha2 : a ≤ 1000000) : ∃ t, synoptickeep_Mod.f v a = some t ∧ 0 ≤ t ∧ t < a := by
  have hb := Int.tmod_lt_of_pos v (show (0 : Int) < a by omega)
  have hb2 := Int.lt_tmod_of_pos v (show (0 : Int) < a by omega)
  unfold synoptickeep_Mod.f
  rw [if_neg (by omega), if_neg (by omega)]
  generalize Int.tmod v a = m at hb hb2 ⊢
  split
  · exact ⟨_, rfl, by rw [wrap_fit (by omega) (by omega)]; omega, by rw [wrap_fit (by omega) (by omega)]; omega⟩
  · exact ⟨_, rfl, by omega, by omega⟩
theorem raw_some (s : List Int) (p : Int) (h0 : 0 ≤ p) (h1 : p ≤ 1000000) : ∃ v q, synoptickeep_Src_Raw.f s p = some (v, q) ∧ 0 ≤ q ∧ q ≤ p + 1 := by
  unfold synoptickeep_Src_Raw.f
  by_cases h : p ≥ (s.length : Int)
  · rw [if_pos h]
    exact ⟨_, _, rfl, h0, by omega⟩
  · rw [if_neg h, wrap_fit (x := p + 1) (by omega) (by omega), wrap_fit (x := p + 1 - 1) (by omega) (by omega), if_pos (by omega), if_pos (by omega)]
    exact ⟨_, _, rfl, by omega, by omega⟩
theorem n_some (s : List Int) (p a : Int) (h0 : 0 ≤ p) (h1 : p ≤ 1000000) (ha : 1 ≤ a) (ha2 : a ≤ 1000000) : ∃ v q, synoptickeep_Src_N.f s p a = some (v, q) ∧ 0 ≤ v ∧ v < a ∧ 0 ≤ q ∧ q ≤ p + 1 := by
  obtain ⟨r, q, e, q0, q1⟩ := raw_some s p h0 h1
  obtain ⟨t, e2, t0, t1⟩ := mod_in r a ha ha2
  refine ⟨t, q, ?_, t0, t1, q0, q1⟩
  unfold synoptickeep_Src_N.f
  rw [e]
  refine Eq.trans (Option.bind_some _ _) ?_
  rw [e2]
  exact Option.bind_some _ _
theorem range_some (s : List Int) (p lo hi : Int) (h0 : 0 ≤ p) (h1 : p ≤ 1000000) (hl : -100000 ≤ lo) (hlh : lo ≤ hi) (hh : hi ≤ 100000) : ∃ v q, synoptickeep_Src_Range.f s p lo hi = some (v, q) ∧ lo ≤ v ∧ v ≤ hi ∧ 0 ≤ q ∧ q ≤ p + 1 := by
  obtain ⟨v, q, e, v0, v1, q0, q1⟩ := n_some s p (hi - lo + 1) h0 h1 (by omega) (by omega)
  refine ⟨lo + v, q, ?_, by omega, by omega, q0, q1⟩
  unfold synoptickeep_Src_Range.f
  rw [wrap_fit (x := hi - lo) (by omega) (by omega), wrap_fit (x := hi - lo + 1) (by omega) (by omega), e]
  refine Eq.trans (Option.bind_some _ _) ?_
  rw [wrap_fit (x := lo + v) (by omega) (by omega)]
theorem desc_two (c : Int) (h : 1 ≤ c ∧ c ≤ 11) : ∃ (s : ByteArray) (lo hi d : Int), synopticref04_Describe.f c = some (s, lo, hi, d, 0) ∧ -20000 ≤ lo ∧ lo ≤ hi ∧ hi ≤ 20000 := by
  have hc : c = 1 ∨ c = 2 ∨ c = 3 ∨ c = 4 ∨ c = 5 ∨ c = 6 ∨ c = 7 ∨ c = 8 ∨ c = 9 ∨ c = 10 ∨ c = 11 := by omega
  rcases hc with rfl | rfl | rfl | rfl | rfl | rfl | rfl | rfl | rfl | rfl | rfl
  · exact ⟨⟨#[80]⟩, 8000, 11000, 5, by kernel_rfl, by decide⟩
  · exact ⟨⟨#[84]⟩, 1800, 3300, 4, by kernel_rfl, by decide⟩
  · exact ⟨⟨#[68]⟩, 1800, 3300, 4, by kernel_rfl, by decide⟩
  · exact ⟨⟨#[69]⟩, (-1000), 1000, 4, by kernel_rfl, by decide⟩
  · exact ⟨⟨#[78]⟩, (-1000), 1000, 4, by kernel_rfl, by decide⟩
  · exact ⟨⟨#[65]⟩, 900, 1700, 4, by kernel_rfl, by decide⟩
  · exact ⟨⟨#[66]⟩, 2000, 3200, 4, by kernel_rfl, by decide⟩
  · exact ⟨⟨#[70]⟩, 2400, 3400, 4, by kernel_rfl, by decide⟩
  · exact ⟨⟨#[71]⟩, 2000, 3000, 4, by kernel_rfl, by decide⟩
  · exact ⟨⟨#[74]⟩, 4400, 6200, 4, by kernel_rfl, by decide⟩
  · exact ⟨⟨#[75]⟩, 2000, 2900, 4, by kernel_rfl, by decide⟩
theorem half_in (lo hi v : Int) (hl : -20000 ≤ lo) (hlh : lo ≤ hi) (hh : hi ≤ 20000) (v0 : -40 ≤ v) (v1 : v ≤ 40) : -100000 ≤ wrap64 (wrap64 (Int.tdiv (wrap64 (lo + hi)) 2) + v) ∧ wrap64 (wrap64 (Int.tdiv (wrap64 (lo + hi)) 2) + v) ≤ 100000 := by
  rw [wrap_fit (x := lo + hi) (by omega) (by omega)]
  have h2 : (Int.tdiv (lo + hi) 2).natAbs ≤ (lo + hi).natAbs := by rw [Int.natAbs_tdiv]; exact Nat.div_le_self _ _
  generalize Int.tdiv (lo + hi) 2 = t at h2 ⊢
  rw [wrap_fit (x := t) (by omega) (by omega), wrap_fit (x := t + v) (by omega) (by omega)]
  omega
theorem some_some (s : List Int) (p c : Int) (h0 : 0 ≤ p) (h1 : p ≤ 900000) (hc : 1 ≤ c ∧ c ≤ 11) : ∃ v q, synopticref04_Some.f s p c = some (c, v, q) ∧ -100000 ≤ v ∧ v ≤ 100000 ∧ 0 ≤ q ∧ q ≤ p + 3 := by
  obtain ⟨nm, lo, hi, d, e, l0, l1, l2⟩ := desc_two c hc
  obtain ⟨v1, q1, e1, a1, b1, c1, d1⟩ := range_some s p lo hi h0 (by omega) (by omega) l1 (by omega)
  obtain ⟨v2, q2, e2, a2, b2, c2, d2⟩ := n_some s q1 5 c1 (by omega) (by decide) (by decide)
  unfold synopticref04_Some.f
  rw [e]
  have hb : ∀ {α β : Type} (x : α) (f : α → Option β) (r : Option β), f x = r → (some x).bind f = r := fun x f r h => (Option.bind_some x f).trans h
  by_cases z0 : v2 = 0
  · obtain ⟨v3, q3, e3, a3, b3, c3, d3⟩ := n_some s q2 2 c2 (by omega) (by decide) (by decide)
    have hp : ∃ v, synoptickeep_Src_Pick.f s q2 [lo, hi] = some (v, q3) ∧ (v = lo ∨ v = hi) := by
      unfold synoptickeep_Src_Pick.f
      rw [show (([lo, hi] : List Int).length : Int) = 2 from rfl, e3]
      refine ⟨rd [lo, hi] v3, ?_, ?_⟩
      · refine (Option.bind_some _ _).trans ?_
        dsimp only
        rw [if_pos a3, if_pos b3]
      · rcases (show v3 = 0 ∨ v3 = 1 by omega) with rfl | rfl
        · exact .inl rfl
        · exact .inr rfl
    obtain ⟨v, ep, hv⟩ := hp
    refine ⟨v, q3, ?_, by omega, by omega, c3, by omega⟩
    refine hb _ _ _ ?_
    dsimp only
    rw [e1]
    refine hb _ _ _ ?_
    dsimp only
    rw [e2]
    refine hb _ _ _ ?_
    dsimp only
    rw [if_pos z0, ep]
    exact Option.bind_some _ _
  · by_cases z1 : v2 = 1 ∨ v2 = 2
    · obtain ⟨v3, q3, e3, a3, b3, c3, d3⟩ := range_some s q2 (-40) 40 c2 (by omega) (by decide) (by decide) (by decide)
      have hh := half_in lo hi v3 l0 l1 l2 a3 b3
      refine ⟨_, q3, ?_, hh.1, hh.2, c3, by omega⟩
      refine hb _ _ _ ?_
      dsimp only
      rw [e1]
      refine hb _ _ _ ?_
      dsimp only
      rw [e2]
      refine hb _ _ _ ?_
      dsimp only
      rw [if_neg z0]
      rcases z1 with z1 | z1
      · rw [if_pos z1, e3]
        exact Option.bind_some _ _
      · rw [if_neg (by omega), if_pos z1, e3]
        exact Option.bind_some _ _
    · refine ⟨v1, q2, ?_, by omega, by omega, c2, by omega⟩
      refine hb _ _ _ ?_
      dsimp only
      rw [e1]
      refine hb _ _ _ ?_
      dsimp only
      rw [e2]
      refine hb _ _ _ ?_
      dsimp only
      rw [if_neg z0, if_neg (by omega), if_neg (by omega)]
/-- What the statements know of a list of readings. -/
structure Good (x : List S30) : Prop where
  len : x.length ≤ 11
  asc : x.Pairwise fun a b => a.f0 < b.f0
  code : ∀ r ∈ x, 1 ≤ r.f0 ∧ r.f0 ≤ 11
  small : ∀ r ∈ x, -100000 ≤ r.f1 ∧ r.f1 ≤ 100000
theorem list_l0 (s : List Int) : ∀ (d c : Nat) (x : List S30) (p : Int), c + d = 12 → 1 ≤ c → x.length < c → (∀ r ∈ x, r.f0 < (c : Int)) → Good x → 0 ≤ p → p ≤ 10 * (c : Int) →
    ∃ y q, Good y ∧ ∀ k, d < k → synopticref04_List.l0 k x (c : Int) s p = some (y, q) := by
  intro d
  induction d with
  | zero =>
    intro c x p hd hc hl hr hg h0 h1
    refine ⟨x, p, hg, fun k hk => ?_⟩
    obtain ⟨k, rfl⟩ : ∃ m, k = m + 1 := ⟨k - 1, by omega⟩
    simp only [synopticref04_List.l0]
    rw [if_neg (by omega)]
  | succ d ih =>
    intro c x p hd hc hl hr hg h0 h1
    have q0 : (c : Int) ≤ 11 := by omega
    have hw : wrap64 ((c : Int) + 1) = ((c + 1 : Nat) : Int) := by rw [wrap_fit (by omega) (by omega)]; omega
    obtain ⟨v, q, e, a, b, c0, c1⟩ := n_some s p 3 h0 (by omega) (by decide) (by decide)
    by_cases z : v = 0
    · obtain ⟨v2, q2, e2, a2, b2, c2, d2⟩ := some_some s q (c : Int) c0 (by omega) (by omega)
      obtain ⟨y, q3, hy, hk⟩ := ih (c + 1) (x ++ [(⟨(c : Int), v2⟩ : S30)]) q2 (by omega) (by omega) (by rw [List.length_append]; simp; omega) (by
        intro r hm
        rcases List.mem_append.1 hm with hm | hm
        · have := hr r hm; omega
        · rw [List.mem_singleton] at hm; rw [hm]; show (c : Int) < ((c + 1 : Nat) : Int); omega) ⟨by rw [List.length_append]; simp; omega, by
          rw [List.pairwise_append]
          refine ⟨hg.asc, List.pairwise_singleton _ _, fun a ha b hb => ?_⟩
          rw [List.mem_singleton] at hb
          rw [hb]
          exact hr a ha, fun r hm => by
            rcases List.mem_append.1 hm with hm | hm
            · exact hg.code r hm
            · rw [List.mem_singleton] at hm; rw [hm]; exact ⟨by show (1 : Int) ≤ (c : Int); omega, q0⟩, fun r hm => by
            rcases List.mem_append.1 hm with hm | hm
            · exact hg.small r hm
            · rw [List.mem_singleton] at hm; rw [hm]; exact ⟨a2, b2⟩⟩ c2 (by omega)
      refine ⟨y, q3, hy, fun k hk2 => ?_⟩
      obtain ⟨k, rfl⟩ : ∃ m, k = m + 1 := ⟨k - 1, by omega⟩
      have hkk := hk k (by omega)
      have q5 : x.length < 8796093022208 := by omega
      simp only [synopticref04_List.l0]
      rw [if_pos q0, e]
      refine (Option.bind_some _ _).trans ?_
      dsimp only
      rw [if_pos z, e2]
      refine (Option.bind_some _ _).trans ?_
      dsimp only
      rw [if_pos q5, hw]
      exact hkk
    · obtain ⟨y, q3, hy, hk⟩ := ih (c + 1) x q (by omega) (by omega) (by omega) (fun r hm => by have := hr r hm; omega) hg c0 (by omega)
      refine ⟨y, q3, hy, fun k hk2 => ?_⟩
      obtain ⟨k, rfl⟩ : ∃ m, k = m + 1 := ⟨k - 1, by omega⟩
      have hkk := hk k (by omega)
      simp only [synopticref04_List.l0]
      rw [if_pos q0, e]
      refine (Option.bind_some _ _).trans ?_
      dsimp only
      rw [if_neg z, hw]
      exact hkk
theorem list_some (l : List Int) : ∃ s x q, synoptickeep_New.f l = some (s, 0) ∧ Good x ∧ ∀ k, 12 ≤ k → synopticref04_List.f k s 0 = some (x, q) := by
  have hm : 0 ≤ mn (l.length : Int) 2000 ∧ mn (l.length : Int) 2000 ≤ (l.length : Int) := by
    unfold mn
    split <;> omega
  obtain ⟨x, q, hg, hk⟩ := list_l0 (l.take (mn (l.length : Int) 2000).toNat) 11 1 [] 0 rfl (by decide) (by decide) (by intro r hr; cases hr) ⟨by decide, List.Pairwise.nil, (by intro r hr; cases hr), (by intro r hr; cases hr)⟩ (by decide) (by decide)
  refine ⟨l.take (mn (l.length : Int) 2000).toNat, x, q, ?_, hg, fun k hk2 => ?_⟩
  · unfold synoptickeep_New.f
    rw [if_pos hm.1, if_pos hm.2]
  · unfold synopticref04_List.f
    exact hk k (by omega)
end Go.Proofs.YtbnkcajdgmbidaaDoor.B
