/- outside of package sampling: is there an element that is no score? -/
import Derived.Test.YtcgjgpdandjicaaChs
namespace Go.Proofs.Ytcgjgpdandjicaa.B
open Go.RowKit Go.Proofs.YtcgjgpdandjicaaW.PrintWords Go.Proofs.YtcgjgpdandjicaaW.PrintLast Go.Proofs.YtcgjgpdandjicaaW.PrintMore
open Go.Proofs.Ytcgjgpdandjicaa.Smp
set_option linter.unusedVariables false
set_option linter.unusedSimpArgs false

/-- A score. -/
def okB (v : Int) : Bool := decide (-1000000 ≤ v ∧ v ≤ 1000000)
theorem within_ok (v : Int) (w : World) : Calls Try.prog 48 #[.int .i64 v, .int .i64 (-1000000), .int .i64 1000000] w fun e w' => e = .returned (.bool (okB v)) ∧ Drawn0 w w' :=
  sampling_within.calls v (-1000000) 1000000 _ w (by unfold sampling_within.f okB; split <;> simp [*])
theorem out55 (v : Int) (w : World) : Calls Try.prog 55 #[.int .i64 v] w fun e w' => e = .returned (.bool (!okB v)) ∧ Drawn0 w w' := by
  go_enter Try.func55, Try.ntmps55
  go_wp2_with (go_at_call 48; refine (within_ok v _).mono ?_; rintro e w' ⟨rfl, ⟨nd, rfl⟩⟩)
  go_ret
  exact ⟨rfl, ⟨⟨_, rfl⟩⟩⟩
/-- The first element that is no score. -/
def odd.l0 : Nat → List Int → Int → Option Int
  | 0, _, _ => none
  | k + 1, l, i => if i < (l.length : Int) then (if 0 ≤ i then (if okB (rd l i) = true then odd.l0 k l (wrap64 (i + 1)) else some i) else none) else some (-1)
theorem out67 (k : Nat) (A0 : Option Addr) (c0 : Nat) (l0 : List Int) (r : Int) (w : World) (hr0 : Kd.C (Kd.int .i64) w A0 l0.length l0) (h : odd.l0 k l0 0 = some r) :
    Calls Try.prog 67 #[.slice A0 l0.length c0, .func (.func 55) #[] #[]] w fun e w' => e = .returned (.int .i64 r) ∧ Drawn0 w w' := by
  have HR0 := Aside0.mk hr0
  clear hr0
  have H' := Aside0.mk h
  clear h
  go_enter Try.func67, Try.ntmps67
  go_wp2
  go_loopg [5, 8] k (fun kq v5 v8 w' => ∃ (x8_1 : Int), v8 = .int .i64 x8_1 ∧ Aside0 (odd.l0 kq l0 x8_1 = some r) ∧ Drawn0 w w')
  case atStart => exact ⟨(0), rfl, H', Drawn0.refl _⟩
  case round =>
    clear H'
    obtain ⟨x8_1, rfl, HA, ⟨m1, rfl⟩⟩ := hrel
    cases gk with
    | zero => exact absurd HA.out (by simp [odd.l0])
    | succ k1 =>
      have H := HA.out
      clear HA
      simp only [odd.l0] at H
      by_cases c3 : x8_1 < (l0.length : Int)
      · rw [if_pos c3] at H
        have c3b0 : decide (x8_1 < (l0.length : Int)) = true := decide_eq_true c3
        by_cases c4 : 0 ≤ x8_1
        · rw [if_pos c4] at H
          have c4b0 : decide (0 ≤ x8_1) = true := decide_eq_true c4
          obtain ⟨ad, e104, hx⟩ := Kd.at_int HR0.out x8_1 c4 c3
          cases e104
          by_cases c5 : okB (rd l0 x8_1) = true
          · rw [if_pos c5] at H
            have HH := Aside0.mk H
            clear H
            go_wp2_with (go_at_call 55; refine (out55 _ _).mono ?_; rintro e w' ⟨rfl, ⟨nd, rfl⟩⟩; rw [c5])
            go_roundg k1
            case measure => omega
            case rel => exact ⟨wrap64 (x8_1 + 1), (by first | rfl | (simp; done) | (simp [*]; done)), HH, by repeat (first | exact Drawn0.refl _ | apply Drawn0.step)⟩
          · rw [if_neg c5] at H
            obtain rfl := Option.some.inj H
            replace c5 := Bool.eq_false_iff.mpr c5
            clear H
            go_wp2_with (go_at_call 55; refine (out55 _ _).mono ?_; rintro e w' ⟨rfl, ⟨nd, rfl⟩⟩; rw [c5])
            go_ret
            exact ⟨rfl, by repeat (first | exact Drawn0.refl _ | apply Drawn0.step)⟩
        · rw [if_neg c4] at H
          cases H
      · rw [if_neg c3] at H
        obtain rfl := Option.some.inj H
        clear H
        have c3b0 : decide (x8_1 < (l0.length : Int)) = false := decide_eq_false c3
        go_wp2
        go_ret
        exact ⟨rfl, by repeat (first | exact Drawn0.refl _ | apply Drawn0.step)⟩
theorem out54 (k : Nat) (A0 : Option Addr) (c0 : Nat) (l0 : List Int) (r : Int) (w : World) (hr0 : Kd.C (Kd.int .i64) w A0 l0.length l0) (h : odd.l0 k l0 0 = some r) :
    Calls Try.prog 54 #[.slice A0 l0.length c0, .func (.func 55) #[] #[]] w fun e w' => e = .returned (.bool (decide (r ≥ 0))) ∧ Drawn0 w w' := by
  have HR0 := Aside0.mk hr0
  have HK := Aside0.mk h
  clear hr0 h
  go_enter Try.func54, Try.ntmps54
  go_wp2_with (go_at_call 67; refine (out67 k _ _ _ r _ HR0.out HK.out).mono ?_; rintro e w' ⟨rfl, ⟨nd, rfl⟩⟩)
  go_ret
  exact ⟨rfl, ⟨⟨_, rfl⟩⟩⟩
theorem odd_at (l : List Int) (hl : l.length ≤ 1152921504606846976) : ∀ (d k i : Nat), i + d = l.length → d < k → ∃ r, odd.l0 k l (i : Int) = some r ∧ decide (r ≥ 0) = (l.drop i).any (fun v => !okB v) := by
  intro d
  induction d with
  | zero =>
    intro k i hd hk
    obtain ⟨k, rfl⟩ : ∃ m, k = m + 1 := ⟨k - 1, by omega⟩
    refine ⟨-1, ?_, ?_⟩
    · simp only [odd.l0]; rw [if_neg (by omega)]
    · rw [List.drop_of_length_le (by omega)]; rfl
  | succ d ih =>
    intro k i hd hk
    obtain ⟨k, rfl⟩ : ∃ m, k = m + 1 := ⟨k - 1, by omega⟩
    have hi : i < l.length := by omega
    have er : rd l (i : Int) = l[i] := by unfold rd; simp [hi]
    have hw : wrap64 ((i : Int) + 1) = ((i + 1 : Nat) : Int) := by unfold wrap64; omega
    obtain ⟨r, h1, h2⟩ := ih k (i + 1) (by omega) (by omega)
    simp only [odd.l0]
    rw [if_pos (by omega), if_pos (by omega), er, hw, List.drop_eq_getElem_cons hi, List.any_cons]
    by_cases c : okB l[i] = true
    · rw [if_pos c, c]
      exact ⟨r, h1, by simpa using h2⟩
    · rw [if_neg c, Bool.eq_false_iff.mpr c]
      exact ⟨i, rfl, by simp⟩
/-- Is there an element that is no score? -/
def outB (l : List Int) : Bool := l.any fun v => !okB v
def sampling_outside.f (l : List Int) : Option Bool := if l.length ≤ 1152921504606846976 then some (outB l) else none
theorem sampling_outside.calls (A0 : Option Addr) (c0 : Nat) (l0 : List Int) (r : Bool) (w : World) (hr0 : Kd.C (Kd.int .i64) w A0 l0.length l0) (hc0 : l0.length ≤ c0) (h : sampling_outside.f l0 = some r) :
    Calls Try.prog 30 #[.slice A0 l0.length c0] w fun e w' => e = .returned (.bool r) ∧ Drawn0 w w' := by
  unfold sampling_outside.f at h
  split at h
  case isFalse => cases h
  case isTrue hl =>
    obtain ⟨q, h1, h2⟩ := odd_at l0 hl l0.length (l0.length + 1) 0 (by omega) (by omega)
    have h3 : decide (q ≥ 0) = r := by rw [h2, ← Option.some.inj h]; rfl
    have HK := Aside0.mk h1
    have HR0 := Aside0.mk hr0
    clear h1 h2 hr0 hl h hc0
    subst h3
    go_enter Try.func30, Try.ntmps30
    go_wp2_with (go_at_call 54; refine (out54 _ _ _ _ q _ HR0.out HK.out).mono ?_; rintro e w' ⟨rfl, ⟨nd, rfl⟩⟩)
    go_ret
    exact ⟨rfl, ⟨⟨_, rfl⟩⟩⟩
theorem outB_fine (l : List Int) : outB l = false ↔ Fine l := by
  unfold outB Fine
  rw [List.any_eq_false]
  simp [okB]
end Go.Proofs.Ytcgjgpdandjicaa.B
