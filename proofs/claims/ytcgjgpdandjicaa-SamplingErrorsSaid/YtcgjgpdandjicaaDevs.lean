/- Plain laws on the sums of the choices of signs, and of the parts of a sample. -/
namespace Go.Proofs.Ytcgjgpdandjicaa.Smp

/-- The sum of the chosen elements. -/
def chosen : List Int → Nat → Int
  | [], _ => 0
  | x :: l, c => (if c % 2 = 1 then x else 0) + chosen l (c / 2)
/-- The number of the chosen elements. -/
def ones : Nat → Nat → Nat
  | 0, _ => 0
  | n + 1, c => c % 2 + ones n (c / 2)
def total : List Int → Int
  | [] => 0
  | x :: l => x + total l
/-- The sums of all choices of signs. -/
def devs : List Int → List Int
  | [] => [0]
  | x :: l => (devs l).map (x + ·) ++ (devs l).map (-x + ·)
/-- How many elements are chosen, and their sum: all choices. -/
def subs : List Int → List (Nat × Int)
  | [] => [(0, 0)]
  | x :: l => subs l ++ (subs l).map fun p => (p.1 + 1, x + p.2)

theorem range_double : ∀ n, (List.range (2 * n)).Perm ((List.range n).map (2 * ·) ++ (List.range n).map (2 * · + 1))
  | 0 => List.Perm.refl _
  | n + 1 => by
    have ih := range_double n
    rw [show 2 * (n + 1) = 2 * n + 1 + 1 from by omega, List.range_succ, List.range_succ, List.range_succ, List.map_append, List.map_append]
    simp only [List.map_cons, List.map_nil]
    have h1 : (List.range (2 * n) ++ [2 * n] ++ [2 * n + 1]).Perm (((List.range n).map (2 * ·) ++ (List.range n).map (2 * · + 1)) ++ ([2 * n] ++ [2 * n + 1])) := by
      rw [List.append_assoc]; exact ih.append (List.Perm.refl _)
    refine h1.trans ?_
    rw [List.append_assoc, List.append_assoc]
    refine List.Perm.append (List.Perm.refl _) ?_
    rw [← List.append_assoc, ← List.append_assoc]
    exact List.Perm.append List.perm_append_comm (List.Perm.refl _)

theorem double_mod (c : Nat) : 2 * c % 2 = 0 := by omega
theorem double_div (c : Nat) : 2 * c / 2 = c := by omega
theorem double1_mod (c : Nat) : (2 * c + 1) % 2 = 1 := by omega
theorem double1_div (c : Nat) : (2 * c + 1) / 2 = c := by omega

/-- All choices, as bits: the same sums, in another order. -/
theorem devs_range : ∀ l : List Int, ((List.range (2 ^ l.length)).map fun c => total l - 2 * chosen l c).Perm (devs l)
  | [] => by simp [devs, chosen, total]
  | x :: l => by
    have ih := devs_range l
    rw [List.length_cons, Nat.pow_succ, Nat.mul_comm]
    refine ((range_double _).map _).trans ?_
    rw [List.map_append, List.map_map, List.map_map]
    unfold devs
    refine List.Perm.append ?_ ?_
    · refine Eq.subst (motive := fun z => List.Perm z _) ?_ (ih.map (x + ·))
      rw [List.map_map]
      refine List.map_congr_left fun c _ => ?_
      simp only [Function.comp, chosen, total, double_mod, double_div]
      omega
    · refine Eq.subst (motive := fun z => List.Perm z _) ?_ (ih.map (-x + ·))
      rw [List.map_map]
      refine List.map_congr_left fun c _ => ?_
      simp only [Function.comp, chosen, total, double1_mod, double1_div]
      simp only [if_true]
      omega

theorem subs_range : ∀ l : List Int, ((List.range (2 ^ l.length)).map fun c => (ones l.length c, chosen l c)).Perm (subs l)
  | [] => by simp [subs, chosen, ones]
  | x :: l => by
    have ih := subs_range l
    rw [List.length_cons, Nat.pow_succ, Nat.mul_comm]
    refine ((range_double _).map _).trans ?_
    rw [List.map_append, List.map_map, List.map_map]
    unfold subs
    refine List.Perm.append ?_ ?_
    · refine Eq.subst (motive := fun z => List.Perm z _) ?_ ih
      refine List.map_congr_left fun c _ => ?_
      simp only [Function.comp, chosen, ones, double_mod, double_div]
      simp
    · refine Eq.subst (motive := fun z => List.Perm z _) ?_ (ih.map fun p => (p.1 + 1, x + p.2))
      rw [List.map_map]
      refine List.map_congr_left fun c _ => ?_
      simp only [Function.comp, chosen, ones, double1_mod, double1_div]
      simp [Nat.add_comm]

/-- Some signs are turned. -/
inductive Turned : List Int → List Int → Prop
  | nil : Turned [] []
  | same (x) {a b} : Turned a b → Turned (x :: a) (x :: b)
  | turn (x) {a b} : Turned a b → Turned (x :: a) (-x :: b)

theorem Turned.refl : ∀ l, Turned l l
  | [] => .nil
  | x :: l => .same x (Turned.refl l)
theorem Turned.neg : ∀ l : List Int, Turned l (l.map (-·))
  | [] => .nil
  | x :: l => .turn x (Turned.neg l)
theorem Turned.length {a b : List Int} (h : Turned a b) : b.length = a.length := by
  induction h <;> simp [*]

theorem devs_turned {a b : List Int} (h : Turned a b) : (devs b).Perm (devs a) := by
  induction h with
  | nil => exact .refl _
  | same x _ ih => unfold devs; exact (ih.map _).append (ih.map _)
  | turn x _ ih =>
    unfold devs
    refine ((ih.map _).append (ih.map _)).trans ?_
    rw [Int.neg_neg]
    exact List.perm_append_comm

theorem devs_perm {a b : List Int} (h : a.Perm b) : (devs a).Perm (devs b) := by
  induction h with
  | nil => exact .refl _
  | cons x _ ih => unfold devs; exact (ih.map _).append (ih.map _)
  | trans _ _ i j => exact i.trans j
  | swap x y l =>
    simp only [devs, List.map_append, List.map_map]
    have e : ∀ a b : Int, (fun z => a + z) ∘ (fun z => b + z) = (fun z : Int => b + (a + z)) := by
      intro a b; funext z; simp only [Function.comp]; omega
    simp only [e, List.append_assoc]
    have e2 : ∀ a b : Int, (devs l).map (fun z => b + (a + z)) = (devs l).map (fun z => a + (b + z)) := by
      intro a b; refine List.map_congr_left fun z _ => ?_; omega
    rw [e2 x y, e2 x (-y), e2 (-x) y, e2 (-x) (-y)]
    refine (List.Perm.refl _).append ?_
    rw [← List.append_assoc, ← List.append_assoc]
    exact List.perm_append_comm.append (List.Perm.refl _)

theorem subs_perm {a b : List Int} (h : a.Perm b) : (subs a).Perm (subs b) := by
  induction h with
  | nil => exact .refl _
  | cons x _ ih => unfold subs; exact ih.append (ih.map _)
  | trans _ _ i j => exact i.trans j
  | swap x y l =>
    simp only [subs, List.map_append, List.map_map, List.append_assoc]
    refine (List.Perm.refl _).append ?_
    rw [← List.append_assoc, ← List.append_assoc]
    refine List.perm_append_comm.append ?_
    refine List.Perm.of_eq (List.map_congr_left fun p _ => ?_)
    simp only [Function.comp]
    rw [show y + (x + p.2) = x + (y + p.2) from by omega]

theorem total_perm {a b : List Int} (h : a.Perm b) : total a = total b := by
  induction h with
  | nil => rfl
  | cons x _ ih => simp [total, ih]
  | swap x y l => simp only [total]; omega
  | trans _ _ i j => exact i.trans j
theorem total_append (a b : List Int) : total (a ++ b) = total a + total b := by
  induction a with
  | nil => simp [total]
  | cons x a ih => simp only [List.cons_append, total, ih]; omega

/-- Of each choice the one of all others. -/
theorem subs_rest : ∀ l : List Int, ((subs l).map fun p => (l.length - p.1, total l - p.2)).Perm (subs l)
  | [] => by simp [subs, total]
  | x :: l => by
    have ih := subs_rest l
    have hb : ∀ l : List Int, ∀ p ∈ subs l, p.1 ≤ l.length := by
      intro l
      induction l with
      | nil => simp [subs]
      | cons y l ih =>
        intro p hp
        simp only [subs, List.mem_append, List.mem_map] at hp
        rcases hp with hp | ⟨q, hq, rfl⟩
        · have := ih p hp; simp; omega
        · have := ih q hq; simp; omega
    simp only [subs, List.map_append, List.map_map]
    refine List.perm_append_comm.trans ?_
    refine List.Perm.append ?_ ?_
    · refine Eq.subst (motive := fun z => List.Perm z _) ?_ ih
      refine List.map_congr_left fun p hp => ?_
      simp only [Function.comp, total, List.length_cons]
      rw [show l.length + 1 - (p.1 + 1) = l.length - p.1 from by omega, show x + total l - (x + p.2) = total l - p.2 from by omega]
    · refine Eq.subst (motive := fun z => List.Perm z _) ?_ (ih.map fun p => (p.1 + 1, x + p.2))
      rw [List.map_map]
      refine List.map_congr_left fun p hp => ?_
      have := hb l p hp
      simp only [Function.comp, total, List.length_cons]
      rw [show l.length - p.1 + 1 = l.length + 1 - p.1 from by omega, show x + (total l - p.2) = x + total l - p.2 from by omega]

/-- The absolute value. -/
def ab (x : Int) : Int := if x < 0 then -x else x
/-- How many sums are as great. -/
def great (l : List Int) (x : Int) : Nat := l.countP fun y => decide (ab x ≤ ab y)
theorem great_perm {a b : List Int} (h : a.Perm b) (x : Int) : great a x = great b x := h.countP_eq _
theorem great_mono (l : List Int) {x y : Int} (h : ab x ≤ ab y) : great l y ≤ great l x :=
  List.countP_mono_left fun z _ hz => by simp only [decide_eq_true_eq] at *; omega
theorem great_lt {l : List Int} {x y : Int} (hx : x ∈ l) (h : ab x < ab y) : great l y < great l x := by
  obtain ⟨a, b, rfl⟩ := List.append_of_mem hx
  have h1 := great_mono a (Int.le_of_lt h)
  have h2 := great_mono b (Int.le_of_lt h)
  unfold great at *
  rw [List.countP_append, List.countP_append, List.countP_cons_of_neg (by simp; omega), List.countP_cons_of_pos (by simp)]
  omega
/-- The test is exact: at most as many sums have at most as many that are as great. -/
theorem exact_of (l : List Int) (x : Int) : (l.countP fun y => decide (great l y ≤ great l x)) ≤ great l x := by
  refine List.countP_mono_left fun y hy hz => ?_
  simp only [decide_eq_true_eq] at *
  rcases Int.lt_or_le (ab y) (ab x) with h | h
  · have := great_lt hy h; omega
  · exact h
end Go.Proofs.Ytcgjgpdandjicaa.Smp
