/-! Progressive schedules over whole numbers: parts, exact tax, marginal rate. No program in sight. -/
namespace Brk
def part (F : Nat → Int) (n : Nat) (x : Int) (i : Nat) : Int :=
  if i + 1 < n then max (min x (F (i + 1)) - F i) 0 else max (x - F i) 0
def sum (f : Nat → Int) : Nat → Int
  | 0 => 0
  | i + 1 => sum f i + f i
def exact (F R : Nat → Int) (n : Nat) (x : Int) : Int := sum (fun i => R i * part F n x i) n
/-- The rate of the last of the first j brackets whose From is at most x. -/
def marg (F R : Nat → Int) (x : Int) : Nat → Int
  | 0 => 0
  | j + 1 => if F j ≤ x then R j else marg F R x j
structure Ok (F R : Nat → Int) (n : Nat) : Prop where
  n1 : 1 ≤ n
  n2 : n ≤ 24
  f0 : F 0 = 0
  asc : ∀ i, i + 1 < n → F i ≤ F (i + 1)
  ftop : ∀ i, i < n → F i ≤ 1000000000000
  r0 : ∀ i, i < n → 0 ≤ R i
  r1 : ∀ i, i < n → R i ≤ 1000000

theorem sum_congr {f g : Nat → Int} (n : Nat) (h : ∀ i, i < n → f i = g i) : sum f n = sum g n := by
  induction n with
  | zero => rfl
  | succ n ih => simp only [sum]; rw [ih (fun i hi => h i (by omega)), h n (by omega)]
theorem sum_le {f g : Nat → Int} (n : Nat) (h : ∀ i, i < n → f i ≤ g i) : sum f n ≤ sum g n := by
  induction n with
  | zero => exact Int.le_refl _
  | succ n ih =>
    simp only [sum]
    have := ih (fun i hi => h i (by omega))
    have := h n (by omega)
    omega
theorem sum_nonneg {f : Nat → Int} (n : Nat) (h : ∀ i, i < n → 0 ≤ f i) : 0 ≤ sum f n := by
  induction n with
  | zero => exact Int.le_refl _
  | succ n ih =>
    simp only [sum]
    have := ih (fun i hi => h i (by omega))
    have := h n (by omega)
    omega
theorem sum_sub (f g : Nat → Int) (n : Nat) : sum f n - sum g n = sum (fun i => f i - g i) n := by
  induction n with
  | zero => rfl
  | succ n ih => simp only [sum]; omega
theorem sum_mul (c : Int) (f : Nat → Int) (n : Nat) : sum (fun i => c * f i) n = c * sum f n := by
  induction n with
  | zero => simp [sum]
  | succ n ih => simp only [sum]; rw [ih, Int.mul_add]
theorem sum_const (c : Int) (n : Nat) : sum (fun _ => c) n = n * c := by
  induction n with
  | zero => simp [sum]
  | succ n ih => simp only [sum]; rw [ih]; push_cast; rw [Int.add_mul]; omega

section
variable {F R : Nat → Int} {n : Nat} (h : Ok F R n)
include h
theorem Ok.fpos (i : Nat) (hi : i < n) : 0 ≤ F i := by
  induction i with
  | zero => rw [h.f0]; exact Int.le_refl _
  | succ i ih => have := ih (by omega); have := h.asc i hi; omega
theorem Ok.mono (i j : Nat) (hij : i ≤ j) (hj : j < n) : F i ≤ F j := by
  induction j with
  | zero => obtain rfl : i = 0 := by omega
            exact Int.le_refl _
  | succ j ih =>
    rcases Nat.lt_or_ge j i with hlt | hge
    · obtain rfl : i = j + 1 := by omega
      exact Int.le_refl _
    · have := ih hge (by omega); have := h.asc j hj; omega
end

theorem part_nonneg (F : Nat → Int) (n : Nat) (x : Int) (i : Nat) : 0 ≤ part F n x i := by
  unfold part; split <;> omega
/-- The first j parts add up to min x (F j). -/
theorem sum_part_lt {F R : Nat → Int} {n : Nat} (h : Ok F R n) {x : Int} (hx : 0 ≤ x) : ∀ j, j < n → sum (part F n x) j = min x (F j)
  | 0, _ => by simp only [sum]; rw [h.f0]; omega
  | j + 1, hj => by
    simp only [sum]
    rw [sum_part_lt h hx j (by omega)]
    have := h.asc j hj
    unfold part
    rw [if_pos hj]
    omega
theorem sum_part {F R : Nat → Int} {n : Nat} (h : Ok F R n) {x : Int} (hx : 0 ≤ x) : sum (part F n x) n = x := by
  obtain ⟨m, rfl⟩ : ∃ m, n = m + 1 := ⟨n - 1, by have := h.n1; omega⟩
  simp only [sum]
  rw [sum_part_lt h hx m (by omega)]
  unfold part
  rw [if_neg (by omega)]
  omega
theorem sum_part_le {F R : Nat → Int} {n : Nat} (h : Ok F R n) {x : Int} (hx : 0 ≤ x) (j : Nat) (hj : j ≤ n) : sum (part F n x) j ≤ x := by
  rcases Nat.lt_or_ge j n with hlt | hge
  · rw [sum_part_lt h hx j hlt]; omega
  · obtain rfl : j = n := by omega
    rw [sum_part h hx]; omega
/-- The sum of the first j terms of the exact tax, and its bounds. -/
theorem partial_nonneg {F R : Nat → Int} {n : Nat} (h : Ok F R n) (x : Int) (j : Nat) (hj : j ≤ n) : 0 ≤ sum (fun i => R i * part F n x i) j :=
  sum_nonneg j (fun i hi => Int.mul_nonneg (h.r0 i (by omega)) (part_nonneg F n x i))
theorem partial_le {F R : Nat → Int} {n : Nat} (h : Ok F R n) {x : Int} (hx : 0 ≤ x) (j : Nat) (hj : j ≤ n) : sum (fun i => R i * part F n x i) j ≤ 1000000 * x := by
  have h1 : sum (fun i => R i * part F n x i) j ≤ sum (fun i => 1000000 * part F n x i) j :=
    sum_le j (fun i hi => Int.mul_le_mul_of_nonneg_right (h.r1 i (by omega)) (part_nonneg F n x i))
  rw [sum_mul] at h1
  have h2 := sum_part_le h hx j hj
  omega
theorem exact_nonneg {F R : Nat → Int} {n : Nat} (h : Ok F R n) (x : Int) : 0 ≤ exact F R n x := partial_nonneg h x n (Nat.le_refl _)
theorem exact_le {F R : Nat → Int} {n : Nat} (h : Ok F R n) {x : Int} (hx : 0 ≤ x) : exact F R n x ≤ 1000000 * x := partial_le h hx n (Nat.le_refl _)
theorem part_le_x {F R : Nat → Int} {n : Nat} (h : Ok F R n) {x : Int} (hx : 0 ≤ x) (i : Nat) (hi : i < n) : part F n x i ≤ x := by
  have := h.fpos i hi
  unfold part
  split <;> omega
/-! ### growth -/
theorem part_mono {F : Nat → Int} (n : Nat) {x y : Int} (hxy : x ≤ y) (i : Nat) : part F n x i ≤ part F n y i := by
  unfold part; split <;> omega
theorem exact_grows {F R : Nat → Int} {n : Nat} (h : Ok F R n) {x y : Int} (hx : 0 ≤ x) (hxy : x ≤ y) :
    exact F R n x ≤ exact F R n y ∧ exact F R n y - exact F R n x ≤ (y - x) * 1000000 := by
  have e : exact F R n y - exact F R n x = sum (fun i => R i * (part F n y i - part F n x i)) n := by
    unfold exact
    rw [sum_sub]
    exact sum_congr n (fun i _ => by rw [Int.mul_sub])
  have h0 : 0 ≤ sum (fun i => R i * (part F n y i - part F n x i)) n :=
    sum_nonneg n (fun i hi => Int.mul_nonneg (h.r0 i hi) (by have := part_mono (F := F) n hxy i; omega))
  have h1 : sum (fun i => R i * (part F n y i - part F n x i)) n ≤ sum (fun i => 1000000 * (part F n y i - part F n x i)) n :=
    sum_le n (fun i hi => Int.mul_le_mul_of_nonneg_right (h.r1 i hi) (by have := part_mono (F := F) n hxy i; omega))
  rw [sum_mul, ← sum_sub, sum_part h hx, sum_part h (by omega)] at h1
  omega
/-- Where the step from x to x + 1 falls. -/
theorem part_step_in {F R : Nat → Int} {n : Nat} (_h : Ok F R n) {x : Int} (j : Nat) (_hj : j < n) (h1 : F j ≤ x) (h2 : j + 1 < n → x < F (j + 1)) :
    part F n (x + 1) j - part F n x j = 1 := by
  unfold part
  split
  · have := h2 (by omega); omega
  · omega
theorem part_step_out {F R : Nat → Int} {n : Nat} (h : Ok F R n) {x : Int} (i : Nat) (_hi : i < n) (hc : x < F i ∨ (i + 1 < n ∧ F (i + 1) ≤ x)) :
    part F n (x + 1) i - part F n x i = 0 := by
  unfold part
  rcases hc with hc | ⟨h1, h2⟩
  · split
    · have := h.asc i (by omega); omega
    · omega
  · rw [if_pos h1, if_pos h1]
    have := h.asc i h1
    omega
/-- The first j brackets' step: 0 if the place lies behind them, else the marginal rate. -/
theorem sum_step {F R : Nat → Int} {n : Nat} (h : Ok F R n) {x : Int} (hx : 0 ≤ x) : ∀ j, j ≤ n →
    sum (fun i => R i * (part F n (x + 1) i - part F n x i)) j = if j < n ∧ F j ≤ x then 0 else marg F R x j
  | 0, _ => by
    simp only [sum, marg]
    split <;> rfl
  | j + 1, hj => by
    have ih := sum_step h hx j (by omega)
    simp only [sum]
    rw [ih]
    by_cases hjx : F j ≤ x
    · rw [if_pos ⟨by omega, hjx⟩]
      by_cases hn : j + 1 < n ∧ F (j + 1) ≤ x
      · rw [if_pos hn, part_step_out h j (by omega) (.inr hn)]; omega
      · rw [if_neg hn, part_step_in h j (by omega) hjx (fun h1 => by omega)]
        simp only [marg, if_pos hjx]; omega
    · rw [if_neg (by omega), part_step_out h j (by omega) (.inl (by omega))]
      have : ¬ (j + 1 < n ∧ F (j + 1) ≤ x) := by
        rintro ⟨h1, h2⟩
        have := h.asc j h1
        omega
      rw [if_neg this]
      simp only [marg, if_neg hjx]; omega
theorem exact_step {F R : Nat → Int} {n : Nat} (h : Ok F R n) {x : Int} (hx : 0 ≤ x) : exact F R n (x + 1) - exact F R n x = marg F R x n := by
  have e : exact F R n (x + 1) - exact F R n x = sum (fun i => R i * (part F n (x + 1) i - part F n x i)) n := by
    unfold exact
    rw [sum_sub]
    exact sum_congr n (fun i _ => by rw [Int.mul_sub])
  rw [e, sum_step h hx n (Nat.le_refl _), if_neg (by omega)]
/-- Ascending rates: the marginal rate never falls. -/
theorem marg_le_top {F R : Nat → Int} {n : Nat} (h : Ok F R n) (hr : ∀ i, i + 1 < n → R i ≤ R (i + 1)) (x : Int) : ∀ j, j < n → marg F R x j ≤ R j
  | 0, h0 => by simp only [marg]; exact h.r0 0 h0
  | j + 1, hj => by
    simp only [marg]
    have := hr j hj
    split
    · exact this
    · have := marg_le_top h hr x j (by omega); omega
theorem marg_mono {F R : Nat → Int} {n : Nat} (h : Ok F R n) (hr : ∀ i, i + 1 < n → R i ≤ R (i + 1)) {x y : Int} (hxy : x ≤ y) : ∀ j, j ≤ n → marg F R x j ≤ marg F R y j
  | 0, _ => Int.le_refl _
  | j + 1, hj => by
    simp only [marg]
    by_cases hx : F j ≤ x
    · rw [if_pos hx, if_pos (by omega)]; exact Int.le_refl _
    · rw [if_neg hx]
      split
      · exact marg_le_top h hr x j (by omega)
      · exact marg_mono h hr hxy j (by omega)
theorem exact_zero {F R : Nat → Int} {n : Nat} (h : Ok F R n) : exact F R n 0 = 0 := by
  have h1 := exact_nonneg h 0
  have h2 := exact_le h (Int.le_refl 0)
  omega
theorem exact_convex {F R : Nat → Int} {n : Nat} (h : Ok F R n) (hr : ∀ i, i + 1 < n → R i ≤ R (i + 1)) {x : Int} (hx : 0 ≤ x) (m : Nat) :
    exact F R n x + exact F R n m ≤ exact F R n (x + m) := by
  induction m with
  | zero => have := exact_zero h; simp; omega
  | succ m ih =>
    have e1 := exact_step h (x := x + m) (by omega)
    have e2 := exact_step h (x := (m : Int)) (by omega)
    have hm := marg_mono h hr (x := (m : Int)) (y := x + m) (by omega) n (Nat.le_refl _)
    have a1 : x + ((m + 1 : Nat) : Int) = x + m + 1 := by omega
    have a2 : ((m + 1 : Nat) : Int) = (m : Int) + 1 := by omega
    rw [a1, a2]
    omega
/-! ### scaling -/
/-- Two schedules with the same marginal rates have the same exact tax. -/
theorem exact_of_marg {F R F' R' : Nat → Int} {n n' : Nat} (h : Ok F R n) (h' : Ok F' R' n') (hm : ∀ z : Int, 0 ≤ z → marg F R z n = marg F' R' z n') (y : Nat) :
    exact F R n y = exact F' R' n' y := by
  induction y with
  | zero => rw [show ((0 : Nat) : Int) = 0 from rfl, exact_zero h, exact_zero h']
  | succ y ih =>
    have e1 := exact_step h (x := (y : Int)) (by omega)
    have e2 := exact_step h' (x := (y : Int)) (by omega)
    have e3 := hm y (by omega)
    have a : ((y + 1 : Nat) : Int) = (y : Int) + 1 := by omega
    rw [a]; omega
theorem mul_clamp {d y g0 g1 : Int} (hd : 0 ≤ d) : d * max (min y g1 - g0) 0 = max (min (d * y) (d * g1) - d * g0) 0 := by
  have m : d * min y g1 = min (d * y) (d * g1) := by
    rcases Int.le_total y g1 with h | h
    · have := Int.mul_le_mul_of_nonneg_left h hd
      rw [Int.min_eq_left h, Int.min_eq_left this]
    · have := Int.mul_le_mul_of_nonneg_left h hd
      rw [Int.min_eq_right h, Int.min_eq_right this]
  rw [← m, ← Int.mul_sub]
  rcases Int.le_total (min y g1 - g0) 0 with h | h
  · have h2 := Int.mul_le_mul_of_nonneg_left h hd
    rw [Int.mul_zero] at h2
    rw [Int.max_eq_right h, Int.max_eq_right h2, Int.mul_zero]
  · have h2 := Int.mul_le_mul_of_nonneg_left h hd
    rw [Int.mul_zero] at h2
    rw [Int.max_eq_left h, Int.max_eq_left h2]
theorem mul_clamp0 {d y g0 : Int} (hd : 0 ≤ d) : d * max (y - g0) 0 = max (d * y - d * g0) 0 := by
  rw [← Int.mul_sub]
  rcases Int.le_total (y - g0) 0 with h | h
  · have h2 := Int.mul_le_mul_of_nonneg_left h hd
    rw [Int.mul_zero] at h2
    rw [Int.max_eq_right h, Int.max_eq_right h2, Int.mul_zero]
  · have h2 := Int.mul_le_mul_of_nonneg_left h hd
    rw [Int.mul_zero] at h2
    rw [Int.max_eq_left h, Int.max_eq_left h2]
theorem div_bd (a : Int) {d : Int} (hd : 0 < d) : a - d < d * (a / d) ∧ d * (a / d) ≤ a := by
  have h1 := Int.mul_ediv_add_emod a d
  have h2 := Int.emod_nonneg a (show d ≠ 0 by omega)
  have h3 := Int.emod_lt_of_pos a hd
  omega
/-- One bracket: the scaled part is the part scaled, within the rounding of the brackets. -/
theorem part_scaled {F : Nat → Int} {n : Nat} {num den x y : Int} (hn : 0 ≤ num) (hd : 0 < den) (hxy : den * y = num * x) (i : Nat) :
    den * part (fun i => F i * num / den) n y i - num * part F n x i ≤ den ∧ num * part F n x i - den * part (fun i => F i * num / den) n y i ≤ den := by
  have b0 := div_bd (F i * num) hd
  have b1 := div_bd (F (i + 1) * num) hd
  unfold part
  by_cases h : i + 1 < n
  · rw [if_pos h, if_pos h, mul_clamp (by omega), mul_clamp hn, hxy]
    rw [Int.mul_comm num (F i), Int.mul_comm num (F (i + 1))]
    dsimp only
    omega
  · rw [if_neg h, if_neg h, mul_clamp0 (by omega), mul_clamp0 hn, hxy]
    rw [Int.mul_comm num (F i)]
    dsimp only
    omega
theorem exact_scaled {F R : Nat → Int} {n : Nat} (h : Ok F R n) {num den x y : Int} (hn : 0 ≤ num) (hd : 0 < den) (hxy : den * y = num * x) :
    exact (fun i => F i * num / den) R n y * den - exact F R n x * num ≤ n * (1000000 * den) ∧ exact F R n x * num - exact (fun i => F i * num / den) R n y * den ≤ n * (1000000 * den) := by
  have e : exact (fun i => F i * num / den) R n y * den - exact F R n x * num = sum (fun i => R i * (den * part (fun i => F i * num / den) n y i - num * part F n x i)) n := by
    unfold exact
    rw [Int.mul_comm _ den, Int.mul_comm _ num, ← sum_mul, ← sum_mul, sum_sub]
    refine sum_congr n (fun i _ => ?_)
    rw [Int.mul_sub, ← Int.mul_assoc, ← Int.mul_assoc, ← Int.mul_assoc, ← Int.mul_assoc, Int.mul_comm den, Int.mul_comm num]
  have e' : exact F R n x * num - exact (fun i => F i * num / den) R n y * den = sum (fun i => R i * (num * part F n x i - den * part (fun i => F i * num / den) n y i)) n := by
    unfold exact
    rw [Int.mul_comm _ den, Int.mul_comm _ num, ← sum_mul, ← sum_mul, sum_sub]
    refine sum_congr n (fun i _ => ?_)
    rw [Int.mul_sub, ← Int.mul_assoc, ← Int.mul_assoc, ← Int.mul_assoc, ← Int.mul_assoc, Int.mul_comm den, Int.mul_comm num]
  have one : ∀ i, i < n → ∀ D, D ≤ den → R i * D ≤ 1000000 * den := by
    intro i hi D hD
    have a := Int.mul_le_mul_of_nonneg_left hD (h.r0 i hi)
    have b := Int.mul_le_mul_of_nonneg_right (h.r1 i hi) (show 0 ≤ den by omega)
    omega
  rw [e, e', ← sum_const]
  exact ⟨sum_le n (fun i hi => one i hi _ (part_scaled hn hd hxy i).1), sum_le n (fun i hi => one i hi _ (part_scaled hn hd hxy i).2)⟩
theorem ok_scaled {F R : Nat → Int} {n : Nat} (h : Ok F R n) {num den : Int} (hn : 0 ≤ num) (hd : 0 < den) (hnd : num ≤ den) : Ok (fun i => F i * num / den) R n := by
  refine ⟨h.n1, h.n2, ?_, fun i hi => ?_, fun i hi => ?_, h.r0, h.r1⟩
  · show F 0 * num / den = 0
    rw [h.f0]; simp
  · exact Int.ediv_le_ediv hd (Int.mul_le_mul_of_nonneg_right (h.asc i hi) hn)
  · have a := Int.mul_le_mul_of_nonneg_left hnd (h.fpos i hi)
    have b := Int.ediv_le_ediv hd a
    rw [Int.mul_ediv_cancel _ (show den ≠ 0 by omega)] at b
    exact Int.le_trans b (h.ftop i hi)
end Brk
