/- Plain lemmas for the laws of this seat: what its functions answer; no condition beyond those that each lemma states. -/
import Derived.Test.YtopigdnffnondaaKit
import Derived.Test.YtopigdnffnondaaFrecordsSum
import Derived.Test.YtopigdnffnondaaFrecordsput
import Derived.Test.YtopigdnffnondaaFrecordsget
import Derived.Test.YtopigdnffnondaaFrecordsValid
namespace Go.Proofs.Ytopigdnffnondaa.RecA
open Go Go.RowKit Go.Proofs.YtopigdnffnondaaW.PrintWords Go.Proofs.YtopigdnffnondaaW.PrintMore Go.Proofs.Ytopigdnffnondaa.P Go.Proofs.Ytopigdnffnondaa.K
/-! records: the checksum, numbers of bytes, valid events: what the program's functions answer. -/
/-- Bytes. -/
def Bs (b : List Int) : Prop := ∀ x ∈ b, 0 ≤ x ∧ x < 256
theorem Bs.append {a b : List Int} (h : Bs a) (h' : Bs b) : Bs (a ++ b) := fun x hx => by
  rcases List.mem_append.1 hx with hx | hx
  · exact h x hx
  · exact h' x hx
theorem Bs.take {b : List Int} (h : Bs b) (n : Nat) : Bs (b.take n) := fun x hx => h x (List.mem_of_mem_take hx)
theorem Bs.drop {b : List Int} (h : Bs b) (n : Nat) : Bs (b.drop n) := fun x hx => h x (List.mem_of_mem_drop hx)
theorem Bs.nil : Bs [] := fun x hx => by cases hx
theorem Bs.cons {x : Int} {b : List Int} (h0 : 0 ≤ x) (h1 : x < 256) (h : Bs b) : Bs (x :: b) := fun y hy => by
  rcases List.mem_cons.1 hy with rfl | hy
  · exact ⟨h0, h1⟩
  · exact h y hy
theorem Bs.at_ {b : List Int} (h : Bs b) (i : Int) : 0 ≤ rd b i ∧ rd b i < 256 := by
  unfold rd
  rw [List.getD_eq_getElem?_getD]
  rcases Nat.lt_or_ge i.toNat b.length with hl | hl
  · rw [List.getElem?_eq_getElem hl]
    exact h _ (List.getElem_mem hl)
  · rw [List.getElem?_eq_none hl]
    simp
/-! ### The checksum -/
def stp (s : Nat) : Nat := if s < 32768 then 2 * s else (2 * s - 65536) ^^^ 4129
def it : Nat → Nat → Nat
  | 0, s => s
  | n + 1, s => it n (stp s)
def byt (s x : Nat) : Nat := it 8 (s ^^^ (x * 256))
def crc : Nat → List Int → Nat
  | s, [] => s
  | s, x :: r => crc (byt s x.toNat) r
def sumB (b : List Int) : Int := (crc 65535 b : Nat)
theorem xor16 {a b : Nat} (ha : a < 65536) (hb : b < 65536) : a ^^^ b < 65536 := Nat.xor_lt_two_pow (n := 16) ha hb
theorem stp_lt {s : Nat} (h : s < 65536) : stp s < 65536 := by
  unfold stp
  split
  · omega
  · exact xor16 (by omega) (by decide)
theorem it_lt : ∀ (n : Nat) {s : Nat}, s < 65536 → it n s < 65536
  | 0, _, h => h
  | n + 1, _, h => it_lt n (stp_lt h)
theorem byt_lt {s x : Nat} (hs : s < 65536) (hx : x < 256) : byt s x < 65536 := it_lt 8 (xor16 hs (by omega))
theorem crc_lt : ∀ (b : List Int) {s : Nat}, Bs b → s < 65536 → crc s b < 65536
  | [], _, _, h => h
  | x :: r, s, hb, h => by
    have := hb x (by simp)
    have h1 := crc_lt r (fun y hy => hb y (by simp [hy])) (byt_lt h (x := x.toNat) (by omega))
    rw [crc]
    exact h1
theorem xor_cancel {a b c : Nat} (h : a ^^^ c = b ^^^ c) : a = b := by
  have := congrArg (· ^^^ c) h
  simpa [Nat.xor_assoc, Nat.xor_self] using this
theorem xor_odd (a : Nat) (h : a % 2 = 0) : (a ^^^ 4129) % 2 = 1 := by
  have h1 : (a ^^^ 4129).testBit 0 = true := by
    rw [Nat.testBit_xor]
    have : a.testBit 0 = false := by simp [Nat.testBit_zero]; omega
    rw [this]
    decide
  simpa [Nat.testBit_zero] using h1
theorem stp_inj {s t : Nat} (hs : s < 65536) (ht : t < 65536) (h : stp s = stp t) : s = t := by
  unfold stp at h
  by_cases h1 : s < 32768 <;> by_cases h2 : t < 32768
  · rw [if_pos h1, if_pos h2] at h; omega
  · rw [if_pos h1, if_neg h2] at h
    have := xor_odd (2 * t - 65536) (by omega)
    omega
  · rw [if_neg h1, if_pos h2] at h
    have := xor_odd (2 * s - 65536) (by omega)
    omega
  · rw [if_neg h1, if_neg h2] at h
    have := xor_cancel h
    omega
theorem it_inj : ∀ (n : Nat) {s t : Nat}, s < 65536 → t < 65536 → it n s = it n t → s = t
  | 0, _, _, _, _, h => h
  | n + 1, _, _, hs, ht, h => stp_inj hs ht (it_inj n (stp_lt hs) (stp_lt ht) h)
theorem byt_inj {s t x : Nat} (hs : s < 65536) (ht : t < 65536) (hx : x < 256) (h : byt s x = byt t x) : s = t :=
  xor_cancel (it_inj 8 (xor16 hs (by omega)) (xor16 ht (by omega)) h)
theorem byt_ne {s x y : Nat} (hs : s < 65536) (hx : x < 256) (hy : y < 256) (h : byt s x = byt s y) : x = y := by
  have h1 := it_inj 8 (xor16 hs (by omega)) (xor16 hs (by omega)) h
  rw [Nat.xor_comm s, Nat.xor_comm s] at h1
  have := xor_cancel h1
  omega
theorem crc_inj : ∀ (b : List Int) {s t : Nat}, Bs b → s < 65536 → t < 65536 → crc s b = crc t b → s = t
  | [], _, _, _, _, _, h => h
  | x :: r, s, t, hb, hs, ht, h => by
    have hx := hb x (by simp)
    rw [crc, crc] at h
    exact byt_inj hs ht (by omega) (crc_inj r (fun y hy => hb y (by simp [hy])) (byt_lt hs (by omega)) (byt_lt ht (by omega)) h)
theorem crc_append : ∀ (a b : List Int) (s : Nat), crc s (a ++ b) = crc (crc s a) b
  | [], _, _ => by rw [List.nil_append, crc]
  | x :: r, b, s => by rw [List.cons_append, crc, crc, crc_append r b]
/-- One byte changed: another checksum. -/
theorem sum_ne {a r : List Int} {x y : Int} (ha : Bs a) (hr : Bs r) (hx0 : 0 ≤ x) (hx1 : x < 256) (hy0 : 0 ≤ y) (hy1 : y < 256) (hne : x ≠ y) : sumB (a ++ x :: r) ≠ sumB (a ++ y :: r) := by
  unfold sumB
  intro h
  rw [crc_append, crc_append, crc, crc] at h
  have hs := crc_lt a ha (s := 65535) (by decide)
  have h1 := crc_inj r hr (byt_lt hs (by omega)) (byt_lt hs (by omega)) (Int.ofNat.inj h)
  have := byt_ne hs (by omega) (by omega) h1
  omega
theorem sumB_range {b : List Int} (h : Bs b) : 0 ≤ sumB b ∧ sumB b < 65536 := by
  have := crc_lt b h (s := 65535) (by decide)
  unfold sumB
  omega
theorem bxor (k : IntKind) (j : Nat) (hj : j ≤ k.bits) (hk : ∀ n : Int, 0 ≤ n → n < 2 ^ j → k.wrap n = n) (a b : Nat) (ha : a < 2 ^ j) (hb : b < 2 ^ j) :
    bits .xor k a b = ((a ^^^ b : Nat) : Int) := by
  have hp : 2 ^ j ≤ 2 ^ k.bits := Nat.pow_le_pow_right (by decide) hj
  have ha' : a % 2 ^ k.bits = a := Nat.mod_eq_of_lt (Nat.lt_of_lt_of_le ha hp)
  have hb' : b % 2 ^ k.bits = b := Nat.mod_eq_of_lt (Nat.lt_of_lt_of_le hb hp)
  simp only [bits, BitVec.ofInt_natCast, BitVec.toNat_xor, BitVec.toNat_ofNat, ha', hb']
  exact hk _ (Int.natCast_nonneg _) (by exact_mod_cast Nat.xor_lt_two_pow ha hb)
theorem w16 (n : Int) : IntKind.u16.wrap n = n % 65536 := by simp [IntKind.wrap, IntKind.bits, IntKind.signed]
theorem wraps16 (n : Int) (h₀ : 0 ≤ n) (h₁ : n < 2 ^ 16) : IntKind.u16.wrap n = n := by rw [w16]; omega
theorem xor_u16 {a b : Nat} (ha : a < 65536) (hb : b < 65536) : bits .xor .u16 a b = ((a ^^^ b : Nat) : Int) := bxor .u16 16 (by decide) wraps16 a b ha hb
theorem and_u16 {a : Nat} (ha : a < 65536) : bits .and .u16 a 32768 = ((a &&& 32768 : Nat) : Int) := (bits_nat .u16 16 (by decide) wraps16 a 32768 ha (by decide)).1
theorem and_top {a : Nat} (ha : a < 65536) : a &&& 32768 = 0 ↔ a < 32768 := by
  have e : a &&& 32768 = a &&& 2 ^ 15 := rfl
  rw [e]
  constructor
  · intro h
    rcases Nat.lt_or_ge a 32768 with h1 | h1
    · exact h1
    · have h2 : (a &&& 2 ^ 15).testBit 15 = true := by
        rw [Nat.testBit_and, Nat.testBit_two_pow]
        have : a.testBit 15 = true := by
          rw [Nat.testBit_eq_decide_div_mod_eq]
          simp
          omega
        simp [this]
      rw [h] at h2
      simp at h2
  · intro h
    apply Nat.eq_of_testBit_eq
    intro i
    rw [Nat.testBit_and, Nat.testBit_two_pow, Nat.zero_testBit]
    by_cases hi : 15 = i
    · subst hi
      rw [Nat.testBit_lt_two_pow (by simpa using h)]
      rfl
    · simp [hi]
theorem sum_l1 (x7 : List Int) (x8 x9 : Int) (r : Int) (n : Nat) : ∀ (s : Nat) (j : Nat), s < 65536 → j + n = 8 →
    Ev (fun k => records_Sum.l0 k (it n s : Nat) x7 x8 (wrap64 (x9 + 1))) r → Ev (fun k => records_Sum.l1 k s x7 x8 x9 (j : Int)) r := by
  induction n with
  | zero =>
    intro s j hs hj h
    refine Ev.step (fun k => by rw [records_Sum.l1]) ?_
    exact ev_neg (by omega) h
  | succ n ih =>
    intro s j hs hj h
    refine Ev.step (fun k => by rw [records_Sum.l1]) ?_
    refine ev_pos (by omega) ?_
    have e1 : wrap64 ((j : Int) + 1) = ((j + 1 : Nat) : Int) := w64n (by omega) (by omega)
    have e2 : IntKind.u16.wrap ((s : Int) * 2) = ((if s < 32768 then 2 * s else 2 * s - 65536 : Nat) : Int) := by
      rw [w16]; split <;> omega
    rw [and_u16 hs, e1]
    by_cases hc : s < 32768
    · rw [if_pos hc] at e2
      refine ev_pos (by rw [(and_top hs).2 hc]; rfl) ?_
      rw [e2]
      refine ih (2 * s) (j + 1) (by omega) (by omega) ?_
      have : stp s = 2 * s := by unfold stp; rw [if_pos hc]
      rw [← this]
      rw [it] at h
      exact h
    · rw [if_neg hc] at e2
      refine ev_neg (fun h0 => hc ((and_top hs).1 (Int.ofNat.inj h0))) ?_
      rw [e2]
      have e3 : bits .xor .u16 ((2 * s - 65536 : Nat) : Int) 4129 = (((2 * s - 65536) ^^^ 4129 : Nat) : Int) := xor_u16 (by omega) (by decide)
      rw [e3]
      have : stp s = (2 * s - 65536) ^^^ 4129 := by unfold stp; rw [if_neg hc]
      rw [← this]
      rw [it] at h
      exact ih (stp s) (j + 1) (stp_lt hs) (by omega) h
theorem sum_l0 (b : List Int) (hb : Bs b) (hl : b.length ≤ 1000000000000000) (d : Nat) : ∀ (i s : Nat), i + d = b.length → s < 65536 → Ev (fun k => records_Sum.l0 k s b (b.length : Int) (i : Int)) (crc s (b.drop i) : Nat) := by
  induction d with
  | zero =>
    intro i s hi hs
    refine Ev.step (fun k => by rw [records_Sum.l0]) ?_
    refine ev_neg (by omega) (ev_some ?_)
    rw [List.drop_of_length_le (by omega), w64 (by omega) (by omega), crc]
  | succ d ih =>
    intro i s hi hs
    refine Ev.step (fun k => by rw [records_Sum.l0]) ?_
    refine ev_pos (by omega) (ev_pos (by omega) (ev_pos (by omega) ?_))
    obtain ⟨x, hx⟩ : ∃ x, b[i]? = some x := ⟨b[i], List.getElem?_eq_getElem (by omega)⟩
    have hxb := hb x (List.mem_of_getElem? hx)
    have hr : rd b (i : Int) = x := by rw [rd_nat, List.getD_eq_getElem?_getD, hx]; rfl
    obtain ⟨m, rfl⟩ := Int.eq_ofNat_of_zero_le hxb.1
    have e1 : IntKind.u16.wrap (IntKind.u16.wrap (m : Int) * 256) = ((m * 256 : Nat) : Int) := by rw [w16, w16]; omega
    rw [hr, e1, xor_u16 hs (by omega)]
    have e2 : wrap64 ((i : Int) + 1) = ((i + 1 : Nat) : Int) := w64n (by omega) (by omega)
    refine sum_l1 b _ _ _ 8 _ 0 (xor16 hs (by omega)) (by omega) ?_
    rw [e2]
    have hd : b.drop i = (m : Int) :: b.drop (i + 1) := by
      rw [List.drop_eq_getElem_cons (by omega)]
      congr 1
      have := (List.getElem?_eq_some_iff.1 hx).2
      exact this
    rw [hd, crc]
    have h1 := ih (i + 1) (byt s m) (by omega) (byt_lt hs (by omega))
    exact h1
theorem sum {b : List Int} (hb : Bs b) (hl : b.length ≤ 1000000000000000) : Ev (fun k => records_Sum.f k b) (sumB b) := by
  have := sum_l0 b hb hl b.length 0 65535 (by omega) (by decide)
  exact this
/-! ### Numbers of bytes -/
def num : Int → List Int → Int
  | n, [] => n
  | n, x :: r => num (n * 256 + x) r
theorem or_byte {n x : Int} (h0 : 0 ≤ n) (h1 : n < 72057594037927936 / 256) (hx0 : 0 ≤ x) (hx1 : x < 256) : bits .or .i64 (wrap64 (n * 256)) (wrap64 x) = n * 256 + x := by
  rw [w64 (by omega) (by omega), w64 (by omega) (by omega)]
  exact bits_join .i64 62 (by decide) (fun m hm0 hm1 => by rw [IntKind.wrap_i64]; omega) 8 (n * 256) x (by omega) (by omega) (by omega) hx0 (by omega) (by omega)
def lim : Nat → Int
  | 0 => 1
  | n + 1 => lim n * 256
theorem lim_le {i : Nat} (h : i ≤ 5) : lim i ≤ 1099511627776 := by
  rcases i with _ | _ | _ | _ | _ | _ | i <;> first | (simp only [lim]; omega) | omega
theorem get_l0 (b : List Int) (hb : Bs b) (hl : b.length ≤ 6) (d : Nat) : ∀ (i : Nat) (n : Int), i + d = b.length → 0 ≤ n → n < lim i → Ev (fun k => records_get.l0 k n b (b.length : Int) (i : Int)) (num n (b.drop i)) := by
  induction d with
  | zero =>
    intro i n hi h0 h1
    refine Ev.step (fun k => by rw [records_get.l0]) ?_
    refine ev_neg (by omega) (ev_some ?_)
    rw [List.drop_of_length_le (by omega), num]
  | succ d ih =>
    intro i n hi h0 h1
    refine Ev.step (fun k => by rw [records_get.l0]) ?_
    refine ev_pos (by omega) (ev_pos (by omega) (ev_pos (by omega) ?_))
    have hd : b.drop i = b[i]'(by omega) :: b.drop (i + 1) := List.drop_eq_getElem_cons (by omega)
    have hr : rd b (i : Int) = b[i]'(by omega) := by rw [rd_nat, List.getD_eq_getElem?_getD, List.getElem?_eq_getElem (by omega)]; rfl
    have hx := hb (b[i]'(by omega)) (List.getElem_mem _)
    have hp := lim_le (i := i) (by omega)
    have e2 : wrap64 ((i : Int) + 1) = ((i + 1 : Nat) : Int) := w64n (by omega) (by omega)
    rw [hr, or_byte h0 (by omega) hx.1 hx.2, e2, hd]
    rw [num]
    exact ih (i + 1) _ (by omega) (by omega) (by rw [lim]; omega)
theorem get {b : List Int} (hb : Bs b) (hl : b.length ≤ 6) : Ev (fun k => records_get.f k b) (num 0 b) := get_l0 b hb hl b.length 0 0 (by omega) (by omega) (by rw [lim]; omega)
def put2 (n : Int) : List Int := [n / 256 % 256, n % 256]
def put4 (n : Int) : List Int := [n / 16777216 % 256, n / 65536 % 256, n / 256 % 256, n % 256]
theorem put2_bs (n : Int) : Bs (put2 n) := by
  unfold put2
  exact Bs.cons (by omega) (by omega) (Bs.cons (by omega) (by omega) Bs.nil)
theorem put4_bs (n : Int) : Bs (put4 n) := by
  unfold put4
  exact Bs.cons (by omega) (by omega) (Bs.cons (by omega) (by omega) (Bs.cons (by omega) (by omega) (Bs.cons (by omega) (by omega) Bs.nil)))
theorem num_put2 {n : Int} (h0 : 0 ≤ n) (h1 : n < 65536) : num 0 (put2 n) = n := by simp only [put2, num]; omega
theorem num_put4 {n : Int} (h0 : 0 ≤ n) (h1 : n < 4294967296) : num 0 (put4 n) = n := by simp only [put4, num]; omega
theorem put2_num {x y : Int} (hx0 : 0 ≤ x) (hx1 : x < 256) (hy0 : 0 ≤ y) (hy1 : y < 256) : put2 (num 0 [x, y]) = [x, y] := by
  simp only [put2, num, List.cons.injEq, and_true]; omega
theorem shr_at {n : Int} (m : Nat) (hm : m ≤ 64) : shr .i64 n (m : Int) = n / 2 ^ m := by
  unfold shr
  rw [show IntKind.i64.bits = 64 from rfl, Int.toNat_natCast, Nat.min_eq_left hm]
theorem put_end (b : List Int) (n : Int) : Ev (fun k => records_put.l0 k b n (-8)) b := by
  refine Ev.step (fun k => by rw [records_put.l0]) ?_
  exact ev_neg (by omega) (ev_some rfl)
theorem put_one {b : List Int} {n : Int} {r : List Int} (m : Nat) (hm : m ≤ 64) (hl : b.length < 140737488355328) {v : Int} (hv : n / 2 ^ m % 256 = v) (h : Ev (fun k => records_put.l0 k (b ++ [v]) n ((m : Int) - 8)) r) : Ev (fun k => records_put.l0 k b n (m : Int)) r := by
  refine Ev.step (fun k => by rw [records_put.l0]) ?_
  refine ev_pos (by omega) (ev_pos (by omega) (ev_pos hl ?_))
  rw [shr_at m hm, w64 (by omega) (by omega), hv]
  exact h
theorem putE2 (b : List Int) (n : Int) (hl : b.length ≤ 1000000) : Ev (fun k => records_put.f k b n 2) (b ++ put2 n) := by
  have e : wrap64 (8 * wrap64 (2 - 1)) = ((8 : Nat) : Int) := by unfold wrap64; rfl
  unfold records_put.f
  rw [e]
  refine put_one 8 (by decide) (by omega) rfl ?_
  refine put_one 0 (by decide) (by simp; omega) (v := n % 256) (by simp) ?_
  have := put_end ((b ++ [n / 2 ^ 8 % 256]) ++ [n % 256]) n
  simpa [put2] using this
theorem putE4 (b : List Int) (n : Int) (hl : b.length ≤ 1000000) : Ev (fun k => records_put.f k b n 4) (b ++ put4 n) := by
  have e : wrap64 (8 * wrap64 (4 - 1)) = ((24 : Nat) : Int) := by unfold wrap64; rfl
  unfold records_put.f
  rw [e]
  refine put_one 24 (by decide) (by omega) rfl ?_
  refine put_one 16 (by decide) (by simp; omega) rfl ?_
  refine put_one 8 (by decide) (by simp; omega) rfl ?_
  refine put_one 0 (by decide) (by simp; omega) (v := n % 256) (by simp) ?_
  have := put_end ((((b ++ [n / 2 ^ 24 % 256]) ++ [n / 2 ^ 16 % 256]) ++ [n / 2 ^ 8 % 256]) ++ [n % 256]) n
  simpa [put4] using this
/-! ### Valid events -/
def okk (t s : Int) : Bool := decide (0 ≤ t ∧ t ≤ 65535 ∧ 0 ≤ s ∧ s ≤ 2147483647)
theorem key_okk (t s : Int) : records_key.f t s = some (okk t s) := by
  unfold records_key.f okk
  by_cases h1 : t ≥ 0
  · rw [if_pos h1]
    by_cases h2 : t ≤ 65535
    · rw [if_pos h2]
      by_cases h3 : s ≥ 0
      · rw [if_pos h3]; congr 1; rw [decide_eq_decide]; omega
      · rw [if_neg h3, decide_eq_false (by omega)]
    · rw [if_neg h2, decide_eq_false (by omega)]
  · rw [if_neg h1, decide_eq_false (by omega)]
def okE (a0 a1 a2 a3 a4 a5 a6 : Int) : Bool :=
  okk a0 a1 && decide (1 ≤ a2 ∧ a2 ≤ 2147483647 ∧ 0 ≤ a3 ∧ a3 ≤ 120968639) && (if 1 ≤ a4 ∧ a4 ≤ 4 then decide (a5 = 0 ∧ a6 = 0) else if a4 = 5 ∨ a4 = 6 then okk a5 a6 else false)
theorem valid_j1 (a0 a1 a2 a3 a4 a5 a6 : Int) (x : Bool) (hx : x = decide (1 ≤ a4 ∧ a4 ≤ 4)) :
    Ev (fun k => records_Valid.j1 k a4 x a0 a1 a2 a3 a4 a5 a6) (if 1 ≤ a4 ∧ a4 ≤ 4 then decide (a5 = 0 ∧ a6 = 0) else if a4 = 5 ∨ a4 = 6 then okk a5 a6 else false) := by
  subst hx
  refine Ev.step (fun k => by rw [records_Valid.j1]) ?_
  by_cases h : 1 ≤ a4 ∧ a4 ≤ 4
  · refine ev_pos (by simpa using h) (ev_some ?_)
    rw [if_pos h]
    rw [Bool.eq_iff_iff]
    simp
  · refine ev_neg (by simpa using h) ?_
    rw [if_neg h]
    by_cases h5 : a4 = 5
    · refine ev_pos h5 ?_
      rw [key_okk, if_pos (.inl h5)]
      exact ev_some rfl
    · refine ev_neg h5 ?_
      by_cases h6 : a4 = 6
      · refine ev_pos h6 ?_
        rw [key_okk, if_pos (.inr h6)]
        exact ev_some rfl
      · refine ev_neg h6 (ev_some ?_)
        rw [if_neg (by omega)]
theorem valid_j0 (a0 a1 a2 a3 a4 a5 a6 : Int) (x : Bool) : Ev (fun k => records_Valid.j0 k x a0 a1 a2 a3 a4 a5 a6) (!x && (if 1 ≤ a4 ∧ a4 ≤ 4 then decide (a5 = 0 ∧ a6 = 0) else if a4 = 5 ∨ a4 = 6 then okk a5 a6 else false)) := by
  refine Ev.step (fun k => by rw [records_Valid.j0]) ?_
  cases x with
  | true => exact ev_pos rfl (ev_some rfl)
  | false =>
    refine ev_neg (by simp) ?_
    simp only [Bool.not_false, Bool.true_and]
    by_cases h1 : a4 = 1
    · exact ev_pos h1 (valid_j1 a0 a1 a2 a3 a4 a5 a6 _ (by subst h1; decide))
    · refine ev_neg h1 ?_
      by_cases h2 : a4 = 2
      · exact ev_pos h2 (valid_j1 a0 a1 a2 a3 a4 a5 a6 _ (by subst h2; decide))
      · refine ev_neg h2 ?_
        by_cases h3 : a4 = 3
        · exact ev_pos h3 (valid_j1 a0 a1 a2 a3 a4 a5 a6 _ (by subst h3; decide))
        · refine ev_neg h3 (valid_j1 a0 a1 a2 a3 a4 a5 a6 _ ?_)
          rw [Bool.eq_iff_iff]
          simp
          omega
theorem valid (a0 a1 a2 a3 a4 a5 a6 : Int) : Ev (fun k => records_Valid.f k a0 a1 a2 a3 a4 a5 a6) (okE a0 a1 a2 a3 a4 a5 a6) := by
  unfold records_Valid.f okE
  rw [key_okk]
  simp only [Option.bind_some]
  cases hk : okk a0 a1 with
  | false =>
    refine ev_neg (by simp) (ev_to (valid_j0 a0 a1 a2 a3 a4 a5 a6 true) (by simp))
  | true =>
    refine ev_pos rfl ?_
    by_cases h1 : a2 < 1
    · refine ev_pos h1 (ev_to (valid_j0 a0 a1 a2 a3 a4 a5 a6 true) ?_)
      have : decide (1 ≤ a2 ∧ a2 ≤ 2147483647 ∧ 0 ≤ a3 ∧ a3 ≤ 120968639) = false := by simp; omega
      simp [this]
    · refine ev_neg h1 ?_
      by_cases h2 : a2 > 2147483647
      · refine ev_pos h2 (ev_to (valid_j0 a0 a1 a2 a3 a4 a5 a6 true) ?_)
        have : decide (1 ≤ a2 ∧ a2 ≤ 2147483647 ∧ 0 ≤ a3 ∧ a3 ≤ 120968639) = false := by simp; omega
        simp [this]
      · refine ev_neg h2 ?_
        by_cases h3 : a3 < 0
        · refine ev_pos h3 (ev_to (valid_j0 a0 a1 a2 a3 a4 a5 a6 true) ?_)
          have : decide (1 ≤ a2 ∧ a2 ≤ 2147483647 ∧ 0 ≤ a3 ∧ a3 ≤ 120968639) = false := by simp; omega
          simp [this]
        · refine ev_neg h3 (ev_to (valid_j0 a0 a1 a2 a3 a4 a5 a6 _) ?_)
          have : decide (1 ≤ a2 ∧ a2 ≤ 2147483647 ∧ 0 ≤ a3 ∧ a3 ≤ 120968639) = !decide (a3 > 120968639) := by rw [Bool.eq_iff_iff]; simp; omega
          simp [this]
end Go.Proofs.Ytopigdnffnondaa.RecA
