/- Proved here: that the Go function payrollref7.read computes the plain function of that name, at frames of 24 bytes (by hand; no condition of its own). -/
import Derived.Test.YtopigdnffnondaaProg
import Derived.Test.YtopigdnffnondaaV1
import Derived.Test.YtopigdnffnondaaV3
import Derived.Test.YtopigdnffnondaaFrecordsread
import Derived.Test.YtopigdnffnondaaFPRE0
import Derived.Test.YtopigdnffnondaaFpayrollref7Valid
import Derived.Test.YtopigdnffnondaaFpayrollref7Sum
import Derived.Test.YtopigdnffnondaaFpayrollref7get
namespace Go.Proofs.Ytopigdnffnondaa.P
open Go.RowKit Go.Proofs.YtopigdnffnondaaW.PrintWords Go.Proofs.YtopigdnffnondaaW.PrintLast Go.Proofs.YtopigdnffnondaaW.PrintMore
set_option linter.unusedVariables false
set_option linter.unusedSimpArgs false

def payrollref7_read.f (k : Nat) (l0 : List Int) : Option (Int × Int × Int × Int × Int × Int × Int × Bool) :=
  if l0.length = 24 then
    (payrollref7_get.f k ((l0.take 4).drop 2)).bind fun t0 => (payrollref7_get.f k ((l0.take 8).drop 4)).bind fun t1 =>
    (payrollref7_get.f k ((l0.take 12).drop 8)).bind fun t2 => (payrollref7_get.f k ((l0.take 16).drop 12)).bind fun t3 =>
    (payrollref7_get.f k ((l0.take 18).drop 16)).bind fun t4 => (payrollref7_get.f k ((l0.take 22).drop 18)).bind fun t5 =>
    if rd l0 0 = 193 then
      (payrollref7_Sum.f k (l0.take 22)).bind fun c => (payrollref7_get.f k ((l0.take 24).drop 22)).bind fun s =>
      if c = s then
        (payrollref7_Valid.f k t0 t1 t2 t3 (wrap64 (rd l0 1)) t4 t5).bind fun v => some (t0, t1, t2, t3, wrap64 (rd l0 1), t4, t5, v)
      else some (t0, t1, t2, t3, wrap64 (rd l0 1), t4, t5, false)
    else some (t0, t1, t2, t3, wrap64 (rd l0 1), t4, t5, false)
  else none
theorem payrollref7_read.mono : ∀ a0 k, LeO (payrollref7_read.f k a0) (payrollref7_read.f (k + 1) a0) := by
  intro a0 k
  unfold payrollref7_read.f
  repeat' first
    | (with_reducible exact payrollref7_get.mono _ _)
    | (with_reducible exact payrollref7_Sum.mono _ _)
    | (with_reducible exact payrollref7_Valid.mono _ _ _ _ _ _ _ _)
    | (with_reducible exact LeO.refl _)
    | (with_reducible exact LeO.none _)
    | (with_reducible refine LeO.ite ?_ ?_)
    | (with_reducible refine LeO.bind ?_ (fun _ => ?_))
theorem ref_get_cut (k : Nat) {A : Option Addr} {c : Nat} {l : List Int} {n : Nat} (hn : l.length = n) {w : World} (hR : Kd.C (Kd.int .u8) w A l.length l) (hC : l.length ≤ c) (r : Int) (h : payrollref7_get.f k l = some r) {W : World} (hb : Below w.heap.size w W) :
    Calls Try.prog 41 #[.slice A n c] W fun e w' => e = .returned (.int .i64 r) ∧ Drawn0 W w' := by
  have := payrollref7_get.calls k A c l r W (Kd.C_below hR hb) hC h
  rw [hn] at this
  exact this
theorem ref_sum_cut (k : Nat) {A : Option Addr} {c : Nat} {l : List Int} {n : Nat} (hn : l.length = n) {w : World} (hR : Kd.C (Kd.int .u8) w A l.length l) (hC : l.length ≤ c) (r : Int) (h : payrollref7_Sum.f k l = some r) {W : World} (hb : Below w.heap.size w W) :
    Calls Try.prog 17 #[.slice A n c] W fun e w' => e = .returned (.int .i64 r) ∧ Drawn0 W w' := by
  have := payrollref7_Sum.calls k A c l r W (Kd.C_below hR hb) hC h
  rw [hn] at this
  exact this
/-- The result's block, and the event's. -/
structure QSt (w W : World) (gr : Nat) : Prop where
  hb : Below w.heap.size w W
  hr : W.heap[gr]? = some (.cells #[.int .i64 0, .int .i64 0, .int .i64 0, .int .i64 0, .int .i64 0, .int .i64 0, .int .i64 0] 26 (0, 0))
  n0 : w.heap.size ≤ gr
theorem QSt.below {w W W1 : World} {gr : Nat} (h : QSt w W gr) (hb : Below W.heap.size W W1) : QSt w W1 gr := ⟨below_step h.hb hb, blk_below h.hr hb, h.n0⟩
structure QSt3 (w W : World) (gr g3 : Nat) : Prop where
  r : QSt w W gr
  h3 : W.heap[g3]? = some (.cells #[.int .i64 0, .int .i64 0, .int .i64 0, .int .i64 0, .int .i64 0, .int .i64 0, .int .i64 0] 26 (0, 0))
  n0 : w.heap.size ≤ g3
  nr : gr ≠ g3
theorem QSt3.below {w W W1 : World} {gr g3 : Nat} (h : QSt3 w W gr g3) (hb : Below W.heap.size W W1) : QSt3 w W1 gr g3 := ⟨h.r.below hb, blk_below h.h3 hb, h.n0, h.nr⟩
def payrollref7_read.T1 : Bool × List (List Nat × List Nat) := (true, [([], []), ([0], [0]), ([1], [1]), ([2], [2]), ([], []), ([4], [4]), ([5], [5]), ([], []), ([7], [7]), ([8, 6], [8]), ([6, 9], [6, 9]), ([], []), ([11], [11]), ([12, 9], [12]), ([], []), ([14], [14]), ([15, 13], [15]), ([], []), ([17], [17]), ([18, 16], [18]), ([], []), ([20], [20]), ([21, 19], [21]), ([19, 22], [19, 22]), ([3, 10, 13, 16, 23], [3, 10, 13, 16, 23]), ([], []), ([25, 24, 22, 0, 1, 2, 3, 4, 5, 6, 7, 8, 9, 10, 11, 12, 13, 14, 15, 16, 17, 18, 19, 20, 21, 22, 23, 24, 25], [24, 25])])
def payrollref7_read.B1 : List Nat := [0, 1, 3, 7, 0, 16, 48, 0, 128, 496, 1008, 0, 2048, 7152, 0, 16384, 64496, 0, 131072, 523248, 0, 1048576, 4193264, 8387568, 16777215, 0, 67108863]
theorem payrollref7_read.tab1 : rtab .any (opsOf Try.f37 1) = payrollref7_read.T1 := by kernel_rfl
theorem payrollref7_read.bits1 : waitsOk payrollref7_read.T1.2 payrollref7_read.B1 = true := by kernel_rfl
def payrollref7_read.T2 : Bool × List (List Nat × List Nat) := (true, [([], []), ([], []), ([1], [1]), ([2], [2]), ([3], [3]), ([4], [4]), ([5], [5]), ([6, 5], [5, 6]), ([7, 5, 5], [5, 7]), ([5], [5]), ([9, 5], [5, 9]), ([10, 8, 5], [5, 10]), ([8, 11, 5], [5, 8, 11]), ([5, 12], [5, 12]), ([13, 11], [13]), ([14], [14]), ([15, 14, 14], [14, 15]), ([14, 16], [14, 16]), ([0, 16, 0], [0]), ([17, 18, 0, 1, 2, 3, 4, 5, 6, 7, 8, 9, 10, 11, 12, 13, 14, 15, 16, 17, 18], [17])])
def payrollref7_read.B2 : List Nat := [0, 0, 2, 6, 14, 30, 62, 126, 254, 62, 574, 2046, 4094, 8190, 16382, 32766, 65534, 131070, 131071, 524287]
theorem payrollref7_read.tab2 : rtab .any (opsOf Try.f37 2) = payrollref7_read.T2 := by kernel_rfl
theorem payrollref7_read.bits2 : waitsOk payrollref7_read.T2.2 payrollref7_read.B2 = true := by kernel_rfl
set_option maxHeartbeats 1000000 in
set_option maxRecDepth 100000 in
theorem payrollref7_read.calls (k : Nat) (A0 : Option Addr) (c0 : Nat) (l0 : List Int) (r1 : Int) (r2 : Int) (r3 : Int) (r4 : Int) (r5 : Int) (r6 : Int) (r7 : Int) (r8 : Bool) (w : World) (hr0 : Kd.C (Kd.int .u8) w A0 l0.length l0) (hc0 : l0.length ≤ c0) (h : payrollref7_read.f k l0 = some (r1, r2, r3, r4, r5, r6, r7, r8)) :
    Calls Try.prog 37 #[.slice A0 l0.length c0] w fun e w' => e = .returned (.tuple #[.agg #[.int .i64 r1, .int .i64 r2, .int .i64 r3, .int .i64 r4, .int .i64 r5, .int .i64 r6, .int .i64 r7], .bool r8]) ∧ Below w.heap.size w w' := by
  unfold payrollref7_read.f at h
  by_cases hl : l0.length = 24
  rotate_left
  · rw [if_neg hl] at h; cases h
  rw [if_pos hl] at h
  have hu26 := Try.underlying26
  have hu24 := Try.underlying24
  obtain ⟨ad, rfl, hx0⟩ := Kd.at_int hr0 0 (by omega) (by omega)
  rw [show ((0 : Int)).toNat = 0 from rfl, Addr.add_zero'] at hx0
  obtain ⟨ad', e_, hx1⟩ := Kd.at_int hr0 1 (by omega) (by omega)
  obtain rfl : ad = ad' := by injection e_
  simp only [show (1 : Int).toNat = 1 from rfl, Nat.reduceMul, Nat.reduceEqDiff, Go.Addr.add, ↓reduceIte] at hx1
  rw [hl]
  obtain ⟨t0, q0, h⟩ := Option.bind_eq_some_iff.mp h
  obtain ⟨t1, q1, h⟩ := Option.bind_eq_some_iff.mp h
  obtain ⟨t2, q2, h⟩ := Option.bind_eq_some_iff.mp h
  obtain ⟨t3, q3, h⟩ := Option.bind_eq_some_iff.mp h
  obtain ⟨t4, q4, h⟩ := Option.bind_eq_some_iff.mp h
  obtain ⟨t5, q5, h⟩ := Option.bind_eq_some_iff.mp h
  obtain ⟨A0, hcut0, hl0, hR0, hC0⟩ := cut_of hr0 hc0 hl 2 4 (by omega) (by omega) (by omega)
  obtain ⟨A1, hcut1, hl1, hR1, hC1⟩ := cut_of hr0 hc0 hl 4 8 (by omega) (by omega) (by omega)
  obtain ⟨A2, hcut2, hl2, hR2, hC2⟩ := cut_of hr0 hc0 hl 8 12 (by omega) (by omega) (by omega)
  obtain ⟨A3, hcut3, hl3, hR3, hC3⟩ := cut_of hr0 hc0 hl 12 16 (by omega) (by omega) (by omega)
  obtain ⟨A4, hcut4, hl4, hR4, hC4⟩ := cut_of hr0 hc0 hl 16 18 (by omega) (by omega) (by omega)
  obtain ⟨A5, hcut5, hl5, hR5, hC5⟩ := cut_of hr0 hc0 hl 18 22 (by omega) (by omega) (by omega)
  obtain ⟨A6, hcut6, hl6, hR6, hC6⟩ := cut_of hr0 hc0 hl 22 24 (by omega) (by omega) (by omega)
  obtain ⟨hcutS, hlS, hRS, hCS⟩ := cut_take hr0 hc0 hl
  simp only [show (2 : Int).toNat = 2 from rfl, show (4 : Int).toNat = 4 from rfl, show (8 : Int).toNat = 8 from rfl, show (12 : Int).toNat = 12 from rfl, show (16 : Int).toNat = 16 from rfl, show (18 : Int).toNat = 18 from rfl, show (22 : Int).toNat = 22 from rfl, show (24 : Int).toNat = 24 from rfl, Nat.reduceSub] at hcut0 hcut1 hcut2 hcut3 hcut4 hcut5 hcut6 hl0 hl1 hl2 hl3 hl4 hl5 hl6 hC0 hC1 hC2 hC3 hC4 hC5 hC6
  have HB := Below.refl w.heap.size w
  go_enter Try.func37, Try.ntmps37
  go_wp2_with (first | ((with_reducible refine gate_dst (N := 2) rfl ?_); refine box_event ?hg (N := 2) ?hd (cs := #[.int .i64 0, .int .i64 0, .int .i64 0, .int .i64 0, .int .i64 0, .int .i64 0, .int .i64 0]) (t := 26) ?hr ?_; (case hd => rfl); (case hg => rfl); (case hr => first | (go_simp; done) | (go_simp; rfl)); intro gr hgr w2 hboxr hb2; have HGr := Aside0.mk hgr; clear hgr))
  have HR : QSt w w2 gr := ⟨hb2, hboxr, Nat.le_of_eq HGr.out.symm⟩
  clear hb2 hboxr HGr
  have HS : ∀ W, QSt w W gr → W.cell? ⟨ad.block, ad.off + 1, none⟩ = some (.int .u8 (rd l0 1)) := fun W h_ => (h_.hb.cell (World.block_lt_of_cell? _ _ hx1)).trans hx1
  refine start_ (n := 27) (S := fun w' => w'.cell? ⟨ad.block, ad.off + 1, none⟩ = some (.int .u8 (rd l0 1))) (ds := []) #[N_,N_,N_,N_,N_,N_,N_,N_,N_,N_,N_,N_,N_,N_,N_,N_,N_,N_,N_,N_,N_,N_,N_,N_,N_,N_,N_] (by kernel_rfl) rfl rfl (HS _ (HR.below (below_drew (Below.refl _ _)))) (fun hHeld => ?_)
  refine with_tabW payrollref7_read.tab1 payrollref7_read.bits1 (fun HT_ HW_ => ?_)
  replace HR : QSt w w2.drew gr := HR.below (below_drew (Below.refl _ _))
  generalize w2.drew = w7 at HR hHeld ⊢
  refine pv_ (i := 0) (N := some 5) #[Y_,N_,N_,N_,N_,N_,N_,N_,N_,N_,N_,N_,N_,N_,N_,N_,N_,N_,N_,N_,N_,N_,N_,N_,N_,N_,N_] (h := ?_)
  refine pv_ (i := 1) (N := some 6) #[Y_,Y_,N_,N_,N_,N_,N_,N_,N_,N_,N_,N_,N_,N_,N_,N_,N_,N_,N_,N_,N_,N_,N_,N_,N_,N_,N_] (h := ?_)
  refine tv_ (i := 2) (N := some 7) #[Y_,Y_,Y_,N_,N_,N_,N_,N_,N_,N_,N_,N_,N_,N_,N_,N_,N_,N_,N_,N_,N_,N_,N_,N_,N_,N_,N_] (hy := Or.inl ⟨by rfl, by (rintro w' s0; go_simp; with_reducible rfl)⟩) (hS := hHeld) (h := ?_)
  refine pv_ (i := 3) (N := some 8) #[Y_,Y_,Y_,Y_,N_,N_,N_,N_,N_,N_,N_,N_,N_,N_,N_,N_,N_,N_,N_,N_,N_,N_,N_,N_,N_,N_,N_] (h := ?_)
  refine pv_ (i := 4) (N := some 9) #[Y_,Y_,Y_,Y_,Y_,N_,N_,N_,N_,N_,N_,N_,N_,N_,N_,N_,N_,N_,N_,N_,N_,N_,N_,N_,N_,N_,N_] (h := ?_)
  refine pv_ (i := 5) (N := some 10) #[Y_,Y_,Y_,Y_,Y_,Y_,N_,N_,N_,N_,N_,N_,N_,N_,N_,N_,N_,N_,N_,N_,N_,N_,N_,N_,N_,N_,N_] (h := ?_)
  refine pv_ (i := 7) (N := some 12) #[Y_,Y_,Y_,Y_,Y_,Y_,N_,Y_,N_,N_,N_,N_,N_,N_,N_,N_,N_,N_,N_,N_,N_,N_,N_,N_,N_,N_,N_] (h := ?_)
  refine pv_ (i := 8) (N := some 13) #[Y_,Y_,Y_,Y_,Y_,Y_,N_,Y_,Y_,N_,N_,N_,N_,N_,N_,N_,N_,N_,N_,N_,N_,N_,N_,N_,N_,N_,N_] (h := ?_)
  refine pv_ (i := 11) (N := some 16) #[Y_,Y_,Y_,Y_,Y_,Y_,N_,Y_,Y_,N_,N_,Y_,N_,N_,N_,N_,N_,N_,N_,N_,N_,N_,N_,N_,N_,N_,N_] (h := ?_)
  refine pv_ (i := 12) (N := some 17) #[Y_,Y_,Y_,Y_,Y_,Y_,N_,Y_,Y_,N_,N_,Y_,Y_,N_,N_,N_,N_,N_,N_,N_,N_,N_,N_,N_,N_,N_,N_] (h := ?_)
  refine pv_ (i := 14) (N := some 19) #[Y_,Y_,Y_,Y_,Y_,Y_,N_,Y_,Y_,N_,N_,Y_,Y_,N_,Y_,N_,N_,N_,N_,N_,N_,N_,N_,N_,N_,N_,N_] (h := ?_)
  refine pv_ (i := 15) (N := some 20) #[Y_,Y_,Y_,Y_,Y_,Y_,N_,Y_,Y_,N_,N_,Y_,Y_,N_,Y_,Y_,N_,N_,N_,N_,N_,N_,N_,N_,N_,N_,N_] (h := ?_)
  refine pv_ (i := 17) (N := some 22) #[Y_,Y_,Y_,Y_,Y_,Y_,N_,Y_,Y_,N_,N_,Y_,Y_,N_,Y_,Y_,N_,Y_,N_,N_,N_,N_,N_,N_,N_,N_,N_] (h := ?_)
  refine pv_ (i := 18) (N := some 23) #[Y_,Y_,Y_,Y_,Y_,Y_,N_,Y_,Y_,N_,N_,Y_,Y_,N_,Y_,Y_,N_,Y_,Y_,N_,N_,N_,N_,N_,N_,N_,N_] (h := ?_)
  refine pv_ (i := 20) (N := some 25) #[Y_,Y_,Y_,Y_,Y_,Y_,N_,Y_,Y_,N_,N_,Y_,Y_,N_,Y_,Y_,N_,Y_,Y_,N_,Y_,N_,N_,N_,N_,N_,N_] (h := ?_)
  refine pv_ (i := 21) (N := some 26) #[Y_,Y_,Y_,Y_,Y_,Y_,N_,Y_,Y_,N_,N_,Y_,Y_,N_,Y_,Y_,N_,Y_,Y_,N_,Y_,Y_,N_,N_,N_,N_,N_] (h := ?_)
  refine join_ (σ := Nat) 1 #[Y_,Y_,Y_,Y_,Y_,Y_,Y_,Y_,Y_,Y_,Y_,Y_,Y_,Y_,Y_,Y_,Y_,Y_,Y_,Y_,Y_,Y_,Y_,Y_,Y_,Y_,N_] (fun g3 => [(11, .int .i64 t0), (14, .int .i64 t1), (18, .int .i64 t2), (21, .int .i64 t3), (24, .int .i64 t4), (27, .int .i64 t5), (4, .pointer (some ⟨g3, 0, none⟩)), (15, .agg #[.int .i64 t0, .int .i64 t1]), (28, .agg #[.int .i64 t4, .int .i64 t5]), (29, .agg #[.int .i64 t0, .int .i64 t1, .int .i64 t2, .int .i64 t3, .int .i64 (wrap64 (rd l0 1)), .int .i64 t4, .int .i64 t5])]) (fun g3 w' => QSt3 w w' gr g3) ?_ (fun hJ6 => ?_)
  · rintro g3 w' H3
    have HR := H3.r
    have hHeld := HS _ HR
    refine norm_ (a' := ?_) (by simp only [putAll, Act.put, List.setIfInBounds_toArray, List.set_cons_zero, List.set_cons_succ]; rfl) ?_
    refine one_ (i := 26) (N := none) #[Y_,Y_,Y_,Y_,Y_,Y_,Y_,Y_,Y_,Y_,Y_,Y_,Y_,Y_,Y_,Y_,Y_,Y_,Y_,Y_,Y_,Y_,Y_,Y_,Y_,Y_,Y_] rfl rfl (one_of HT_.out (by kernel_rfl)) (by decide) (fun K hK => ?_)
    refine fill_ (g := g3) #[.int .i64 t0, .int .i64 t1, .int .i64 t2, .int .i64 t3, .int .i64 (wrap64 (rd l0 1)), .int .i64 t4, .int .i64 t5] (by rfl) rfl rfl rfl rfl (by rfl) H3.h3 rfl (by kernel_rfl) (by rfl) (fun w8 hb3 hgr8 => ?_)
    have hnr := H3.nr
    have hn0 := H3.n0
    have hn1 := HR.n0
    have HR8 : QSt w w8 gr := ⟨HR.hb.grown hgr8 HR.hb.size (fun k_ hk_ => by injection hk_ with hk_; omega), blk_grown HR.hr hgr8 (by intro h_; injection h_ with h_; omega), HR.n0⟩
    refine hK.out _ _ (HS _ HR8) (fun _ => ?_)
    clear hK K HR H3 hHeld hgr8
    refine done_ (done_of HT_.out (by kernel_rfl)) ?_
    go_wp2
    have hx : ∀ W, Below w.heap.size w W → W.cell? ad = some (.int .u8 (rd l0 0)) := fun W hW => (hW.cell (World.block_lt_of_cell? _ _ hx0)).trans hx0
    refine start_ (n := 20) (S := fun w' => w'.cell? ⟨g3, 0, none⟩ = some (.int .i64 t0) ∧ w'.cell? ⟨g3, 1, none⟩ = some (.int .i64 t1) ∧ w'.cell? ⟨g3, 2, none⟩ = some (.int .i64 t2) ∧ w'.cell? ⟨g3, 3, none⟩ = some (.int .i64 t3) ∧ w'.cell? ⟨g3, 4, none⟩ = some (.int .i64 (wrap64 (rd l0 1))) ∧ w'.cell? ⟨g3, 5, none⟩ = some (.int .i64 t4) ∧ w'.cell? ⟨g3, 6, none⟩ = some (.int .i64 t5) ∧ w'.cell? ad = some (.int .u8 (rd l0 0))) (ds := []) #[N_,N_,N_,N_,N_,N_,N_,N_,N_,N_,N_,N_,N_,N_,N_,N_,N_,N_,N_,N_] (by kernel_rfl) rfl rfl ⟨(blk_cell hb3 0).trans rfl, (blk_cell hb3 1).trans rfl, (blk_cell hb3 2).trans rfl, (blk_cell hb3 3).trans rfl, (blk_cell hb3 4).trans rfl, (blk_cell hb3 5).trans rfl, (blk_cell hb3 6).trans rfl, hx _ (below_drew HR8.hb)⟩ (fun hHeld => ?_)
    refine with_tabW payrollref7_read.tab2 payrollref7_read.bits2 (fun HT_ HW_ => ?_)
    replace HR8 : QSt w w8.drew gr := HR8.below (below_drew (Below.refl _ _))
    replace hb3 : w8.drew.heap[g3]? = some (.cells #[.int .i64 t0, .int .i64 t1, .int .i64 t2, .int .i64 t3, .int .i64 (wrap64 (rd l0 1)), .int .i64 t4, .int .i64 t5] 26 (0, 0)) := hb3
    generalize w8.drew = w9 at HR8 hb3 hHeld ⊢
    refine tv_ (i := 0) (N := some 30) #[Y_,N_,N_,N_,N_,N_,N_,N_,N_,N_,N_,N_,N_,N_,N_,N_,N_,N_,N_,N_] (hy := Or.inl ⟨by rfl, by (rintro w' ⟨s0, s1, s2, s3, s4, s5, s6, s7⟩; go_simp; with_reducible rfl)⟩) (hS := hHeld) (h := ?_)
    refine pv_ (i := 1) (N := some 31) #[Y_,Y_,N_,N_,N_,N_,N_,N_,N_,N_,N_,N_,N_,N_,N_,N_,N_,N_,N_,N_] (h := ?_)
    refine pv_ (i := 2) (N := some 32) #[Y_,Y_,Y_,N_,N_,N_,N_,N_,N_,N_,N_,N_,N_,N_,N_,N_,N_,N_,N_,N_] (h := ?_)
    refine tv_ (i := 3) (N := some 33) #[Y_,Y_,Y_,Y_,N_,N_,N_,N_,N_,N_,N_,N_,N_,N_,N_,N_,N_,N_,N_,N_] (hy := Or.inl ⟨by rfl, by (rintro w' ⟨s0, s1, s2, s3, s4, s5, s6, s7⟩; go_simp; with_reducible rfl)⟩) (hS := hHeld) (h := ?_)
    by_cases c1 : rd l0 0 = 193
    rotate_left
    · rw [if_neg c1] at h
      have c1b : (rd l0 0 == 193) = false := beq_eq_false_iff_ne.mpr c1
      simp only [Option.some.injEq, Prod.mk.injEq] at h
      obtain ⟨rfl, rfl, rfl, rfl, rfl, rfl, rfl, rfl⟩ := h
      refine pv_ (i := 4) (N := some 34) #[Y_,Y_,Y_,Y_,Y_,N_,N_,N_,N_,N_,N_,N_,N_,N_,N_,N_,N_,N_,N_,N_] (h := ?_)
      refine pv_ (i := 5) (N := some 35) #[Y_,Y_,Y_,Y_,Y_,Y_,N_,N_,N_,N_,N_,N_,N_,N_,N_,N_,N_,N_,N_,N_] (h := ?_)
      refine pn_ (i := 6) (N := some 36) #[Y_,Y_,Y_,Y_,Y_,Y_,Y_,N_,N_,N_,N_,N_,N_,N_,N_,N_,N_,N_,N_,N_] (h := ?_)
      refine pn_ (i := 7) (N := some 37) #[Y_,Y_,Y_,Y_,Y_,Y_,Y_,Y_,N_,N_,N_,N_,N_,N_,N_,N_,N_,N_,N_,N_] (h := ?_)
      refine pn_ (i := 8) (N := some 38) #[Y_,Y_,Y_,Y_,Y_,Y_,Y_,Y_,Y_,N_,N_,N_,N_,N_,N_,N_,N_,N_,N_,N_] (h := ?_)
      refine pn_ (i := 9) (N := some 39) #[Y_,Y_,Y_,Y_,Y_,Y_,Y_,Y_,Y_,Y_,N_,N_,N_,N_,N_,N_,N_,N_,N_,N_] (h := ?_)
      refine pn_ (i := 10) (N := some 40) #[Y_,Y_,Y_,Y_,Y_,Y_,Y_,Y_,Y_,Y_,Y_,N_,N_,N_,N_,N_,N_,N_,N_,N_] (h := ?_)
      refine pn_ (i := 11) (N := some 41) #[Y_,Y_,Y_,Y_,Y_,Y_,Y_,Y_,Y_,Y_,Y_,Y_,N_,N_,N_,N_,N_,N_,N_,N_] (h := ?_)
      refine pn_ (i := 12) (N := some 42) #[Y_,Y_,Y_,Y_,Y_,Y_,Y_,Y_,Y_,Y_,Y_,Y_,Y_,N_,N_,N_,N_,N_,N_,N_] (h := ?_)
      refine pv_ (i := 13) (N := some 43) #[Y_,Y_,Y_,Y_,Y_,Y_,Y_,Y_,Y_,Y_,Y_,Y_,Y_,Y_,N_,N_,N_,N_,N_,N_] (h := ?_)
      refine pv_ (i := 14) (N := some 44) #[Y_,Y_,Y_,Y_,Y_,Y_,Y_,Y_,Y_,Y_,Y_,Y_,Y_,Y_,Y_,N_,N_,N_,N_,N_] (h := ?_)
      refine pn_ (i := 15) (N := some 45) #[Y_,Y_,Y_,Y_,Y_,Y_,Y_,Y_,Y_,Y_,Y_,Y_,Y_,Y_,Y_,Y_,N_,N_,N_,N_] (h := ?_)
      refine pn_ (i := 16) (N := some 46) #[Y_,Y_,Y_,Y_,Y_,Y_,Y_,Y_,Y_,Y_,Y_,Y_,Y_,Y_,Y_,Y_,Y_,N_,N_,N_] (h := ?_)
      refine pv_ (i := 17) (N := some 47) #[Y_,Y_,Y_,Y_,Y_,Y_,Y_,Y_,Y_,Y_,Y_,Y_,Y_,Y_,Y_,Y_,Y_,Y_,N_,N_] (h := ?_)
      refine one_ (i := 18) (N := none) #[Y_,Y_,Y_,Y_,Y_,Y_,Y_,Y_,Y_,Y_,Y_,Y_,Y_,Y_,Y_,Y_,Y_,Y_,Y_,N_] rfl rfl (one_of HT_.out (by kernel_rfl)) (by decide) (fun K hK => ?_)
      refine fill_ (g := gr) #[.int .i64 t0, .int .i64 t1, .int .i64 t2, .int .i64 t3, .int .i64 (wrap64 (rd l0 1)), .int .i64 t4, .int .i64 t5] (by rfl) rfl rfl rfl rfl (by rfl) HR8.hr rfl (by kernel_rfl) (by rfl) (fun w11 hbr hgr11 => ?_)
      have hb3' := blk_grown hb3 hgr11 (by intro h_; injection h_ with h_; omega)
      have hbw := HR8.hb.grown hgr11 HR8.hb.size (fun k_ hk_ => by injection hk_ with hk_; omega)
      refine hK.out _ _ ⟨(blk_cell hb3' 0).trans rfl, (blk_cell hb3' 1).trans rfl, (blk_cell hb3' 2).trans rfl, (blk_cell hb3' 3).trans rfl, (blk_cell hb3' 4).trans rfl, (blk_cell hb3' 5).trans rfl, (blk_cell hb3' 6).trans rfl, hx _ hbw⟩ (fun _ => ?_)
      clear hK K
      refine pv_ (i := 19) (N := some 3) #[Y_,Y_,Y_,Y_,Y_,Y_,Y_,Y_,Y_,Y_,Y_,Y_,Y_,Y_,Y_,Y_,Y_,Y_,Y_,Y_] (h := ?_)
      refine done_ (done_of HT_.out (by kernel_rfl)) ?_
      go_wp2
      refine bodyPost_ret (results_ct rfl _ _ gr 26 #[.int .i64 t0, .int .i64 t1, .int .i64 t2, .int .i64 t3, .int .i64 (wrap64 (rd l0 1)), .int .i64 t4, .int .i64 t5] (0, 0) _ rfl hbr hu26 rfl (by kernel_rfl)) rfl ?_
      exact ⟨rfl, hbw⟩
    rw [if_pos c1] at h
    have c1b : (rd l0 0 == 193) = true := beq_iff_eq.mpr c1
    obtain ⟨c_, hc, h⟩ := Option.bind_eq_some_iff.mp h
    obtain ⟨s_, hs, h⟩ := Option.bind_eq_some_iff.mp h
    refine pv_ (i := 4) (N := some 34) #[Y_,Y_,Y_,Y_,Y_,N_,N_,N_,N_,N_,N_,N_,N_,N_,N_,N_,N_,N_,N_,N_] (h := ?_)
    refine pv_ (i := 5) (N := some 35) #[Y_,Y_,Y_,Y_,Y_,Y_,N_,N_,N_,N_,N_,N_,N_,N_,N_,N_,N_,N_,N_,N_] (h := ?_)
    refine pv_ (i := 6) (N := some 36) #[Y_,Y_,Y_,Y_,Y_,Y_,Y_,N_,N_,N_,N_,N_,N_,N_,N_,N_,N_,N_,N_,N_] (h := ?_)
    refine pv_ (i := 7) (N := some 37) #[Y_,Y_,Y_,Y_,Y_,Y_,Y_,Y_,N_,N_,N_,N_,N_,N_,N_,N_,N_,N_,N_,N_] (h := ?_)
    refine pv_ (i := 9) (N := some 39) #[Y_,Y_,Y_,Y_,Y_,Y_,Y_,Y_,N_,Y_,N_,N_,N_,N_,N_,N_,N_,N_,N_,N_] (h := ?_)
    refine pv_ (i := 10) (N := some 40) #[Y_,Y_,Y_,Y_,Y_,Y_,Y_,Y_,N_,Y_,Y_,N_,N_,N_,N_,N_,N_,N_,N_,N_] (h := ?_)
    refine one_ (i := 8) (N := some 38) #[Y_,Y_,Y_,Y_,Y_,Y_,Y_,Y_,Y_,Y_,Y_,N_,N_,N_,N_,N_,N_,N_,N_,N_] rfl rfl (one_of HT_.out (by kernel_rfl)) (by decide) (fun K hK => ?_)
    refine goes_ Try.func17 (by kernel_rfl) rfl #[.slice (some ad) 22 c0] (by rfl) rfl rfl (by simp only [List.map_toArray, List.map_cons, List.map_nil]; rfl) ?_
    refine (ref_sum_cut k hlS hRS hCS c_ hc HR8.hb).mono ?_
    rintro e w10 ⟨rfl, hd⟩
    replace hd := hd.below
    refine ⟨_, rfl, ?_⟩
    replace HR8 := HR8.below hd
    replace hb3 := blk_below hb3 hd
    refine hK.out _ _ ⟨(blk_cell hb3 0).trans rfl, (blk_cell hb3 1).trans rfl, (blk_cell hb3 2).trans rfl, (blk_cell hb3 3).trans rfl, (blk_cell hb3 4).trans rfl, (blk_cell hb3 5).trans rfl, (blk_cell hb3 6).trans rfl, hx _ HR8.hb⟩ (fun hHeld => ?_)
    clear hK K hd
    refine norm_ (a' := ?_) (by show Act.put _ (some 38) _ = _; simp only [Act.put, List.setIfInBounds_toArray, List.set_cons_zero, List.set_cons_succ, i64_w, i32_w]; rfl) ?_
    refine one_ (i := 11) (N := some 41) #[Y_,Y_,Y_,Y_,Y_,Y_,Y_,Y_,Y_,Y_,Y_,Y_,N_,N_,N_,N_,N_,N_,N_,N_] rfl rfl (one_of HT_.out (by kernel_rfl)) (by decide) (fun K hK => ?_)
    refine goes_ Try.func41 (by kernel_rfl) rfl #[.slice A6 2 (c0 - 22)] (by rfl) rfl rfl (by simp only [List.map_toArray, List.map_cons, List.map_nil]; rfl) ?_
    refine (ref_get_cut k hl6 hR6 hC6 s_ hs HR8.hb).mono ?_
    rintro e w10 ⟨rfl, hd⟩
    replace hd := hd.below
    refine ⟨_, rfl, ?_⟩
    replace HR8 := HR8.below hd
    replace hb3 := blk_below hb3 hd
    refine hK.out _ _ ⟨(blk_cell hb3 0).trans rfl, (blk_cell hb3 1).trans rfl, (blk_cell hb3 2).trans rfl, (blk_cell hb3 3).trans rfl, (blk_cell hb3 4).trans rfl, (blk_cell hb3 5).trans rfl, (blk_cell hb3 6).trans rfl, hx _ HR8.hb⟩ (fun hHeld => ?_)
    clear hK K hd
    refine norm_ (a' := ?_) (by show Act.put _ (some 41) _ = _; simp only [Act.put, List.setIfInBounds_toArray, List.set_cons_zero, List.set_cons_succ, i64_w, i32_w]; rfl) ?_
    by_cases c2 : c_ = s_
    rotate_left
    · rw [if_neg c2] at h
      have c2b : (c_ == s_) = false := beq_eq_false_iff_ne.mpr c2
      simp only [Option.some.injEq, Prod.mk.injEq] at h
      obtain ⟨rfl, rfl, rfl, rfl, rfl, rfl, rfl, rfl⟩ := h
      refine pv_ (i := 12) (N := some 42) #[Y_,Y_,Y_,Y_,Y_,Y_,Y_,Y_,Y_,Y_,Y_,Y_,Y_,N_,N_,N_,N_,N_,N_,N_] (h := ?_)
      refine pv_ (i := 13) (N := some 43) #[Y_,Y_,Y_,Y_,Y_,Y_,Y_,Y_,Y_,Y_,Y_,Y_,Y_,Y_,N_,N_,N_,N_,N_,N_] (h := ?_)
      refine pv_ (i := 14) (N := some 44) #[Y_,Y_,Y_,Y_,Y_,Y_,Y_,Y_,Y_,Y_,Y_,Y_,Y_,Y_,Y_,N_,N_,N_,N_,N_] (h := ?_)
      refine pn_ (i := 15) (N := some 45) #[Y_,Y_,Y_,Y_,Y_,Y_,Y_,Y_,Y_,Y_,Y_,Y_,Y_,Y_,Y_,Y_,N_,N_,N_,N_] (h := ?_)
      refine pn_ (i := 16) (N := some 46) #[Y_,Y_,Y_,Y_,Y_,Y_,Y_,Y_,Y_,Y_,Y_,Y_,Y_,Y_,Y_,Y_,Y_,N_,N_,N_] (h := ?_)
      refine pv_ (i := 17) (N := some 47) #[Y_,Y_,Y_,Y_,Y_,Y_,Y_,Y_,Y_,Y_,Y_,Y_,Y_,Y_,Y_,Y_,Y_,Y_,N_,N_] (h := ?_)
      refine one_ (i := 18) (N := none) #[Y_,Y_,Y_,Y_,Y_,Y_,Y_,Y_,Y_,Y_,Y_,Y_,Y_,Y_,Y_,Y_,Y_,Y_,Y_,N_] rfl rfl (one_of HT_.out (by kernel_rfl)) (by decide) (fun K hK => ?_)
      refine fill_ (g := gr) #[.int .i64 t0, .int .i64 t1, .int .i64 t2, .int .i64 t3, .int .i64 (wrap64 (rd l0 1)), .int .i64 t4, .int .i64 t5] (by rfl) rfl rfl rfl rfl (by rfl) HR8.hr rfl (by kernel_rfl) (by rfl) (fun w11 hbr hgr11 => ?_)
      have hb3' := blk_grown hb3 hgr11 (by intro h_; injection h_ with h_; omega)
      have hbw := HR8.hb.grown hgr11 HR8.hb.size (fun k_ hk_ => by injection hk_ with hk_; omega)
      refine hK.out _ _ ⟨(blk_cell hb3' 0).trans rfl, (blk_cell hb3' 1).trans rfl, (blk_cell hb3' 2).trans rfl, (blk_cell hb3' 3).trans rfl, (blk_cell hb3' 4).trans rfl, (blk_cell hb3' 5).trans rfl, (blk_cell hb3' 6).trans rfl, hx _ hbw⟩ (fun _ => ?_)
      clear hK K
      refine pv_ (i := 19) (N := some 3) #[Y_,Y_,Y_,Y_,Y_,Y_,Y_,Y_,Y_,Y_,Y_,Y_,Y_,Y_,Y_,Y_,Y_,Y_,Y_,Y_] (h := ?_)
      refine done_ (done_of HT_.out (by kernel_rfl)) ?_
      go_wp2
      refine bodyPost_ret (results_ct rfl _ _ gr 26 #[.int .i64 t0, .int .i64 t1, .int .i64 t2, .int .i64 t3, .int .i64 (wrap64 (rd l0 1)), .int .i64 t4, .int .i64 t5] (0, 0) _ rfl hbr hu26 rfl (by kernel_rfl)) rfl ?_
      exact ⟨rfl, hbw⟩
    rw [if_pos c2] at h
    have c2b : (c_ == s_) = true := beq_iff_eq.mpr c2
    obtain ⟨v_, hv, h⟩ := Option.bind_eq_some_iff.mp h
    simp only [Option.some.injEq, Prod.mk.injEq] at h
    obtain ⟨rfl, rfl, rfl, rfl, rfl, rfl, rfl, rfl⟩ := h
    refine pv_ (i := 12) (N := some 42) #[Y_,Y_,Y_,Y_,Y_,Y_,Y_,Y_,Y_,Y_,Y_,Y_,Y_,N_,N_,N_,N_,N_,N_,N_] (h := ?_)
    refine pv_ (i := 13) (N := some 43) #[Y_,Y_,Y_,Y_,Y_,Y_,Y_,Y_,Y_,Y_,Y_,Y_,Y_,Y_,N_,N_,N_,N_,N_,N_] (h := ?_)
    refine pv_ (i := 14) (N := some 44) #[Y_,Y_,Y_,Y_,Y_,Y_,Y_,Y_,Y_,Y_,Y_,Y_,Y_,Y_,Y_,N_,N_,N_,N_,N_] (h := ?_)
    refine tv_ (i := 15) (N := some 45) #[Y_,Y_,Y_,Y_,Y_,Y_,Y_,Y_,Y_,Y_,Y_,Y_,Y_,Y_,Y_,Y_,N_,N_,N_,N_] (hy := Or.inl ⟨by rfl, by (rintro w' ⟨s0, s1, s2, s3, s4, s5, s6, s7⟩; go_simp; with_reducible rfl)⟩) (hS := hHeld) (h := ?_)
    refine one_ (i := 16) (N := some 46) #[Y_,Y_,Y_,Y_,Y_,Y_,Y_,Y_,Y_,Y_,Y_,Y_,Y_,Y_,Y_,Y_,Y_,N_,N_,N_] rfl rfl (one_of HT_.out (by kernel_rfl)) (by decide) (fun K hK => ?_)
    refine goes_ Try.func15 (by kernel_rfl) rfl #[.agg #[.int .i64 t0, .int .i64 t1, .int .i64 t2, .int .i64 t3, .int .i64 (wrap64 (rd l0 1)), .int .i64 t4, .int .i64 t5]] (by rfl) rfl rfl (by simp only [List.map_toArray, List.map_cons, List.map_nil]; rfl) ?_
    refine (payrollref7_Valid.calls k t0 t1 t2 t3 (wrap64 (rd l0 1)) t4 t5 v_ _ hv).mono ?_
    rintro e w10 ⟨rfl, hd⟩
    refine ⟨_, rfl, ?_⟩
    replace HR8 := HR8.below hd
    replace hb3 := blk_below hb3 hd
    refine hK.out _ _ ⟨(blk_cell hb3 0).trans rfl, (blk_cell hb3 1).trans rfl, (blk_cell hb3 2).trans rfl, (blk_cell hb3 3).trans rfl, (blk_cell hb3 4).trans rfl, (blk_cell hb3 5).trans rfl, (blk_cell hb3 6).trans rfl, hx _ HR8.hb⟩ (fun hHeld => ?_)
    clear hK K hd
    refine norm_ (a' := ?_) (by show Act.put _ (some 46) _ = _; simp only [Act.put, List.setIfInBounds_toArray, List.set_cons_zero, List.set_cons_succ, i64_w, i32_w]; rfl) ?_
    refine pv_ (i := 17) (N := some 47) #[Y_,Y_,Y_,Y_,Y_,Y_,Y_,Y_,Y_,Y_,Y_,Y_,Y_,Y_,Y_,Y_,Y_,Y_,N_,N_] (h := ?_)
    refine one_ (i := 18) (N := none) #[Y_,Y_,Y_,Y_,Y_,Y_,Y_,Y_,Y_,Y_,Y_,Y_,Y_,Y_,Y_,Y_,Y_,Y_,Y_,N_] rfl rfl (one_of HT_.out (by kernel_rfl)) (by decide) (fun K hK => ?_)
    refine fill_ (g := gr) #[.int .i64 t0, .int .i64 t1, .int .i64 t2, .int .i64 t3, .int .i64 (wrap64 (rd l0 1)), .int .i64 t4, .int .i64 t5] (by rfl) rfl rfl rfl rfl (by rfl) HR8.hr rfl (by kernel_rfl) (by rfl) (fun w11 hbr hgr11 => ?_)
    have hb3' := blk_grown hb3 hgr11 (by intro h_; injection h_ with h_; omega)
    have hbw := HR8.hb.grown hgr11 HR8.hb.size (fun k_ hk_ => by injection hk_ with hk_; omega)
    refine hK.out _ _ ⟨(blk_cell hb3' 0).trans rfl, (blk_cell hb3' 1).trans rfl, (blk_cell hb3' 2).trans rfl, (blk_cell hb3' 3).trans rfl, (blk_cell hb3' 4).trans rfl, (blk_cell hb3' 5).trans rfl, (blk_cell hb3' 6).trans rfl, hx _ hbw⟩ (fun _ => ?_)
    clear hK K
    refine pv_ (i := 19) (N := some 3) #[Y_,Y_,Y_,Y_,Y_,Y_,Y_,Y_,Y_,Y_,Y_,Y_,Y_,Y_,Y_,Y_,Y_,Y_,Y_,Y_] (h := ?_)
    refine done_ (done_of HT_.out (by kernel_rfl)) ?_
    go_wp2
    refine bodyPost_ret (results_ct rfl _ _ gr 26 #[.int .i64 t0, .int .i64 t1, .int .i64 t2, .int .i64 t3, .int .i64 (wrap64 (rd l0 1)), .int .i64 t4, .int .i64 t5] (0, 0) _ rfl hbr hu26 rfl (by kernel_rfl)) rfl ?_
    exact ⟨rfl, hbw⟩
  refine join_ (σ := Nat) 4 #[Y_,Y_,Y_,Y_,Y_,Y_,Y_,Y_,Y_,Y_,Y_,Y_,Y_,Y_,Y_,Y_,Y_,Y_,Y_,Y_,Y_,Y_,N_,N_,N_,Y_,N_] (fun g3 => [(11, .int .i64 t0), (14, .int .i64 t1), (18, .int .i64 t2), (21, .int .i64 t3), (24, .int .i64 t4), (4, .pointer (some ⟨g3, 0, none⟩)), (15, .agg #[.int .i64 t0, .int .i64 t1])]) (fun g3 w' => QSt3 w w' gr g3) ?_ (fun hJ5 => ?_)
  · rintro g3 w' H3
    have HR := H3.r
    have hHeld := HS _ HR
    refine norm_ (a' := ?_) (by simp only [putAll, Act.put, List.setIfInBounds_toArray, List.set_cons_zero, List.set_cons_succ]; rfl) ?_
    refine one_ (i := 22) (N := some 27) #[Y_,Y_,Y_,Y_,Y_,Y_,Y_,Y_,Y_,Y_,Y_,Y_,Y_,Y_,Y_,Y_,Y_,Y_,Y_,Y_,Y_,Y_,Y_,N_,N_,Y_,N_] rfl rfl (one_of HT_.out (by kernel_rfl)) (by decide) (fun K hK => ?_)
    refine goes_ Try.func41 (by kernel_rfl) rfl #[.slice A5 4 (c0 - 18)] (by rfl) rfl rfl (by simp only [List.map_toArray, List.map_cons, List.map_nil]; rfl) ?_
    refine (ref_get_cut k hl5 hR5 hC5 t5 q5 HR.hb).mono ?_
    rintro e w8 ⟨rfl, hd⟩
    replace hd := hd.below
    refine ⟨_, rfl, ?_⟩
    replace H3 := H3.below hd
    refine hK.out _ _ (HS _ H3.r) (fun hHeld => ?_)
    clear hK K hd
    refine norm_ (a' := ?_) (by show Act.put _ (some 27) _ = _; simp only [Act.put, List.setIfInBounds_toArray, List.set_cons_zero, List.set_cons_succ, i64_w, i32_w]; rfl) ?_
    refine pv_ (i := 23) (N := some 28) #[Y_,Y_,Y_,Y_,Y_,Y_,Y_,Y_,Y_,Y_,Y_,Y_,Y_,Y_,Y_,Y_,Y_,Y_,Y_,Y_,Y_,Y_,Y_,Y_,N_,Y_,N_] (h := ?_)
    refine pv_ (i := 24) (N := some 29) #[Y_,Y_,Y_,Y_,Y_,Y_,Y_,Y_,Y_,Y_,Y_,Y_,Y_,Y_,Y_,Y_,Y_,Y_,Y_,Y_,Y_,Y_,Y_,Y_,Y_,Y_,N_] (h := ?_)
    exact norm_ (by simp only [putAll, Act.put, List.setIfInBounds_toArray, List.set_cons_zero, List.set_cons_succ]; try rfl) (hJ6 g3 _ H3)
  refine join_ (σ := Nat) 5 #[Y_,Y_,Y_,Y_,Y_,Y_,Y_,Y_,Y_,Y_,Y_,Y_,Y_,Y_,Y_,Y_,Y_,Y_,Y_,N_,Y_,Y_,N_,N_,N_,Y_,N_] (fun g3 => [(11, .int .i64 t0), (14, .int .i64 t1), (18, .int .i64 t2), (21, .int .i64 t3), (4, .pointer (some ⟨g3, 0, none⟩)), (15, .agg #[.int .i64 t0, .int .i64 t1])]) (fun g3 w' => QSt3 w w' gr g3) ?_ (fun hJ4 => ?_)
  · rintro g3 w' H3
    have HR := H3.r
    have hHeld := HS _ HR
    refine norm_ (a' := ?_) (by simp only [putAll, Act.put, List.setIfInBounds_toArray, List.set_cons_zero, List.set_cons_succ]; rfl) ?_
    refine one_ (i := 19) (N := some 24) #[Y_,Y_,Y_,Y_,Y_,Y_,Y_,Y_,Y_,Y_,Y_,Y_,Y_,Y_,Y_,Y_,Y_,Y_,Y_,Y_,Y_,Y_,N_,N_,N_,Y_,N_] rfl rfl (one_of HT_.out (by kernel_rfl)) (by decide) (fun K hK => ?_)
    refine goes_ Try.func41 (by kernel_rfl) rfl #[.slice A4 2 (c0 - 16)] (by rfl) rfl rfl (by simp only [List.map_toArray, List.map_cons, List.map_nil]; rfl) ?_
    refine (ref_get_cut k hl4 hR4 hC4 t4 q4 HR.hb).mono ?_
    rintro e w8 ⟨rfl, hd⟩
    replace hd := hd.below
    refine ⟨_, rfl, ?_⟩
    replace H3 := H3.below hd
    refine hK.out _ _ (HS _ H3.r) (fun hHeld => ?_)
    clear hK K hd
    refine norm_ (a' := ?_) (by show Act.put _ (some 24) _ = _; simp only [Act.put, List.setIfInBounds_toArray, List.set_cons_zero, List.set_cons_succ, i64_w, i32_w]; rfl) ?_
    exact norm_ (by simp only [putAll, Act.put, List.setIfInBounds_toArray, List.set_cons_zero, List.set_cons_succ]; try rfl) (hJ5 g3 _ H3)
  refine join_ (σ := Nat) 6 #[Y_,Y_,Y_,Y_,Y_,Y_,Y_,Y_,Y_,Y_,Y_,Y_,Y_,Y_,Y_,Y_,N_,Y_,Y_,N_,Y_,Y_,N_,N_,N_,Y_,N_] (fun g3 => [(11, .int .i64 t0), (14, .int .i64 t1), (18, .int .i64 t2), (4, .pointer (some ⟨g3, 0, none⟩)), (15, .agg #[.int .i64 t0, .int .i64 t1])]) (fun g3 w' => QSt3 w w' gr g3) ?_ (fun hJ3 => ?_)
  · rintro g3 w' H3
    have HR := H3.r
    have hHeld := HS _ HR
    refine norm_ (a' := ?_) (by simp only [putAll, Act.put, List.setIfInBounds_toArray, List.set_cons_zero, List.set_cons_succ]; rfl) ?_
    refine one_ (i := 16) (N := some 21) #[Y_,Y_,Y_,Y_,Y_,Y_,Y_,Y_,Y_,Y_,Y_,Y_,Y_,Y_,Y_,Y_,Y_,Y_,Y_,N_,Y_,Y_,N_,N_,N_,Y_,N_] rfl rfl (one_of HT_.out (by kernel_rfl)) (by decide) (fun K hK => ?_)
    refine goes_ Try.func41 (by kernel_rfl) rfl #[.slice A3 4 (c0 - 12)] (by rfl) rfl rfl (by simp only [List.map_toArray, List.map_cons, List.map_nil]; rfl) ?_
    refine (ref_get_cut k hl3 hR3 hC3 t3 q3 HR.hb).mono ?_
    rintro e w8 ⟨rfl, hd⟩
    replace hd := hd.below
    refine ⟨_, rfl, ?_⟩
    replace H3 := H3.below hd
    refine hK.out _ _ (HS _ H3.r) (fun hHeld => ?_)
    clear hK K hd
    refine norm_ (a' := ?_) (by show Act.put _ (some 21) _ = _; simp only [Act.put, List.setIfInBounds_toArray, List.set_cons_zero, List.set_cons_succ, i64_w, i32_w]; rfl) ?_
    exact norm_ (by simp only [putAll, Act.put, List.setIfInBounds_toArray, List.set_cons_zero, List.set_cons_succ]; try rfl) (hJ4 g3 _ H3)
  refine join_ (σ := Nat) 7 #[Y_,Y_,Y_,Y_,Y_,Y_,Y_,Y_,Y_,Y_,Y_,Y_,Y_,N_,Y_,Y_,N_,Y_,Y_,N_,Y_,Y_,N_,N_,N_,Y_,N_] (fun g3 => [(11, .int .i64 t0), (14, .int .i64 t1), (4, .pointer (some ⟨g3, 0, none⟩)), (15, .agg #[.int .i64 t0, .int .i64 t1])]) (fun g3 w' => QSt3 w w' gr g3) ?_ (fun hJ2 => ?_)
  · rintro g3 w' H3
    have HR := H3.r
    have hHeld := HS _ HR
    refine norm_ (a' := ?_) (by simp only [putAll, Act.put, List.setIfInBounds_toArray, List.set_cons_zero, List.set_cons_succ]; rfl) ?_
    refine one_ (i := 13) (N := some 18) #[Y_,Y_,Y_,Y_,Y_,Y_,Y_,Y_,Y_,Y_,Y_,Y_,Y_,Y_,Y_,Y_,N_,Y_,Y_,N_,Y_,Y_,N_,N_,N_,Y_,N_] rfl rfl (one_of HT_.out (by kernel_rfl)) (by decide) (fun K hK => ?_)
    refine goes_ Try.func41 (by kernel_rfl) rfl #[.slice A2 4 (c0 - 8)] (by rfl) rfl rfl (by simp only [List.map_toArray, List.map_cons, List.map_nil]; rfl) ?_
    refine (ref_get_cut k hl2 hR2 hC2 t2 q2 HR.hb).mono ?_
    rintro e w8 ⟨rfl, hd⟩
    replace hd := hd.below
    refine ⟨_, rfl, ?_⟩
    replace H3 := H3.below hd
    refine hK.out _ _ (HS _ H3.r) (fun hHeld => ?_)
    clear hK K hd
    refine norm_ (a' := ?_) (by show Act.put _ (some 18) _ = _; simp only [Act.put, List.setIfInBounds_toArray, List.set_cons_zero, List.set_cons_succ, i64_w, i32_w]; rfl) ?_
    exact norm_ (by simp only [putAll, Act.put, List.setIfInBounds_toArray, List.set_cons_zero, List.set_cons_succ]; try rfl) (hJ3 g3 _ H3)
  refine join_ (σ := Nat) 9 #[Y_,Y_,Y_,Y_,Y_,Y_,Y_,Y_,Y_,N_,N_,Y_,Y_,N_,Y_,Y_,N_,Y_,Y_,N_,Y_,Y_,N_,N_,N_,Y_,N_] (fun g3 => [(11, .int .i64 t0), (4, .pointer (some ⟨g3, 0, none⟩))]) (fun g3 w' => QSt3 w w' gr g3) ?_ (fun hJ1 => ?_)
  · rintro g3 w' H3
    have HR := H3.r
    have hHeld := HS _ HR
    refine norm_ (a' := ?_) (by simp only [putAll, Act.put, List.setIfInBounds_toArray, List.set_cons_zero, List.set_cons_succ]; rfl) ?_
    refine one_ (i := 9) (N := some 14) #[Y_,Y_,Y_,Y_,Y_,Y_,Y_,Y_,Y_,Y_,N_,Y_,Y_,N_,Y_,Y_,N_,Y_,Y_,N_,Y_,Y_,N_,N_,N_,Y_,N_] rfl rfl (one_of HT_.out (by kernel_rfl)) (by decide) (fun K hK => ?_)
    refine goes_ Try.func41 (by kernel_rfl) rfl #[.slice A1 4 (c0 - 4)] (by rfl) rfl rfl (by simp only [List.map_toArray, List.map_cons, List.map_nil]; rfl) ?_
    refine (ref_get_cut k hl1 hR1 hC1 t1 q1 HR.hb).mono ?_
    rintro e w8 ⟨rfl, hd⟩
    replace hd := hd.below
    refine ⟨_, rfl, ?_⟩
    replace H3 := H3.below hd
    refine hK.out _ _ (HS _ H3.r) (fun hHeld => ?_)
    clear hK K hd
    refine norm_ (a' := ?_) (by show Act.put _ (some 14) _ = _; simp only [Act.put, List.setIfInBounds_toArray, List.set_cons_zero, List.set_cons_succ, i64_w, i32_w]; rfl) ?_
    refine pv_ (i := 10) (N := some 15) #[Y_,Y_,Y_,Y_,Y_,Y_,Y_,Y_,Y_,Y_,Y_,Y_,Y_,N_,Y_,Y_,N_,Y_,Y_,N_,Y_,Y_,N_,N_,N_,Y_,N_] (h := ?_)
    exact norm_ (by simp only [putAll, Act.put, List.setIfInBounds_toArray, List.set_cons_zero, List.set_cons_succ]; try rfl) (hJ2 g3 _ H3)
  refine join_ (σ := Nat) 10 #[Y_,Y_,Y_,Y_,Y_,Y_,N_,Y_,Y_,N_,N_,Y_,Y_,N_,Y_,Y_,N_,Y_,Y_,N_,Y_,Y_,N_,N_,N_,Y_,N_] (fun g3 => [(4, .pointer (some ⟨g3, 0, none⟩))]) (fun g3 w' => QSt3 w w' gr g3) ?_ (fun hJ0 => ?_)
  · rintro g3 w' H3
    have HR := H3.r
    have hHeld := HS _ HR
    refine norm_ (a' := ?_) (by simp only [putAll, Act.put, List.setIfInBounds_toArray, List.set_cons_zero, List.set_cons_succ]; rfl) ?_
    refine one_ (i := 6) (N := some 11) #[Y_,Y_,Y_,Y_,Y_,Y_,Y_,Y_,Y_,N_,N_,Y_,Y_,N_,Y_,Y_,N_,Y_,Y_,N_,Y_,Y_,N_,N_,N_,Y_,N_] rfl rfl (one_of HT_.out (by kernel_rfl)) (by decide) (fun K hK => ?_)
    refine goes_ Try.func41 (by kernel_rfl) rfl #[.slice A0 2 (c0 - 2)] (by rfl) rfl rfl (by simp only [List.map_toArray, List.map_cons, List.map_nil]; rfl) ?_
    refine (ref_get_cut k hl0 hR0 hC0 t0 q0 HR.hb).mono ?_
    rintro e w8 ⟨rfl, hd⟩
    replace hd := hd.below
    refine ⟨_, rfl, ?_⟩
    replace H3 := H3.below hd
    refine hK.out _ _ (HS _ H3.r) (fun hHeld => ?_)
    clear hK K hd
    refine norm_ (a' := ?_) (by show Act.put _ (some 11) _ = _; simp only [Act.put, List.setIfInBounds_toArray, List.set_cons_zero, List.set_cons_succ, i64_w, i32_w]; rfl) ?_
    exact norm_ (by simp only [putAll, Act.put, List.setIfInBounds_toArray, List.set_cons_zero, List.set_cons_succ]; try rfl) (hJ1 g3 _ H3)
  refine two_ (i := 6) (j := 25) (Ni := some 11) (Nj := some 4) #[Y_,Y_,Y_,Y_,Y_,Y_,Y_,Y_,Y_,N_,N_,Y_,Y_,N_,Y_,Y_,N_,Y_,Y_,N_,Y_,Y_,N_,N_,N_,N_,N_] #[Y_,Y_,Y_,Y_,Y_,Y_,N_,Y_,Y_,N_,N_,Y_,Y_,N_,Y_,Y_,N_,Y_,Y_,N_,Y_,Y_,N_,N_,N_,Y_,N_] rfl rfl rfl rfl (two_of HT_.out (by kernel_rfl)) (by decide) (by decide) (fun K hK => ?go6) (fun K hK => ?or6_25)
  case or6_25 =>
    refine box_step ?hg (N := 4) ?hd (cs := #[.int .i64 0, .int .i64 0, .int .i64 0, .int .i64 0, .int .i64 0, .int .i64 0, .int .i64 0]) (t := 26) ?hr ?_; (case hd => rfl); (case hg => rfl); (case hr => first | (go_simp; done) | (go_simp; rfl))
    intro g3 hg3 w9 hbox hb
    have H3 : QSt3 w w9 gr g3 := ⟨HR.below hb, hbox, by rw [hg3]; exact HR.hb.size, by rw [hg3]; exact Nat.ne_of_lt (blk_lt HR.hr)⟩
    clear hg3 hbox hb
    refine hK.out _ _ (HS _ H3.r) (fun hHeld => ?_)
    clear hK K
    refine norm_ (a' := ?_) (by show Act.put _ (some 4) _ = _; simp only [Act.put, List.setIfInBounds_toArray, List.set_cons_zero, List.set_cons_succ, i64_w, i32_w]; rfl) ?_
    exact norm_ (by simp only [putAll, Act.put, List.setIfInBounds_toArray, List.set_cons_zero, List.set_cons_succ]; try rfl) (hJ0 g3 _ H3)
  refine goes_ Try.func41 (by kernel_rfl) rfl #[.slice A0 2 (c0 - 2)] (by rfl) rfl rfl (by simp only [List.map_toArray, List.map_cons, List.map_nil]; rfl) ?_
  refine (ref_get_cut k hl0 hR0 hC0 t0 q0 HR.hb).mono ?_
  rintro e w8 ⟨rfl, hd⟩
  replace hd := hd.below
  refine ⟨_, rfl, ?_⟩
  replace HR := HR.below hd
  refine hK.out _ _ (HS _ HR) (fun hHeld => ?_)
  clear hK K hd
  refine norm_ (a' := ?_) (by show Act.put _ (some 11) _ = _; simp only [Act.put, List.setIfInBounds_toArray, List.set_cons_zero, List.set_cons_succ, i64_w, i32_w]; rfl) ?_
  refine two_ (i := 9) (j := 25) (Ni := some 14) (Nj := some 4) #[Y_,Y_,Y_,Y_,Y_,Y_,Y_,Y_,Y_,Y_,N_,Y_,Y_,N_,Y_,Y_,N_,Y_,Y_,N_,Y_,Y_,N_,N_,N_,N_,N_] #[Y_,Y_,Y_,Y_,Y_,Y_,Y_,Y_,Y_,N_,N_,Y_,Y_,N_,Y_,Y_,N_,Y_,Y_,N_,Y_,Y_,N_,N_,N_,Y_,N_] rfl rfl rfl rfl (two_of HT_.out (by kernel_rfl)) (by decide) (by decide) (fun K hK => ?go9) (fun K hK => ?or9_25)
  case or9_25 =>
    refine box_step ?hg (N := 4) ?hd (cs := #[.int .i64 0, .int .i64 0, .int .i64 0, .int .i64 0, .int .i64 0, .int .i64 0, .int .i64 0]) (t := 26) ?hr ?_; (case hd => rfl); (case hg => rfl); (case hr => first | (go_simp; done) | (go_simp; rfl))
    intro g3 hg3 w9 hbox hb
    have H3 : QSt3 w w9 gr g3 := ⟨HR.below hb, hbox, by rw [hg3]; exact HR.hb.size, by rw [hg3]; exact Nat.ne_of_lt (blk_lt HR.hr)⟩
    clear hg3 hbox hb
    refine hK.out _ _ (HS _ H3.r) (fun hHeld => ?_)
    clear hK K
    refine norm_ (a' := ?_) (by show Act.put _ (some 4) _ = _; simp only [Act.put, List.setIfInBounds_toArray, List.set_cons_zero, List.set_cons_succ, i64_w, i32_w]; rfl) ?_
    exact norm_ (by simp only [putAll, Act.put, List.setIfInBounds_toArray, List.set_cons_zero, List.set_cons_succ]; try rfl) (hJ1 g3 _ H3)
  refine goes_ Try.func41 (by kernel_rfl) rfl #[.slice A1 4 (c0 - 4)] (by rfl) rfl rfl (by simp only [List.map_toArray, List.map_cons, List.map_nil]; rfl) ?_
  refine (ref_get_cut k hl1 hR1 hC1 t1 q1 HR.hb).mono ?_
  rintro e w8 ⟨rfl, hd⟩
  replace hd := hd.below
  refine ⟨_, rfl, ?_⟩
  replace HR := HR.below hd
  refine hK.out _ _ (HS _ HR) (fun hHeld => ?_)
  clear hK K hd
  refine norm_ (a' := ?_) (by show Act.put _ (some 14) _ = _; simp only [Act.put, List.setIfInBounds_toArray, List.set_cons_zero, List.set_cons_succ, i64_w, i32_w]; rfl) ?_
  refine pv_ (i := 10) (N := some 15) #[Y_,Y_,Y_,Y_,Y_,Y_,Y_,Y_,Y_,Y_,Y_,Y_,Y_,N_,Y_,Y_,N_,Y_,Y_,N_,Y_,Y_,N_,N_,N_,N_,N_] (h := ?_)
  refine two_ (i := 13) (j := 25) (Ni := some 18) (Nj := some 4) #[Y_,Y_,Y_,Y_,Y_,Y_,Y_,Y_,Y_,Y_,Y_,Y_,Y_,Y_,Y_,Y_,N_,Y_,Y_,N_,Y_,Y_,N_,N_,N_,N_,N_] #[Y_,Y_,Y_,Y_,Y_,Y_,Y_,Y_,Y_,Y_,Y_,Y_,Y_,N_,Y_,Y_,N_,Y_,Y_,N_,Y_,Y_,N_,N_,N_,Y_,N_] rfl rfl rfl rfl (two_of HT_.out (by kernel_rfl)) (by decide) (by decide) (fun K hK => ?go13) (fun K hK => ?or13_25)
  case or13_25 =>
    refine box_step ?hg (N := 4) ?hd (cs := #[.int .i64 0, .int .i64 0, .int .i64 0, .int .i64 0, .int .i64 0, .int .i64 0, .int .i64 0]) (t := 26) ?hr ?_; (case hd => rfl); (case hg => rfl); (case hr => first | (go_simp; done) | (go_simp; rfl))
    intro g3 hg3 w9 hbox hb
    have H3 : QSt3 w w9 gr g3 := ⟨HR.below hb, hbox, by rw [hg3]; exact HR.hb.size, by rw [hg3]; exact Nat.ne_of_lt (blk_lt HR.hr)⟩
    clear hg3 hbox hb
    refine hK.out _ _ (HS _ H3.r) (fun hHeld => ?_)
    clear hK K
    refine norm_ (a' := ?_) (by show Act.put _ (some 4) _ = _; simp only [Act.put, List.setIfInBounds_toArray, List.set_cons_zero, List.set_cons_succ, i64_w, i32_w]; rfl) ?_
    exact norm_ (by simp only [putAll, Act.put, List.setIfInBounds_toArray, List.set_cons_zero, List.set_cons_succ]; try rfl) (hJ2 g3 _ H3)
  refine goes_ Try.func41 (by kernel_rfl) rfl #[.slice A2 4 (c0 - 8)] (by rfl) rfl rfl (by simp only [List.map_toArray, List.map_cons, List.map_nil]; rfl) ?_
  refine (ref_get_cut k hl2 hR2 hC2 t2 q2 HR.hb).mono ?_
  rintro e w8 ⟨rfl, hd⟩
  replace hd := hd.below
  refine ⟨_, rfl, ?_⟩
  replace HR := HR.below hd
  refine hK.out _ _ (HS _ HR) (fun hHeld => ?_)
  clear hK K hd
  refine norm_ (a' := ?_) (by show Act.put _ (some 18) _ = _; simp only [Act.put, List.setIfInBounds_toArray, List.set_cons_zero, List.set_cons_succ, i64_w, i32_w]; rfl) ?_
  refine two_ (i := 16) (j := 25) (Ni := some 21) (Nj := some 4) #[Y_,Y_,Y_,Y_,Y_,Y_,Y_,Y_,Y_,Y_,Y_,Y_,Y_,Y_,Y_,Y_,Y_,Y_,Y_,N_,Y_,Y_,N_,N_,N_,N_,N_] #[Y_,Y_,Y_,Y_,Y_,Y_,Y_,Y_,Y_,Y_,Y_,Y_,Y_,Y_,Y_,Y_,N_,Y_,Y_,N_,Y_,Y_,N_,N_,N_,Y_,N_] rfl rfl rfl rfl (two_of HT_.out (by kernel_rfl)) (by decide) (by decide) (fun K hK => ?go16) (fun K hK => ?or16_25)
  case or16_25 =>
    refine box_step ?hg (N := 4) ?hd (cs := #[.int .i64 0, .int .i64 0, .int .i64 0, .int .i64 0, .int .i64 0, .int .i64 0, .int .i64 0]) (t := 26) ?hr ?_; (case hd => rfl); (case hg => rfl); (case hr => first | (go_simp; done) | (go_simp; rfl))
    intro g3 hg3 w9 hbox hb
    have H3 : QSt3 w w9 gr g3 := ⟨HR.below hb, hbox, by rw [hg3]; exact HR.hb.size, by rw [hg3]; exact Nat.ne_of_lt (blk_lt HR.hr)⟩
    clear hg3 hbox hb
    refine hK.out _ _ (HS _ H3.r) (fun hHeld => ?_)
    clear hK K
    refine norm_ (a' := ?_) (by show Act.put _ (some 4) _ = _; simp only [Act.put, List.setIfInBounds_toArray, List.set_cons_zero, List.set_cons_succ, i64_w, i32_w]; rfl) ?_
    exact norm_ (by simp only [putAll, Act.put, List.setIfInBounds_toArray, List.set_cons_zero, List.set_cons_succ]; try rfl) (hJ3 g3 _ H3)
  refine goes_ Try.func41 (by kernel_rfl) rfl #[.slice A3 4 (c0 - 12)] (by rfl) rfl rfl (by simp only [List.map_toArray, List.map_cons, List.map_nil]; rfl) ?_
  refine (ref_get_cut k hl3 hR3 hC3 t3 q3 HR.hb).mono ?_
  rintro e w8 ⟨rfl, hd⟩
  replace hd := hd.below
  refine ⟨_, rfl, ?_⟩
  replace HR := HR.below hd
  refine hK.out _ _ (HS _ HR) (fun hHeld => ?_)
  clear hK K hd
  refine norm_ (a' := ?_) (by show Act.put _ (some 21) _ = _; simp only [Act.put, List.setIfInBounds_toArray, List.set_cons_zero, List.set_cons_succ, i64_w, i32_w]; rfl) ?_
  refine two_ (i := 19) (j := 25) (Ni := some 24) (Nj := some 4) #[Y_,Y_,Y_,Y_,Y_,Y_,Y_,Y_,Y_,Y_,Y_,Y_,Y_,Y_,Y_,Y_,Y_,Y_,Y_,Y_,Y_,Y_,N_,N_,N_,N_,N_] #[Y_,Y_,Y_,Y_,Y_,Y_,Y_,Y_,Y_,Y_,Y_,Y_,Y_,Y_,Y_,Y_,Y_,Y_,Y_,N_,Y_,Y_,N_,N_,N_,Y_,N_] rfl rfl rfl rfl (two_of HT_.out (by kernel_rfl)) (by decide) (by decide) (fun K hK => ?go19) (fun K hK => ?or19_25)
  case or19_25 =>
    refine box_step ?hg (N := 4) ?hd (cs := #[.int .i64 0, .int .i64 0, .int .i64 0, .int .i64 0, .int .i64 0, .int .i64 0, .int .i64 0]) (t := 26) ?hr ?_; (case hd => rfl); (case hg => rfl); (case hr => first | (go_simp; done) | (go_simp; rfl))
    intro g3 hg3 w9 hbox hb
    have H3 : QSt3 w w9 gr g3 := ⟨HR.below hb, hbox, by rw [hg3]; exact HR.hb.size, by rw [hg3]; exact Nat.ne_of_lt (blk_lt HR.hr)⟩
    clear hg3 hbox hb
    refine hK.out _ _ (HS _ H3.r) (fun hHeld => ?_)
    clear hK K
    refine norm_ (a' := ?_) (by show Act.put _ (some 4) _ = _; simp only [Act.put, List.setIfInBounds_toArray, List.set_cons_zero, List.set_cons_succ, i64_w, i32_w]; rfl) ?_
    exact norm_ (by simp only [putAll, Act.put, List.setIfInBounds_toArray, List.set_cons_zero, List.set_cons_succ]; try rfl) (hJ4 g3 _ H3)
  refine goes_ Try.func41 (by kernel_rfl) rfl #[.slice A4 2 (c0 - 16)] (by rfl) rfl rfl (by simp only [List.map_toArray, List.map_cons, List.map_nil]; rfl) ?_
  refine (ref_get_cut k hl4 hR4 hC4 t4 q4 HR.hb).mono ?_
  rintro e w8 ⟨rfl, hd⟩
  replace hd := hd.below
  refine ⟨_, rfl, ?_⟩
  replace HR := HR.below hd
  refine hK.out _ _ (HS _ HR) (fun hHeld => ?_)
  clear hK K hd
  refine norm_ (a' := ?_) (by show Act.put _ (some 24) _ = _; simp only [Act.put, List.setIfInBounds_toArray, List.set_cons_zero, List.set_cons_succ, i64_w, i32_w]; rfl) ?_
  refine two_ (i := 22) (j := 25) (Ni := some 27) (Nj := some 4) #[Y_,Y_,Y_,Y_,Y_,Y_,Y_,Y_,Y_,Y_,Y_,Y_,Y_,Y_,Y_,Y_,Y_,Y_,Y_,Y_,Y_,Y_,Y_,N_,N_,N_,N_] #[Y_,Y_,Y_,Y_,Y_,Y_,Y_,Y_,Y_,Y_,Y_,Y_,Y_,Y_,Y_,Y_,Y_,Y_,Y_,Y_,Y_,Y_,N_,N_,N_,Y_,N_] rfl rfl rfl rfl (two_of HT_.out (by kernel_rfl)) (by decide) (by decide) (fun K hK => ?go22) (fun K hK => ?or22_25)
  case or22_25 =>
    refine box_step ?hg (N := 4) ?hd (cs := #[.int .i64 0, .int .i64 0, .int .i64 0, .int .i64 0, .int .i64 0, .int .i64 0, .int .i64 0]) (t := 26) ?hr ?_; (case hd => rfl); (case hg => rfl); (case hr => first | (go_simp; done) | (go_simp; rfl))
    intro g3 hg3 w9 hbox hb
    have H3 : QSt3 w w9 gr g3 := ⟨HR.below hb, hbox, by rw [hg3]; exact HR.hb.size, by rw [hg3]; exact Nat.ne_of_lt (blk_lt HR.hr)⟩
    clear hg3 hbox hb
    refine hK.out _ _ (HS _ H3.r) (fun hHeld => ?_)
    clear hK K
    refine norm_ (a' := ?_) (by show Act.put _ (some 4) _ = _; simp only [Act.put, List.setIfInBounds_toArray, List.set_cons_zero, List.set_cons_succ, i64_w, i32_w]; rfl) ?_
    exact norm_ (by simp only [putAll, Act.put, List.setIfInBounds_toArray, List.set_cons_zero, List.set_cons_succ]; try rfl) (hJ5 g3 _ H3)
  refine goes_ Try.func41 (by kernel_rfl) rfl #[.slice A5 4 (c0 - 18)] (by rfl) rfl rfl (by simp only [List.map_toArray, List.map_cons, List.map_nil]; rfl) ?_
  refine (ref_get_cut k hl5 hR5 hC5 t5 q5 HR.hb).mono ?_
  rintro e w8 ⟨rfl, hd⟩
  replace hd := hd.below
  refine ⟨_, rfl, ?_⟩
  replace HR := HR.below hd
  refine hK.out _ _ (HS _ HR) (fun hHeld => ?_)
  clear hK K hd
  refine norm_ (a' := ?_) (by show Act.put _ (some 27) _ = _; simp only [Act.put, List.setIfInBounds_toArray, List.set_cons_zero, List.set_cons_succ, i64_w, i32_w]; rfl) ?_
  refine pv_ (i := 23) (N := some 28) #[Y_,Y_,Y_,Y_,Y_,Y_,Y_,Y_,Y_,Y_,Y_,Y_,Y_,Y_,Y_,Y_,Y_,Y_,Y_,Y_,Y_,Y_,Y_,Y_,N_,N_,N_] (h := ?_)
  refine pv_ (i := 24) (N := some 29) #[Y_,Y_,Y_,Y_,Y_,Y_,Y_,Y_,Y_,Y_,Y_,Y_,Y_,Y_,Y_,Y_,Y_,Y_,Y_,Y_,Y_,Y_,Y_,Y_,Y_,N_,N_] (h := ?_)
  refine one_ (i := 25) (N := some 4) #[Y_,Y_,Y_,Y_,Y_,Y_,Y_,Y_,Y_,Y_,Y_,Y_,Y_,Y_,Y_,Y_,Y_,Y_,Y_,Y_,Y_,Y_,Y_,Y_,Y_,Y_,N_] rfl rfl (one_of HT_.out (by kernel_rfl)) (by decide) (fun K hK => ?_)
  refine box_step ?hg (N := 4) ?hd (cs := #[.int .i64 0, .int .i64 0, .int .i64 0, .int .i64 0, .int .i64 0, .int .i64 0, .int .i64 0]) (t := 26) ?hr ?_; (case hd => rfl); (case hg => rfl); (case hr => first | (go_simp; done) | (go_simp; rfl))
  intro g3 hg3 w9 hbox hb
  have H3 : QSt3 w w9 gr g3 := ⟨HR.below hb, hbox, by rw [hg3]; exact HR.hb.size, by rw [hg3]; exact Nat.ne_of_lt (blk_lt HR.hr)⟩
  clear hg3 hbox hb
  refine hK.out _ _ (HS _ H3.r) (fun hHeld => ?_)
  clear hK K
  refine norm_ (a' := ?_) (by show Act.put _ (some 4) _ = _; simp only [Act.put, List.setIfInBounds_toArray, List.set_cons_zero, List.set_cons_succ, i64_w, i32_w]; rfl) ?_
  exact norm_ (by simp only [putAll, Act.put, List.setIfInBounds_toArray, List.set_cons_zero, List.set_cons_succ]; try rfl) (hJ6 g3 _ H3)
end Go.Proofs.Ytopigdnffnondaa.P
