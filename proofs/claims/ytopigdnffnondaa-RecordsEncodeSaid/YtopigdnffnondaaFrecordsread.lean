/- Proved here: that the Go function records.read computes the plain function of that name, at frames of 24 bytes (by hand: closures; no condition of its own). -/
import Derived.Test.YtopigdnffnondaaProg
import Derived.Test.YtopigdnffnondaaV1
import Derived.Test.YtopigdnffnondaaV3
import Derived.Test.YtopigdnffnondaaFPRE0
import Derived.Test.YtopigdnffnondaaFrecordsValid
import Derived.Test.YtopigdnffnondaaFrecordsSum
import Derived.Test.YtopigdnffnondaaFrecordsget
namespace Go.Proofs.Ytopigdnffnondaa.P
open Go.RowKit Go.Proofs.YtopigdnffnondaaW.PrintWords Go.Proofs.YtopigdnffnondaaW.PrintLast Go.Proofs.YtopigdnffnondaaW.PrintMore
set_option linter.unusedVariables false
set_option linter.unusedSimpArgs false

def records_read.f (k : Nat) (l0 : List Int) : Option (Int × Int × Int × Int × Int × Int × Int × Bool) :=
  if l0.length = 24 then
    if rd l0 0 = 193 then
      (records_get.f k (l0.drop 22)).bind fun s => (records_Sum.f k (l0.take 22)).bind fun c =>
      if s = c then
        (records_get.f k ((l0.take 4).drop 2)).bind fun t0 => (records_get.f k ((l0.take 8).drop 4)).bind fun t1 =>
        (records_get.f k ((l0.take 12).drop 8)).bind fun t2 => (records_get.f k ((l0.take 16).drop 12)).bind fun t3 =>
        (records_get.f k ((l0.take 18).drop 16)).bind fun t4 => (records_get.f k ((l0.take 22).drop 18)).bind fun t5 =>
        (records_Valid.f k t0 t1 t2 t3 (wrap64 (rd l0 1)) t4 t5).bind fun v => some (t0, t1, t2, t3, wrap64 (rd l0 1), t4, t5, v)
      else some (0, 0, 0, 0, 0, 0, 0, false)
    else some (0, 0, 0, 0, 0, 0, 0, false)
  else none
theorem records_read.mono : ∀ a0 k, LeO (records_read.f k a0) (records_read.f (k + 1) a0) := by
  intro a0 k
  unfold records_read.f
  repeat' first
    | (with_reducible exact records_get.mono _ _)
    | (with_reducible exact records_Sum.mono _ _)
    | (with_reducible exact records_Valid.mono _ _ _ _ _ _ _ _)
    | (with_reducible exact LeO.refl _)
    | (with_reducible exact LeO.none _)
    | (with_reducible refine LeO.ite ?_ ?_)
    | (with_reducible refine LeO.bind ?_ (fun _ => ?_))
/-- A cut of the frame, read: its address, and what the cut's run yields. -/
theorem cut_of {A0 : Option Addr} {c0 : Nat} {l0 : List Int} {w : World} (hr0 : Kd.C (Kd.int .u8) w A0 l0.length l0) (hc0 : l0.length ≤ c0) (hl : l0.length = 24) (a b : Int) (h0 : 0 ≤ a) (h1 : a ≤ b) (h2 : b ≤ 24) :
    ∃ A : Option Addr, (∀ W : World, (Instr.slice 27 (.slice A0 24 c0) (some (.int .i64 a)) (some (.int .i64 b)) none).run Try.prog W = .ok (.slice A (b.toNat - a.toNat) (c0 - a.toNat)) W) ∧
      ((l0.take b.toNat).drop a.toNat).length = b.toNat - a.toNat ∧ Kd.C (Kd.int .u8) w A ((l0.take b.toNat).drop a.toNat).length ((l0.take b.toNat).drop a.toNat) ∧ ((l0.take b.toNat).drop a.toNat).length ≤ c0 - a.toNat := by
  obtain ⟨i0, hi0, _, hsz, _⟩ := info_parts info5
  obtain ⟨A, hcut, hA, hC⟩ := print_mid_of (P := Try.prog) (Value.int .u8) 0 27 5 .i64 .i64 Try.underlying27 hi0 hsz A0 c0 l0 a b h0 h1 (by omega) hc0
  have hlen : ((l0.take b.toNat).drop a.toNat).length = b.toNat - a.toNat := by rw [List.length_drop, List.length_take]; omega
  have hR := Kd.C_of_reads (h1 := fun _ => rfl) (hA _ (Kd.reads_of_C hr0))
  rw [hl, hlen] at hcut
  exact ⟨A, hcut, hlen, hR, hC⟩
theorem get_cut (k : Nat) {A : Option Addr} {c : Nat} {l : List Int} {n : Nat} (hn : l.length = n) {w : World} (hR : Kd.C (Kd.int .u8) w A l.length l) (hC : l.length ≤ c) (r : Int) (h : records_get.f k l = some r) {W : World} (hb : Below w.heap.size w W) :
    Calls Try.prog 38 #[.slice A n c] W fun e w' => e = .returned (.int .i64 r) ∧ Drawn0 W w' := by
  have := records_get.calls k A c l r W (Kd.C_below hR hb) hC h
  rw [hn] at this
  exact this
set_option maxHeartbeats 400000 in
set_option maxRecDepth 100000 in
theorem number_calls (k : Nat) (A0 : Option Addr) (c0 : Nat) (l0 : List Int) (at_ : Int) (r : Int) (g : Nat) (w : World) (hg : w.heap[g]? = some (.cells #[.slice A0 24 c0] 27 (0, 0))) (hr0 : Kd.C (Kd.int .u8) w A0 l0.length l0) (hc0 : l0.length ≤ c0) (hl : l0.length = 24) (h0 : 0 ≤ at_) (h1 : at_ + 4 ≤ 24)
    (h : records_get.f k ((l0.take (at_ + 4).toNat).drop at_.toNat) = some r) :
    Calls Try.prog 39 #[.int .i64 at_, .pointer (some ⟨g, 0, none⟩)] w fun e w' => e = .returned (.int .i64 r) ∧ Drawn0 w w' := by
  have hcell : w.cell? ⟨g, 0, none⟩ = some (.slice A0 24 c0) := (blk_cell hg 0).trans rfl
  obtain ⟨A, hcut, hlen, hR, hC⟩ := cut_of hr0 hc0 hl at_ (at_ + 4) h0 (by omega) (by omega)
  have hwr : IntKind.i64.wrap (at_ + 4) = at_ + 4 := by rw [i64_w]; unfold wrap64; omega
  go_enter Try.func39, Try.ntmps39
  go_wp2_with fail
  refine (get_cut k hlen hR hC r h (Below.refl _ _)).mono ?_
  rintro e w' ⟨rfl, hd⟩
  go_wp2
  go_ret
  exact ⟨rfl, hd⟩
def key_.T1 : Bool × List (List Nat × List Nat) := (true, [([], []), ([], []), ([], []), ([2], [2]), ([0, 1, 3], [0, 1, 3]), ([4], [4]), ([], []), ([], []), ([7], [7]), ([6, 8, 5], [6, 8]), ([5, 9], [5, 9]), ([10, 9, 0, 1, 2, 3, 4, 5, 6, 7, 8, 9, 10], [10])])
def key_.B1 : List Nat := [0, 0, 0, 4, 15, 31, 0, 0, 128, 511, 1023, 2047]
theorem key_.tab1 : rtab .any (opsOf Try.f40 1) = key_.T1 := by kernel_rfl
theorem key_.bits1 : waitsOk key_.T1.2 key_.B1 = true := by kernel_rfl
set_option maxHeartbeats 400000 in
set_option maxRecDepth 100000 in
theorem key_calls (k : Nat) (A0 : Option Addr) (c0 : Nat) (l0 : List Int) (at_ : Int) (r0 r1 : Int) (g g2 : Nat) (w : World) (hg : w.heap[g]? = some (.cells #[.slice A0 24 c0] 27 (0, 0))) (hg2 : w.heap[g2]? = some (.cells #[.func (.func 39) #[] #[.pointer (some ⟨g, 0, none⟩)]] 41 (0, 0)))
    (hr0 : Kd.C (Kd.int .u8) w A0 l0.length l0) (hc0 : l0.length ≤ c0) (hl : l0.length = 24) (h0 : 0 ≤ at_) (h1 : at_ + 6 ≤ 24)
    (h : records_get.f k ((l0.take (at_ + 2).toNat).drop at_.toNat) = some r0) (h' : records_get.f k ((l0.take (at_ + 2 + 4).toNat).drop (at_ + 2).toNat) = some r1) :
    Calls Try.prog 40 #[.int .i64 at_, .pointer (some ⟨g, 0, none⟩), .pointer (some ⟨g2, 0, none⟩)] w fun e w' => e = .returned (.agg #[.int .i64 r0, .int .i64 r1]) ∧ Below w.heap.size w w' := by
  have hcell : w.cell? ⟨g, 0, none⟩ = some (.slice A0 24 c0) := (blk_cell hg 0).trans rfl
  have hcell2 : w.cell? ⟨g2, 0, none⟩ = some (.func (.func 39) #[] #[.pointer (some ⟨g, 0, none⟩)]) := (blk_cell hg2 0).trans rfl
  obtain ⟨A, hcut, hlen, hR, hC⟩ := cut_of hr0 hc0 hl at_ (at_ + 2) h0 (by omega) (by omega)
  have hwr : IntKind.i64.wrap (at_ + 2) = at_ + 2 := by rw [i64_w]; unfold wrap64; omega
  have hu24 := Try.underlying24
  have HB := Below.refl w.heap.size w
  go_enter Try.func40, Try.ntmps40
  go_wp2_with (first | ((with_reducible refine gate_dst (N := 4) rfl ?_); refine box_event ?hg (N := 4) ?hd (cs := #[.int .i64 0, .int .i64 0]) (t := 24) ?hr ?_; (case hd => rfl); (case hg => rfl); (case hr => first | (go_simp; done) | (go_simp; rfl)); intro gb hgb w2 hbox hb))
  refine start_ (n := 12) (S := fun w' => w'.cell? ⟨g, 0, none⟩ = some (.slice A0 24 c0) ∧ w'.cell? ⟨g2, 0, none⟩ = some (.func (.func 39) #[] #[.pointer (some ⟨g, 0, none⟩)])) (ds := []) #[N_,N_,N_,N_,N_,N_,N_,N_,N_,N_,N_,N_] (by kernel_rfl) rfl rfl ⟨(hb.cell (World.block_lt_of_cell? _ _ hcell)).trans hcell, (hb.cell (World.block_lt_of_cell? _ _ hcell2)).trans hcell2⟩ (fun hHeld => ?_)
  refine with_tabW key_.tab1 key_.bits1 (fun HT_ HW_ => ?_)
  replace hb : Below w.heap.size w w2.drew := below_drew hb
  replace hbox : w2.drew.heap[gb]? = some (.cells #[.int .i64 0, .int .i64 0] 24 (0, 0)) := hbox
  generalize w2.drew = w3 at hb hbox hHeld ⊢
  refine norm_ (a' := ?_) (by show Act.put _ (some 4) _ = _; simp only [Act.put, List.setIfInBounds_toArray, List.set_cons_zero, List.set_cons_succ, i64_w, i32_w]; rfl) ?_
  refine pv_ (i := 1) (N := some 6) #[N_,Y_,N_,N_,N_,N_,N_,N_,N_,N_,N_,N_] (h := ?_)
  refine pv_ (i := 2) (N := some 7) #[N_,Y_,Y_,N_,N_,N_,N_,N_,N_,N_,N_,N_] (h := ?_)
  refine pv_ (i := 3) (N := some 8) #[N_,Y_,Y_,Y_,N_,N_,N_,N_,N_,N_,N_,N_] (h := ?_)
  refine pv_ (i := 7) (N := some 12) #[N_,Y_,Y_,Y_,N_,N_,N_,Y_,N_,N_,N_,N_] (h := ?_)
  refine pv_ (i := 8) (N := some 13) #[N_,Y_,Y_,Y_,N_,N_,N_,Y_,Y_,N_,N_,N_] (h := ?_)
  refine tv_ (i := 0) (N := some 5) #[Y_,Y_,Y_,Y_,N_,N_,N_,Y_,Y_,N_,N_,N_] (hy := Or.inl ⟨by rfl, by (rintro w' ⟨s0, s1⟩; go_simp; with_reducible rfl)⟩) (hS := hHeld) (h := ?_)
  refine pv_ (i := 4) (N := some 9) #[Y_,Y_,Y_,Y_,Y_,N_,N_,Y_,Y_,N_,N_,N_] (h := ?_)
  refine tv_ (i := 6) (N := some 11) #[Y_,Y_,Y_,Y_,Y_,N_,Y_,Y_,Y_,N_,N_,N_] (hy := Or.inl ⟨by rfl, by (rintro w' ⟨s0, s1⟩; go_simp; with_reducible rfl)⟩) (hS := hHeld) (h := ?_)
  refine one_ (i := 5) (N := some 10) #[Y_,Y_,Y_,Y_,Y_,Y_,Y_,Y_,Y_,N_,N_,N_] rfl rfl (one_of HT_.out (by kernel_rfl)) (by decide) (fun K hK => ?_)
  refine goes_ Try.func38 (by kernel_rfl) rfl #[.slice A ((at_ + 2).toNat - at_.toNat) (c0 - at_.toNat)] (by rfl) rfl rfl (by simp only [List.map_toArray, List.map_cons, List.map_nil]; rfl) ?_
  refine (get_cut k hlen hR hC r0 h hb).mono ?_
  rintro e w4 ⟨rfl, hd⟩
  refine ⟨_, rfl, ?_⟩
  have hb4 := hd.below
  replace hbox := (blk_below hbox hb4)
  refine hK.out _ _ ⟨(hb4.cell (World.block_lt_of_cell? _ _ hHeld.1)).trans hHeld.1, (hb4.cell (World.block_lt_of_cell? _ _ hHeld.2)).trans hHeld.2⟩ (fun hHeld => ?_)
  replace hb := below_step hb hb4
  clear hK K hd hb4
  refine norm_ (a' := ?_) (by show Act.put _ (some 10) _ = _; simp only [Act.put, List.setIfInBounds_toArray, List.set_cons_zero, List.set_cons_succ, i64_w, i32_w]; rfl) ?_
  refine one_ (i := 9) (N := some 14) #[Y_,Y_,Y_,Y_,Y_,Y_,Y_,Y_,Y_,Y_,N_,N_] rfl rfl (one_of HT_.out (by kernel_rfl)) (by decide) (fun K hK => ?_)
  refine call_ 39 #[.int .i64 (at_ + 2), .pointer (some ⟨g, 0, none⟩)] (by rfl) rfl (by go_simp) ?_
  refine (number_calls k A0 c0 l0 (at_ + 2) r1 g w4 (blk_below hg hb) (Kd.C_below hr0 hb) hc0 hl (by omega) (by omega) h').mono ?_
  rintro e w5 ⟨rfl, hd⟩
  refine ⟨_, rfl, ?_⟩
  have hb4 := hd.below
  replace hbox := (blk_below hbox hb4)
  refine hK.out _ _ ⟨(hb4.cell (World.block_lt_of_cell? _ _ hHeld.1)).trans hHeld.1, (hb4.cell (World.block_lt_of_cell? _ _ hHeld.2)).trans hHeld.2⟩ (fun hHeld => ?_)
  replace hb := below_step hb hb4
  clear hK K hd hb4
  refine norm_ (a' := ?_) (by show Act.put _ (some 14) _ = _; simp only [Act.put, List.setIfInBounds_toArray, List.set_cons_zero, List.set_cons_succ, i64_w, i32_w]; rfl) ?_
  refine pv_ (i := 10) (N := some 15) #[Y_,Y_,Y_,Y_,Y_,Y_,Y_,Y_,Y_,Y_,Y_,N_] (h := ?_)
  refine one_ (i := 11) (N := none) #[Y_,Y_,Y_,Y_,Y_,Y_,Y_,Y_,Y_,Y_,Y_,Y_] rfl rfl (one_of HT_.out (by kernel_rfl)) (by decide) (fun K hK => ?_)
  refine fill_ (g := gb) #[.int .i64 r0, .int .i64 r1] (by rfl) rfl rfl rfl rfl (by rfl) hbox rfl (by kernel_rfl) (by rfl) (fun w6 hbox6 hgr => ?_)
  have hgb' : w.heap.size ≤ gb := Nat.le_of_eq hgb.symm
  refine hK.out _ _ ⟨cell_grown_ hgr hHeld.1 (by have := blk_lt hg; intro h_; injection h_ with h_; simp only at h_; omega), cell_grown_ hgr hHeld.2 (by have := blk_lt hg2; intro h_; injection h_ with h_; simp only at h_; omega)⟩ (fun _ => ?_)
  have hb6 := hb.grown hgr hb.size (fun k_ hk_ => by injection hk_ with hk_; omega)
  clear hK K
  refine done_ (done_of HT_.out (by kernel_rfl)) ?_
  go_wp2
  refine bodyPost_ret (results_cell_row rfl _ _ gb 24 #[.int .i64 r0, .int .i64 r1] (0, 0) _ rfl hbox6 hu24 rfl (by kernel_rfl)) rfl ?_
  exact ⟨rfl, hb6⟩
theorem sum_cut (k : Nat) {A : Option Addr} {c : Nat} {l : List Int} {n : Nat} (hn : l.length = n) {w : World} (hR : Kd.C (Kd.int .u8) w A l.length l) (hC : l.length ≤ c) (r : Int) (h : records_Sum.f k l = some r) {W : World} (hb : Below w.heap.size w W) :
    Calls Try.prog 16 #[.slice A n c] W fun e w' => e = .returned (.int .i64 r) ∧ Drawn0 W w' := by
  have := records_Sum.calls k A c l r W (Kd.C_below hR hb) hC h
  rw [hn] at this
  exact this
theorem cut_take {A0 : Option Addr} {c0 : Nat} {l0 : List Int} {w : World} (hr0 : Kd.C (Kd.int .u8) w A0 l0.length l0) (hc0 : l0.length ≤ c0) (hl : l0.length = 24) :
    (∀ W : World, (Instr.slice 27 (.slice A0 24 c0) none (some (.int .i64 22)) none).run Try.prog W = .ok (.slice A0 22 c0) W) ∧ (l0.take 22).length = 22 ∧ Kd.C (Kd.int .u8) w A0 (l0.take 22).length (l0.take 22) ∧ (l0.take 22).length ≤ c0 := by
  obtain ⟨i0, hi0, _, hsz, _⟩ := info_parts info5
  obtain ⟨hcut, hA, hC⟩ := print_take_of (P := Try.prog) (Value.int .u8) 0 27 5 .i64 Try.underlying27 hi0 hsz A0 c0 l0 22 (by omega) (by omega) hc0
  have hR := Kd.C_of_reads (h1 := fun _ => rfl) (hA _ (Kd.reads_of_C hr0))
  have hlen : (l0.take 22).length = 22 := by rw [List.length_take]; omega
  rw [show (Int.toNat 22) = 22 from rfl, hl, hlen] at hcut
  exact ⟨hcut, hlen, hR, hC⟩
theorem cut_drop {A0 : Option Addr} {c0 : Nat} {l0 : List Int} {w : World} (hr0 : Kd.C (Kd.int .u8) w A0 l0.length l0) (hc0 : l0.length ≤ c0) (hl : l0.length = 24) :
    ∃ A, (∀ W : World, (Instr.slice 27 (.slice A0 24 c0) (some (.int .i64 22)) none none).run Try.prog W = .ok (.slice A 2 (c0 - 22)) W) ∧ (l0.drop 22).length = 2 ∧ Kd.C (Kd.int .u8) w A (l0.drop 22).length (l0.drop 22) ∧ (l0.drop 22).length ≤ c0 - 22 := by
  obtain ⟨i0, hi0, _, hsz, _⟩ := info_parts info5
  obtain ⟨A, hcut, hA, hC⟩ := print_drop_of (P := Try.prog) (Value.int .u8) 0 27 5 .i64 Try.underlying27 hi0 hsz A0 c0 l0 22 (by omega) (by omega) hc0
  have hR := Kd.C_of_reads (h1 := fun _ => rfl) (hA _ (Kd.reads_of_C hr0))
  have hlen : (l0.drop 22).length = 2 := by rw [List.length_drop]; omega
  rw [show (Int.toNat 22) = 22 from rfl, hl, hlen] at hcut
  exact ⟨A, hcut, hlen, hR, hC⟩
/-- The frame's variables in memory. -/
structure RSt (w W : World) (A0 : Option Addr) (c0 g1 gr g2 : Nat) : Prop where
  hb : Below w.heap.size w W
  h1 : W.heap[g1]? = some (.cells #[.slice A0 24 c0] 27 (0, 0))
  hr : W.heap[gr]? = some (.cells #[.int .i64 0, .int .i64 0, .int .i64 0, .int .i64 0, .int .i64 0, .int .i64 0, .int .i64 0] 26 (0, 0))
  h2 : W.heap[g2]? = some (.cells #[.func (.func 39) #[] #[.pointer (some ⟨g1, 0, none⟩)]] 41 (0, 0))
theorem RSt.below {w W W1 : World} {A0 : Option Addr} {c0 g1 gr g2 : Nat} (h : RSt w W A0 c0 g1 gr g2) (hb : Below W.heap.size W W1) : RSt w W1 A0 c0 g1 gr g2 :=
  ⟨below_step h.hb hb, blk_below h.h1 hb, blk_below h.hr hb, blk_below h.h2 hb⟩
/-- And the event's own block. -/
structure RSt3 (w W : World) (A0 : Option Addr) (c0 g1 gr g2 g3 : Nat) : Prop where
  r : RSt w W A0 c0 g1 gr g2
  h3 : W.heap[g3]? = some (.cells #[.int .i64 0, .int .i64 0, .int .i64 0, .int .i64 0, .int .i64 0, .int .i64 0, .int .i64 0] 26 (0, 0))
  n0 : w.heap.size ≤ g3
  n1 : g1 ≠ g3
  nr : gr ≠ g3
  n2 : g2 ≠ g3
theorem RSt3.below {w W W1 : World} {A0 : Option Addr} {c0 g1 gr g2 g3 : Nat} (h : RSt3 w W A0 c0 g1 gr g2 g3) (hb : Below W.heap.size W W1) : RSt3 w W1 A0 c0 g1 gr g2 g3 :=
  ⟨h.r.below hb, blk_below h.h3 hb, h.n0, h.n1, h.nr, h.n2⟩
def records_read.T1 : Bool × List (List Nat × List Nat) := (true, [([], []), ([0], [0]), ([1], [1]), ([2], [2]), ([3], [3]), ([4], [4]), ([5, 4], [4, 5]), ([6, 4, 4], [4, 6]), ([4], [4]), ([8, 4], [4, 8]), ([9, 7, 4], [4, 9]), ([7, 10, 4], [4, 7, 10]), ([4, 11], [4, 11])])
def records_read.B1 : List Nat := [0, 1, 3, 7, 15, 31, 63, 127, 31, 287, 1023, 2047, 4095]
theorem records_read.tab1 : rtab .any (opsOf Try.f35 1) = records_read.T1 := by kernel_rfl
theorem records_read.bits1 : waitsOk records_read.T1.2 records_read.B1 = true := by kernel_rfl
def records_read.T5 : Bool × List (List Nat × List Nat) := (true, [([], []), ([0], [0]), ([1], [1]), ([2], [2]), ([], []), ([4], [4]), ([], []), ([6, 5], [6]), ([], []), ([8, 7], [8]), ([], []), ([10, 9], [10]), ([3, 5, 7, 9, 11], [3, 5, 7, 9, 11]), ([], []), ([13, 12, 11, 0, 1, 2, 3, 4, 5, 6, 7, 8, 9, 10, 11, 12, 13], [12, 13])])
def records_read.B5 : List Nat := [0, 1, 3, 7, 0, 16, 0, 112, 0, 496, 0, 2032, 4095, 0, 16383]
theorem records_read.tab5 : rtab .any (opsOf Try.f35 5) = records_read.T5 := by kernel_rfl
theorem records_read.bits5 : waitsOk records_read.T5.2 records_read.B5 = true := by kernel_rfl
def records_read.T6 : Bool × List (List Nat × List Nat) := (true, [([], []), ([], []), ([1], [1]), ([0, 2, 0], [0]), ([2, 3, 0, 1, 2, 3], [2])])
def records_read.B6 : List Nat := [0, 0, 2, 7, 15]
theorem records_read.tab6 : rtab .any (opsOf Try.f35 6) = records_read.T6 := by kernel_rfl
theorem records_read.bits6 : waitsOk records_read.T6.2 records_read.B6 = true := by kernel_rfl
set_option maxHeartbeats 1000000 in
set_option maxRecDepth 100000 in
theorem records_read.calls (k : Nat) (A0 : Option Addr) (c0 : Nat) (l0 : List Int) (r1 : Int) (r2 : Int) (r3 : Int) (r4 : Int) (r5 : Int) (r6 : Int) (r7 : Int) (r8 : Bool) (w : World) (hr0 : Kd.C (Kd.int .u8) w A0 l0.length l0) (hc0 : l0.length ≤ c0) (h : records_read.f k l0 = some (r1, r2, r3, r4, r5, r6, r7, r8)) :
    Calls Try.prog 35 #[.slice A0 l0.length c0] w fun e w' => e = .returned (.tuple #[.agg #[.int .i64 r1, .int .i64 r2, .int .i64 r3, .int .i64 r4, .int .i64 r5, .int .i64 r6, .int .i64 r7], .bool r8]) ∧ Below w.heap.size w w' := by
  unfold records_read.f at h
  by_cases hl : l0.length = 24
  rotate_left
  · rw [if_neg hl] at h; cases h
  rw [if_pos hl] at h
  have hu26 := Try.underlying26
  obtain ⟨ad, rfl, hx0⟩ := Kd.at_int hr0 0 (by omega) (by omega)
  rw [show ((0 : Int)).toNat = 0 from rfl, Addr.add_zero'] at hx0
  rw [hl]
  have HB := Below.refl w.heap.size w
  go_enter Try.func35, Try.ntmps35
  go_wp2_with (first | ((with_reducible refine gate_dst (N := 1) rfl ?_); refine box_event ?hg (N := 1) ?hd (cs := #[.slice (some ad) 24 c0]) (t := 27) ?hr ?_; (case hd => rfl); (case hg => rfl); (case hr => first | (go_simp; done) | (go_simp; rfl)); intro g1 hg1 w1 hbox1 hb1; have HG1 := Aside0.mk hg1; clear hg1) | ((with_reducible refine gate_dst (N := 2) rfl ?_); refine box_event ?hg (N := 2) ?hd (cs := #[.int .i64 0, .int .i64 0, .int .i64 0, .int .i64 0, .int .i64 0, .int .i64 0, .int .i64 0]) (t := 26) ?hr ?_; (case hd => rfl); (case hg => rfl); (case hr => first | (go_simp; done) | (go_simp; rfl)); intro gr hgr w2 hboxr hb2; have HGr := Aside0.mk hgr; clear hgr))
  have hb0 : Below w.heap.size w w2 := below_step hb1 hb2
  have hbx : w2.heap[g1]? = some (.cells #[.slice (some ad) 24 c0] 27 (0, 0)) := blk_below hbox1 hb2
  have hgr' : w.heap.size ≤ gr := by rw [HGr.out]; exact hb1.size
  have hne : g1 ≠ gr := by rw [HGr.out]; exact Nat.ne_of_lt (blk_lt hbox1)
  clear hb1 hb2 hbox1 HG1 HGr
  have hx : ∀ W, Below w.heap.size w W → W.cell? ad = some (.int .u8 (rd l0 0)) := fun W hW => (hW.cell (World.block_lt_of_cell? _ _ hx0)).trans hx0
  refine start_ (n := 13) (S := fun w' => w'.cell? ⟨g1, 0, none⟩ = some (.slice (some ad) 24 c0) ∧ w'.cell? ad = some (.int .u8 (rd l0 0))) (ds := []) #[N_,N_,N_,N_,N_,N_,N_,N_,N_,N_,N_,N_,N_] (by kernel_rfl) rfl rfl ⟨(blk_cell hbx 0).trans rfl, hx _ (below_drew hb0)⟩ (fun hHeld => ?_)
  refine with_tabW records_read.tab1 records_read.bits1 (fun HT_ HW_ => ?_)
  replace hb0 : Below w.heap.size w w2.drew := below_drew hb0
  replace hboxr : w2.drew.heap[gr]? = some (.cells #[.int .i64 0, .int .i64 0, .int .i64 0, .int .i64 0, .int .i64 0, .int .i64 0, .int .i64 0] 26 (0, 0)) := hboxr
  replace hbx : w2.drew.heap[g1]? = some (.cells #[.slice (some ad) 24 c0] 27 (0, 0)) := hbx
  generalize w2.drew = w3 at hb0 hboxr hbx hHeld ⊢
  refine tv_ (i := 0) (N := some 7) #[Y_,N_,N_,N_,N_,N_,N_,N_,N_,N_,N_,N_,N_] (hy := Or.inl ⟨by rfl, by (rintro w' ⟨s0, s1⟩; go_simp; with_reducible rfl)⟩) (hS := hHeld) (h := ?_)
  refine pv_ (i := 1) (N := some 8) #[Y_,Y_,N_,N_,N_,N_,N_,N_,N_,N_,N_,N_,N_] (h := ?_)
  refine tv_ (i := 2) (N := some 9) #[Y_,Y_,Y_,N_,N_,N_,N_,N_,N_,N_,N_,N_,N_] (hy := Or.inl ⟨by rfl, by (rintro w' ⟨s0, s1⟩; go_simp; with_reducible rfl)⟩) (hS := hHeld) (h := ?_)
  by_cases c1 : rd l0 0 = 193
  rotate_left
  · rw [if_neg c1] at h
    have c1b : (rd l0 0 != 193) = true := bne_iff_ne.mpr c1
    refine pv_ (i := 3) (N := some 10) #[Y_,Y_,Y_,Y_,N_,N_,N_,N_,N_,N_,N_,N_,N_] (h := ?_)
    refine pv_ (i := 4) (N := some 11) #[Y_,Y_,Y_,Y_,Y_,N_,N_,N_,N_,N_,N_,N_,N_] (h := ?_)
    refine pn_ (i := 5) (N := some 12) #[Y_,Y_,Y_,Y_,Y_,Y_,N_,N_,N_,N_,N_,N_,N_] (h := ?_)
    refine pn_ (i := 6) (N := some 13) #[Y_,Y_,Y_,Y_,Y_,Y_,Y_,N_,N_,N_,N_,N_,N_] (h := ?_)
    refine pn_ (i := 7) (N := some 14) #[Y_,Y_,Y_,Y_,Y_,Y_,Y_,Y_,N_,N_,N_,N_,N_] (h := ?_)
    refine pn_ (i := 8) (N := some 15) #[Y_,Y_,Y_,Y_,Y_,Y_,Y_,Y_,Y_,N_,N_,N_,N_] (h := ?_)
    refine pn_ (i := 9) (N := some 16) #[Y_,Y_,Y_,Y_,Y_,Y_,Y_,Y_,Y_,Y_,N_,N_,N_] (h := ?_)
    refine pn_ (i := 10) (N := some 17) #[Y_,Y_,Y_,Y_,Y_,Y_,Y_,Y_,Y_,Y_,Y_,N_,N_] (h := ?_)
    refine pn_ (i := 11) (N := some 18) #[Y_,Y_,Y_,Y_,Y_,Y_,Y_,Y_,Y_,Y_,Y_,Y_,N_] (h := ?_)
    refine pv_ (i := 12) (N := some 19) #[Y_,Y_,Y_,Y_,Y_,Y_,Y_,Y_,Y_,Y_,Y_,Y_,Y_] (h := ?_)
    simp only [Option.some.injEq, Prod.mk.injEq] at h
    obtain ⟨rfl, rfl, rfl, rfl, rfl, rfl, rfl, rfl⟩ := h
    refine done_ (done_of HT_.out (by kernel_rfl)) ?_
    go_wp2_with (first | ((with_reducible refine gate_store (t := 26) (p := 2) rfl ?_); refine fillL_ (g := gr) #[.int .i64 0, .int .i64 0, .int .i64 0, .int .i64 0, .int .i64 0, .int .i64 0, .int .i64 0] rfl rfl rfl rfl rfl (by rfl) hboxr rfl (by kernel_rfl) (by rfl) (fun w4 hbr4 hgr4 => ?_)))
    refine bodyPost_ret (results_ct rfl _ _ gr 26 #[.int .i64 0, .int .i64 0, .int .i64 0, .int .i64 0, .int .i64 0, .int .i64 0, .int .i64 0] (0, 0) _ rfl hbr4 hu26 rfl (by kernel_rfl)) rfl ?_
    exact ⟨rfl, hb0.grown hgr4 hb0.size (fun k_ hk_ => by injection hk_ with hk_; omega)⟩
  rw [if_pos c1] at h
  have c1b : (rd l0 0 != 193) = false := bne_eq_false_iff_eq.mpr c1
  obtain ⟨s_, hs, h⟩ := Option.bind_eq_some_iff.mp h
  obtain ⟨c_, hc, h⟩ := Option.bind_eq_some_iff.mp h
  obtain ⟨hcutS, hlS, hRS, hCS⟩ := cut_take hr0 hc0 hl
  obtain ⟨AG, hcutG, hlG, hRG, hCG⟩ := cut_drop hr0 hc0 hl
  refine pv_ (i := 3) (N := some 10) #[Y_,Y_,Y_,Y_,N_,N_,N_,N_,N_,N_,N_,N_,N_] (h := ?_)
  refine pv_ (i := 4) (N := some 11) #[Y_,Y_,Y_,Y_,Y_,N_,N_,N_,N_,N_,N_,N_,N_] (h := ?_)
  refine tv_ (i := 5) (N := some 12) #[Y_,Y_,Y_,Y_,Y_,Y_,N_,N_,N_,N_,N_,N_,N_] (hy := Or.inl ⟨by rfl, by (rintro w' ⟨s0, s1⟩; go_simp; with_reducible rfl)⟩) (hS := hHeld) (h := ?_)
  refine pv_ (i := 6) (N := some 13) #[Y_,Y_,Y_,Y_,Y_,Y_,Y_,N_,N_,N_,N_,N_,N_] (h := ?_)
  refine tv_ (i := 8) (N := some 15) #[Y_,Y_,Y_,Y_,Y_,Y_,Y_,N_,Y_,N_,N_,N_,N_] (hy := Or.inl ⟨by rfl, by (rintro w' ⟨s0, s1⟩; go_simp; with_reducible rfl)⟩) (hS := hHeld) (h := ?_)
  refine pv_ (i := 9) (N := some 16) #[Y_,Y_,Y_,Y_,Y_,Y_,Y_,N_,Y_,Y_,N_,N_,N_] (h := ?_)
  refine one_ (i := 7) (N := some 14) #[Y_,Y_,Y_,Y_,Y_,Y_,Y_,Y_,Y_,Y_,N_,N_,N_] rfl rfl (one_of HT_.out (by kernel_rfl)) (by decide) (fun K hK => ?_)
  refine goes_ Try.func38 (by kernel_rfl) rfl #[.slice AG 2 (c0 - 22)] (by rfl) rfl rfl (by simp only [List.map_toArray, List.map_cons, List.map_nil]; rfl) ?_
  refine (get_cut k hlG hRG hCG s_ hs hb0).mono ?_
  rintro e w4 ⟨rfl, hd⟩
  refine ⟨_, rfl, ?_⟩
  have hd := hd.below
  replace hboxr := blk_below hboxr hd
  replace hbx := blk_below hbx hd
  replace hb0 := below_step hb0 hd
  refine hK.out _ _ ⟨(blk_cell hbx 0).trans rfl, hx _ hb0⟩ (fun hHeld => ?_)
  clear hK K hd
  refine norm_ (a' := ?_) (by show Act.put _ (some 14) _ = _; simp only [Act.put, List.setIfInBounds_toArray, List.set_cons_zero, List.set_cons_succ, i64_w, i32_w]; rfl) ?_
  refine one_ (i := 10) (N := some 17) #[Y_,Y_,Y_,Y_,Y_,Y_,Y_,Y_,Y_,Y_,Y_,N_,N_] rfl rfl (one_of HT_.out (by kernel_rfl)) (by decide) (fun K hK => ?_)
  refine goes_ Try.func16 (by kernel_rfl) rfl #[.slice (some ad) 22 c0] (by rfl) rfl rfl (by simp only [List.map_toArray, List.map_cons, List.map_nil]; rfl) ?_
  refine (sum_cut k hlS hRS hCS c_ hc hb0).mono ?_
  rintro e w4 ⟨rfl, hd⟩
  refine ⟨_, rfl, ?_⟩
  have hd := hd.below
  replace hboxr := blk_below hboxr hd
  replace hbx := blk_below hbx hd
  replace hb0 := below_step hb0 hd
  refine hK.out _ _ ⟨(blk_cell hbx 0).trans rfl, hx _ hb0⟩ (fun hHeld => ?_)
  clear hK K hd
  refine norm_ (a' := ?_) (by show Act.put _ (some 17) _ = _; simp only [Act.put, List.setIfInBounds_toArray, List.set_cons_zero, List.set_cons_succ, i64_w, i32_w]; rfl) ?_
  by_cases c2 : s_ = c_
  rotate_left
  · rw [if_neg c2] at h
    have c2b : (s_ != c_) = true := bne_iff_ne.mpr c2
    refine pv_ (i := 11) (N := some 18) #[Y_,Y_,Y_,Y_,Y_,Y_,Y_,Y_,Y_,Y_,Y_,Y_,N_] (h := ?_)
    refine pv_ (i := 12) (N := some 19) #[Y_,Y_,Y_,Y_,Y_,Y_,Y_,Y_,Y_,Y_,Y_,Y_,Y_] (h := ?_)
    simp only [Option.some.injEq, Prod.mk.injEq] at h
    obtain ⟨rfl, rfl, rfl, rfl, rfl, rfl, rfl, rfl⟩ := h
    refine done_ (done_of HT_.out (by kernel_rfl)) ?_
    go_wp2_with (first | ((with_reducible refine gate_store (t := 26) (p := 2) rfl ?_); refine fillL_ (g := gr) #[.int .i64 0, .int .i64 0, .int .i64 0, .int .i64 0, .int .i64 0, .int .i64 0, .int .i64 0] rfl rfl rfl rfl rfl (by rfl) hboxr rfl (by kernel_rfl) (by rfl) (fun w4 hbr4 hgr4 => ?_)))
    refine bodyPost_ret (results_ct rfl _ _ gr 26 #[.int .i64 0, .int .i64 0, .int .i64 0, .int .i64 0, .int .i64 0, .int .i64 0, .int .i64 0] (0, 0) _ rfl hbr4 hu26 rfl (by kernel_rfl)) rfl ?_
    exact ⟨rfl, hb0.grown hgr4 hb0.size (fun k_ hk_ => by injection hk_ with hk_; omega)⟩
  rw [if_pos c2] at h
  have c2b : (s_ != c_) = false := bne_eq_false_iff_eq.mpr c2
  refine pv_ (i := 11) (N := some 18) #[Y_,Y_,Y_,Y_,Y_,Y_,Y_,Y_,Y_,Y_,Y_,Y_,N_] (h := ?_)
  refine pv_ (i := 12) (N := some 19) #[Y_,Y_,Y_,Y_,Y_,Y_,Y_,Y_,Y_,Y_,Y_,Y_,Y_] (h := ?_)
  refine done_ (done_of HT_.out (by kernel_rfl)) ?_
  obtain ⟨t0, g0, h⟩ := Option.bind_eq_some_iff.mp h
  obtain ⟨t1, g1', h⟩ := Option.bind_eq_some_iff.mp h
  obtain ⟨t2, g2', h⟩ := Option.bind_eq_some_iff.mp h
  obtain ⟨t3, q3, h⟩ := Option.bind_eq_some_iff.mp h
  obtain ⟨t4, g4, h⟩ := Option.bind_eq_some_iff.mp h
  obtain ⟨t5, g5, h⟩ := Option.bind_eq_some_iff.mp h
  obtain ⟨v_, hv, h⟩ := Option.bind_eq_some_iff.mp h
  simp only [Option.some.injEq, Prod.mk.injEq] at h
  obtain ⟨rfl, rfl, rfl, rfl, rfl, rfl, rfl, rfl⟩ := h
  go_wp2_with (first | ((with_reducible refine gate_dst (N := 4) rfl ?_); refine box_event ?hg (N := 4) ?hd (cs := #[.nilFunc]) (t := 41) ?hr ?_; (case hd => rfl); (case hg => rfl); (case hr => first | (go_simp; done) | (go_simp; rfl)); intro g2 hg2 w5 hbox2 hb2; have HG2 := Aside0.mk hg2; clear hg2) | ((with_reducible refine gate_store (t := 41) (p := 4) rfl ?_); refine fillL_ (g := g2) #[.func (.func 39) #[] #[.pointer (some ⟨g1, 0, none⟩)]] rfl rfl rfl rfl rfl (by rfl) hbox2 rfl (by kernel_rfl) (by rfl) (fun w6 hbox6 hgr6 => ?_)))
  have hge2 : w.heap.size ≤ g2 := by rw [HG2.out]; exact hb0.size
  have hne2 : g1 ≠ g2 := by rw [HG2.out]; exact Nat.ne_of_lt (blk_lt hbx)
  have hner : gr ≠ g2 := by rw [HG2.out]; exact Nat.ne_of_lt (blk_lt hboxr)
  have HR : RSt w w6 (some ad) c0 g1 gr g2 := ⟨(below_step hb0 hb2).grown hgr6 (below_step hb0 hb2).size (fun k_ hk_ => by injection hk_ with hk_; omega), blk_grown (blk_below hbx hb2) hgr6 (by intro h_; injection h_ with h_; omega), blk_grown (blk_below hboxr hb2) hgr6 (by intro h_; injection h_ with h_; omega), hbox6⟩
  clear hbox6 hgr6 hbox2 hb2 HG2 hboxr hbx hb0
  obtain ⟨ad', e_, hx1⟩ := Kd.at_int hr0 1 (by omega) (by omega)
  obtain rfl : ad = ad' := by injection e_
  simp only [show (1 : Int).toNat = 1 from rfl, Nat.reduceMul, Nat.reduceEqDiff, Go.Addr.add, ↓reduceIte] at hx1
  have HS : ∀ W, RSt w W (some ad) c0 g1 gr g2 → W.cell? ⟨g1, 0, none⟩ = some (.slice (some ad) 24 c0) ∧ W.cell? ⟨g2, 0, none⟩ = some (.func (.func 39) #[] #[.pointer (some ⟨g1, 0, none⟩)]) ∧ W.cell? ⟨ad.block, ad.off + 1, none⟩ = some (.int .u8 (rd l0 1)) :=
    fun W h_ => ⟨(blk_cell h_.h1 0).trans rfl, (blk_cell h_.h2 0).trans rfl, (h_.hb.cell (World.block_lt_of_cell? _ _ hx1)).trans hx1⟩
  go_wp2
  refine start_ (n := 15) (S := fun w' => w'.cell? ⟨g1, 0, none⟩ = some (.slice (some ad) 24 c0) ∧ w'.cell? ⟨g2, 0, none⟩ = some (.func (.func 39) #[] #[.pointer (some ⟨g1, 0, none⟩)]) ∧ w'.cell? ⟨ad.block, ad.off + 1, none⟩ = some (.int .u8 (rd l0 1))) (ds := []) #[N_,N_,N_,N_,N_,N_,N_,N_,N_,N_,N_,N_,N_,N_,N_] (by kernel_rfl) rfl rfl (HS _ (HR.below (below_drew (Below.refl _ _)))) (fun hHeld => ?_)
  refine with_tabW records_read.tab5 records_read.bits5 (fun HT_ HW_ => ?_)
  replace HR : RSt w w6.drew (some ad) c0 g1 gr g2 := HR.below (below_drew (Below.refl _ _))
  generalize w6.drew = w7 at HR hHeld ⊢
  refine tv_ (i := 0) (N := some 23) #[Y_,N_,N_,N_,N_,N_,N_,N_,N_,N_,N_,N_,N_,N_,N_] (hy := Or.inl ⟨by rfl, by (rintro w' ⟨s0, s1, s2⟩; go_simp; with_reducible rfl)⟩) (hS := hHeld) (h := ?_)
  refine pv_ (i := 1) (N := some 24) #[Y_,Y_,N_,N_,N_,N_,N_,N_,N_,N_,N_,N_,N_,N_,N_] (h := ?_)
  refine tv_ (i := 2) (N := some 25) #[Y_,Y_,Y_,N_,N_,N_,N_,N_,N_,N_,N_,N_,N_,N_,N_] (hy := Or.inl ⟨by rfl, by (rintro w' ⟨s0, s1, s2⟩; go_simp; with_reducible rfl)⟩) (hS := hHeld) (h := ?_)
  refine pv_ (i := 3) (N := some 26) #[Y_,Y_,Y_,Y_,N_,N_,N_,N_,N_,N_,N_,N_,N_,N_,N_] (h := ?_)
  refine pv_ (i := 4) (N := some 27) #[Y_,Y_,Y_,Y_,Y_,N_,N_,N_,N_,N_,N_,N_,N_,N_,N_] (h := ?_)
  refine tv_ (i := 6) (N := some 29) #[Y_,Y_,Y_,Y_,Y_,N_,Y_,N_,N_,N_,N_,N_,N_,N_,N_] (hy := Or.inl ⟨by rfl, by (rintro w' ⟨s0, s1, s2⟩; go_simp; with_reducible rfl)⟩) (hS := hHeld) (h := ?_)
  refine tv_ (i := 8) (N := some 31) #[Y_,Y_,Y_,Y_,Y_,N_,Y_,N_,Y_,N_,N_,N_,N_,N_,N_] (hy := Or.inl ⟨by rfl, by (rintro w' ⟨s0, s1, s2⟩; go_simp; with_reducible rfl)⟩) (hS := hHeld) (h := ?_)
  refine pv_ (i := 10) (N := some 33) #[Y_,Y_,Y_,Y_,Y_,N_,Y_,N_,Y_,N_,Y_,N_,N_,N_,N_] (h := ?_)
  refine join_ (σ := Nat) 1 #[Y_,Y_,Y_,Y_,Y_,Y_,Y_,Y_,Y_,Y_,Y_,Y_,Y_,Y_,N_] (fun g3 => [(28, .agg #[.int .i64 t0, .int .i64 t1]), (30, .int .i64 t2), (32, .int .i64 t3), (34, .agg #[.int .i64 t4, .int .i64 t5]), (6, .pointer (some ⟨g3, 0, none⟩)), (35, .agg #[.int .i64 t0, .int .i64 t1, .int .i64 t2, .int .i64 t3, .int .i64 (wrap64 (rd l0 1)), .int .i64 t4, .int .i64 t5])]) (fun g3 w' => RSt3 w w' (some ad) c0 g1 gr g2 g3) ?_ (fun hJ4 => ?_)
  · rintro g3 w' H3
    have HR := H3.r
    have hHeld := HS _ HR
    refine norm_ (a' := ?_) (by simp only [putAll, Act.put, List.setIfInBounds_toArray, List.set_cons_zero, List.set_cons_succ]; rfl) ?_
    refine one_ (i := 14) (N := none) #[Y_,Y_,Y_,Y_,Y_,Y_,Y_,Y_,Y_,Y_,Y_,Y_,Y_,Y_,Y_] rfl rfl (one_of HT_.out (by kernel_rfl)) (by decide) (fun K hK => ?_)
    refine fill_ (g := g3) #[.int .i64 t0, .int .i64 t1, .int .i64 t2, .int .i64 t3, .int .i64 (wrap64 (rd l0 1)), .int .i64 t4, .int .i64 t5] (by rfl) rfl rfl rfl rfl (by rfl) H3.h3 rfl (by kernel_rfl) (by rfl) (fun w8 hb3 hgr8 => ?_)
    have hn1 := H3.n1
    have hnr := H3.nr
    have hn2 := H3.n2
    have hn0 := H3.n0
    have HR8 : RSt w w8 (some ad) c0 g1 gr g2 := ⟨HR.hb.grown hgr8 HR.hb.size (fun k_ hk_ => by injection hk_ with hk_; omega), blk_grown HR.h1 hgr8 (by intro h_; injection h_ with h_; omega), blk_grown HR.hr hgr8 (by intro h_; injection h_ with h_; omega), blk_grown HR.h2 hgr8 (by intro h_; injection h_ with h_; omega)⟩
    refine hK.out _ _ (HS _ HR8) (fun _ => ?_)
    clear hK K HR H3 hHeld hgr8
    refine done_ (done_of HT_.out (by kernel_rfl)) ?_
    go_wp2
    refine start_ (n := 5) (S := fun w' => w'.cell? ⟨g3, 0, none⟩ = some (.int .i64 t0) ∧ w'.cell? ⟨g3, 1, none⟩ = some (.int .i64 t1) ∧ w'.cell? ⟨g3, 2, none⟩ = some (.int .i64 t2) ∧ w'.cell? ⟨g3, 3, none⟩ = some (.int .i64 t3) ∧ w'.cell? ⟨g3, 4, none⟩ = some (.int .i64 (wrap64 (rd l0 1))) ∧ w'.cell? ⟨g3, 5, none⟩ = some (.int .i64 t4) ∧ w'.cell? ⟨g3, 6, none⟩ = some (.int .i64 t5)) (ds := []) #[N_,N_,N_,N_,N_] (by kernel_rfl) rfl rfl ⟨(blk_cell hb3 0).trans rfl, (blk_cell hb3 1).trans rfl, (blk_cell hb3 2).trans rfl, (blk_cell hb3 3).trans rfl, (blk_cell hb3 4).trans rfl, (blk_cell hb3 5).trans rfl, (blk_cell hb3 6).trans rfl⟩ (fun hHeld => ?_)
    refine with_tabW records_read.tab6 records_read.bits6 (fun HT_ HW_ => ?_)
    replace HR8 : RSt w w8.drew (some ad) c0 g1 gr g2 := HR8.below (below_drew (Below.refl _ _))
    replace hb3 : w8.drew.heap[g3]? = some (.cells #[.int .i64 t0, .int .i64 t1, .int .i64 t2, .int .i64 t3, .int .i64 (wrap64 (rd l0 1)), .int .i64 t4, .int .i64 t5] 26 (0, 0)) := hb3
    generalize w8.drew = w9 at HR8 hb3 hHeld ⊢
    refine tv_ (i := 0) (N := some 36) #[Y_,N_,N_,N_,N_] (hy := Or.inl ⟨by rfl, by (rintro w' ⟨s0, s1, s2, s3, s4, s5, s6⟩; go_simp; with_reducible rfl)⟩) (hS := hHeld) (h := ?_)
    refine tv_ (i := 1) (N := some 37) #[Y_,Y_,N_,N_,N_] (hy := Or.inl ⟨by rfl, by (rintro w' ⟨s0, s1, s2, s3, s4, s5, s6⟩; go_simp; with_reducible rfl)⟩) (hS := hHeld) (h := ?_)
    refine one_ (i := 2) (N := some 38) #[Y_,Y_,Y_,N_,N_] rfl rfl (one_of HT_.out (by kernel_rfl)) (by decide) (fun K hK => ?_)
    refine goes_ Try.func14 (by kernel_rfl) rfl #[.agg #[.int .i64 t0, .int .i64 t1, .int .i64 t2, .int .i64 t3, .int .i64 (wrap64 (rd l0 1)), .int .i64 t4, .int .i64 t5]] (by rfl) rfl rfl (by simp only [List.map_toArray, List.map_cons, List.map_nil]; rfl) ?_
    refine (records_Valid.calls k t0 t1 t2 t3 (wrap64 (rd l0 1)) t4 t5 v_ _ hv).mono ?_
    rintro e w10 ⟨rfl, hd⟩
    refine ⟨_, rfl, ?_⟩
    replace HR8 := HR8.below hd
    replace hb3 := blk_below hb3 hd
    refine hK.out _ _ ⟨(blk_cell hb3 0).trans rfl, (blk_cell hb3 1).trans rfl, (blk_cell hb3 2).trans rfl, (blk_cell hb3 3).trans rfl, (blk_cell hb3 4).trans rfl, (blk_cell hb3 5).trans rfl, (blk_cell hb3 6).trans rfl⟩ (fun hHeld => ?_)
    clear hK K hd
    refine norm_ (a' := ?_) (by show Act.put _ (some 38) _ = _; simp only [Act.put, List.setIfInBounds_toArray, List.set_cons_zero, List.set_cons_succ, i64_w, i32_w]; rfl) ?_
    refine one_ (i := 3) (N := none) #[Y_,Y_,Y_,Y_,N_] rfl rfl (one_of HT_.out (by kernel_rfl)) (by decide) (fun K hK => ?_)
    refine fill_ (g := gr) #[.int .i64 t0, .int .i64 t1, .int .i64 t2, .int .i64 t3, .int .i64 (wrap64 (rd l0 1)), .int .i64 t4, .int .i64 t5] (by rfl) rfl rfl rfl rfl (by rfl) HR8.hr rfl (by kernel_rfl) (by rfl) (fun w11 hbr hgr11 => ?_)
    have hb3' := blk_grown hb3 hgr11 (by intro h_; injection h_ with h_; omega)
    refine hK.out _ _ ⟨(blk_cell hb3' 0).trans rfl, (blk_cell hb3' 1).trans rfl, (blk_cell hb3' 2).trans rfl, (blk_cell hb3' 3).trans rfl, (blk_cell hb3' 4).trans rfl, (blk_cell hb3' 5).trans rfl, (blk_cell hb3' 6).trans rfl⟩ (fun _ => ?_)
    clear hK K
    refine pv_ (i := 4) (N := some 3) #[Y_,Y_,Y_,Y_,Y_] (h := ?_)
    refine done_ (done_of HT_.out (by kernel_rfl)) ?_
    go_wp2
    refine bodyPost_ret (results_ct rfl _ _ gr 26 #[.int .i64 t0, .int .i64 t1, .int .i64 t2, .int .i64 t3, .int .i64 (wrap64 (rd l0 1)), .int .i64 t4, .int .i64 t5] (0, 0) _ rfl hbr hu26 rfl (by kernel_rfl)) rfl ?_
    exact ⟨rfl, HR8.hb.grown hgr11 HR8.hb.size (fun k_ hk_ => by injection hk_ with hk_; omega)⟩
  refine join_ (σ := Nat) 3 #[Y_,Y_,Y_,Y_,Y_,Y_,Y_,Y_,Y_,Y_,Y_,N_,N_,Y_,N_] (fun g3 => [(28, .agg #[.int .i64 t0, .int .i64 t1]), (30, .int .i64 t2), (32, .int .i64 t3), (6, .pointer (some ⟨g3, 0, none⟩))]) (fun g3 w' => RSt3 w w' (some ad) c0 g1 gr g2 g3) ?_ (fun hJ3 => ?_)
  · rintro g3 w' H3
    have HR := H3.r
    have hHeld := HS _ HR
    refine norm_ (a' := ?_) (by simp only [putAll, Act.put, List.setIfInBounds_toArray, List.set_cons_zero, List.set_cons_succ]; rfl) ?_
    refine one_ (i := 11) (N := some 34) #[Y_,Y_,Y_,Y_,Y_,Y_,Y_,Y_,Y_,Y_,Y_,Y_,N_,Y_,N_] rfl rfl (one_of HT_.out (by kernel_rfl)) (by decide) (fun K hK => ?_)
    refine call_ 40 #[.int .i64 16, .pointer (some ⟨g1, 0, none⟩), .pointer (some ⟨g2, 0, none⟩)] (by rfl) rfl (by go_simp) ?_
    refine (key_calls k (some ad) c0 l0 16 t4 t5 g1 g2 _ HR.h1 HR.h2 (Kd.C_below hr0 HR.hb) hc0 hl (by omega) (by omega) g4 g5).mono ?_
    rintro e w8 ⟨rfl, hd⟩
    refine ⟨_, rfl, ?_⟩
    replace H3 := H3.below hd
    refine hK.out _ _ (HS _ H3.r) (fun hHeld => ?_)
    clear hK K hd
    refine norm_ (a' := ?_) (by show Act.put _ (some 34) _ = _; simp only [Act.put, List.setIfInBounds_toArray, List.set_cons_zero, List.set_cons_succ, i64_w, i32_w]; rfl) ?_
    refine pv_ (i := 12) (N := some 35) #[Y_,Y_,Y_,Y_,Y_,Y_,Y_,Y_,Y_,Y_,Y_,Y_,Y_,Y_,N_] (h := ?_)
    exact norm_ (by simp only [putAll, Act.put, List.setIfInBounds_toArray, List.set_cons_zero, List.set_cons_succ]; try rfl) (hJ4 g3 _ H3)
  refine join_ (σ := Nat) 4 #[Y_,Y_,Y_,Y_,Y_,Y_,Y_,Y_,Y_,N_,Y_,N_,N_,Y_,N_] (fun g3 => [(28, .agg #[.int .i64 t0, .int .i64 t1]), (30, .int .i64 t2), (6, .pointer (some ⟨g3, 0, none⟩))]) (fun g3 w' => RSt3 w w' (some ad) c0 g1 gr g2 g3) ?_ (fun hJ2 => ?_)
  · rintro g3 w' H3
    have HR := H3.r
    have hHeld := HS _ HR
    refine norm_ (a' := ?_) (by simp only [putAll, Act.put, List.setIfInBounds_toArray, List.set_cons_zero, List.set_cons_succ]; rfl) ?_
    refine one_ (i := 9) (N := some 32) #[Y_,Y_,Y_,Y_,Y_,Y_,Y_,Y_,Y_,Y_,Y_,N_,N_,Y_,N_] rfl rfl (one_of HT_.out (by kernel_rfl)) (by decide) (fun K hK => ?_)
    refine call_ 39 #[.int .i64 12, .pointer (some ⟨g1, 0, none⟩)] (by rfl) rfl (by go_simp) ?_
    refine (number_calls k (some ad) c0 l0 12 t3 g1 _ HR.h1 (Kd.C_below hr0 HR.hb) hc0 hl (by omega) (by omega) q3).mono ?_
    rintro e w8 ⟨rfl, hd⟩
    replace hd := hd.below
    refine ⟨_, rfl, ?_⟩
    replace H3 := H3.below hd
    refine hK.out _ _ (HS _ H3.r) (fun hHeld => ?_)
    clear hK K hd
    refine norm_ (a' := ?_) (by show Act.put _ (some 32) _ = _; simp only [Act.put, List.setIfInBounds_toArray, List.set_cons_zero, List.set_cons_succ, i64_w, i32_w]; rfl) ?_
    exact norm_ (by simp only [putAll, Act.put, List.setIfInBounds_toArray, List.set_cons_zero, List.set_cons_succ]; try rfl) (hJ3 g3 _ H3)
  refine join_ (σ := Nat) 5 #[Y_,Y_,Y_,Y_,Y_,Y_,Y_,N_,Y_,N_,Y_,N_,N_,Y_,N_] (fun g3 => [(28, .agg #[.int .i64 t0, .int .i64 t1]), (6, .pointer (some ⟨g3, 0, none⟩))]) (fun g3 w' => RSt3 w w' (some ad) c0 g1 gr g2 g3) ?_ (fun hJ1 => ?_)
  · rintro g3 w' H3
    have HR := H3.r
    have hHeld := HS _ HR
    refine norm_ (a' := ?_) (by simp only [putAll, Act.put, List.setIfInBounds_toArray, List.set_cons_zero, List.set_cons_succ]; rfl) ?_
    refine one_ (i := 7) (N := some 30) #[Y_,Y_,Y_,Y_,Y_,Y_,Y_,Y_,Y_,N_,Y_,N_,N_,Y_,N_] rfl rfl (one_of HT_.out (by kernel_rfl)) (by decide) (fun K hK => ?_)
    refine call_ 39 #[.int .i64 8, .pointer (some ⟨g1, 0, none⟩)] (by rfl) rfl (by go_simp) ?_
    refine (number_calls k (some ad) c0 l0 8 t2 g1 _ HR.h1 (Kd.C_below hr0 HR.hb) hc0 hl (by omega) (by omega) g2').mono ?_
    rintro e w8 ⟨rfl, hd⟩
    replace hd := hd.below
    refine ⟨_, rfl, ?_⟩
    replace H3 := H3.below hd
    refine hK.out _ _ (HS _ H3.r) (fun hHeld => ?_)
    clear hK K hd
    refine norm_ (a' := ?_) (by show Act.put _ (some 30) _ = _; simp only [Act.put, List.setIfInBounds_toArray, List.set_cons_zero, List.set_cons_succ, i64_w, i32_w]; rfl) ?_
    exact norm_ (by simp only [putAll, Act.put, List.setIfInBounds_toArray, List.set_cons_zero, List.set_cons_succ]; try rfl) (hJ2 g3 _ H3)
  refine join_ (σ := Nat) 6 #[Y_,Y_,Y_,Y_,Y_,N_,Y_,N_,Y_,N_,Y_,N_,N_,Y_,N_] (fun g3 => [(6, .pointer (some ⟨g3, 0, none⟩))]) (fun g3 w' => RSt3 w w' (some ad) c0 g1 gr g2 g3) ?_ (fun hJ0 => ?_)
  · rintro g3 w' H3
    have HR := H3.r
    have hHeld := HS _ HR
    refine norm_ (a' := ?_) (by simp only [putAll, Act.put, List.setIfInBounds_toArray, List.set_cons_zero, List.set_cons_succ]; rfl) ?_
    refine one_ (i := 5) (N := some 28) #[Y_,Y_,Y_,Y_,Y_,Y_,Y_,N_,Y_,N_,Y_,N_,N_,Y_,N_] rfl rfl (one_of HT_.out (by kernel_rfl)) (by decide) (fun K hK => ?_)
    refine call_ 40 #[.int .i64 2, .pointer (some ⟨g1, 0, none⟩), .pointer (some ⟨g2, 0, none⟩)] (by rfl) rfl (by go_simp) ?_
    refine (key_calls k (some ad) c0 l0 2 t0 t1 g1 g2 _ HR.h1 HR.h2 (Kd.C_below hr0 HR.hb) hc0 hl (by omega) (by omega) g0 g1').mono ?_
    rintro e w8 ⟨rfl, hd⟩
    refine ⟨_, rfl, ?_⟩
    replace H3 := H3.below hd
    refine hK.out _ _ (HS _ H3.r) (fun hHeld => ?_)
    clear hK K hd
    refine norm_ (a' := ?_) (by show Act.put _ (some 28) _ = _; simp only [Act.put, List.setIfInBounds_toArray, List.set_cons_zero, List.set_cons_succ, i64_w, i32_w]; rfl) ?_
    exact norm_ (by simp only [putAll, Act.put, List.setIfInBounds_toArray, List.set_cons_zero, List.set_cons_succ]; try rfl) (hJ1 g3 _ H3)
  refine two_ (i := 5) (j := 13) (Ni := some 28) (Nj := some 6) #[Y_,Y_,Y_,Y_,Y_,Y_,Y_,N_,Y_,N_,Y_,N_,N_,N_,N_] #[Y_,Y_,Y_,Y_,Y_,N_,Y_,N_,Y_,N_,Y_,N_,N_,Y_,N_] rfl rfl rfl rfl (two_of HT_.out (by kernel_rfl)) (by decide) (by decide) (fun K hK => ?go5) (fun K hK => ?or5_13)
  case or5_13 =>
    refine box_step ?hg (N := 6) ?hd (cs := #[.int .i64 0, .int .i64 0, .int .i64 0, .int .i64 0, .int .i64 0, .int .i64 0, .int .i64 0]) (t := 26) ?hr ?_; (case hd => rfl); (case hg => rfl); (case hr => first | (go_simp; done) | (go_simp; rfl))
    intro g3 hg3 w9 hbox hb
    have H3 : RSt3 w w9 (some ad) c0 g1 gr g2 g3 := ⟨HR.below hb, hbox, by rw [hg3]; exact HR.hb.size, by rw [hg3]; exact Nat.ne_of_lt (blk_lt HR.h1), by rw [hg3]; exact Nat.ne_of_lt (blk_lt HR.hr), by rw [hg3]; exact Nat.ne_of_lt (blk_lt HR.h2)⟩
    clear hg3 hbox hb
    refine hK.out _ _ (HS _ H3.r) (fun hHeld => ?_)
    clear hK K
    refine norm_ (a' := ?_) (by show Act.put _ (some 6) _ = _; simp only [Act.put, List.setIfInBounds_toArray, List.set_cons_zero, List.set_cons_succ, i64_w, i32_w]; rfl) ?_
    exact norm_ (by simp only [putAll, Act.put, List.setIfInBounds_toArray, List.set_cons_zero, List.set_cons_succ]; try rfl) (hJ0 g3 _ H3)
  refine call_ 40 #[.int .i64 2, .pointer (some ⟨g1, 0, none⟩), .pointer (some ⟨g2, 0, none⟩)] (by rfl) rfl (by go_simp) ?_
  refine (key_calls k (some ad) c0 l0 2 t0 t1 g1 g2 _ HR.h1 HR.h2 (Kd.C_below hr0 HR.hb) hc0 hl (by omega) (by omega) g0 g1').mono ?_
  rintro e w8 ⟨rfl, hd⟩
  refine ⟨_, rfl, ?_⟩
  replace HR := HR.below hd
  refine hK.out _ _ (HS _ HR) (fun hHeld => ?_)
  clear hK K hd
  refine norm_ (a' := ?_) (by show Act.put _ (some 28) _ = _; simp only [Act.put, List.setIfInBounds_toArray, List.set_cons_zero, List.set_cons_succ, i64_w, i32_w]; rfl) ?_
  refine two_ (i := 7) (j := 13) (Ni := some 30) (Nj := some 6) #[Y_,Y_,Y_,Y_,Y_,Y_,Y_,Y_,Y_,N_,Y_,N_,N_,N_,N_] #[Y_,Y_,Y_,Y_,Y_,Y_,Y_,N_,Y_,N_,Y_,N_,N_,Y_,N_] rfl rfl rfl rfl (two_of HT_.out (by kernel_rfl)) (by decide) (by decide) (fun K hK => ?go7) (fun K hK => ?or7_13)
  case or7_13 =>
    refine box_step ?hg (N := 6) ?hd (cs := #[.int .i64 0, .int .i64 0, .int .i64 0, .int .i64 0, .int .i64 0, .int .i64 0, .int .i64 0]) (t := 26) ?hr ?_; (case hd => rfl); (case hg => rfl); (case hr => first | (go_simp; done) | (go_simp; rfl))
    intro g3 hg3 w9 hbox hb
    have H3 : RSt3 w w9 (some ad) c0 g1 gr g2 g3 := ⟨HR.below hb, hbox, by rw [hg3]; exact HR.hb.size, by rw [hg3]; exact Nat.ne_of_lt (blk_lt HR.h1), by rw [hg3]; exact Nat.ne_of_lt (blk_lt HR.hr), by rw [hg3]; exact Nat.ne_of_lt (blk_lt HR.h2)⟩
    clear hg3 hbox hb
    refine hK.out _ _ (HS _ H3.r) (fun hHeld => ?_)
    clear hK K
    refine norm_ (a' := ?_) (by show Act.put _ (some 6) _ = _; simp only [Act.put, List.setIfInBounds_toArray, List.set_cons_zero, List.set_cons_succ, i64_w, i32_w]; rfl) ?_
    exact norm_ (by simp only [putAll, Act.put, List.setIfInBounds_toArray, List.set_cons_zero, List.set_cons_succ]; try rfl) (hJ1 g3 _ H3)
  refine call_ 39 #[.int .i64 8, .pointer (some ⟨g1, 0, none⟩)] (by rfl) rfl (by go_simp) ?_
  refine (number_calls k (some ad) c0 l0 8 t2 g1 _ HR.h1 (Kd.C_below hr0 HR.hb) hc0 hl (by omega) (by omega) g2').mono ?_
  rintro e w8 ⟨rfl, hd⟩
  replace hd := hd.below
  refine ⟨_, rfl, ?_⟩
  replace HR := HR.below hd
  refine hK.out _ _ (HS _ HR) (fun hHeld => ?_)
  clear hK K hd
  refine norm_ (a' := ?_) (by show Act.put _ (some 30) _ = _; simp only [Act.put, List.setIfInBounds_toArray, List.set_cons_zero, List.set_cons_succ, i64_w, i32_w]; rfl) ?_
  refine two_ (i := 9) (j := 13) (Ni := some 32) (Nj := some 6) #[Y_,Y_,Y_,Y_,Y_,Y_,Y_,Y_,Y_,Y_,Y_,N_,N_,N_,N_] #[Y_,Y_,Y_,Y_,Y_,Y_,Y_,Y_,Y_,N_,Y_,N_,N_,Y_,N_] rfl rfl rfl rfl (two_of HT_.out (by kernel_rfl)) (by decide) (by decide) (fun K hK => ?go9) (fun K hK => ?or9_13)
  case or9_13 =>
    refine box_step ?hg (N := 6) ?hd (cs := #[.int .i64 0, .int .i64 0, .int .i64 0, .int .i64 0, .int .i64 0, .int .i64 0, .int .i64 0]) (t := 26) ?hr ?_; (case hd => rfl); (case hg => rfl); (case hr => first | (go_simp; done) | (go_simp; rfl))
    intro g3 hg3 w9 hbox hb
    have H3 : RSt3 w w9 (some ad) c0 g1 gr g2 g3 := ⟨HR.below hb, hbox, by rw [hg3]; exact HR.hb.size, by rw [hg3]; exact Nat.ne_of_lt (blk_lt HR.h1), by rw [hg3]; exact Nat.ne_of_lt (blk_lt HR.hr), by rw [hg3]; exact Nat.ne_of_lt (blk_lt HR.h2)⟩
    clear hg3 hbox hb
    refine hK.out _ _ (HS _ H3.r) (fun hHeld => ?_)
    clear hK K
    refine norm_ (a' := ?_) (by show Act.put _ (some 6) _ = _; simp only [Act.put, List.setIfInBounds_toArray, List.set_cons_zero, List.set_cons_succ, i64_w, i32_w]; rfl) ?_
    exact norm_ (by simp only [putAll, Act.put, List.setIfInBounds_toArray, List.set_cons_zero, List.set_cons_succ]; try rfl) (hJ2 g3 _ H3)
  refine call_ 39 #[.int .i64 12, .pointer (some ⟨g1, 0, none⟩)] (by rfl) rfl (by go_simp) ?_
  refine (number_calls k (some ad) c0 l0 12 t3 g1 _ HR.h1 (Kd.C_below hr0 HR.hb) hc0 hl (by omega) (by omega) q3).mono ?_
  rintro e w8 ⟨rfl, hd⟩
  replace hd := hd.below
  refine ⟨_, rfl, ?_⟩
  replace HR := HR.below hd
  refine hK.out _ _ (HS _ HR) (fun hHeld => ?_)
  clear hK K hd
  refine norm_ (a' := ?_) (by show Act.put _ (some 32) _ = _; simp only [Act.put, List.setIfInBounds_toArray, List.set_cons_zero, List.set_cons_succ, i64_w, i32_w]; rfl) ?_
  refine two_ (i := 11) (j := 13) (Ni := some 34) (Nj := some 6) #[Y_,Y_,Y_,Y_,Y_,Y_,Y_,Y_,Y_,Y_,Y_,Y_,N_,N_,N_] #[Y_,Y_,Y_,Y_,Y_,Y_,Y_,Y_,Y_,Y_,Y_,N_,N_,Y_,N_] rfl rfl rfl rfl (two_of HT_.out (by kernel_rfl)) (by decide) (by decide) (fun K hK => ?go11) (fun K hK => ?or11_13)
  case or11_13 =>
    refine box_step ?hg (N := 6) ?hd (cs := #[.int .i64 0, .int .i64 0, .int .i64 0, .int .i64 0, .int .i64 0, .int .i64 0, .int .i64 0]) (t := 26) ?hr ?_; (case hd => rfl); (case hg => rfl); (case hr => first | (go_simp; done) | (go_simp; rfl))
    intro g3 hg3 w9 hbox hb
    have H3 : RSt3 w w9 (some ad) c0 g1 gr g2 g3 := ⟨HR.below hb, hbox, by rw [hg3]; exact HR.hb.size, by rw [hg3]; exact Nat.ne_of_lt (blk_lt HR.h1), by rw [hg3]; exact Nat.ne_of_lt (blk_lt HR.hr), by rw [hg3]; exact Nat.ne_of_lt (blk_lt HR.h2)⟩
    clear hg3 hbox hb
    refine hK.out _ _ (HS _ H3.r) (fun hHeld => ?_)
    clear hK K
    refine norm_ (a' := ?_) (by show Act.put _ (some 6) _ = _; simp only [Act.put, List.setIfInBounds_toArray, List.set_cons_zero, List.set_cons_succ, i64_w, i32_w]; rfl) ?_
    exact norm_ (by simp only [putAll, Act.put, List.setIfInBounds_toArray, List.set_cons_zero, List.set_cons_succ]; try rfl) (hJ3 g3 _ H3)
  refine call_ 40 #[.int .i64 16, .pointer (some ⟨g1, 0, none⟩), .pointer (some ⟨g2, 0, none⟩)] (by rfl) rfl (by go_simp) ?_
  refine (key_calls k (some ad) c0 l0 16 t4 t5 g1 g2 _ HR.h1 HR.h2 (Kd.C_below hr0 HR.hb) hc0 hl (by omega) (by omega) g4 g5).mono ?_
  rintro e w8 ⟨rfl, hd⟩
  refine ⟨_, rfl, ?_⟩
  replace HR := HR.below hd
  refine hK.out _ _ (HS _ HR) (fun hHeld => ?_)
  clear hK K hd
  refine norm_ (a' := ?_) (by show Act.put _ (some 34) _ = _; simp only [Act.put, List.setIfInBounds_toArray, List.set_cons_zero, List.set_cons_succ, i64_w, i32_w]; rfl) ?_
  refine pv_ (i := 12) (N := some 35) #[Y_,Y_,Y_,Y_,Y_,Y_,Y_,Y_,Y_,Y_,Y_,Y_,Y_,N_,N_] (h := ?_)
  refine one_ (i := 13) (N := some 6) #[Y_,Y_,Y_,Y_,Y_,Y_,Y_,Y_,Y_,Y_,Y_,Y_,Y_,Y_,N_] rfl rfl (one_of HT_.out (by kernel_rfl)) (by decide) (fun K hK => ?_)
  refine box_step ?hg (N := 6) ?hd (cs := #[.int .i64 0, .int .i64 0, .int .i64 0, .int .i64 0, .int .i64 0, .int .i64 0, .int .i64 0]) (t := 26) ?hr ?_; (case hd => rfl); (case hg => rfl); (case hr => first | (go_simp; done) | (go_simp; rfl))
  intro g3 hg3 w9 hbox hb
  have H3 : RSt3 w w9 (some ad) c0 g1 gr g2 g3 := ⟨HR.below hb, hbox, by rw [hg3]; exact HR.hb.size, by rw [hg3]; exact Nat.ne_of_lt (blk_lt HR.h1), by rw [hg3]; exact Nat.ne_of_lt (blk_lt HR.hr), by rw [hg3]; exact Nat.ne_of_lt (blk_lt HR.h2)⟩
  clear hg3 hbox hb
  refine hK.out _ _ (HS _ H3.r) (fun hHeld => ?_)
  clear hK K
  refine norm_ (a' := ?_) (by show Act.put _ (some 6) _ = _; simp only [Act.put, List.setIfInBounds_toArray, List.set_cons_zero, List.set_cons_succ, i64_w, i32_w]; rfl) ?_
  exact norm_ (by simp only [putAll, Act.put, List.setIfInBounds_toArray, List.set_cons_zero, List.set_cons_succ]; try rfl) (hJ4 g3 _ H3)
end Go.Proofs.Ytopigdnffnondaa.P
