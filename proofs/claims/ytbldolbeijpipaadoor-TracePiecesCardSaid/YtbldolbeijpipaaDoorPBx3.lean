-- PRINTED by print.py (a twelfth state) out of the translation. Not trusted: Lean checks it.
import Derived.Test.YtbldolbeijpipaaDoorPBx0
namespace Go.Proofs.YtbldolbeijpipaaDoor.PB
open Go.RowKit Go.Proofs.YtbldolbeijpipaaDoorW.PrintWords Go.Proofs.YtbldolbeijpipaaDoorW.PrintLast Go.Proofs.YtbldolbeijpipaaDoorW.PrintMore
attribute [local go_sem] max2_int min2_int max_two min_two max_three min_three max_four min_four   -- for this text's walks alone
set_option linter.unusedVariables false
set_option linter.unusedSimpArgs false

/-! ### trace_mark: function 38 -/
def trace_mark.j0 : Nat → Bool → Int → Int → Int → Int → Bool → Int → Option (ByteArray)
  | 0, _, _, _, _, _, _, _ => none
  | k + 1, x5, x127000, x127001, x127002, x127003, x127004, x127005 => if x5 = true then (some (⟨#[46]⟩ : ByteArray)) else (if x127003 = 2 then (some (⟨#[126]⟩ : ByteArray)) else (some (⟨#[35]⟩ : ByteArray)))
def trace_mark.f (k : Nat) (a0_0 : Int) (a0_1 : Int) (a0_2 : Int) (a0_3 : Int) (a0_4 : Bool) (a0_5 : Int) (a1 : Int) : Option (ByteArray) := if a0_1 = a1 then (trace_mark.j0 k (a0_3 == 0) a0_0 a0_1 a0_2 a0_3 a0_4 a0_5) else (trace_mark.j0 k true a0_0 a0_1 a0_2 a0_3 a0_4 a0_5)
theorem trace_mark.mono_l : ∀ k, (∀ y0 y1 y2 y3 y4 y5 y6, LeO (trace_mark.j0 k y0 y1 y2 y3 y4 y5 y6) (trace_mark.j0 (k + 1) y0 y1 y2 y3 y4 y5 y6))
  | 0 => fun _ _ _ _ _ _ _ r h => by simp [trace_mark.j0] at h
  | k + 1 => by
    have ih0 := trace_mark.mono_l k
    · intro y0 y1 y2 y3 y4 y5 y6
      unfold trace_mark.j0
      repeat' first
      | (with_reducible exact ih0 _ _ _ _ _ _ _)
      | (with_reducible exact LeO.refl _)
      | (with_reducible exact LeO.none _)
      | (with_reducible refine LeO.ite ?_ ?_)
      | (with_reducible refine LeO.bind ?_ (fun _ => ?_))
      | exact ih0 _ _ _ _ _ _ _
      | exact LeO.none _
      | refine LeO.ite ?_ ?_
      | refine LeO.bind ?_ (fun _ => ?_)
theorem trace_mark.mono : ∀ a0 a1 a2 a3 a4 a5 a6 k, LeO (trace_mark.f k a0 a1 a2 a3 a4 a5 a6) (trace_mark.f (k + 1) a0 a1 a2 a3 a4 a5 a6) := by
  intro a0 a1 a2 a3 a4 a5 a6 k
  have ih0 := trace_mark.mono_l k
  unfold trace_mark.f
  repeat' first
      | (with_reducible exact ih0 _ _ _ _ _ _ _)
      | (with_reducible exact LeO.refl _)
      | (with_reducible exact LeO.none _)
      | (with_reducible refine LeO.ite ?_ ?_)
      | (with_reducible refine LeO.bind ?_ (fun _ => ?_))
      | exact ih0 _ _ _ _ _ _ _
      | exact LeO.none _
      | refine LeO.ite ?_ ?_
      | refine LeO.bind ?_ (fun _ => ?_)
set_option maxHeartbeats 8000000 in
set_option maxRecDepth 100000 in
theorem trace_mark.calls (k : Nat) (a0_0 : Int) (a0_1 : Int) (a0_2 : Int) (a0_3 : Int) (a0_4 : Bool) (a0_5 : Int) (a1 : Int) (r : ByteArray) (w : World) (h : trace_mark.f k a0_0 a0_1 a0_2 a0_3 a0_4 a0_5 a1 = some r) :
    Calls Tryd.prog 38 #[.agg #[.int .i64 a0_0, .int .i64 a0_1, .int .i64 a0_2, .int .i64 a0_3, .bool a0_4, .int .i64 a0_5], .int .i64 a1] w fun e w' => e = .returned (.string r) ∧ Below w.heap.size w w' := by
  have hu43 := Tryd.underlying43
  have HB := Aside0.mk (Below.refl w.heap.size w)
  have H : (if a0_1 = a1 then (trace_mark.j0 k (a0_3 == 0) a0_0 a0_1 a0_2 a0_3 a0_4 a0_5) else (trace_mark.j0 k true a0_0 a0_1 a0_2 a0_3 a0_4 a0_5)) = some r := h
  clear h
  have HC3 := Aside0.mk H
  clear H
  go_enter Tryd.func38, Tryd.ntmps38
  go_upto_region 1 with (first | ((with_reducible refine gate_dst (N := 2) rfl ?_); refine box_event ?hg (N := 2) ?hd (cs := #[.int .i64 a0_0, .int .i64 a0_1, .int .i64 a0_2, .int .i64 a0_3, .bool a0_4, .int .i64 a0_5]) (t := 43) ?hr ?_; (case hd => rfl); (case hg => rfl); (case hr => first | (go_simp; done) | (go_simp; rfl)); intro gb126 hg w4 hbox hb; have n0_ := Aside0.mk (below_step (by repeat (first | (with_reducible first | exact HB.out | apply below_alloc | apply pw_below_drewN | apply below_drew1) | exact HB.out)) hb); have n1_ := Aside0.mk (hbox); have n2_ := Aside0.mk ((by rw [hg]; exact (below_size (by repeat (first | (with_reducible first | exact HB.out | apply below_alloc | apply pw_below_drewN | apply below_drew1) | exact HB.out))) : w.heap.size ≤ gb126)); have n3_ := Aside0.mk ((by rw [hg]; exact (below_size (by repeat (first | (with_reducible first | exact HB.out | apply below_alloc | apply pw_below_drewN | apply below_drew1) | exact HB.out))) : w.heap.size ≤ gb126)); clear HB; have HB := n0_; have BK126 := n1_; have GW126 := n2_; have GE126 := n3_; clear n0_ n1_ n2_ n3_; clear hb hbox hg))
  (try simp only [Act.put, List.setIfInBounds_toArray, List.set_cons_zero, List.set_cons_succ])
  go_cut [5] (fun v5 wc => ∃ (kq : Nat) (x5_2 : Bool), v5 = .bool x5_2 ∧ Aside0 (trace_mark.j0 kq x5_2 a0_0 a0_1 a0_2 a0_3 a0_4 a0_5 = some r) ∧ Aside0 (kq ≤ k) ∧ Aside0 (wc.heap[gb126]? = some (.cells #[.int .i64 a0_0, .int .i64 a0_1, .int .i64 a0_2, .int .i64 a0_3, .bool a0_4, .int .i64 a0_5] 43 (0, 0))) ∧ Aside0 (Below w.heap.size w wc))
  case first =>
    have H := HC3.out
    clear HC3
    by_cases c5 : a0_1 = a1
    · rw [if_pos c5] at H
      have c5b0 : (a0_1 == a1) = true := beq_iff_eq.mpr c5
      have c5b1 : (a0_1 != a1) = false := bne_eq_false_iff_eq.mpr c5
      clear c5
      (first | rw [c5b0] | (simp only [i64_w, i32_w]; rw [c5b0]) | skip)
      have H' := Aside0.mk H
      clear H
      have hcz6_0 : w4.cell? ⟨gb126, 0, none⟩ = some (.int .i64 a0_0) := (blk_cell BK126.out 0).trans rfl
      have hcz6_1 : w4.cell? ⟨gb126, 1, none⟩ = some (.int .i64 a0_1) := (blk_cell BK126.out 1).trans rfl
      have hcz6_2 : w4.cell? ⟨gb126, 2, none⟩ = some (.int .i64 a0_2) := (blk_cell BK126.out 2).trans rfl
      have hcz6_3 : w4.cell? ⟨gb126, 3, none⟩ = some (.int .i64 a0_3) := (blk_cell BK126.out 3).trans rfl
      have hcz6_4 : w4.cell? ⟨gb126, 4, none⟩ = some (.bool a0_4) := (blk_cell BK126.out 4).trans rfl
      have hcz6_5 : w4.cell? ⟨gb126, 5, none⟩ = some (.int .i64 a0_5) := (blk_cell BK126.out 5).trans rfl
      have hfz6_0 := blk_frozen BK126.out 0
      have hfz6_1 := blk_frozen BK126.out 1
      have hfz6_2 := blk_frozen BK126.out 2
      have hfz6_3 := blk_frozen BK126.out 3
      have hfz6_4 := blk_frozen BK126.out 4
      have hfz6_5 := blk_frozen BK126.out 5
      go_wp2
      go_meet
      case rel => exact ⟨_, ((a0_3 == 0)), (by first | rfl | (simp; done) | (simp [*]; done)), H', ⟨by first | omega | exact Nat.le_refl _⟩, ⟨by (with_reducible repeat (first | refine blk_drewN ?_ _ | refine blk_drew ?_ | refine blk_alloc ?_ _)); exact BK126.out⟩, ⟨by repeat (first | (with_reducible first | exact HB.out | apply below_alloc | apply pw_below_drewN | apply below_drew1 | refine below_set ?_ GE126.out) | exact HB.out)⟩⟩
    · rw [if_neg c5] at H
      have c5b0 : (a0_1 == a1) = false := beq_eq_false_iff_ne.mpr c5
      have c5b1 : (a0_1 != a1) = true := bne_iff_ne.mpr c5
      (first | rw [c5b0] | (simp only [i64_w, i32_w]; rw [c5b0]) | skip)
      have H' := Aside0.mk H
      clear H
      have hcz7_0 : w4.cell? ⟨gb126, 0, none⟩ = some (.int .i64 a0_0) := (blk_cell BK126.out 0).trans rfl
      have hcz7_1 : w4.cell? ⟨gb126, 1, none⟩ = some (.int .i64 a0_1) := (blk_cell BK126.out 1).trans rfl
      have hcz7_2 : w4.cell? ⟨gb126, 2, none⟩ = some (.int .i64 a0_2) := (blk_cell BK126.out 2).trans rfl
      have hcz7_3 : w4.cell? ⟨gb126, 3, none⟩ = some (.int .i64 a0_3) := (blk_cell BK126.out 3).trans rfl
      have hcz7_4 : w4.cell? ⟨gb126, 4, none⟩ = some (.bool a0_4) := (blk_cell BK126.out 4).trans rfl
      have hcz7_5 : w4.cell? ⟨gb126, 5, none⟩ = some (.int .i64 a0_5) := (blk_cell BK126.out 5).trans rfl
      have hfz7_0 := blk_frozen BK126.out 0
      have hfz7_1 := blk_frozen BK126.out 1
      have hfz7_2 := blk_frozen BK126.out 2
      have hfz7_3 := blk_frozen BK126.out 3
      have hfz7_4 := blk_frozen BK126.out 4
      have hfz7_5 := blk_frozen BK126.out 5
      go_wp2
      go_meet
      case rel => exact ⟨_, (true), (by first | rfl | (simp; done) | (simp [*]; done)), H', ⟨by first | omega | exact Nat.le_refl _⟩, ⟨by (with_reducible repeat (first | refine blk_drewN ?_ _ | refine blk_drew ?_ | refine blk_alloc ?_ _)); exact BK126.out⟩, ⟨by repeat (first | (with_reducible first | exact HB.out | apply below_alloc | apply pw_below_drewN | apply below_drew1 | refine below_set ?_ GE126.out) | exact HB.out)⟩⟩
  case rest =>
    clear HC3
    try clear p2
    try clear c3
    try clear c5
    try clear c5b0
    try clear c5b1
    try clear hcz6_0
    try clear hcz6_1
    try clear hcz6_2
    try clear hcz6_3
    try clear hcz6_4
    try clear hcz6_5
    try clear hcz7_0
    try clear hcz7_1
    try clear hcz7_2
    try clear hcz7_3
    try clear hcz7_4
    try clear hcz7_5
    try clear hfz6_0
    try clear hfz6_1
    try clear hfz6_2
    try clear hfz6_3
    try clear hfz6_4
    try clear hfz6_5
    try clear hfz7_0
    try clear hfz7_1
    try clear hfz7_2
    try clear hfz7_3
    try clear hfz7_4
    try clear hfz7_5
    obtain ⟨kq, x5_2, rfl, HA, HJ2, BK126, HB⟩ := hcut
    cases kq with
    | zero => exact absurd HA.out (by simp [trace_mark.j0])
    | succ kj2 =>
      have H := HA.out
      clear HA
      simp only [trace_mark.j0] at H
      by_cases c8 : x5_2 = true
      · subst c8
        have H1 : (some (⟨#[46]⟩ : ByteArray)) = some r := by rw [if_pos rfl] at H; exact H
        clear H
        have H := H1
        clear H1
        obtain rfl := Option.some.inj H
        go_wp2
        go_ret
        exact ⟨by first | rfl | (simp [errW_none, errW_some] <;> rfl) | (simp [*, errW_none, errW_some] <;> rfl), by repeat (first | (with_reducible first | exact HB.out | apply below_alloc | apply pw_below_drewN | apply below_drew1 | refine below_set ?_ GE126.out) | exact HB.out)⟩
      · replace c8 := Bool.eq_false_iff.mpr c8
        subst c8
        have H1 : (if a0_3 = 2 then (some (⟨#[126]⟩ : ByteArray)) else (some (⟨#[35]⟩ : ByteArray))) = some r := by rw [if_neg (show ¬ (false = true) by decide)] at H; exact H
        clear H
        have H := H1
        clear H1
        by_cases c9 : a0_3 = 2
        · rw [if_pos c9] at H
          have c9b0 : (a0_3 == 2) = true := beq_iff_eq.mpr c9
          have c9b1 : (a0_3 != 2) = false := bne_eq_false_iff_eq.mpr c9
          clear c9
          obtain rfl := Option.some.inj H
          have hcz10_0 : wc.cell? ⟨gb126, 0, none⟩ = some (.int .i64 a0_0) := (blk_cell BK126.out 0).trans rfl
          have hcz10_1 : wc.cell? ⟨gb126, 1, none⟩ = some (.int .i64 a0_1) := (blk_cell BK126.out 1).trans rfl
          have hcz10_2 : wc.cell? ⟨gb126, 2, none⟩ = some (.int .i64 a0_2) := (blk_cell BK126.out 2).trans rfl
          have hcz10_3 : wc.cell? ⟨gb126, 3, none⟩ = some (.int .i64 a0_3) := (blk_cell BK126.out 3).trans rfl
          have hcz10_4 : wc.cell? ⟨gb126, 4, none⟩ = some (.bool a0_4) := (blk_cell BK126.out 4).trans rfl
          have hcz10_5 : wc.cell? ⟨gb126, 5, none⟩ = some (.int .i64 a0_5) := (blk_cell BK126.out 5).trans rfl
          have hfz10_0 := blk_frozen BK126.out 0
          have hfz10_1 := blk_frozen BK126.out 1
          have hfz10_2 := blk_frozen BK126.out 2
          have hfz10_3 := blk_frozen BK126.out 3
          have hfz10_4 := blk_frozen BK126.out 4
          have hfz10_5 := blk_frozen BK126.out 5
          go_wp2
          go_ret
          exact ⟨by first | rfl | (simp [errW_none, errW_some] <;> rfl) | (simp [*, errW_none, errW_some] <;> rfl), by repeat (first | (with_reducible first | exact HB.out | apply below_alloc | apply pw_below_drewN | apply below_drew1 | refine below_set ?_ GE126.out) | exact HB.out)⟩
        · rw [if_neg c9] at H
          have c9b0 : (a0_3 == 2) = false := beq_eq_false_iff_ne.mpr c9
          have c9b1 : (a0_3 != 2) = true := bne_iff_ne.mpr c9
          obtain rfl := Option.some.inj H
          have hcz11_0 : wc.cell? ⟨gb126, 0, none⟩ = some (.int .i64 a0_0) := (blk_cell BK126.out 0).trans rfl
          have hcz11_1 : wc.cell? ⟨gb126, 1, none⟩ = some (.int .i64 a0_1) := (blk_cell BK126.out 1).trans rfl
          have hcz11_2 : wc.cell? ⟨gb126, 2, none⟩ = some (.int .i64 a0_2) := (blk_cell BK126.out 2).trans rfl
          have hcz11_3 : wc.cell? ⟨gb126, 3, none⟩ = some (.int .i64 a0_3) := (blk_cell BK126.out 3).trans rfl
          have hcz11_4 : wc.cell? ⟨gb126, 4, none⟩ = some (.bool a0_4) := (blk_cell BK126.out 4).trans rfl
          have hcz11_5 : wc.cell? ⟨gb126, 5, none⟩ = some (.int .i64 a0_5) := (blk_cell BK126.out 5).trans rfl
          have hfz11_0 := blk_frozen BK126.out 0
          have hfz11_1 := blk_frozen BK126.out 1
          have hfz11_2 := blk_frozen BK126.out 2
          have hfz11_3 := blk_frozen BK126.out 3
          have hfz11_4 := blk_frozen BK126.out 4
          have hfz11_5 := blk_frozen BK126.out 5
          go_wp2
          go_ret
          exact ⟨by first | rfl | (simp [errW_none, errW_some] <;> rfl) | (simp [*, errW_none, errW_some] <;> rfl), by repeat (first | (with_reducible first | exact HB.out | apply below_alloc | apply pw_below_drewN | apply below_drew1 | refine below_set ?_ GE126.out) | exact HB.out)⟩

end Go.Proofs.YtbldolbeijpipaaDoor.PB
