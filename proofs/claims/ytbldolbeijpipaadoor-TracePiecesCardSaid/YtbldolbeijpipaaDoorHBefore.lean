import Derived.Test.YtbldolbeijpipaaDoorHState
import Derived.StillTailTactics
import Derived.Test.YtbldolbeijpipaaDoorHBits
namespace Go.Proofs.YtbldolbeijpipaaDoor
open Go.RowKit Go.Proofs.YtbldolbeijpipaaDoorW.PrintWords Go.Proofs.YtbldolbeijpipaaDoorW.PrintLast Go.Proofs.YtbldolbeijpipaaDoorW.PrintMore
set_option linter.unusedVariables false
set_option linter.unusedSimpArgs false

set_option maxHeartbeats 1600000 in
set_option maxRecDepth 100000 in
theorem before_any (B bx : Nat) (s : XS) (x y : S159) (w : World) (h : XI w B bx s) (h1 : 1 ≤ x.f0) (h2 : x.f0 ≤ s.ts.length) (h3 : 1 ≤ y.f0) (h4 : y.f0 ≤ s.ts.length) :
    Calls Tryd.prog 72 #[.pointer (some ⟨bx, 0, none⟩), oneV x, oneV y] w (SomeBool w) := by
  have hm := h.f4
  have hp := h.f3
  have hbx := blk_lt h.blk
  have HX := Aside0.mk h
  have HA := Aside0.mk (ahead_any s.pol x y)
  clear h
  by_cases hmode : s.mode = 2
  · rw [hmode] at hm
    clear hp
    go_enter Tryd.func72, Tryd.ntmps72
    have t0 : w.heap.size < w.heap.size + 1 + 1 := by omega
    go_wp2_with fail
    refine (rank_any B bx s x _ (HX.out.below (by repeat (first | exact Below.refl _ _ | exact HB.out | apply below_alloc | apply pw_below_drewN | apply below_drew1 | (refine below_set ?_ (Nat.le_refl _)) | (refine below_set ?_ (by simp; done)) | (refine below_set ?_ (by simp; omega))))) h1 h2).mono ?_
    rintro e w1 ⟨b, rfl, hb⟩
    have HB := Aside0.mk (below_step (w := w) (by repeat (first | exact Below.refl _ _ | exact HB.out | apply below_alloc | apply pw_below_drewN | apply below_drew1 | (refine below_set ?_ (Nat.le_refl _)) | (refine below_set ?_ (by simp; done)) | (refine below_set ?_ (by simp; omega)))) hb)
    obtain ⟨hc, hf⟩ := bcell hb
    have hz := hb.size
    simp at hz
    have t1 : w.heap.size < w1.heap.size := by omega
    have t2 : w.heap.size + 1 < w1.heap.size := by omega
    clear hb
    go_wp2_with fail
    refine (rank_any B bx s y _ (HX.out.below (by repeat (first | exact Below.refl _ _ | exact HB.out | apply below_alloc | apply pw_below_drewN | apply below_drew1 | (refine below_set ?_ (Nat.le_refl _)) | (refine below_set ?_ (by simp; done)) | (refine below_set ?_ (by simp; omega))))) h3 h4).mono ?_
    rintro e w2 ⟨b2, rfl, hb⟩
    have HB2 := Aside0.mk (below_step (w := w) HB.out hb)
    obtain ⟨hc2, hf2⟩ := bcell hb
    have hz2 := hb.size
    clear hb
    go_wp2
    all_goals go_ret
    all_goals exact ⟨_, rfl, HB2.out⟩
  · have hmb : (s.mode != 2) = true := bne_iff_ne.mpr hmode
    clear hmode
    go_enter Tryd.func72, Tryd.ntmps72
    go_wp2_with fail
    refine wp_region_still_tail 9 (by kernel_rfl) (by kernel_rfl) ?_
    change wpStill _ _ (World.drew _) (fun a' => wpList _ _ _ _ a' (World.drew _)) _ _
    simp only [List.take_succ_cons, List.take_zero, List.drop_succ_cons, List.drop_zero]
    repeat still_step
    refine wpStill_nil ?_
    go_wp2_with fail
    refine (HA.out _).mono ?_
    rintro e w1 ⟨b, rfl, hb⟩
    have HB := Aside0.mk (below_step (w := w) (by repeat (first | exact Below.refl _ _ | exact HB.out | apply below_alloc | apply pw_below_drewN | apply below_drew1 | (refine below_set ?_ (Nat.le_refl _)) | (refine below_set ?_ (by simp; done)) | (refine below_set ?_ (by simp; omega)))) hb)
    clear hb
    go_wp2
    go_ret
    exact ⟨_, rfl, HB.out⟩
end Go.Proofs.YtbldolbeijpipaaDoor
