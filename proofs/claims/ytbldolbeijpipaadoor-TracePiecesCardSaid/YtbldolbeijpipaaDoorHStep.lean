import Derived.Test.YtbldolbeijpipaaDoorPBx3
import Derived.Test.YtbldolbeijpipaaDoorHStays
namespace Go.Proofs.YtbldolbeijpipaaDoor
open Go.RowKit Go.Proofs.YtbldolbeijpipaaDoorW.PrintWords Go.Proofs.YtbldolbeijpipaaDoorW.PrintLast Go.Proofs.YtbldolbeijpipaaDoorW.PrintMore
set_option linter.unusedVariables false
set_option linter.unusedSimpArgs false

def StepP (w : World) (B : Nat) (vC : Value) (e : Ending) (w' : World) : Prop := ∃ (d dm db rl s0 s1 s2 s3 : Int) (r : Bool) (own : List Int),
  e = .returned (.tuple #[.agg #[.int .i64 d, .int .i64 dm, .int .i64 db, .int .i64 rl, .int .u64 s0, .int .u64 s1, .int .u64 s2, .int .u64 s3], .bool r]) ∧ (r = true → d ≠ dm) ∧ (∃ A c, vC = .slice A own.length c) ∧ w'.ownsRow B 3 1 vC own.length (nums .i64 own) ∧ KeptT [3] B w w'

open Go.Proofs.YtbldolbeijpipaaDoor.PB in
theorem access_some (a b c d e : Int) (l5 l6 : List Int) (k : Int) : ∃ r1 r2, ostinatoref05_Access.f a b c d e l5 l6 k = some (r1, r2) := by
  unfold ostinatoref05_Access.f
  by_cases h1 : (l6.length : Int) = 0
  · exact ⟨_, _, if_pos h1⟩
  · rw [if_neg h1]
    by_cases h2 : k < 0
    · exact ⟨_, _, if_pos h2⟩
    · have h3 : 0 ≤ Int.tmod k l6.length := Int.tmod_nonneg _ (by omega)
      have h4 : Int.tmod k l6.length < l6.length := Int.tmod_lt_of_pos _ (by have : 0 ≤ (l6.length : Int) := Int.natCast_nonneg _; omega)
      rw [if_neg h2, if_pos h3, if_pos h4]
      exact ⟨_, _, rfl⟩

set_option maxHeartbeats 1600000 in
set_option maxRecDepth 100000 in
theorem step_short (B bc : Nat) (AC : Option Addr) (cC : Nat) (own : List Int) (t : S90) (A5 A6 : Option Addr) (c5 c6 : Nat) (reload d dm db rl s0 s1 s2 s3 : Int) (w : World)
    (hbc : w.heap[bc]? = some (.cells #[.slice AC own.length cC] 194 (0, 0))) (hB : B ≤ bc) (hown : w.ownsRow B 3 1 (.slice AC own.length cC) own.length (nums .i64 own))
    (r5 : Kd.C (Kd.int .i64) w A5 t.f5.length t.f5) (l5 : t.f5.length ≤ c5) (r6 : Kd.C (Kd.int .i64) w A6 t.f6.length t.f6) (l6 : t.f6.length ≤ c6)
    (hG : ¬ (0 ≤ d ∧ d < dm ∧ 0 ≤ db ∧ 0 ≤ reload ∧ reload ≤ 1000 ∧ 1 ≤ t.f0 ∧ t.f0 ≤ 99 ∧ db ≤ 0)) :
    Calls Tryd.prog 74 #[.pointer (some ⟨bc, 0, none⟩), .agg #[.int .i64 t.f0, .int .i64 t.f1, .int .i64 t.f2, .int .i64 t.f3, .int .i64 t.f4, .slice A5 t.f5.length c5, .slice A6 t.f6.length c6], .int .i64 reload, .agg #[.int .i64 d, .int .i64 dm, .int .i64 db, .int .i64 rl, .int .u64 s0, .int .u64 s1, .int .u64 s2, .int .u64 s3]] w (StepP w B (.slice AC own.length cC)) := by
  have HO := Aside0.mk hown
  have hszB : B ≤ w.heap.size := Nat.le_of_lt (Nat.lt_of_le_of_lt hB (blk_lt hbc))
  have HG := Aside0.mk hG
  clear r5 r6 l5 l6 hbc hown hG
  go_enter Tryd.func74, Tryd.ntmps74
  go_wp2_with fail
  all_goals first
    | exact absurd (⟨‹_›, ‹_›, ‹_›, ‹_›, ‹_›, ‹_›, by omega, by omega⟩) HG.out
    | (refine bodyPost_ret (v := .tuple #[.agg #[.int .i64 d, .int .i64 dm, .int .i64 db, .int .i64 rl, .int .u64 s0, .int .u64 s1, .int .u64 s2, .int .u64 s3], .bool false]) ?_ rfl ?_; (focus (simp [results, Tryd.results74, go_sem]; done)); exact ⟨d, dm, db, rl, s0, s1, s2, s3, false, own, rfl, by simp, ⟨_, _, rfl⟩, pw_own_below HO.out (by repeat (first | exact Below.refl _ _ | exact HB.out | apply below_alloc | apply pw_below_drewN | apply below_drew1 | (refine below_set ?_ (Nat.le_refl _)) | (refine below_set ?_ (by simp; done)) | (refine below_set ?_ (by simp; omega)))), KeptT.of_below (by repeat (first | exact Below.refl _ _ | exact HB.out | apply below_alloc | apply pw_below_drewN | apply below_drew1 | (refine below_set ?_ (Nat.le_refl _)) | (refine below_set ?_ (by simp; done)) | (refine below_set ?_ (by simp; omega)))) hszB⟩)
    | (refine bodyPost_ret (v := .tuple #[.agg #[.int .i64 d, .int .i64 dm, .int .i64 (wrap64 (db - 1)), .int .i64 (wrap64 (rl + 1)), .int .u64 s0, .int .u64 s1, .int .u64 s2, .int .u64 s3], .bool true]) ?_ rfl ?_; (focus (simp [results, Tryd.results74, go_sem]; done)); exact ⟨d, dm, wrap64 (db - 1), wrap64 (rl + 1), s0, s1, s2, s3, true, own, rfl, fun _ => by omega, ⟨_, _, rfl⟩, pw_own_below HO.out (by repeat (first | exact Below.refl _ _ | exact HB.out | apply below_alloc | apply pw_below_drewN | apply below_drew1 | (refine below_set ?_ (Nat.le_refl _)) | (refine below_set ?_ (by simp; done)) | (refine below_set ?_ (by simp; omega)))), KeptT.of_below (by repeat (first | exact Below.refl _ _ | exact HB.out | apply below_alloc | apply pw_below_drewN | apply below_drew1 | (refine below_set ?_ (Nat.le_refl _)) | (refine below_set ?_ (by simp; done)) | (refine below_set ?_ (by simp; omega)))) hszB⟩)

set_option maxHeartbeats 1600000 in
set_option maxRecDepth 100000 in
theorem step_a1 (B bc : Nat) (AC : Option Addr) (cC : Nat) (own : List Int) (t : S90) (A5 A6 : Option Addr) (c5 c6 : Nat) (reload d dm db rl s0 s1 s2 s3 : Int) (w : World)
    (hbc : w.heap[bc]? = some (.cells #[.slice AC own.length cC] 194 (0, 0))) (hB : B ≤ bc) (hown : w.ownsRow B 3 1 (.slice AC own.length cC) own.length (nums .i64 own))
    (r5 : Kd.C (Kd.int .i64) w A5 t.f5.length t.f5) (l5 : t.f5.length ≤ c5) (r6 : Kd.C (Kd.int .i64) w A6 t.f6.length t.f6) (l6 : t.f6.length ≤ c6) (c1 : 0 ≤ d) (c2 : d < dm) (c3 : 0 ≤ db) (c4 : 0 ≤ reload) (c5' : reload ≤ 1000) (c6' : 1 ≤ t.f0) (c7 : t.f0 ≤ 99) (c8 : db ≤ 0) (g1 : Int) (g2 : Bool) (hacc : Go.Proofs.YtbldolbeijpipaaDoor.PB.ostinatoref05_Access.f t.f0 t.f1 t.f2 t.f3 t.f4 t.f5 t.f6 d = some (g1, g2)) (hA : g1 < 0) :
    Calls Tryd.prog 74 #[.pointer (some ⟨bc, 0, none⟩), .agg #[.int .i64 t.f0, .int .i64 t.f1, .int .i64 t.f2, .int .i64 t.f3, .int .i64 t.f4, .slice A5 t.f5.length c5, .slice A6 t.f6.length c6], .int .i64 reload, .agg #[.int .i64 d, .int .i64 dm, .int .i64 db, .int .i64 rl, .int .u64 s0, .int .u64 s1, .int .u64 s2, .int .u64 s3]] w (StepP w B (.slice AC own.length cC)) := by
  have HAC := Aside0.mk (fun W (hW : Below w.heap.size w W) => Go.Proofs.YtbldolbeijpipaaDoor.PB.ostinatoref05_Access.calls t.f0 t.f1 t.f2 t.f3 t.f4 A5 c5 t.f5 A6 c6 t.f6 d g1 g2 W (Kd.C_below r5 hW) l5 (Kd.C_below r6 hW) l6 hacc)
  have hbl := blk_lt hbc
  have HBC := Aside0.mk hbc
  have HO := Aside0.mk hown
  have hszB : B ≤ w.heap.size := Nat.le_of_lt (Nat.lt_of_le_of_lt hB hbl)
  have hx0 : w.cell? ⟨bc, 0, none⟩ = some (.slice AC own.length cC) := (blk_cell hbc 0).trans rfl
  have hlm : own.length ≤ 9223372036854775807 := by obtain ⟨_, _, _, _, hr⟩ := own_reads_of_le (enc := Value.int .i64) (d := (0 : Int)) hown; exact hr.2.1
  clear r5 r6 l5 l6 hacc hbc hown
  go_enter Tryd.func74, Tryd.ntmps74
  go_wp2_with fail
  refine (HAC.out _ (by repeat (first | exact Below.refl _ _ | exact HB.out | apply below_alloc | apply pw_below_drewN | apply below_drew1 | (refine below_set ?_ (Nat.le_refl _)) | (refine below_set ?_ (by simp; done)) | (refine below_set ?_ (by simp; omega))))).mono ?_
  rintro e w1 ⟨rfl, hb⟩
  have HB_w1 := Aside0.mk (below_step (w := w) (by repeat (first | exact Below.refl _ _ | exact HB.out | apply below_alloc | apply pw_below_drewN | apply below_drew1 | (refine below_set ?_ (Nat.le_refl _)) | (refine below_set ?_ (by simp; done)) | (refine below_set ?_ (by simp; omega)))) hb)
  have K5_w1 := Aside0.mk (blk_below (g := w.heap.size) (blk_alloc (blk_alloc (blk_nw w (.cells #[.int .i64 t.f0, .int .i64 t.f1, .int .i64 t.f2, .int .i64 t.f3, .int .i64 t.f4, .slice A5 t.f5.length c5, .slice A6 t.f6.length c6] 90) _ rfl) (.cells #[.int .i64 d, .int .i64 dm, .int .i64 db, .int .i64 rl, .int .u64 s0, .int .u64 s1, .int .u64 s2, .int .u64 s3] 155)) (.cells #[.int .i64 0, .int .i64 0, .int .i64 0, .int .i64 0, .int .u64 0, .int .u64 0, .int .u64 0, .int .u64 0] 155)) hb)
  have K7_w1 := Aside0.mk (blk_below (g := w.heap.size + 1) (blk_alloc (blk_nw (w.alloc (.cells #[.int .i64 t.f0, .int .i64 t.f1, .int .i64 t.f2, .int .i64 t.f3, .int .i64 t.f4, .slice A5 t.f5.length c5, .slice A6 t.f6.length c6] 90)) (.cells #[.int .i64 d, .int .i64 dm, .int .i64 db, .int .i64 rl, .int .u64 s0, .int .u64 s1, .int .u64 s2, .int .u64 s3] 155) _ (by simp)) (.cells #[.int .i64 0, .int .i64 0, .int .i64 0, .int .i64 0, .int .u64 0, .int .u64 0, .int .u64 0, .int .u64 0] 155)) hb)
  have K8_w1 := Aside0.mk (blk_below (g := w.heap.size + 1 + 1) (blk_nw ((w.alloc (.cells #[.int .i64 t.f0, .int .i64 t.f1, .int .i64 t.f2, .int .i64 t.f3, .int .i64 t.f4, .slice A5 t.f5.length c5, .slice A6 t.f6.length c6] 90)).alloc (.cells #[.int .i64 d, .int .i64 dm, .int .i64 db, .int .i64 rl, .int .u64 s0, .int .u64 s1, .int .u64 s2, .int .u64 s3] 155)) (.cells #[.int .i64 0, .int .i64 0, .int .i64 0, .int .i64 0, .int .u64 0, .int .u64 0, .int .u64 0, .int .u64 0] 155) _ (by simp)) hb)
  have x5_w1 : w1.cell? ⟨w.heap.size, 0, none⟩ = some (.int .i64 t.f0) := (blk_cell K5_w1.out 0).trans rfl
  have x70_w1 : w1.cell? ⟨w.heap.size + 1, 0, none⟩ = some (.int .i64 d) := (blk_cell K7_w1.out 0).trans rfl
  have x71_w1 : w1.cell? ⟨w.heap.size + 1, 1, none⟩ = some (.int .i64 dm) := (blk_cell K7_w1.out 1).trans rfl
  have x72_w1 : w1.cell? ⟨w.heap.size + 1, 2, none⟩ = some (.int .i64 db) := (blk_cell K7_w1.out 2).trans rfl
  have x73_w1 : w1.cell? ⟨w.heap.size + 1, 3, none⟩ = some (.int .i64 rl) := (blk_cell K7_w1.out 3).trans rfl
  have x74_w1 : w1.cell? ⟨w.heap.size + 1, 4, none⟩ = some (.int .u64 s0) := (blk_cell K7_w1.out 4).trans rfl
  have x75_w1 : w1.cell? ⟨w.heap.size + 1, 5, none⟩ = some (.int .u64 s1) := (blk_cell K7_w1.out 5).trans rfl
  have x76_w1 : w1.cell? ⟨w.heap.size + 1, 6, none⟩ = some (.int .u64 s2) := (blk_cell K7_w1.out 6).trans rfl
  have x77_w1 : w1.cell? ⟨w.heap.size + 1, 7, none⟩ = some (.int .u64 s3) := (blk_cell K7_w1.out 7).trans rfl
  have x80_w1 : w1.cell? ⟨w.heap.size + 1 + 1, 0, none⟩ = some (.int .i64 0) := (blk_cell K8_w1.out 0).trans rfl
  have x81_w1 : w1.cell? ⟨w.heap.size + 1 + 1, 1, none⟩ = some (.int .i64 0) := (blk_cell K8_w1.out 1).trans rfl
  have x82_w1 : w1.cell? ⟨w.heap.size + 1 + 1, 2, none⟩ = some (.int .i64 0) := (blk_cell K8_w1.out 2).trans rfl
  have x83_w1 : w1.cell? ⟨w.heap.size + 1 + 1, 3, none⟩ = some (.int .i64 0) := (blk_cell K8_w1.out 3).trans rfl
  have x84_w1 : w1.cell? ⟨w.heap.size + 1 + 1, 4, none⟩ = some (.int .u64 0) := (blk_cell K8_w1.out 4).trans rfl
  have x85_w1 : w1.cell? ⟨w.heap.size + 1 + 1, 5, none⟩ = some (.int .u64 0) := (blk_cell K8_w1.out 5).trans rfl
  have x86_w1 : w1.cell? ⟨w.heap.size + 1 + 1, 6, none⟩ = some (.int .u64 0) := (blk_cell K8_w1.out 6).trans rfl
  have x87_w1 : w1.cell? ⟨w.heap.size + 1 + 1, 7, none⟩ = some (.int .u64 0) := (blk_cell K8_w1.out 7).trans rfl
  have f7_w1 : ∀ j, w1.frozen? ⟨w.heap.size + 1, j, none⟩ = false := blk_frozen K7_w1.out
  have f8_w1 : ∀ j, w1.frozen? ⟨w.heap.size + 1 + 1, j, none⟩ = false := blk_frozen K8_w1.out
  have hbc_w1 : w1.cell? ⟨bc, 0, none⟩ = some (.slice AC own.length cC) := pw_cell_below HB_w1.out hx0
  clear hb
  go_wp2_with fail
  refine (has_any s0 s1 s2 s3 g1 _).mono ?_
  rintro e w2 ⟨b, rfl, hb⟩
  have HB_w2 := Aside0.mk (below_step (w := w) HB_w1.out hb)
  have K5_w2 := Aside0.mk (blk_below K5_w1.out hb)
  have K7_w2 := Aside0.mk (blk_below K7_w1.out hb)
  have K8_w2 := Aside0.mk (blk_below K8_w1.out hb)
  have x5_w2 : w2.cell? ⟨w.heap.size, 0, none⟩ = some (.int .i64 t.f0) := (blk_cell K5_w2.out 0).trans rfl
  have x70_w2 : w2.cell? ⟨w.heap.size + 1, 0, none⟩ = some (.int .i64 d) := (blk_cell K7_w2.out 0).trans rfl
  have x71_w2 : w2.cell? ⟨w.heap.size + 1, 1, none⟩ = some (.int .i64 dm) := (blk_cell K7_w2.out 1).trans rfl
  have x72_w2 : w2.cell? ⟨w.heap.size + 1, 2, none⟩ = some (.int .i64 db) := (blk_cell K7_w2.out 2).trans rfl
  have x73_w2 : w2.cell? ⟨w.heap.size + 1, 3, none⟩ = some (.int .i64 rl) := (blk_cell K7_w2.out 3).trans rfl
  have x74_w2 : w2.cell? ⟨w.heap.size + 1, 4, none⟩ = some (.int .u64 s0) := (blk_cell K7_w2.out 4).trans rfl
  have x75_w2 : w2.cell? ⟨w.heap.size + 1, 5, none⟩ = some (.int .u64 s1) := (blk_cell K7_w2.out 5).trans rfl
  have x76_w2 : w2.cell? ⟨w.heap.size + 1, 6, none⟩ = some (.int .u64 s2) := (blk_cell K7_w2.out 6).trans rfl
  have x77_w2 : w2.cell? ⟨w.heap.size + 1, 7, none⟩ = some (.int .u64 s3) := (blk_cell K7_w2.out 7).trans rfl
  have x80_w2 : w2.cell? ⟨w.heap.size + 1 + 1, 0, none⟩ = some (.int .i64 0) := (blk_cell K8_w2.out 0).trans rfl
  have x81_w2 : w2.cell? ⟨w.heap.size + 1 + 1, 1, none⟩ = some (.int .i64 0) := (blk_cell K8_w2.out 1).trans rfl
  have x82_w2 : w2.cell? ⟨w.heap.size + 1 + 1, 2, none⟩ = some (.int .i64 0) := (blk_cell K8_w2.out 2).trans rfl
  have x83_w2 : w2.cell? ⟨w.heap.size + 1 + 1, 3, none⟩ = some (.int .i64 0) := (blk_cell K8_w2.out 3).trans rfl
  have x84_w2 : w2.cell? ⟨w.heap.size + 1 + 1, 4, none⟩ = some (.int .u64 0) := (blk_cell K8_w2.out 4).trans rfl
  have x85_w2 : w2.cell? ⟨w.heap.size + 1 + 1, 5, none⟩ = some (.int .u64 0) := (blk_cell K8_w2.out 5).trans rfl
  have x86_w2 : w2.cell? ⟨w.heap.size + 1 + 1, 6, none⟩ = some (.int .u64 0) := (blk_cell K8_w2.out 6).trans rfl
  have x87_w2 : w2.cell? ⟨w.heap.size + 1 + 1, 7, none⟩ = some (.int .u64 0) := (blk_cell K8_w2.out 7).trans rfl
  have f7_w2 : ∀ j, w2.frozen? ⟨w.heap.size + 1, j, none⟩ = false := blk_frozen K7_w2.out
  have f8_w2 : ∀ j, w2.frozen? ⟨w.heap.size + 1 + 1, j, none⟩ = false := blk_frozen K8_w2.out
  have hbc_w2 : w2.cell? ⟨bc, 0, none⟩ = some (.slice AC own.length cC) := pw_cell_below HB_w2.out hx0
  clear hb
  clear x5_w1 x70_w1 x80_w1 x71_w1 x81_w1 x72_w1 x82_w1 x73_w1 x83_w1 x74_w1 x84_w1 x75_w1 x85_w1 x76_w1 x86_w1 x77_w1 x87_w1 f7_w1 f8_w1 hbc_w1
  clear hx0
  go_wp2_with fail
  go_quiet (fail)
  go_wp2
  refine bodyPost_ret (results_list (rs := [.cell 8 155, .tmp 9]) rfl (by simp) (.cell (w.heap.size + 1 + 1) 155 _ (0, 0) _ rfl (fill8 (blk_far (blk_drewN K8_w2.out _) (by simp) _)) Tryd.underlying155 rfl (by kernel_rfl) (.tmp .nil))) rfl ?_
  refine ⟨wrap64 (d + 1), dm, db, rl, s0, s1, s2, s3, false, own, rfl, by simp, ⟨_, _, rfl⟩, ?_, ?_⟩
  · exact pw_own_below HO.out (by repeat (with_reducible first | exact HB_w2.out | exact Below.refl _ _ | apply below_alloc | apply pw_below_drewN | apply below_drew1 | apply bset0 | apply bset1 | apply bset2))
  · exact KeptT.of_below (by repeat (with_reducible first | exact HB_w2.out | exact Below.refl _ _ | apply below_alloc | apply pw_below_drewN | apply below_drew1 | apply bset0 | apply bset1 | apply bset2)) hszB

set_option maxHeartbeats 1600000 in
set_option maxRecDepth 100000 in
theorem step_a2 (B bc : Nat) (AC : Option Addr) (cC : Nat) (own : List Int) (t : S90) (A5 A6 : Option Addr) (c5 c6 : Nat) (reload d dm db rl s0 s1 s2 s3 : Int) (w : World)
    (hbc : w.heap[bc]? = some (.cells #[.slice AC own.length cC] 194 (0, 0))) (hB : B ≤ bc) (hown : w.ownsRow B 3 1 (.slice AC own.length cC) own.length (nums .i64 own))
    (r5 : Kd.C (Kd.int .i64) w A5 t.f5.length t.f5) (l5 : t.f5.length ≤ c5) (r6 : Kd.C (Kd.int .i64) w A6 t.f6.length t.f6) (l6 : t.f6.length ≤ c6) (c1 : 0 ≤ d) (c2 : d < dm) (c3 : 0 ≤ db) (c4 : 0 ≤ reload) (c5' : reload ≤ 1000) (c6' : 1 ≤ t.f0) (c7 : t.f0 ≤ 99) (c8 : db ≤ 0) (g1 : Int) (g2 : Bool) (hacc : Go.Proofs.YtbldolbeijpipaaDoor.PB.ostinatoref05_Access.f t.f0 t.f1 t.f2 t.f3 t.f4 t.f5 t.f6 d = some (g1, g2)) (hA0 : 0 ≤ g1) (hA : (own.length : Int) ≤ g1) :
    Calls Tryd.prog 74 #[.pointer (some ⟨bc, 0, none⟩), .agg #[.int .i64 t.f0, .int .i64 t.f1, .int .i64 t.f2, .int .i64 t.f3, .int .i64 t.f4, .slice A5 t.f5.length c5, .slice A6 t.f6.length c6], .int .i64 reload, .agg #[.int .i64 d, .int .i64 dm, .int .i64 db, .int .i64 rl, .int .u64 s0, .int .u64 s1, .int .u64 s2, .int .u64 s3]] w (StepP w B (.slice AC own.length cC)) := by
  have HAC := Aside0.mk (fun W (hW : Below w.heap.size w W) => Go.Proofs.YtbldolbeijpipaaDoor.PB.ostinatoref05_Access.calls t.f0 t.f1 t.f2 t.f3 t.f4 A5 c5 t.f5 A6 c6 t.f6 d g1 g2 W (Kd.C_below r5 hW) l5 (Kd.C_below r6 hW) l6 hacc)
  have hbl := blk_lt hbc
  have HBC := Aside0.mk hbc
  have HO := Aside0.mk hown
  have hszB : B ≤ w.heap.size := Nat.le_of_lt (Nat.lt_of_le_of_lt hB hbl)
  have hx0 : w.cell? ⟨bc, 0, none⟩ = some (.slice AC own.length cC) := (blk_cell hbc 0).trans rfl
  have hlm : own.length ≤ 9223372036854775807 := by obtain ⟨_, _, _, _, hr⟩ := own_reads_of_le (enc := Value.int .i64) (d := (0 : Int)) hown; exact hr.2.1
  clear r5 r6 l5 l6 hacc hbc hown
  go_enter Tryd.func74, Tryd.ntmps74
  go_wp2_with fail
  refine (HAC.out _ (by repeat (first | exact Below.refl _ _ | exact HB.out | apply below_alloc | apply pw_below_drewN | apply below_drew1 | (refine below_set ?_ (Nat.le_refl _)) | (refine below_set ?_ (by simp; done)) | (refine below_set ?_ (by simp; omega))))).mono ?_
  rintro e w1 ⟨rfl, hb⟩
  have HB_w1 := Aside0.mk (below_step (w := w) (by repeat (first | exact Below.refl _ _ | exact HB.out | apply below_alloc | apply pw_below_drewN | apply below_drew1 | (refine below_set ?_ (Nat.le_refl _)) | (refine below_set ?_ (by simp; done)) | (refine below_set ?_ (by simp; omega)))) hb)
  have K5_w1 := Aside0.mk (blk_below (g := w.heap.size) (blk_alloc (blk_alloc (blk_nw w (.cells #[.int .i64 t.f0, .int .i64 t.f1, .int .i64 t.f2, .int .i64 t.f3, .int .i64 t.f4, .slice A5 t.f5.length c5, .slice A6 t.f6.length c6] 90) _ rfl) (.cells #[.int .i64 d, .int .i64 dm, .int .i64 db, .int .i64 rl, .int .u64 s0, .int .u64 s1, .int .u64 s2, .int .u64 s3] 155)) (.cells #[.int .i64 0, .int .i64 0, .int .i64 0, .int .i64 0, .int .u64 0, .int .u64 0, .int .u64 0, .int .u64 0] 155)) hb)
  have K7_w1 := Aside0.mk (blk_below (g := w.heap.size + 1) (blk_alloc (blk_nw (w.alloc (.cells #[.int .i64 t.f0, .int .i64 t.f1, .int .i64 t.f2, .int .i64 t.f3, .int .i64 t.f4, .slice A5 t.f5.length c5, .slice A6 t.f6.length c6] 90)) (.cells #[.int .i64 d, .int .i64 dm, .int .i64 db, .int .i64 rl, .int .u64 s0, .int .u64 s1, .int .u64 s2, .int .u64 s3] 155) _ (by simp)) (.cells #[.int .i64 0, .int .i64 0, .int .i64 0, .int .i64 0, .int .u64 0, .int .u64 0, .int .u64 0, .int .u64 0] 155)) hb)
  have K8_w1 := Aside0.mk (blk_below (g := w.heap.size + 1 + 1) (blk_nw ((w.alloc (.cells #[.int .i64 t.f0, .int .i64 t.f1, .int .i64 t.f2, .int .i64 t.f3, .int .i64 t.f4, .slice A5 t.f5.length c5, .slice A6 t.f6.length c6] 90)).alloc (.cells #[.int .i64 d, .int .i64 dm, .int .i64 db, .int .i64 rl, .int .u64 s0, .int .u64 s1, .int .u64 s2, .int .u64 s3] 155)) (.cells #[.int .i64 0, .int .i64 0, .int .i64 0, .int .i64 0, .int .u64 0, .int .u64 0, .int .u64 0, .int .u64 0] 155) _ (by simp)) hb)
  have x5_w1 : w1.cell? ⟨w.heap.size, 0, none⟩ = some (.int .i64 t.f0) := (blk_cell K5_w1.out 0).trans rfl
  have x70_w1 : w1.cell? ⟨w.heap.size + 1, 0, none⟩ = some (.int .i64 d) := (blk_cell K7_w1.out 0).trans rfl
  have x71_w1 : w1.cell? ⟨w.heap.size + 1, 1, none⟩ = some (.int .i64 dm) := (blk_cell K7_w1.out 1).trans rfl
  have x72_w1 : w1.cell? ⟨w.heap.size + 1, 2, none⟩ = some (.int .i64 db) := (blk_cell K7_w1.out 2).trans rfl
  have x73_w1 : w1.cell? ⟨w.heap.size + 1, 3, none⟩ = some (.int .i64 rl) := (blk_cell K7_w1.out 3).trans rfl
  have x74_w1 : w1.cell? ⟨w.heap.size + 1, 4, none⟩ = some (.int .u64 s0) := (blk_cell K7_w1.out 4).trans rfl
  have x75_w1 : w1.cell? ⟨w.heap.size + 1, 5, none⟩ = some (.int .u64 s1) := (blk_cell K7_w1.out 5).trans rfl
  have x76_w1 : w1.cell? ⟨w.heap.size + 1, 6, none⟩ = some (.int .u64 s2) := (blk_cell K7_w1.out 6).trans rfl
  have x77_w1 : w1.cell? ⟨w.heap.size + 1, 7, none⟩ = some (.int .u64 s3) := (blk_cell K7_w1.out 7).trans rfl
  have x80_w1 : w1.cell? ⟨w.heap.size + 1 + 1, 0, none⟩ = some (.int .i64 0) := (blk_cell K8_w1.out 0).trans rfl
  have x81_w1 : w1.cell? ⟨w.heap.size + 1 + 1, 1, none⟩ = some (.int .i64 0) := (blk_cell K8_w1.out 1).trans rfl
  have x82_w1 : w1.cell? ⟨w.heap.size + 1 + 1, 2, none⟩ = some (.int .i64 0) := (blk_cell K8_w1.out 2).trans rfl
  have x83_w1 : w1.cell? ⟨w.heap.size + 1 + 1, 3, none⟩ = some (.int .i64 0) := (blk_cell K8_w1.out 3).trans rfl
  have x84_w1 : w1.cell? ⟨w.heap.size + 1 + 1, 4, none⟩ = some (.int .u64 0) := (blk_cell K8_w1.out 4).trans rfl
  have x85_w1 : w1.cell? ⟨w.heap.size + 1 + 1, 5, none⟩ = some (.int .u64 0) := (blk_cell K8_w1.out 5).trans rfl
  have x86_w1 : w1.cell? ⟨w.heap.size + 1 + 1, 6, none⟩ = some (.int .u64 0) := (blk_cell K8_w1.out 6).trans rfl
  have x87_w1 : w1.cell? ⟨w.heap.size + 1 + 1, 7, none⟩ = some (.int .u64 0) := (blk_cell K8_w1.out 7).trans rfl
  have f7_w1 : ∀ j, w1.frozen? ⟨w.heap.size + 1, j, none⟩ = false := blk_frozen K7_w1.out
  have f8_w1 : ∀ j, w1.frozen? ⟨w.heap.size + 1 + 1, j, none⟩ = false := blk_frozen K8_w1.out
  have hbc_w1 : w1.cell? ⟨bc, 0, none⟩ = some (.slice AC own.length cC) := pw_cell_below HB_w1.out hx0
  clear hb
  go_wp2_with fail
  refine (has_any s0 s1 s2 s3 g1 _).mono ?_
  rintro e w2 ⟨b, rfl, hb⟩
  have HB_w2 := Aside0.mk (below_step (w := w) HB_w1.out hb)
  have K5_w2 := Aside0.mk (blk_below K5_w1.out hb)
  have K7_w2 := Aside0.mk (blk_below K7_w1.out hb)
  have K8_w2 := Aside0.mk (blk_below K8_w1.out hb)
  have x5_w2 : w2.cell? ⟨w.heap.size, 0, none⟩ = some (.int .i64 t.f0) := (blk_cell K5_w2.out 0).trans rfl
  have x70_w2 : w2.cell? ⟨w.heap.size + 1, 0, none⟩ = some (.int .i64 d) := (blk_cell K7_w2.out 0).trans rfl
  have x71_w2 : w2.cell? ⟨w.heap.size + 1, 1, none⟩ = some (.int .i64 dm) := (blk_cell K7_w2.out 1).trans rfl
  have x72_w2 : w2.cell? ⟨w.heap.size + 1, 2, none⟩ = some (.int .i64 db) := (blk_cell K7_w2.out 2).trans rfl
  have x73_w2 : w2.cell? ⟨w.heap.size + 1, 3, none⟩ = some (.int .i64 rl) := (blk_cell K7_w2.out 3).trans rfl
  have x74_w2 : w2.cell? ⟨w.heap.size + 1, 4, none⟩ = some (.int .u64 s0) := (blk_cell K7_w2.out 4).trans rfl
  have x75_w2 : w2.cell? ⟨w.heap.size + 1, 5, none⟩ = some (.int .u64 s1) := (blk_cell K7_w2.out 5).trans rfl
  have x76_w2 : w2.cell? ⟨w.heap.size + 1, 6, none⟩ = some (.int .u64 s2) := (blk_cell K7_w2.out 6).trans rfl
  have x77_w2 : w2.cell? ⟨w.heap.size + 1, 7, none⟩ = some (.int .u64 s3) := (blk_cell K7_w2.out 7).trans rfl
  have x80_w2 : w2.cell? ⟨w.heap.size + 1 + 1, 0, none⟩ = some (.int .i64 0) := (blk_cell K8_w2.out 0).trans rfl
  have x81_w2 : w2.cell? ⟨w.heap.size + 1 + 1, 1, none⟩ = some (.int .i64 0) := (blk_cell K8_w2.out 1).trans rfl
  have x82_w2 : w2.cell? ⟨w.heap.size + 1 + 1, 2, none⟩ = some (.int .i64 0) := (blk_cell K8_w2.out 2).trans rfl
  have x83_w2 : w2.cell? ⟨w.heap.size + 1 + 1, 3, none⟩ = some (.int .i64 0) := (blk_cell K8_w2.out 3).trans rfl
  have x84_w2 : w2.cell? ⟨w.heap.size + 1 + 1, 4, none⟩ = some (.int .u64 0) := (blk_cell K8_w2.out 4).trans rfl
  have x85_w2 : w2.cell? ⟨w.heap.size + 1 + 1, 5, none⟩ = some (.int .u64 0) := (blk_cell K8_w2.out 5).trans rfl
  have x86_w2 : w2.cell? ⟨w.heap.size + 1 + 1, 6, none⟩ = some (.int .u64 0) := (blk_cell K8_w2.out 6).trans rfl
  have x87_w2 : w2.cell? ⟨w.heap.size + 1 + 1, 7, none⟩ = some (.int .u64 0) := (blk_cell K8_w2.out 7).trans rfl
  have f7_w2 : ∀ j, w2.frozen? ⟨w.heap.size + 1, j, none⟩ = false := blk_frozen K7_w2.out
  have f8_w2 : ∀ j, w2.frozen? ⟨w.heap.size + 1 + 1, j, none⟩ = false := blk_frozen K8_w2.out
  have hbc_w2 : w2.cell? ⟨bc, 0, none⟩ = some (.slice AC own.length cC) := pw_cell_below HB_w2.out hx0
  clear hb
  clear x5_w1 x70_w1 x80_w1 x71_w1 x81_w1 x72_w1 x82_w1 x73_w1 x83_w1 x74_w1 x84_w1 x75_w1 x85_w1 x76_w1 x86_w1 x77_w1 x87_w1 f7_w1 f8_w1 hbc_w1
  clear hx0
  go_wp2_with fail
  go_quiet (fail)
  go_wp2
  refine bodyPost_ret (results_list (rs := [.cell 8 155, .tmp 9]) rfl (by simp) (.cell (w.heap.size + 1 + 1) 155 _ (0, 0) _ rfl (fill8 (blk_far (blk_drewN K8_w2.out _) (by simp) _)) Tryd.underlying155 rfl (by kernel_rfl) (.tmp .nil))) rfl ?_
  refine ⟨wrap64 (d + 1), dm, db, rl, s0, s1, s2, s3, false, own, rfl, by simp, ⟨_, _, rfl⟩, ?_, ?_⟩
  · exact pw_own_below HO.out (by repeat (with_reducible first | exact HB_w2.out | exact Below.refl _ _ | apply below_alloc | apply pw_below_drewN | apply below_drew1 | apply bset0 | apply bset1 | apply bset2))
  · exact KeptT.of_below (by repeat (with_reducible first | exact HB_w2.out | exact Below.refl _ _ | apply below_alloc | apply pw_below_drewN | apply below_drew1 | apply bset0 | apply bset1 | apply bset2)) hszB

set_option maxHeartbeats 1600000 in
set_option maxRecDepth 100000 in
theorem step_a3 (B bc : Nat) (AC : Option Addr) (cC : Nat) (own : List Int) (t : S90) (A5 A6 : Option Addr) (c5 c6 : Nat) (reload d dm db rl s0 s1 s2 s3 : Int) (w : World)
    (hbc : w.heap[bc]? = some (.cells #[.slice AC own.length cC] 194 (0, 0))) (hB : B ≤ bc) (hown : w.ownsRow B 3 1 (.slice AC own.length cC) own.length (nums .i64 own))
    (r5 : Kd.C (Kd.int .i64) w A5 t.f5.length t.f5) (l5 : t.f5.length ≤ c5) (r6 : Kd.C (Kd.int .i64) w A6 t.f6.length t.f6) (l6 : t.f6.length ≤ c6) (c1 : 0 ≤ d) (c2 : d < dm) (c3 : 0 ≤ db) (c4 : 0 ≤ reload) (c5' : reload ≤ 1000) (c6' : 1 ≤ t.f0) (c7 : t.f0 ≤ 99) (c8 : db ≤ 0) (g1 : Int) (g2 : Bool) (hacc : Go.Proofs.YtbldolbeijpipaaDoor.PB.ostinatoref05_Access.f t.f0 t.f1 t.f2 t.f3 t.f4 t.f5 t.f6 d = some (g1, g2)) (hA0 : 0 ≤ g1) (hA : g1 < (own.length : Int)) (hg : g2 = false) :
    Calls Tryd.prog 74 #[.pointer (some ⟨bc, 0, none⟩), .agg #[.int .i64 t.f0, .int .i64 t.f1, .int .i64 t.f2, .int .i64 t.f3, .int .i64 t.f4, .slice A5 t.f5.length c5, .slice A6 t.f6.length c6], .int .i64 reload, .agg #[.int .i64 d, .int .i64 dm, .int .i64 db, .int .i64 rl, .int .u64 s0, .int .u64 s1, .int .u64 s2, .int .u64 s3]] w (StepP w B (.slice AC own.length cC)) := by
  subst hg
  have HAC := Aside0.mk (fun W (hW : Below w.heap.size w W) => Go.Proofs.YtbldolbeijpipaaDoor.PB.ostinatoref05_Access.calls t.f0 t.f1 t.f2 t.f3 t.f4 A5 c5 t.f5 A6 c6 t.f6 d g1 false W (Kd.C_below r5 hW) l5 (Kd.C_below r6 hW) l6 hacc)
  have hbl := blk_lt hbc
  have HBC := Aside0.mk hbc
  have HO := Aside0.mk hown
  have hszB : B ≤ w.heap.size := Nat.le_of_lt (Nat.lt_of_le_of_lt hB hbl)
  have hx0 : w.cell? ⟨bc, 0, none⟩ = some (.slice AC own.length cC) := (blk_cell hbc 0).trans rfl
  have hlm : own.length ≤ 9223372036854775807 := by obtain ⟨_, _, _, _, hr⟩ := own_reads_of_le (enc := Value.int .i64) (d := (0 : Int)) hown; exact hr.2.1
  clear r5 r6 l5 l6 hacc hbc hown
  go_enter Tryd.func74, Tryd.ntmps74
  go_wp2_with fail
  refine (HAC.out _ (by repeat (first | exact Below.refl _ _ | exact HB.out | apply below_alloc | apply pw_below_drewN | apply below_drew1 | (refine below_set ?_ (Nat.le_refl _)) | (refine below_set ?_ (by simp; done)) | (refine below_set ?_ (by simp; omega))))).mono ?_
  rintro e w1 ⟨rfl, hb⟩
  have HB_w1 := Aside0.mk (below_step (w := w) (by repeat (first | exact Below.refl _ _ | exact HB.out | apply below_alloc | apply pw_below_drewN | apply below_drew1 | (refine below_set ?_ (Nat.le_refl _)) | (refine below_set ?_ (by simp; done)) | (refine below_set ?_ (by simp; omega)))) hb)
  have K5_w1 := Aside0.mk (blk_below (g := w.heap.size) (blk_alloc (blk_alloc (blk_nw w (.cells #[.int .i64 t.f0, .int .i64 t.f1, .int .i64 t.f2, .int .i64 t.f3, .int .i64 t.f4, .slice A5 t.f5.length c5, .slice A6 t.f6.length c6] 90) _ rfl) (.cells #[.int .i64 d, .int .i64 dm, .int .i64 db, .int .i64 rl, .int .u64 s0, .int .u64 s1, .int .u64 s2, .int .u64 s3] 155)) (.cells #[.int .i64 0, .int .i64 0, .int .i64 0, .int .i64 0, .int .u64 0, .int .u64 0, .int .u64 0, .int .u64 0] 155)) hb)
  have K7_w1 := Aside0.mk (blk_below (g := w.heap.size + 1) (blk_alloc (blk_nw (w.alloc (.cells #[.int .i64 t.f0, .int .i64 t.f1, .int .i64 t.f2, .int .i64 t.f3, .int .i64 t.f4, .slice A5 t.f5.length c5, .slice A6 t.f6.length c6] 90)) (.cells #[.int .i64 d, .int .i64 dm, .int .i64 db, .int .i64 rl, .int .u64 s0, .int .u64 s1, .int .u64 s2, .int .u64 s3] 155) _ (by simp)) (.cells #[.int .i64 0, .int .i64 0, .int .i64 0, .int .i64 0, .int .u64 0, .int .u64 0, .int .u64 0, .int .u64 0] 155)) hb)
  have K8_w1 := Aside0.mk (blk_below (g := w.heap.size + 1 + 1) (blk_nw ((w.alloc (.cells #[.int .i64 t.f0, .int .i64 t.f1, .int .i64 t.f2, .int .i64 t.f3, .int .i64 t.f4, .slice A5 t.f5.length c5, .slice A6 t.f6.length c6] 90)).alloc (.cells #[.int .i64 d, .int .i64 dm, .int .i64 db, .int .i64 rl, .int .u64 s0, .int .u64 s1, .int .u64 s2, .int .u64 s3] 155)) (.cells #[.int .i64 0, .int .i64 0, .int .i64 0, .int .i64 0, .int .u64 0, .int .u64 0, .int .u64 0, .int .u64 0] 155) _ (by simp)) hb)
  have x5_w1 : w1.cell? ⟨w.heap.size, 0, none⟩ = some (.int .i64 t.f0) := (blk_cell K5_w1.out 0).trans rfl
  have x70_w1 : w1.cell? ⟨w.heap.size + 1, 0, none⟩ = some (.int .i64 d) := (blk_cell K7_w1.out 0).trans rfl
  have x71_w1 : w1.cell? ⟨w.heap.size + 1, 1, none⟩ = some (.int .i64 dm) := (blk_cell K7_w1.out 1).trans rfl
  have x72_w1 : w1.cell? ⟨w.heap.size + 1, 2, none⟩ = some (.int .i64 db) := (blk_cell K7_w1.out 2).trans rfl
  have x73_w1 : w1.cell? ⟨w.heap.size + 1, 3, none⟩ = some (.int .i64 rl) := (blk_cell K7_w1.out 3).trans rfl
  have x74_w1 : w1.cell? ⟨w.heap.size + 1, 4, none⟩ = some (.int .u64 s0) := (blk_cell K7_w1.out 4).trans rfl
  have x75_w1 : w1.cell? ⟨w.heap.size + 1, 5, none⟩ = some (.int .u64 s1) := (blk_cell K7_w1.out 5).trans rfl
  have x76_w1 : w1.cell? ⟨w.heap.size + 1, 6, none⟩ = some (.int .u64 s2) := (blk_cell K7_w1.out 6).trans rfl
  have x77_w1 : w1.cell? ⟨w.heap.size + 1, 7, none⟩ = some (.int .u64 s3) := (blk_cell K7_w1.out 7).trans rfl
  have x80_w1 : w1.cell? ⟨w.heap.size + 1 + 1, 0, none⟩ = some (.int .i64 0) := (blk_cell K8_w1.out 0).trans rfl
  have x81_w1 : w1.cell? ⟨w.heap.size + 1 + 1, 1, none⟩ = some (.int .i64 0) := (blk_cell K8_w1.out 1).trans rfl
  have x82_w1 : w1.cell? ⟨w.heap.size + 1 + 1, 2, none⟩ = some (.int .i64 0) := (blk_cell K8_w1.out 2).trans rfl
  have x83_w1 : w1.cell? ⟨w.heap.size + 1 + 1, 3, none⟩ = some (.int .i64 0) := (blk_cell K8_w1.out 3).trans rfl
  have x84_w1 : w1.cell? ⟨w.heap.size + 1 + 1, 4, none⟩ = some (.int .u64 0) := (blk_cell K8_w1.out 4).trans rfl
  have x85_w1 : w1.cell? ⟨w.heap.size + 1 + 1, 5, none⟩ = some (.int .u64 0) := (blk_cell K8_w1.out 5).trans rfl
  have x86_w1 : w1.cell? ⟨w.heap.size + 1 + 1, 6, none⟩ = some (.int .u64 0) := (blk_cell K8_w1.out 6).trans rfl
  have x87_w1 : w1.cell? ⟨w.heap.size + 1 + 1, 7, none⟩ = some (.int .u64 0) := (blk_cell K8_w1.out 7).trans rfl
  have f7_w1 : ∀ j, w1.frozen? ⟨w.heap.size + 1, j, none⟩ = false := blk_frozen K7_w1.out
  have f8_w1 : ∀ j, w1.frozen? ⟨w.heap.size + 1 + 1, j, none⟩ = false := blk_frozen K8_w1.out
  have hbc_w1 : w1.cell? ⟨bc, 0, none⟩ = some (.slice AC own.length cC) := pw_cell_below HB_w1.out hx0
  clear hb
  go_wp2_with fail
  refine (has_any s0 s1 s2 s3 g1 _).mono ?_
  rintro e w2 ⟨b, rfl, hb⟩
  have HB_w2 := Aside0.mk (below_step (w := w) HB_w1.out hb)
  have K5_w2 := Aside0.mk (blk_below K5_w1.out hb)
  have K7_w2 := Aside0.mk (blk_below K7_w1.out hb)
  have K8_w2 := Aside0.mk (blk_below K8_w1.out hb)
  have x5_w2 : w2.cell? ⟨w.heap.size, 0, none⟩ = some (.int .i64 t.f0) := (blk_cell K5_w2.out 0).trans rfl
  have x70_w2 : w2.cell? ⟨w.heap.size + 1, 0, none⟩ = some (.int .i64 d) := (blk_cell K7_w2.out 0).trans rfl
  have x71_w2 : w2.cell? ⟨w.heap.size + 1, 1, none⟩ = some (.int .i64 dm) := (blk_cell K7_w2.out 1).trans rfl
  have x72_w2 : w2.cell? ⟨w.heap.size + 1, 2, none⟩ = some (.int .i64 db) := (blk_cell K7_w2.out 2).trans rfl
  have x73_w2 : w2.cell? ⟨w.heap.size + 1, 3, none⟩ = some (.int .i64 rl) := (blk_cell K7_w2.out 3).trans rfl
  have x74_w2 : w2.cell? ⟨w.heap.size + 1, 4, none⟩ = some (.int .u64 s0) := (blk_cell K7_w2.out 4).trans rfl
  have x75_w2 : w2.cell? ⟨w.heap.size + 1, 5, none⟩ = some (.int .u64 s1) := (blk_cell K7_w2.out 5).trans rfl
  have x76_w2 : w2.cell? ⟨w.heap.size + 1, 6, none⟩ = some (.int .u64 s2) := (blk_cell K7_w2.out 6).trans rfl
  have x77_w2 : w2.cell? ⟨w.heap.size + 1, 7, none⟩ = some (.int .u64 s3) := (blk_cell K7_w2.out 7).trans rfl
  have x80_w2 : w2.cell? ⟨w.heap.size + 1 + 1, 0, none⟩ = some (.int .i64 0) := (blk_cell K8_w2.out 0).trans rfl
  have x81_w2 : w2.cell? ⟨w.heap.size + 1 + 1, 1, none⟩ = some (.int .i64 0) := (blk_cell K8_w2.out 1).trans rfl
  have x82_w2 : w2.cell? ⟨w.heap.size + 1 + 1, 2, none⟩ = some (.int .i64 0) := (blk_cell K8_w2.out 2).trans rfl
  have x83_w2 : w2.cell? ⟨w.heap.size + 1 + 1, 3, none⟩ = some (.int .i64 0) := (blk_cell K8_w2.out 3).trans rfl
  have x84_w2 : w2.cell? ⟨w.heap.size + 1 + 1, 4, none⟩ = some (.int .u64 0) := (blk_cell K8_w2.out 4).trans rfl
  have x85_w2 : w2.cell? ⟨w.heap.size + 1 + 1, 5, none⟩ = some (.int .u64 0) := (blk_cell K8_w2.out 5).trans rfl
  have x86_w2 : w2.cell? ⟨w.heap.size + 1 + 1, 6, none⟩ = some (.int .u64 0) := (blk_cell K8_w2.out 6).trans rfl
  have x87_w2 : w2.cell? ⟨w.heap.size + 1 + 1, 7, none⟩ = some (.int .u64 0) := (blk_cell K8_w2.out 7).trans rfl
  have f7_w2 : ∀ j, w2.frozen? ⟨w.heap.size + 1, j, none⟩ = false := blk_frozen K7_w2.out
  have f8_w2 : ∀ j, w2.frozen? ⟨w.heap.size + 1 + 1, j, none⟩ = false := blk_frozen K8_w2.out
  have hbc_w2 : w2.cell? ⟨bc, 0, none⟩ = some (.slice AC own.length cC) := pw_cell_below HB_w2.out hx0
  clear hb
  clear x5_w1 x70_w1 x80_w1 x71_w1 x81_w1 x72_w1 x82_w1 x73_w1 x83_w1 x74_w1 x84_w1 x75_w1 x85_w1 x76_w1 x86_w1 x77_w1 x87_w1 f7_w1 f8_w1 hbc_w1
  clear hx0
  go_wp2_with fail
  go_quiet (fail)
  go_wp2
  refine bodyPost_ret (results_list (rs := [.cell 8 155, .tmp 9]) rfl (by simp) (.cell (w.heap.size + 1 + 1) 155 _ (0, 0) _ rfl (fill8 (blk_far (blk_drewN K8_w2.out _) (by simp) _)) Tryd.underlying155 rfl (by kernel_rfl) (.tmp .nil))) rfl ?_
  refine ⟨wrap64 (d + 1), dm, db, rl, s0, s1, s2, s3, false, own, rfl, by simp, ⟨_, _, rfl⟩, ?_, ?_⟩
  · exact pw_own_below HO.out (by repeat (with_reducible first | exact HB_w2.out | exact Below.refl _ _ | apply below_alloc | apply pw_below_drewN | apply below_drew1 | apply bset0 | apply bset1 | apply bset2))
  · exact KeptT.of_below (by repeat (with_reducible first | exact HB_w2.out | exact Below.refl _ _ | apply below_alloc | apply pw_below_drewN | apply below_drew1 | apply bset0 | apply bset1 | apply bset2)) hszB

theorem own_set_nums {w : World} {B j : Nat} {v : Value} {own : List Int} {x : Int} (h : w.ownsRow B 3 1 v own.length ((nums .i64 own).set j (.int .i64 x))) : w.ownsRow B 3 1 v (own.set j x).length (nums .i64 (own.set j x)) := by
  rw [List.length_set]
  unfold nums at h ⊢
  rw [List.map_set]
  exact h

set_option maxHeartbeats 8000000 in
set_option maxRecDepth 100000 in
theorem step_in (B bc : Nat) (AC : Option Addr) (cC : Nat) (own : List Int) (t : S90) (A5 A6 : Option Addr) (c5 c6 : Nat) (reload d dm db rl s0 s1 s2 s3 : Int) (w : World)
    (hbc : w.heap[bc]? = some (.cells #[.slice AC own.length cC] 194 (0, 0))) (hB : B ≤ bc) (hown : w.ownsRow B 3 1 (.slice AC own.length cC) own.length (nums .i64 own))
    (r5 : Kd.C (Kd.int .i64) w A5 t.f5.length t.f5) (l5 : t.f5.length ≤ c5) (r6 : Kd.C (Kd.int .i64) w A6 t.f6.length t.f6) (l6 : t.f6.length ≤ c6) (c1 : 0 ≤ d) (c2 : d < dm) (c3 : 0 ≤ db) (c4 : 0 ≤ reload) (c5' : reload ≤ 1000) (c6' : 1 ≤ t.f0) (c7 : t.f0 ≤ 99) (c8 : db ≤ 0) (g1 : Int) (g2 : Bool) (hacc : Go.Proofs.YtbldolbeijpipaaDoor.PB.ostinatoref05_Access.f t.f0 t.f1 t.f2 t.f3 t.f4 t.f5 t.f6 d = some (g1, g2)) (hA0 : 0 ≤ g1) (hA : g1 < (own.length : Int)) (hg : g2 = true) :
    Calls Tryd.prog 74 #[.pointer (some ⟨bc, 0, none⟩), .agg #[.int .i64 t.f0, .int .i64 t.f1, .int .i64 t.f2, .int .i64 t.f3, .int .i64 t.f4, .slice A5 t.f5.length c5, .slice A6 t.f6.length c6], .int .i64 reload, .agg #[.int .i64 d, .int .i64 dm, .int .i64 db, .int .i64 rl, .int .u64 s0, .int .u64 s1, .int .u64 s2, .int .u64 s3]] w (StepP w B (.slice AC own.length cC)) := by
  subst hg
  obtain ⟨gC, rfl⟩ : ∃ gC, AC = some ⟨gC, 0, none⟩ := by
    rcases hown.2 with ⟨h', _⟩ | ⟨g', cap', cur, h', _⟩
    · injection h' with e1 e2 e3; omega
    · injection h' with e1; exact ⟨g', e1⟩
  have hgl : gC < w.heap.size := own_lt hown gC rfl
  have hcg : w.cell? ⟨gC, g1.toNat, none⟩ = some (.int .i64 (rd own g1)) := by
    rw [hown.cellAt g1.toNat (by omega)]
    simp only [nums, List.getElem?_map, rd, List.getD_eq_getElem?_getD]
    rw [List.getElem?_eq_getElem (by omega)]
    rfl
  have ne1 : gC ≠ w.heap.size + 1 := by omega
  have ne2 : gC ≠ w.heap.size + 1 + 1 := by omega
  have ne1' : w.heap.size + 1 ≠ gC := by omega
  have ne2' : w.heap.size + 1 + 1 ≠ gC := by omega
  have HN1 := Aside0.mk (show some (w.heap.size + 1) ≠ (Value.slice (some ⟨gC, 0, none⟩) own.length cC).ownBlock by simp [Value.ownBlock]; omega)
  have HN2 := Aside0.mk (show some (w.heap.size + 1 + 1) ≠ (Value.slice (some ⟨gC, 0, none⟩) own.length cC).ownBlock by simp [Value.ownBlock]; omega)
  have HAC := Aside0.mk (fun W (hW : Below w.heap.size w W) => Go.Proofs.YtbldolbeijpipaaDoor.PB.ostinatoref05_Access.calls t.f0 t.f1 t.f2 t.f3 t.f4 A5 c5 t.f5 A6 c6 t.f6 d g1 true W (Kd.C_below r5 hW) l5 (Kd.C_below r6 hW) l6 hacc)
  have hbl := blk_lt hbc
  have HBC := Aside0.mk hbc
  have HO := Aside0.mk hown
  have hszB : B ≤ w.heap.size := Nat.le_of_lt (Nat.lt_of_le_of_lt hB hbl)
  have hx0 : w.cell? ⟨bc, 0, none⟩ = some (.slice (some ⟨gC, 0, none⟩) own.length cC) := (blk_cell hbc 0).trans rfl
  have hlm : own.length ≤ 9223372036854775807 := by obtain ⟨_, _, _, _, hr⟩ := own_reads_of_le (enc := Value.int .i64) (d := (0 : Int)) hown; exact hr.2.1
  clear r5 r6 l5 l6 hacc hbc hown
  go_enter Tryd.func74, Tryd.ntmps74
  go_wp2_with fail
  refine (HAC.out _ (by repeat (first | exact Below.refl _ _ | exact HB.out | apply below_alloc | apply pw_below_drewN | apply below_drew1 | (refine below_set ?_ (Nat.le_refl _)) | (refine below_set ?_ (by simp; done)) | (refine below_set ?_ (by simp; omega))))).mono ?_
  rintro e w1 ⟨rfl, hb⟩
  have HB_w1 := Aside0.mk (below_step (w := w) (by repeat (first | exact Below.refl _ _ | exact HB.out | apply below_alloc | apply pw_below_drewN | apply below_drew1 | (refine below_set ?_ (Nat.le_refl _)) | (refine below_set ?_ (by simp; done)) | (refine below_set ?_ (by simp; omega)))) hb)
  have K5_w1 := Aside0.mk (blk_below (g := w.heap.size) (blk_alloc (blk_alloc (blk_nw w (.cells #[.int .i64 t.f0, .int .i64 t.f1, .int .i64 t.f2, .int .i64 t.f3, .int .i64 t.f4, .slice A5 t.f5.length c5, .slice A6 t.f6.length c6] 90) _ rfl) (.cells #[.int .i64 d, .int .i64 dm, .int .i64 db, .int .i64 rl, .int .u64 s0, .int .u64 s1, .int .u64 s2, .int .u64 s3] 155)) (.cells #[.int .i64 0, .int .i64 0, .int .i64 0, .int .i64 0, .int .u64 0, .int .u64 0, .int .u64 0, .int .u64 0] 155)) hb)
  have K7_w1 := Aside0.mk (blk_below (g := w.heap.size + 1) (blk_alloc (blk_nw (w.alloc (.cells #[.int .i64 t.f0, .int .i64 t.f1, .int .i64 t.f2, .int .i64 t.f3, .int .i64 t.f4, .slice A5 t.f5.length c5, .slice A6 t.f6.length c6] 90)) (.cells #[.int .i64 d, .int .i64 dm, .int .i64 db, .int .i64 rl, .int .u64 s0, .int .u64 s1, .int .u64 s2, .int .u64 s3] 155) _ (by simp)) (.cells #[.int .i64 0, .int .i64 0, .int .i64 0, .int .i64 0, .int .u64 0, .int .u64 0, .int .u64 0, .int .u64 0] 155)) hb)
  have K8_w1 := Aside0.mk (blk_below (g := w.heap.size + 1 + 1) (blk_nw ((w.alloc (.cells #[.int .i64 t.f0, .int .i64 t.f1, .int .i64 t.f2, .int .i64 t.f3, .int .i64 t.f4, .slice A5 t.f5.length c5, .slice A6 t.f6.length c6] 90)).alloc (.cells #[.int .i64 d, .int .i64 dm, .int .i64 db, .int .i64 rl, .int .u64 s0, .int .u64 s1, .int .u64 s2, .int .u64 s3] 155)) (.cells #[.int .i64 0, .int .i64 0, .int .i64 0, .int .i64 0, .int .u64 0, .int .u64 0, .int .u64 0, .int .u64 0] 155) _ (by simp)) hb)
  have x5_w1 : w1.cell? ⟨w.heap.size, 0, none⟩ = some (.int .i64 t.f0) := (blk_cell K5_w1.out 0).trans rfl
  have x70_w1 : w1.cell? ⟨w.heap.size + 1, 0, none⟩ = some (.int .i64 d) := (blk_cell K7_w1.out 0).trans rfl
  have x71_w1 : w1.cell? ⟨w.heap.size + 1, 1, none⟩ = some (.int .i64 dm) := (blk_cell K7_w1.out 1).trans rfl
  have x72_w1 : w1.cell? ⟨w.heap.size + 1, 2, none⟩ = some (.int .i64 db) := (blk_cell K7_w1.out 2).trans rfl
  have x73_w1 : w1.cell? ⟨w.heap.size + 1, 3, none⟩ = some (.int .i64 rl) := (blk_cell K7_w1.out 3).trans rfl
  have x74_w1 : w1.cell? ⟨w.heap.size + 1, 4, none⟩ = some (.int .u64 s0) := (blk_cell K7_w1.out 4).trans rfl
  have x75_w1 : w1.cell? ⟨w.heap.size + 1, 5, none⟩ = some (.int .u64 s1) := (blk_cell K7_w1.out 5).trans rfl
  have x76_w1 : w1.cell? ⟨w.heap.size + 1, 6, none⟩ = some (.int .u64 s2) := (blk_cell K7_w1.out 6).trans rfl
  have x77_w1 : w1.cell? ⟨w.heap.size + 1, 7, none⟩ = some (.int .u64 s3) := (blk_cell K7_w1.out 7).trans rfl
  have x80_w1 : w1.cell? ⟨w.heap.size + 1 + 1, 0, none⟩ = some (.int .i64 0) := (blk_cell K8_w1.out 0).trans rfl
  have x81_w1 : w1.cell? ⟨w.heap.size + 1 + 1, 1, none⟩ = some (.int .i64 0) := (blk_cell K8_w1.out 1).trans rfl
  have x82_w1 : w1.cell? ⟨w.heap.size + 1 + 1, 2, none⟩ = some (.int .i64 0) := (blk_cell K8_w1.out 2).trans rfl
  have x83_w1 : w1.cell? ⟨w.heap.size + 1 + 1, 3, none⟩ = some (.int .i64 0) := (blk_cell K8_w1.out 3).trans rfl
  have x84_w1 : w1.cell? ⟨w.heap.size + 1 + 1, 4, none⟩ = some (.int .u64 0) := (blk_cell K8_w1.out 4).trans rfl
  have x85_w1 : w1.cell? ⟨w.heap.size + 1 + 1, 5, none⟩ = some (.int .u64 0) := (blk_cell K8_w1.out 5).trans rfl
  have x86_w1 : w1.cell? ⟨w.heap.size + 1 + 1, 6, none⟩ = some (.int .u64 0) := (blk_cell K8_w1.out 6).trans rfl
  have x87_w1 : w1.cell? ⟨w.heap.size + 1 + 1, 7, none⟩ = some (.int .u64 0) := (blk_cell K8_w1.out 7).trans rfl
  have f7_w1 : ∀ j, w1.frozen? ⟨w.heap.size + 1, j, none⟩ = false := blk_frozen K7_w1.out
  have f8_w1 : ∀ j, w1.frozen? ⟨w.heap.size + 1 + 1, j, none⟩ = false := blk_frozen K8_w1.out
  have hbc_w1 : w1.cell? ⟨bc, 0, none⟩ = some (.slice (some ⟨gC, 0, none⟩) own.length cC) := pw_cell_below HB_w1.out hx0
  clear hb
  go_wp2_with fail
  refine (has_any s0 s1 s2 s3 g1 _).mono ?_
  rintro e w2 ⟨b, rfl, hb⟩
  have HB_w2 := Aside0.mk (below_step (w := w) HB_w1.out hb)
  have K5_w2 := Aside0.mk (blk_below K5_w1.out hb)
  have K7_w2 := Aside0.mk (blk_below K7_w1.out hb)
  have K8_w2 := Aside0.mk (blk_below K8_w1.out hb)
  have x5_w2 : w2.cell? ⟨w.heap.size, 0, none⟩ = some (.int .i64 t.f0) := (blk_cell K5_w2.out 0).trans rfl
  have x70_w2 : w2.cell? ⟨w.heap.size + 1, 0, none⟩ = some (.int .i64 d) := (blk_cell K7_w2.out 0).trans rfl
  have x71_w2 : w2.cell? ⟨w.heap.size + 1, 1, none⟩ = some (.int .i64 dm) := (blk_cell K7_w2.out 1).trans rfl
  have x72_w2 : w2.cell? ⟨w.heap.size + 1, 2, none⟩ = some (.int .i64 db) := (blk_cell K7_w2.out 2).trans rfl
  have x73_w2 : w2.cell? ⟨w.heap.size + 1, 3, none⟩ = some (.int .i64 rl) := (blk_cell K7_w2.out 3).trans rfl
  have x74_w2 : w2.cell? ⟨w.heap.size + 1, 4, none⟩ = some (.int .u64 s0) := (blk_cell K7_w2.out 4).trans rfl
  have x75_w2 : w2.cell? ⟨w.heap.size + 1, 5, none⟩ = some (.int .u64 s1) := (blk_cell K7_w2.out 5).trans rfl
  have x76_w2 : w2.cell? ⟨w.heap.size + 1, 6, none⟩ = some (.int .u64 s2) := (blk_cell K7_w2.out 6).trans rfl
  have x77_w2 : w2.cell? ⟨w.heap.size + 1, 7, none⟩ = some (.int .u64 s3) := (blk_cell K7_w2.out 7).trans rfl
  have x80_w2 : w2.cell? ⟨w.heap.size + 1 + 1, 0, none⟩ = some (.int .i64 0) := (blk_cell K8_w2.out 0).trans rfl
  have x81_w2 : w2.cell? ⟨w.heap.size + 1 + 1, 1, none⟩ = some (.int .i64 0) := (blk_cell K8_w2.out 1).trans rfl
  have x82_w2 : w2.cell? ⟨w.heap.size + 1 + 1, 2, none⟩ = some (.int .i64 0) := (blk_cell K8_w2.out 2).trans rfl
  have x83_w2 : w2.cell? ⟨w.heap.size + 1 + 1, 3, none⟩ = some (.int .i64 0) := (blk_cell K8_w2.out 3).trans rfl
  have x84_w2 : w2.cell? ⟨w.heap.size + 1 + 1, 4, none⟩ = some (.int .u64 0) := (blk_cell K8_w2.out 4).trans rfl
  have x85_w2 : w2.cell? ⟨w.heap.size + 1 + 1, 5, none⟩ = some (.int .u64 0) := (blk_cell K8_w2.out 5).trans rfl
  have x86_w2 : w2.cell? ⟨w.heap.size + 1 + 1, 6, none⟩ = some (.int .u64 0) := (blk_cell K8_w2.out 6).trans rfl
  have x87_w2 : w2.cell? ⟨w.heap.size + 1 + 1, 7, none⟩ = some (.int .u64 0) := (blk_cell K8_w2.out 7).trans rfl
  have f7_w2 : ∀ j, w2.frozen? ⟨w.heap.size + 1, j, none⟩ = false := blk_frozen K7_w2.out
  have f8_w2 : ∀ j, w2.frozen? ⟨w.heap.size + 1 + 1, j, none⟩ = false := blk_frozen K8_w2.out
  have hbc_w2 : w2.cell? ⟨bc, 0, none⟩ = some (.slice (some ⟨gC, 0, none⟩) own.length cC) := pw_cell_below HB_w2.out hx0
  clear hb
  clear x5_w1 x70_w1 x80_w1 x71_w1 x81_w1 x72_w1 x82_w1 x73_w1 x83_w1 x74_w1 x84_w1 x75_w1 x85_w1 x76_w1 x86_w1 x77_w1 x87_w1 f7_w1 f8_w1 hbc_w1
  clear hx0
  have HO2 := Aside0.mk (pw_own_below HO.out HB_w2.out)
  have hcg2 : w2.cell? ⟨gC, g1.toNat, none⟩ = some (.int .i64 (rd own g1)) := pw_cell_below HB_w2.out hcg
  have fg2 : ∀ j, w2.frozen? ⟨gC, j, none⟩ = false := fun j => HO2.out.frozenAt j
  clear hcg
  cases b
  case false =>
    go_wp2_with fail
    go_quiet (fail)
    go_wp2_with fail
    refine wp_region_still_tail 8 (by kernel_rfl) (by kernel_rfl) ?_
    change wpStill _ _ (World.drew _) (fun a' => wpList _ _ _ _ a' (World.drew _)) _ _
    simp only [List.take_succ_cons, List.take_zero, List.drop_succ_cons, List.drop_zero]
    repeat still_step
    refine wpStill_nil ?_
    go_wp2_with fail
    have HO3 := Aside0.mk (((show ((w2.drewN nq).setCell ⟨w.heap.size + 1, 0, none⟩ (.int .i64 (wrap64 (d + 1)))).ownsRow B 3 1 (.slice (some ⟨gC, 0, none⟩) own.length cC) own.length (nums .i64 own) from own_setCell HO2.out HN1.out _).stored g1.toNat (.int .i64 t.f0)).1)
    have K3 := Aside0.mk (KeptT.row (j := g1.toNat) (u := .int .i64 t.f0) (KeptT.loc1 (j := 0) (u := .int .i64 (wrap64 (d + 1))) (KeptT.drewN (KeptT.of_below (T := [3]) (B := B) HB_w2.out hszB) nq) hszB) (own_setCell HO2.out HN1.out _) (by simp))
    refine (with_any s0 s1 s2 s3 g1 _).mono ?_
    rintro e w4 ⟨v0, v1, v2, v3, rfl, hb⟩
    have K7_w4 := Aside0.mk (blk_below (g := w.heap.size + 1) (o := .cells #[.int .i64 (wrap64 (d + 1)), .int .i64 dm, .int .i64 db, .int .i64 rl, .int .u64 s0, .int .u64 s1, .int .u64 s2, .int .u64 s3] 155 (0, 0)) (blk_drew (blk_far (p := ⟨gC, g1.toNat, none⟩) (blk_put (blk_drewN K7_w2.out nq) 0 _ rfl) ne1' _)) hb)
    have K8_w4 := Aside0.mk (blk_below (g := w.heap.size + 1 + 1) (blk_drew (blk_far (p := ⟨gC, g1.toNat, none⟩) (blk_far (p := ⟨w.heap.size + 1, 0, none⟩) (blk_drewN K8_w2.out nq) (by simp) _) ne2' _)) hb)
    have HO4 := Aside0.mk (pw_own_below HO3.out.drew hb)
    have KT4 := Aside0.mk (KeptT.step (KeptT.drew K3.out) hb (Nat.le_trans hszB (KeptT.drew K3.out).bel.size))
    have x70_w4 : w4.cell? ⟨w.heap.size + 1, 0, none⟩ = some (.int .i64 (wrap64 (d + 1))) := (blk_cell K7_w4.out 0).trans rfl
    have x71_w4 : w4.cell? ⟨w.heap.size + 1, 1, none⟩ = some (.int .i64 dm) := (blk_cell K7_w4.out 1).trans rfl
    have x72_w4 : w4.cell? ⟨w.heap.size + 1, 2, none⟩ = some (.int .i64 db) := (blk_cell K7_w4.out 2).trans rfl
    have x73_w4 : w4.cell? ⟨w.heap.size + 1, 3, none⟩ = some (.int .i64 rl) := (blk_cell K7_w4.out 3).trans rfl
    have x74_w4 : w4.cell? ⟨w.heap.size + 1, 4, none⟩ = some (.int .u64 s0) := (blk_cell K7_w4.out 4).trans rfl
    have x75_w4 : w4.cell? ⟨w.heap.size + 1, 5, none⟩ = some (.int .u64 s1) := (blk_cell K7_w4.out 5).trans rfl
    have x76_w4 : w4.cell? ⟨w.heap.size + 1, 6, none⟩ = some (.int .u64 s2) := (blk_cell K7_w4.out 6).trans rfl
    have x77_w4 : w4.cell? ⟨w.heap.size + 1, 7, none⟩ = some (.int .u64 s3) := (blk_cell K7_w4.out 7).trans rfl
    have x80_w4 : w4.cell? ⟨w.heap.size + 1 + 1, 0, none⟩ = some (.int .i64 0) := (blk_cell K8_w4.out 0).trans rfl
    have x81_w4 : w4.cell? ⟨w.heap.size + 1 + 1, 1, none⟩ = some (.int .i64 0) := (blk_cell K8_w4.out 1).trans rfl
    have x82_w4 : w4.cell? ⟨w.heap.size + 1 + 1, 2, none⟩ = some (.int .i64 0) := (blk_cell K8_w4.out 2).trans rfl
    have x83_w4 : w4.cell? ⟨w.heap.size + 1 + 1, 3, none⟩ = some (.int .i64 0) := (blk_cell K8_w4.out 3).trans rfl
    have x84_w4 : w4.cell? ⟨w.heap.size + 1 + 1, 4, none⟩ = some (.int .u64 0) := (blk_cell K8_w4.out 4).trans rfl
    have x85_w4 : w4.cell? ⟨w.heap.size + 1 + 1, 5, none⟩ = some (.int .u64 0) := (blk_cell K8_w4.out 5).trans rfl
    have x86_w4 : w4.cell? ⟨w.heap.size + 1 + 1, 6, none⟩ = some (.int .u64 0) := (blk_cell K8_w4.out 6).trans rfl
    have x87_w4 : w4.cell? ⟨w.heap.size + 1 + 1, 7, none⟩ = some (.int .u64 0) := (blk_cell K8_w4.out 7).trans rfl
    have f7_w4 : ∀ j, w4.frozen? ⟨w.heap.size + 1, j, none⟩ = false := blk_frozen K7_w4.out
    have f8_w4 : ∀ j, w4.frozen? ⟨w.heap.size + 1 + 1, j, none⟩ = false := blk_frozen K8_w4.out
    clear hb hcg2 fg2
    clear x5_w2 x70_w2 x80_w2 x71_w2 x81_w2 x72_w2 x82_w2 x73_w2 x83_w2 x74_w2 x84_w2 x75_w2 x85_w2 x76_w2 x86_w2 x77_w2 x87_w2 f7_w2 f8_w2 hbc_w2
    go_wp2
    refine bodyPost_ret (results_list (rs := [.cell 8 155, .tmp 9]) rfl (by simp) (.cell (w.heap.size + 1 + 1) 155 _ (0, 0) _ rfl (fill8 (blk_far (blk_far (blk_far (blk_far K8_w4.out (by simp) _) (by simp) _) (by simp) _) (by simp) _)) Tryd.underlying155 rfl (by kernel_rfl) (.tmp .nil))) rfl ?_
    refine ⟨wrap64 (d + 1), dm, db, rl, v0, v1, v2, v3, false, own.set g1.toNat t.f0, rfl, by simp, ⟨_, _, by rw [List.length_set]⟩, ?_, ?_⟩
    · exact own_set_nums (by repeat (with_reducible first | exact HO4.out | refine own_setCell ?_ HN1.out _ | refine own_setCell ?_ HN2.out _))
    · exact (by repeat (with_reducible first | exact KT4.out | apply KeptT.drewN | apply KeptT.drew | refine KeptT.loc1 ?_ hszB | refine KeptT.loc2 ?_ hszB))

  case true =>
    by_cases heq : rd own g1 = t.f0
    · have hb_ := bne_eq_false_iff_eq.mpr heq
      clear heq
      go_wp2_with fail
      go_quiet (fail)
      go_wp2_with fail
      refine wp_region_still_tail 8 (by kernel_rfl) (by kernel_rfl) ?_
      change wpStill _ _ (World.drew _) (fun a' => wpList _ _ _ _ a' (World.drew _)) _ _
      simp only [List.take_succ_cons, List.take_zero, List.drop_succ_cons, List.drop_zero]
      repeat still_step
      refine wpStill_nil ?_
      go_wp2_with fail
      have HO3 := Aside0.mk (((show ((w2.drewN nq).setCell ⟨w.heap.size + 1, 0, none⟩ (.int .i64 (wrap64 (d + 1)))).ownsRow B 3 1 (.slice (some ⟨gC, 0, none⟩) own.length cC) own.length (nums .i64 own) from own_setCell HO2.out HN1.out _).stored g1.toNat (.int .i64 t.f0)).1)
      have K3 := Aside0.mk (KeptT.row (j := g1.toNat) (u := .int .i64 t.f0) (KeptT.loc1 (j := 0) (u := .int .i64 (wrap64 (d + 1))) (KeptT.drewN (KeptT.of_below (T := [3]) (B := B) HB_w2.out hszB) nq) hszB) (own_setCell HO2.out HN1.out _) (by simp))
      refine (with_any s0 s1 s2 s3 g1 _).mono ?_
      rintro e w4 ⟨v0, v1, v2, v3, rfl, hb⟩
      have K7_w4 := Aside0.mk (blk_below (g := w.heap.size + 1) (o := .cells #[.int .i64 (wrap64 (d + 1)), .int .i64 dm, .int .i64 db, .int .i64 rl, .int .u64 s0, .int .u64 s1, .int .u64 s2, .int .u64 s3] 155 (0, 0)) (blk_drew (blk_far (p := ⟨gC, g1.toNat, none⟩) (blk_put (blk_drewN K7_w2.out nq) 0 _ rfl) ne1' _)) hb)
      have K8_w4 := Aside0.mk (blk_below (g := w.heap.size + 1 + 1) (blk_drew (blk_far (p := ⟨gC, g1.toNat, none⟩) (blk_far (p := ⟨w.heap.size + 1, 0, none⟩) (blk_drewN K8_w2.out nq) (by simp) _) ne2' _)) hb)
      have HO4 := Aside0.mk (pw_own_below HO3.out.drew hb)
      have KT4 := Aside0.mk (KeptT.step (KeptT.drew K3.out) hb (Nat.le_trans hszB (KeptT.drew K3.out).bel.size))
      have x70_w4 : w4.cell? ⟨w.heap.size + 1, 0, none⟩ = some (.int .i64 (wrap64 (d + 1))) := (blk_cell K7_w4.out 0).trans rfl
      have x71_w4 : w4.cell? ⟨w.heap.size + 1, 1, none⟩ = some (.int .i64 dm) := (blk_cell K7_w4.out 1).trans rfl
      have x72_w4 : w4.cell? ⟨w.heap.size + 1, 2, none⟩ = some (.int .i64 db) := (blk_cell K7_w4.out 2).trans rfl
      have x73_w4 : w4.cell? ⟨w.heap.size + 1, 3, none⟩ = some (.int .i64 rl) := (blk_cell K7_w4.out 3).trans rfl
      have x74_w4 : w4.cell? ⟨w.heap.size + 1, 4, none⟩ = some (.int .u64 s0) := (blk_cell K7_w4.out 4).trans rfl
      have x75_w4 : w4.cell? ⟨w.heap.size + 1, 5, none⟩ = some (.int .u64 s1) := (blk_cell K7_w4.out 5).trans rfl
      have x76_w4 : w4.cell? ⟨w.heap.size + 1, 6, none⟩ = some (.int .u64 s2) := (blk_cell K7_w4.out 6).trans rfl
      have x77_w4 : w4.cell? ⟨w.heap.size + 1, 7, none⟩ = some (.int .u64 s3) := (blk_cell K7_w4.out 7).trans rfl
      have x80_w4 : w4.cell? ⟨w.heap.size + 1 + 1, 0, none⟩ = some (.int .i64 0) := (blk_cell K8_w4.out 0).trans rfl
      have x81_w4 : w4.cell? ⟨w.heap.size + 1 + 1, 1, none⟩ = some (.int .i64 0) := (blk_cell K8_w4.out 1).trans rfl
      have x82_w4 : w4.cell? ⟨w.heap.size + 1 + 1, 2, none⟩ = some (.int .i64 0) := (blk_cell K8_w4.out 2).trans rfl
      have x83_w4 : w4.cell? ⟨w.heap.size + 1 + 1, 3, none⟩ = some (.int .i64 0) := (blk_cell K8_w4.out 3).trans rfl
      have x84_w4 : w4.cell? ⟨w.heap.size + 1 + 1, 4, none⟩ = some (.int .u64 0) := (blk_cell K8_w4.out 4).trans rfl
      have x85_w4 : w4.cell? ⟨w.heap.size + 1 + 1, 5, none⟩ = some (.int .u64 0) := (blk_cell K8_w4.out 5).trans rfl
      have x86_w4 : w4.cell? ⟨w.heap.size + 1 + 1, 6, none⟩ = some (.int .u64 0) := (blk_cell K8_w4.out 6).trans rfl
      have x87_w4 : w4.cell? ⟨w.heap.size + 1 + 1, 7, none⟩ = some (.int .u64 0) := (blk_cell K8_w4.out 7).trans rfl
      have f7_w4 : ∀ j, w4.frozen? ⟨w.heap.size + 1, j, none⟩ = false := blk_frozen K7_w4.out
      have f8_w4 : ∀ j, w4.frozen? ⟨w.heap.size + 1 + 1, j, none⟩ = false := blk_frozen K8_w4.out
      clear hb hcg2 fg2
      clear x5_w2 x70_w2 x80_w2 x71_w2 x81_w2 x72_w2 x82_w2 x73_w2 x83_w2 x74_w2 x84_w2 x75_w2 x85_w2 x76_w2 x86_w2 x77_w2 x87_w2 f7_w2 f8_w2 hbc_w2
      go_wp2
      refine bodyPost_ret (results_list (rs := [.cell 8 155, .tmp 9]) rfl (by simp) (.cell (w.heap.size + 1 + 1) 155 _ (0, 0) _ rfl (fill8 (blk_far (blk_far (blk_far (blk_far K8_w4.out (by simp) _) (by simp) _) (by simp) _) (by simp) _)) Tryd.underlying155 rfl (by kernel_rfl) (.tmp .nil))) rfl ?_
      refine ⟨wrap64 (d + 1), dm, db, rl, v0, v1, v2, v3, false, own.set g1.toNat t.f0, rfl, by simp, ⟨_, _, by rw [List.length_set]⟩, ?_, ?_⟩
      · exact own_set_nums (by repeat (with_reducible first | exact HO4.out | refine own_setCell ?_ HN1.out _ | refine own_setCell ?_ HN2.out _))
      · exact (by repeat (with_reducible first | exact KT4.out | apply KeptT.drewN | apply KeptT.drew | refine KeptT.loc1 ?_ hszB | refine KeptT.loc2 ?_ hszB))

    · have hb_ := bne_iff_ne.mpr heq
      clear heq
      by_cases hr : reload ≤ 0
      · skip
        go_wp2_with fail
        go_quiet (fail)
        go_wp2_with fail
        refine wp_region_still_tail 8 (by kernel_rfl) (by kernel_rfl) ?_
        change wpStill _ _ (World.drew _) (fun a' => wpList _ _ _ _ a' (World.drew _)) _ _
        simp only [List.take_succ_cons, List.take_zero, List.drop_succ_cons, List.drop_zero]
        repeat still_step
        refine wpStill_nil ?_
        go_wp2_with fail
        have HO3 := Aside0.mk (((show ((w2.drewN nq).setCell ⟨w.heap.size + 1, 0, none⟩ (.int .i64 (wrap64 (d + 1)))).ownsRow B 3 1 (.slice (some ⟨gC, 0, none⟩) own.length cC) own.length (nums .i64 own) from own_setCell HO2.out HN1.out _).stored g1.toNat (.int .i64 t.f0)).1)
        have K3 := Aside0.mk (KeptT.row (j := g1.toNat) (u := .int .i64 t.f0) (KeptT.loc1 (j := 0) (u := .int .i64 (wrap64 (d + 1))) (KeptT.drewN (KeptT.of_below (T := [3]) (B := B) HB_w2.out hszB) nq) hszB) (own_setCell HO2.out HN1.out _) (by simp))
        refine (with_any s0 s1 s2 s3 g1 _).mono ?_
        rintro e w4 ⟨v0, v1, v2, v3, rfl, hb⟩
        have K7_w4 := Aside0.mk (blk_below (g := w.heap.size + 1) (o := .cells #[.int .i64 (wrap64 (d + 1)), .int .i64 dm, .int .i64 db, .int .i64 rl, .int .u64 s0, .int .u64 s1, .int .u64 s2, .int .u64 s3] 155 (0, 0)) (blk_drew (blk_far (p := ⟨gC, g1.toNat, none⟩) (blk_put (blk_drewN K7_w2.out nq) 0 _ rfl) ne1' _)) hb)
        have K8_w4 := Aside0.mk (blk_below (g := w.heap.size + 1 + 1) (blk_drew (blk_far (p := ⟨gC, g1.toNat, none⟩) (blk_far (p := ⟨w.heap.size + 1, 0, none⟩) (blk_drewN K8_w2.out nq) (by simp) _) ne2' _)) hb)
        have HO4 := Aside0.mk (pw_own_below HO3.out.drew hb)
        have KT4 := Aside0.mk (KeptT.step (KeptT.drew K3.out) hb (Nat.le_trans hszB (KeptT.drew K3.out).bel.size))
        have x70_w4 : w4.cell? ⟨w.heap.size + 1, 0, none⟩ = some (.int .i64 (wrap64 (d + 1))) := (blk_cell K7_w4.out 0).trans rfl
        have x71_w4 : w4.cell? ⟨w.heap.size + 1, 1, none⟩ = some (.int .i64 dm) := (blk_cell K7_w4.out 1).trans rfl
        have x72_w4 : w4.cell? ⟨w.heap.size + 1, 2, none⟩ = some (.int .i64 db) := (blk_cell K7_w4.out 2).trans rfl
        have x73_w4 : w4.cell? ⟨w.heap.size + 1, 3, none⟩ = some (.int .i64 rl) := (blk_cell K7_w4.out 3).trans rfl
        have x74_w4 : w4.cell? ⟨w.heap.size + 1, 4, none⟩ = some (.int .u64 s0) := (blk_cell K7_w4.out 4).trans rfl
        have x75_w4 : w4.cell? ⟨w.heap.size + 1, 5, none⟩ = some (.int .u64 s1) := (blk_cell K7_w4.out 5).trans rfl
        have x76_w4 : w4.cell? ⟨w.heap.size + 1, 6, none⟩ = some (.int .u64 s2) := (blk_cell K7_w4.out 6).trans rfl
        have x77_w4 : w4.cell? ⟨w.heap.size + 1, 7, none⟩ = some (.int .u64 s3) := (blk_cell K7_w4.out 7).trans rfl
        have x80_w4 : w4.cell? ⟨w.heap.size + 1 + 1, 0, none⟩ = some (.int .i64 0) := (blk_cell K8_w4.out 0).trans rfl
        have x81_w4 : w4.cell? ⟨w.heap.size + 1 + 1, 1, none⟩ = some (.int .i64 0) := (blk_cell K8_w4.out 1).trans rfl
        have x82_w4 : w4.cell? ⟨w.heap.size + 1 + 1, 2, none⟩ = some (.int .i64 0) := (blk_cell K8_w4.out 2).trans rfl
        have x83_w4 : w4.cell? ⟨w.heap.size + 1 + 1, 3, none⟩ = some (.int .i64 0) := (blk_cell K8_w4.out 3).trans rfl
        have x84_w4 : w4.cell? ⟨w.heap.size + 1 + 1, 4, none⟩ = some (.int .u64 0) := (blk_cell K8_w4.out 4).trans rfl
        have x85_w4 : w4.cell? ⟨w.heap.size + 1 + 1, 5, none⟩ = some (.int .u64 0) := (blk_cell K8_w4.out 5).trans rfl
        have x86_w4 : w4.cell? ⟨w.heap.size + 1 + 1, 6, none⟩ = some (.int .u64 0) := (blk_cell K8_w4.out 6).trans rfl
        have x87_w4 : w4.cell? ⟨w.heap.size + 1 + 1, 7, none⟩ = some (.int .u64 0) := (blk_cell K8_w4.out 7).trans rfl
        have f7_w4 : ∀ j, w4.frozen? ⟨w.heap.size + 1, j, none⟩ = false := blk_frozen K7_w4.out
        have f8_w4 : ∀ j, w4.frozen? ⟨w.heap.size + 1 + 1, j, none⟩ = false := blk_frozen K8_w4.out
        clear hb hcg2 fg2
        clear x5_w2 x70_w2 x80_w2 x71_w2 x81_w2 x72_w2 x82_w2 x73_w2 x83_w2 x74_w2 x84_w2 x75_w2 x85_w2 x76_w2 x86_w2 x77_w2 x87_w2 f7_w2 f8_w2 hbc_w2
        go_wp2
        refine bodyPost_ret (results_list (rs := [.cell 8 155, .tmp 9]) rfl (by simp) (.cell (w.heap.size + 1 + 1) 155 _ (0, 0) _ rfl (fill8 (blk_far (blk_far (blk_far (blk_far K8_w4.out (by simp) _) (by simp) _) (by simp) _) (by simp) _)) Tryd.underlying155 rfl (by kernel_rfl) (.tmp .nil))) rfl ?_
        refine ⟨wrap64 (d + 1), dm, db, rl, v0, v1, v2, v3, false, own.set g1.toNat t.f0, rfl, by simp, ⟨_, _, by rw [List.length_set]⟩, ?_, ?_⟩
        · exact own_set_nums (by repeat (with_reducible first | exact HO4.out | refine own_setCell ?_ HN1.out _ | refine own_setCell ?_ HN2.out _))
        · exact (by repeat (with_reducible first | exact KT4.out | apply KeptT.drewN | apply KeptT.drew | refine KeptT.loc1 ?_ hszB | refine KeptT.loc2 ?_ hszB))

      · skip
        go_wp2_with fail
        go_quiet (fail)
        go_wp2_with fail
        refine wp_region_still_tail 8 (by kernel_rfl) (by kernel_rfl) ?_
        change wpStill _ _ (World.drew _) (fun a' => wpList _ _ _ _ a' (World.drew _)) _ _
        simp only [List.take_succ_cons, List.take_zero, List.drop_succ_cons, List.drop_zero]
        repeat still_step
        refine wpStill_nil ?_
        go_wp2
        have HO3 := Aside0.mk (((show (w2.drewN (nq + 1)).ownsRow B 3 1 (.slice (some ⟨gC, 0, none⟩) own.length cC) own.length (nums .i64 own) from HO2.out).stored g1.toNat (.int .i64 t.f0)).1)
        have K3 := Aside0.mk (KeptT.row (j := g1.toNat) (u := .int .i64 t.f0) (KeptT.drewN (KeptT.of_below (T := [3]) (B := B) HB_w2.out hszB) (nq + 1)) (show (w2.drewN (nq + 1)).ownsRow B 3 1 (.slice (some ⟨gC, 0, none⟩) own.length cC) own.length (nums .i64 own) from HO2.out) (by simp))
        refine bodyPost_ret (results_list (rs := [.cell 8 155, .tmp 9]) rfl (by simp) (.cell (w.heap.size + 1 + 1) 155 _ (0, 0) _ rfl (fill8 (blk_far (blk_far (blk_far (blk_drewN K8_w2.out _) ne2' _) (by simp) _) (by simp) _)) Tryd.underlying155 rfl (by kernel_rfl) (.tmp .nil))) rfl ?_
        refine ⟨d, dm, reload - 1, wrap64 (rl + 1), s0, s1, s2, s3, true, own.set g1.toNat t.f0, rfl, fun _ => by omega, ⟨_, _, by rw [List.length_set]⟩, ?_, ?_⟩
        · exact own_set_nums (by repeat (with_reducible first | exact HO3.out | refine own_setCell ?_ HN1.out _ | refine own_setCell ?_ HN2.out _))
        · exact (by repeat (with_reducible first | exact K3.out | apply KeptT.drewN | apply KeptT.drew | refine KeptT.loc1 ?_ hszB | refine KeptT.loc2 ?_ hszB))

theorem step_any (B bc : Nat) (AC : Option Addr) (cC : Nat) (own : List Int) (t : S90) (A5 A6 : Option Addr) (c5 c6 : Nat) (reload d dm db rl s0 s1 s2 s3 : Int) (w : World)
    (hbc : w.heap[bc]? = some (.cells #[.slice AC own.length cC] 194 (0, 0))) (hB : B ≤ bc) (hown : w.ownsRow B 3 1 (.slice AC own.length cC) own.length (nums .i64 own))
    (r5 : Kd.C (Kd.int .i64) w A5 t.f5.length t.f5) (l5 : t.f5.length ≤ c5) (r6 : Kd.C (Kd.int .i64) w A6 t.f6.length t.f6) (l6 : t.f6.length ≤ c6) :
    Calls Tryd.prog 74 #[.pointer (some ⟨bc, 0, none⟩), .agg #[.int .i64 t.f0, .int .i64 t.f1, .int .i64 t.f2, .int .i64 t.f3, .int .i64 t.f4, .slice A5 t.f5.length c5, .slice A6 t.f6.length c6], .int .i64 reload, .agg #[.int .i64 d, .int .i64 dm, .int .i64 db, .int .i64 rl, .int .u64 s0, .int .u64 s1, .int .u64 s2, .int .u64 s3]] w (StepP w B (.slice AC own.length cC)) := by
  by_cases hG : 0 ≤ d ∧ d < dm ∧ 0 ≤ db ∧ 0 ≤ reload ∧ reload ≤ 1000 ∧ 1 ≤ t.f0 ∧ t.f0 ≤ 99 ∧ db ≤ 0
  · obtain ⟨c1, c2, c3, c4, c5', c6', c7, c8⟩ := hG
    obtain ⟨g1, g2, hacc⟩ := access_some t.f0 t.f1 t.f2 t.f3 t.f4 t.f5 t.f6 d
    by_cases h1 : g1 < 0
    · exact step_a1 B bc AC cC own t A5 A6 c5 c6 reload d dm db rl s0 s1 s2 s3 w hbc hB hown r5 l5 r6 l6 c1 c2 c3 c4 c5' c6' c7 c8 g1 g2 hacc h1
    · by_cases h2 : (own.length : Int) ≤ g1
      · exact step_a2 B bc AC cC own t A5 A6 c5 c6 reload d dm db rl s0 s1 s2 s3 w hbc hB hown r5 l5 r6 l6 c1 c2 c3 c4 c5' c6' c7 c8 g1 g2 hacc (by omega) h2
      · cases hg : g2
        · exact step_a3 B bc AC cC own t A5 A6 c5 c6 reload d dm db rl s0 s1 s2 s3 w hbc hB hown r5 l5 r6 l6 c1 c2 c3 c4 c5' c6' c7 c8 g1 g2 hacc (by omega) (by omega) hg
        · exact step_in B bc AC cC own t A5 A6 c5 c6 reload d dm db rl s0 s1 s2 s3 w hbc hB hown r5 l5 r6 l6 c1 c2 c3 c4 c5' c6' c7 c8 g1 g2 hacc (by omega) (by omega) hg
  · exact step_short B bc AC cC own t A5 A6 c5 c6 reload d dm db rl s0 s1 s2 s3 w hbc hB hown r5 l5 r6 l6 hG
end Go.Proofs.YtbldolbeijpipaaDoor
