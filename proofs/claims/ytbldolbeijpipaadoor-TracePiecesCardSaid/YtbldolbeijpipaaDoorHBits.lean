import Derived.Test.YtbldolbeijpipaaDoorHBase
namespace Go.Proofs.YtbldolbeijpipaaDoor
open Go.RowKit Go.Proofs.YtbldolbeijpipaaDoorW.PrintWords Go.Proofs.YtbldolbeijpipaaDoorW.PrintLast Go.Proofs.YtbldolbeijpipaaDoorW.PrintMore
set_option linter.unusedVariables false
set_option linter.unusedSimpArgs false

set_option maxHeartbeats 800000 in
theorem ahead_any (pol : Int) (x y : S159) (w : World) :
    Calls Tryd.prog 106 #[.int .i64 pol,
      .agg #[.int .i64 x.f0, .int .i64 x.f1, .int .i64 x.f2, .int .i64 x.f3, .int .i64 x.f4, .int .i64 x.f5, .int .i64 x.f6, .int .i64 x.f7, .int .u64 x.f8, .int .u64 x.f9, .int .u64 x.f10, .int .u64 x.f11],
      .agg #[.int .i64 y.f0, .int .i64 y.f1, .int .i64 y.f2, .int .i64 y.f3, .int .i64 y.f4, .int .i64 y.f5, .int .i64 y.f6, .int .i64 y.f7, .int .u64 y.f8, .int .u64 y.f9, .int .u64 y.f10, .int .u64 y.f11]] w
      (SomeBool w) := by
  go_enter Tryd.func106, Tryd.ntmps106
  go_wp2
  all_goals go_ret
  all_goals exact ⟨_, rfl, ((Below.refl _ _).alloc (Nat.le_refl _) _).alloc (by simp) _⟩

set_option maxHeartbeats 800000 in
theorem has_any (a0 a1 a2 a3 i : Int) (w : World) :
    Calls Tryd.prog 110 #[.agg #[.int .u64 a0, .int .u64 a1, .int .u64 a2, .int .u64 a3], .int .i64 i] w
      (SomeBool w) := by
  by_cases h0 : 0 ≤ i
  · by_cases h1 : i ≤ 255
    · have hq : i / 64 = 0 ∨ i / 64 = 1 ∨ i / 64 = 2 ∨ i / 64 = 3 := by omega
      rcases hq with hq | hq | hq | hq
      all_goals
        go_enter Tryd.func110, Tryd.ntmps110
        go_wp2
        go_ret
        exact ⟨_, rfl, ((Below.refl _ _).alloc (Nat.le_refl _) _)⟩
    · go_enter Tryd.func110, Tryd.ntmps110
      go_wp2
      go_ret
      exact ⟨_, rfl, ((Below.refl _ _).alloc (Nat.le_refl _) _)⟩
  · go_enter Tryd.func110, Tryd.ntmps110
    go_wp2
    go_ret
    exact ⟨_, rfl, ((Below.refl _ _).alloc (Nat.le_refl _) _)⟩







set_option maxHeartbeats 1600000 in
theorem with_any (a0 a1 a2 a3 i : Int) (w : World) :
    Calls Tryd.prog 111 #[.agg #[.int .u64 a0, .int .u64 a1, .int .u64 a2, .int .u64 a3], .int .i64 i] w
      (SomeBits w) := by
  by_cases h0 : 0 ≤ i
  · by_cases h1 : i ≤ 255
    · have hq : i / 64 = 0 ∨ i / 64 = 1 ∨ i / 64 = 2 ∨ i / 64 = 3 := by omega
      rcases hq with hq | hq | hq | hq
      · go_enter Tryd.func111, Tryd.ntmps111
        go_wp2
        · exact bodyPost_ret (v := .agg #[.int .u64 (IntKind.u64.wrap (a0 + IntKind.u64.wrap (2 ^ (i % 64).toNat))), .int .u64 a1, .int .u64 a2, .int .u64 a3]) (by simp [results, Tryd.results111, go_sem]) rfl ⟨_, _, _, _, rfl, (by repeat (first | exact Below.refl _ _ | exact HB.out | apply below_alloc | apply pw_below_drewN | apply below_drew1 | (refine below_set ?_ (Nat.le_refl _)) | (refine below_set ?_ (by simp; done)) | (refine below_set ?_ (by simp; omega))))⟩
        · exact bodyPost_ret (v := .agg #[.int .u64 a0, .int .u64 a1, .int .u64 a2, .int .u64 a3]) (by simp [results, Tryd.results111, go_sem]) rfl ⟨_, _, _, _, rfl, (by repeat (first | exact Below.refl _ _ | exact HB.out | apply below_alloc | apply pw_below_drewN | apply below_drew1 | (refine below_set ?_ (Nat.le_refl _)) | (refine below_set ?_ (by simp; done)) | (refine below_set ?_ (by simp; omega))))⟩
      · go_enter Tryd.func111, Tryd.ntmps111
        go_wp2
        · exact bodyPost_ret (v := .agg #[.int .u64 a0, .int .u64 (IntKind.u64.wrap (a1 + IntKind.u64.wrap (2 ^ (i % 64).toNat))), .int .u64 a2, .int .u64 a3]) (by simp [results, Tryd.results111, go_sem]) rfl ⟨_, _, _, _, rfl, (by repeat (first | exact Below.refl _ _ | exact HB.out | apply below_alloc | apply pw_below_drewN | apply below_drew1 | (refine below_set ?_ (Nat.le_refl _)) | (refine below_set ?_ (by simp; done)) | (refine below_set ?_ (by simp; omega))))⟩
        · exact bodyPost_ret (v := .agg #[.int .u64 a0, .int .u64 a1, .int .u64 a2, .int .u64 a3]) (by simp [results, Tryd.results111, go_sem]) rfl ⟨_, _, _, _, rfl, (by repeat (first | exact Below.refl _ _ | exact HB.out | apply below_alloc | apply pw_below_drewN | apply below_drew1 | (refine below_set ?_ (Nat.le_refl _)) | (refine below_set ?_ (by simp; done)) | (refine below_set ?_ (by simp; omega))))⟩
      · go_enter Tryd.func111, Tryd.ntmps111
        go_wp2
        · exact bodyPost_ret (v := .agg #[.int .u64 a0, .int .u64 a1, .int .u64 (IntKind.u64.wrap (a2 + IntKind.u64.wrap (2 ^ (i % 64).toNat))), .int .u64 a3]) (by simp [results, Tryd.results111, go_sem]) rfl ⟨_, _, _, _, rfl, (by repeat (first | exact Below.refl _ _ | exact HB.out | apply below_alloc | apply pw_below_drewN | apply below_drew1 | (refine below_set ?_ (Nat.le_refl _)) | (refine below_set ?_ (by simp; done)) | (refine below_set ?_ (by simp; omega))))⟩
        · exact bodyPost_ret (v := .agg #[.int .u64 a0, .int .u64 a1, .int .u64 a2, .int .u64 a3]) (by simp [results, Tryd.results111, go_sem]) rfl ⟨_, _, _, _, rfl, (by repeat (first | exact Below.refl _ _ | exact HB.out | apply below_alloc | apply pw_below_drewN | apply below_drew1 | (refine below_set ?_ (Nat.le_refl _)) | (refine below_set ?_ (by simp; done)) | (refine below_set ?_ (by simp; omega))))⟩
      · go_enter Tryd.func111, Tryd.ntmps111
        go_wp2
        · exact bodyPost_ret (v := .agg #[.int .u64 a0, .int .u64 a1, .int .u64 a2, .int .u64 (IntKind.u64.wrap (a3 + IntKind.u64.wrap (2 ^ (i % 64).toNat)))]) (by simp [results, Tryd.results111, go_sem]) rfl ⟨_, _, _, _, rfl, (by repeat (first | exact Below.refl _ _ | exact HB.out | apply below_alloc | apply pw_below_drewN | apply below_drew1 | (refine below_set ?_ (Nat.le_refl _)) | (refine below_set ?_ (by simp; done)) | (refine below_set ?_ (by simp; omega))))⟩
        · exact bodyPost_ret (v := .agg #[.int .u64 a0, .int .u64 a1, .int .u64 a2, .int .u64 a3]) (by simp [results, Tryd.results111, go_sem]) rfl ⟨_, _, _, _, rfl, (by repeat (first | exact Below.refl _ _ | exact HB.out | apply below_alloc | apply pw_below_drewN | apply below_drew1 | (refine below_set ?_ (Nat.le_refl _)) | (refine below_set ?_ (by simp; done)) | (refine below_set ?_ (by simp; omega))))⟩
    · go_enter Tryd.func111, Tryd.ntmps111
      go_wp2
      exact bodyPost_ret (v := .agg #[.int .u64 a0, .int .u64 a1, .int .u64 a2, .int .u64 a3]) (by simp [results, Tryd.results111, go_sem]) rfl ⟨_, _, _, _, rfl, (by repeat (first | exact Below.refl _ _ | exact HB.out | apply below_alloc | apply pw_below_drewN | apply below_drew1 | (refine below_set ?_ (Nat.le_refl _)) | (refine below_set ?_ (by simp; done)) | (refine below_set ?_ (by simp; omega))))⟩
  · go_enter Tryd.func111, Tryd.ntmps111
    go_wp2
    exact bodyPost_ret (v := .agg #[.int .u64 a0, .int .u64 a1, .int .u64 a2, .int .u64 a3]) (by simp [results, Tryd.results111, go_sem]) rfl ⟨_, _, _, _, rfl, (by repeat (first | exact Below.refl _ _ | exact HB.out | apply below_alloc | apply pw_below_drewN | apply below_drew1 | (refine below_set ?_ (Nat.le_refl _)) | (refine below_set ?_ (by simp; done)) | (refine below_set ?_ (by simp; omega))))⟩
end Go.Proofs.YtbldolbeijpipaaDoor
