/- TraceParts: whatever the input, the law returns true, and the input reads as it did; where the three package-level tables (of math/bits and of internal/strconv) hold what their own text lays. -/
import Derived.Test.YtbldolbeijpipaaDoorHText
import Derived.Test.YtbldolbeijpipaaDoorHRun
import Derived.Test.YtbldolbeijpipaaDoorHCard
namespace Go.Proofs.YtbldolbeijpipaaDoor
open Go.RowKit Go.Proofs.YtbldolbeijpipaaDoorW.PrintWords Go.Proofs.YtbldolbeijpipaaDoorW.PrintLast Go.Proofs.YtbldolbeijpipaaDoorW.PrintMore
set_option linter.unusedVariables false
set_option linter.unusedSimpArgs false
theorem right_of_slots {l : List S43} (h : SlotsOK l) (hl : l.length ≤ 160) : RightOK l :=
  ⟨fun x hx => by
    obtain ⟨j, hj, rfl⟩ := List.getElem_of_mem hx
    obtain ⟨h0, h1, h2⟩ := h j _ (List.getElem?_eq_getElem hj)
    refine ⟨h1, by omega, ?_⟩
    rcases h2 with h2 | h2
    · exact .inl h2
    · exact .inr ⟨h2.2.2.2.2.1, h2.1, by omega, h2.2.2.1, h2.2.2.2.1, h2.2.2.2.2.2.2.1, by omega, h2.2.2.2.2.2.1⟩, fun j x y hx hy => by
    have h1 := (h j x hx).1
    have h2 := (h (j + 1) y hy).1
    omega⟩
theorem str_add (a b : List UInt8) : (⟨a.toArray⟩ : ByteArray) ++ ⟨b.toArray⟩ = ⟨(a ++ b).toArray⟩ := by
  refine ByteArray.ext ?_
  simp [ByteArray.data_append]
theorem parted_at (at_ : Int) (n : Nat) (h : n ≤ 160) : ∃ k : Nat, (wrap64 (wrap64 (at_.tmod ((n : Int) + 1) + (n : Int)) + 1)).tmod ((n : Int) + 1) = (k : Int) ∧ k ≤ n := by
  have hp : (0 : Int) < (n : Int) + 1 := by omega
  have h1 := Int.tmod_lt_of_pos at_ hp
  have h2 : -((n : Int) + 1) < at_.tmod ((n : Int) + 1) := by
    have := Int.tmod_lt_of_pos (-at_) hp
    rw [Int.neg_tmod] at this
    omega
  generalize at_.tmod ((n : Int) + 1) = r at h1 h2 ⊢
  have e1 : wrap64 (r + (n : Int)) = r + n := by unfold wrap64; omega
  rw [e1]
  have e2 : wrap64 (r + (n : Int) + 1) = r + n + 1 := by unfold wrap64; omega
  rw [e2]
  have h3 : 0 ≤ r + n + 1 := by omega
  have h4 := Int.tmod_lt_of_pos (r + n + 1) hp
  have h5 := Int.tmod_nonneg ((n : Int) + 1) h3
  exact ⟨((r + n + 1).tmod ((n : Int) + 1)).toNat, by omega, by omega⟩
theorem cut_at (l : List S43) (A : Option Addr) (c k : Nat) (w : World) (hk : k ≤ l.length) (hc : (k : Int) ≤ c) :
    (Instr.slice 32 (.slice A l.length c) none (some (.int .i64 k)) none).run Tryd.prog w = .ok (.slice A (l.take k).length c) w := by
  go_simp
theorem cut_from (l : List S43) (A : Option Addr) (c k : Nat) (w : World) (hk : k ≤ l.length) (hc : l.length ≤ c) :
    (Instr.slice 32 (.slice A l.length c) (some (.int .i64 k)) none none).run Tryd.prog w = .ok (.slice (if c = k then A else A.map (·.add (k * 6))) (l.drop k).length (c - k)) w := by
  have h0 : (0 : Int) ≤ k := by omega
  have h1 : (k : Int) ≤ l.length := by omega
  go_simp
set_option maxHeartbeats 3200000 in
set_option maxRecDepth 100000 in
theorem parts_any (a0 a1 b0 b1 at_ : Int) (An At Aq Aa : Option Addr) (cn ct cq ca : Nat) (ln : List S140) (lt lq : List Int) (la : List S85) (w : World) (hn : k140.C w An ln.length ln) (ht : (Kd.int .i64).C w At lt.length lt) (hq : (Kd.int .i64).C w Aq lq.length lq) (ha : k85.C w Aa la.length la) (hT : T10 w) (hat0 : -9223372036854775808 ≤ at_) (hat1 : at_ ≤ 9223372036854775807) :
    Calls Tryd.prog 3 #[.agg #[.int .i64 a0, .int .i64 a1, .slice An ln.length cn, .int .i64 b0, .int .i64 b1, .slice At lt.length ct, .slice Aq lq.length cq, .slice Aa la.length ca], .int .i64 at_] w fun e w' => e = .returned (.bool true) ∧ Below w.heap.size w w' := by
  have HN := Aside0.mk hn
  have HT := Aside0.mk ht
  have HQ := Aside0.mk hq
  have HA := Aside0.mk ha
  have H10 := Aside0.mk hT
  clear hn ht hq ha hT
  go_enter Tryd.func3, Tryd.ntmps3
  go_wp2_with fail
  obtain ⟨bx, hbx⟩ : ∃ bx, bx = Obj.cells #[.int .i64 a0, .int .i64 a1, .slice An ln.length cn, .int .i64 b0, .int .i64 b1, .slice At lt.length ct, .slice Aq lq.length cq, .slice Aa la.length ca] 30 := ⟨_, rfl⟩
  have HB0 := Aside0.mk (below_alloc (Below.refl w.heap.size w) bx)
  have BX0 := Aside0.mk (blk_new w bx)
  rw [hbx] at HB0 BX0
  clear hbx bx
  refine (awake_any _ (H10.out.below HB0.out)).mono ?_
  rintro e w1 ⟨rfl, hb⟩
  have BX := Aside0.mk (blk_below BX0.out hb)
  have HB := Aside0.mk (below_then HB0.out HB0.out.size hb)
  clear hb HB0 BX0
  have x0 : w1.cell? ⟨w.heap.size, 0, none⟩ = some (.int .i64 a0) := (blk_cell BX.out 0).trans rfl
  have x1 : w1.cell? ⟨w.heap.size, 1, none⟩ = some (.int .i64 a1) := (blk_cell BX.out 1).trans rfl
  have x2 : w1.cell? ⟨w.heap.size, 2, none⟩ = some (.slice An ln.length cn) := (blk_cell BX.out 2).trans rfl
  have x3 : w1.cell? ⟨w.heap.size, 3, none⟩ = some (.int .i64 b0) := (blk_cell BX.out 3).trans rfl
  have x4 : w1.cell? ⟨w.heap.size, 4, none⟩ = some (.int .i64 b1) := (blk_cell BX.out 4).trans rfl
  have x5 : w1.cell? ⟨w.heap.size, 5, none⟩ = some (.slice At lt.length ct) := (blk_cell BX.out 5).trans rfl
  have x6 : w1.cell? ⟨w.heap.size, 6, none⟩ = some (.slice Aq lq.length cq) := (blk_cell BX.out 6).trans rfl
  have x7 : w1.cell? ⟨w.heap.size, 7, none⟩ = some (.slice Aa la.length ca) := (blk_cell BX.out 7).trans rfl
  go_wp2_with fail
  refine (run_any a0 a1 b0 b1 An At Aq Aa cn ct cq ca ln lt lq la w1 (Kd.C_below HN.out HB.out) (Kd.C_below HT.out HB.out) (Kd.C_below HQ.out HB.out) (Kd.C_below HA.out HB.out)).mono ?_
  rintro e w2 ⟨A, c, l, rfl, hl, hS, hc, hC, hb⟩
  replace HB := Aside0.mk (below_then HB.out HB.out.size hb)
  have HC := Aside0.mk hC
  have HR := Aside0.mk (right_of_slots hS hl)
  clear BX hb hC hS x0 x1 x2 x3 x4 x5 x6 x7 HN HT HQ HA
  replace H10 := Aside0.mk (H10.out.below HB.out)
  go_upto_region 4 with fail
  obtain ⟨k, hke, hkl⟩ : ∃ k : Nat, (wrap64 (wrap64 (at_.tmod (↑l.length + 1) + ↑l.length) + 1)).tmod (↑l.length + 1) = (k : Int) ∧ k ≤ l.length := parted_at at_ l.length hl
  rw [hke]
  clear hke
  have hk0 : (0 : Int) ≤ (k : Int) := by omega
  have hk1 : (k : Int) ≤ l.length := by omega
  have hk2 : (k : Int) ≤ c := by omega
  obtain ⟨A2, hA2⟩ : ∃ A2, A2 = if c = k then A else A.map (·.add (k * 6)) := ⟨_, rfl⟩
  have sl1 : ∀ w', (Instr.slice 32 (.slice A l.length c) none (some (.int .i64 k)) none).run Tryd.prog w' = .ok (.slice A (l.take k).length c) w' := fun w' => cut_at l A c k w' hkl hk2
  have sl2 : ∀ w', (Instr.slice 32 (.slice A l.length c) (some (.int .i64 k)) none none).run Tryd.prog w' = .ok (.slice A2 (l.drop k).length (c - k)) w' := fun w' => by rw [hA2]; exact cut_from l A c k w' hkl hc
  have HD := Aside0.mk (Kd.C_drop HC.out hkl hc)
  change Aside0 (k43.C w2 (if c = k then A else A.map (·.add (k * 6))) _ _) at HD
  rw [← hA2] at HD
  have HE := Aside0.mk (Kd.C_take HC.out hkl)
  clear hA2
  replace HB := Aside0.mk (below_drew1 HB.out)
  have hd := below_drew1 (Below.refl w2.heap.size w2)
  replace HC := Aside0.mk (Kd.C_below HC.out hd)
  replace HD := Aside0.mk (Kd.C_below HD.out hd)
  replace HE := Aside0.mk (Kd.C_below HE.out hd)
  replace H10 := Aside0.mk (H10.out.below hd)
  have hlt : (l.take k).length ≤ 100000 := by simp; omega
  have hld : (l.drop k).length ≤ 100000 := by simp; omega
  have hct : (l.take k).length ≤ c := by simp; omega
  have hcd : (l.drop k).length ≤ c - k := by simp; omega
  have tt : txt lineL l = txt lineL (l.take k) ++ txt lineL (l.drop k) := by rw [← txt_append, List.take_append_drop]
  have tb : txt (markL 1) l = txt (markL 1) (l.take k) ++ txt (markL 1) (l.drop k) := by rw [← txt_append, List.take_append_drop]
  have st : (txt lineL (l.take k)).length + (txt lineL (l.drop k)).length ≤ 9223372036854775807 := by
    have h1 := txt_len lineL 201 l (fun y hy => lineL_len y (HR.out.1 y hy))
    rw [tt, List.length_append] at h1
    have : l.length * 201 ≤ 160 * 201 := Nat.mul_le_mul_right _ hl
    omega
  have sb : (txt (markL 1) (l.take k)).length + (txt (markL 1) (l.drop k)).length ≤ 9223372036854775807 := by
    have h1 := txt_len (markL 1) 1 l (fun y hy => Nat.le_of_eq (markL_len 1 y))
    rw [tb, List.length_append] at h1
    omega
  clear hd
  refine start_ (n := 36) (S := fun w' => True) (ds := []) #[false, false, false, false, false, false, false, false, false, false, false, false, false, false, false, false, false, false, false, false, false, false, false, false, false, false, false, false, false, false, false, false, false, false, false, false] (by kernel_rfl) rfl rfl trivial (fun hHeld => ?_)
  have hHeld0 := hHeld
  generalize w2.drew = W4 at HB HC HD HE H10 ⊢
  refine pure_ (i := 0) (N := some 29) (v := ?_) (a' := ?_) #[true, false, false, false, false, false, false, false, false, false, false, false, false, false, false, false, false, false, false, false, false, false, false, false, false, false, false, false, false, false, false, false, false, false, false, false] rfl rfl (by kernel_rfl) (fun _ _ _ h => h) (Or.inl ⟨by rfl, ?_⟩) ?_ ?_
  rotate_left
  · rintro w'
    go_simp
    with_reducible rfl
  rotate_left
  · simp only [Act.put, List.setIfInBounds_toArray, List.set_cons_zero, List.set_cons_succ, i64_w, i32_w]
    rfl
  refine pure_ (i := 1) (N := some 30) (v := ?_) (a' := ?_) #[true, true, false, false, false, false, false, false, false, false, false, false, false, false, false, false, false, false, false, false, false, false, false, false, false, false, false, false, false, false, false, false, false, false, false, false] rfl rfl (by kernel_rfl) (fun _ _ _ h => h) (Or.inl ⟨by rfl, ?_⟩) ?_ ?_
  rotate_left
  · rintro w'
    go_simp
    with_reducible rfl
  rotate_left
  · simp only [Act.put, List.setIfInBounds_toArray, List.set_cons_zero, List.set_cons_succ, i64_w, i32_w]
    rfl
  refine pure_ (i := 2) (N := some 31) (v := ?_) (a' := ?_) #[true, true, true, false, false, false, false, false, false, false, false, false, false, false, false, false, false, false, false, false, false, false, false, false, false, false, false, false, false, false, false, false, false, false, false, false] rfl rfl (by kernel_rfl) (fun _ _ _ h => h) (Or.inl ⟨by rfl, ?_⟩) ?_ ?_
  rotate_left
  · rintro w'
    go_simp
    with_reducible rfl
  rotate_left
  · simp only [Act.put, List.setIfInBounds_toArray, List.set_cons_zero, List.set_cons_succ, i64_w, i32_w]
    rfl
  refine pure_ (i := 4) (N := some 33) (v := ?_) (a' := ?_) #[true, true, true, false, true, false, false, false, false, false, false, false, false, false, false, false, false, false, false, false, false, false, false, false, false, false, false, false, false, false, false, false, false, false, false, false] rfl rfl (by kernel_rfl) (fun _ _ _ h => h) (Or.inl ⟨by rfl, ?_⟩) ?_ ?_
  rotate_left
  · rintro w'
    go_simp
    with_reducible rfl
  rotate_left
  · simp only [Act.put, List.setIfInBounds_toArray, List.set_cons_zero, List.set_cons_succ, i64_w, i32_w]
    rfl
  refine pure_ (i := 5) (N := some 34) (v := ?_) (a' := ?_) #[true, true, true, false, true, true, false, false, false, false, false, false, false, false, false, false, false, false, false, false, false, false, false, false, false, false, false, false, false, false, false, false, false, false, false, false] rfl rfl (by kernel_rfl) (fun _ _ _ h => h) (Or.inl ⟨by rfl, ?_⟩) ?_ ?_
  rotate_left
  · rintro w'
    go_simp
    with_reducible rfl
  rotate_left
  · simp only [Act.put, List.setIfInBounds_toArray, List.set_cons_zero, List.set_cons_succ, i64_w, i32_w]
    rfl
  refine pure_ (i := 6) (N := some 35) (v := (.slice A (l.take k).length c)) (a' := ?_) #[true, true, true, false, true, true, true, false, false, false, false, false, false, false, false, false, false, false, false, false, false, false, false, false, false, false, false, false, false, false, false, false, false, false, false, false] rfl rfl (by kernel_rfl) (fun _ _ _ h => h) (Or.inl ⟨by rfl, ?_⟩) ?_ ?_
  · rintro w'
    go_simp
  rotate_left
  · simp only [Act.put, List.setIfInBounds_toArray, List.set_cons_zero, List.set_cons_succ, i64_w, i32_w]
    rfl
  refine pure_ (i := 8) (N := some 37) (v := ?_) (a' := ?_) #[true, true, true, false, true, true, true, false, true, false, false, false, false, false, false, false, false, false, false, false, false, false, false, false, false, false, false, false, false, false, false, false, false, false, false, false] rfl rfl (by kernel_rfl) (fun _ _ _ h => h) (Or.inl ⟨by rfl, ?_⟩) ?_ ?_
  rotate_left
  · rintro w'
    go_simp
    with_reducible rfl
  rotate_left
  · simp only [Act.put, List.setIfInBounds_toArray, List.set_cons_zero, List.set_cons_succ, i64_w, i32_w]
    rfl
  refine pure_ (i := 9) (N := some 38) (v := ?_) (a' := ?_) #[true, true, true, false, true, true, true, false, true, true, false, false, false, false, false, false, false, false, false, false, false, false, false, false, false, false, false, false, false, false, false, false, false, false, false, false] rfl rfl (by kernel_rfl) (fun _ _ _ h => h) (Or.inl ⟨by rfl, ?_⟩) ?_ ?_
  rotate_left
  · rintro w'
    go_simp
    with_reducible rfl
  rotate_left
  · simp only [Act.put, List.setIfInBounds_toArray, List.set_cons_zero, List.set_cons_succ, i64_w, i32_w]
    rfl
  refine pure_ (i := 10) (N := some 39) (v := (.slice A2 (l.drop k).length (c - k))) (a' := ?_) #[true, true, true, false, true, true, true, false, true, true, true, false, false, false, false, false, false, false, false, false, false, false, false, false, false, false, false, false, false, false, false, false, false, false, false, false] rfl rfl (by kernel_rfl) (fun _ _ _ h => h) (Or.inl ⟨by rfl, ?_⟩) ?_ ?_
  · rintro w'
    go_simp
  rotate_left
  · simp only [Act.put, List.setIfInBounds_toArray, List.set_cons_zero, List.set_cons_succ, i64_w, i32_w]
    rfl
  refine one_ (i := 3) (N := some 32) #[true, true, true, true, true, true, true, false, true, true, true, false, false, false, false, false, false, false, false, false, false, false, false, false, false, false, false, false, false, false, false, false, false, false, false, false] rfl rfl (by kernel_rfl) (by decide) (fun K hK => ?_)
  refine goes_ Tryd.func11 (by kernel_rfl) rfl #[.slice A l.length c] (by rfl) rfl rfl (by simp only [List.map_toArray, List.map_cons, List.map_nil, Act.eval]; rfl) ?_
  refine (text_any l A (c) W4 HR.out (by omega) HC.out hc H10.out).mono ?_
  rintro e W5 ⟨rfl, hb2⟩
  replace HC := Aside0.mk (Kd.C_below HC.out hb2)
  replace HD := Aside0.mk (Kd.C_below HD.out hb2)
  replace HE := Aside0.mk (Kd.C_below HE.out hb2)
  replace H10 := Aside0.mk (H10.out.below hb2)
  replace HB := Aside0.mk (below_then HB.out HB.out.size hb2)
  refine ⟨_, rfl, ?_⟩
  refine hK.out _ _ trivial (fun hHeld => ?_)
  clear hb2
  clear hK K
  refine norm_ (a' := ?_) ?_ ?_
  rotate_left
  · show Act.put _ (some 32) _ = _
    simp only [Act.put, List.setIfInBounds_toArray, List.set_cons_zero, List.set_cons_succ, i64_w, i32_w]
    rfl
  refine one_ (i := 7) (N := some 36) #[true, true, true, true, true, true, true, true, true, true, true, false, false, false, false, false, false, false, false, false, false, false, false, false, false, false, false, false, false, false, false, false, false, false, false, false] rfl rfl (by kernel_rfl) (by decide) (fun K hK => ?_)
  refine goes_ Tryd.func11 (by kernel_rfl) rfl #[.slice A (l.take k).length c] (by rfl) rfl rfl (by simp only [List.map_toArray, List.map_cons, List.map_nil, Act.eval]; rfl) ?_
  refine (text_any (l.take k) A (c) W5 (HR.out.take k) hlt HE.out hct H10.out).mono ?_
  rintro e W6 ⟨rfl, hb2⟩
  replace HC := Aside0.mk (Kd.C_below HC.out hb2)
  replace HD := Aside0.mk (Kd.C_below HD.out hb2)
  replace HE := Aside0.mk (Kd.C_below HE.out hb2)
  replace H10 := Aside0.mk (H10.out.below hb2)
  replace HB := Aside0.mk (below_then HB.out HB.out.size hb2)
  refine ⟨_, rfl, ?_⟩
  refine hK.out _ _ trivial (fun hHeld => ?_)
  clear hb2
  clear hK K
  refine norm_ (a' := ?_) ?_ ?_
  rotate_left
  · show Act.put _ (some 36) _ = _
    simp only [Act.put, List.setIfInBounds_toArray, List.set_cons_zero, List.set_cons_succ, i64_w, i32_w]
    rfl
  refine one_ (i := 11) (N := some 40) #[true, true, true, true, true, true, true, true, true, true, true, true, false, false, false, false, false, false, false, false, false, false, false, false, false, false, false, false, false, false, false, false, false, false, false, false] rfl rfl (by kernel_rfl) (by decide) (fun K hK => ?_)
  refine goes_ Tryd.func11 (by kernel_rfl) rfl #[.slice A2 (l.drop k).length (c - k)] (by rfl) rfl rfl (by simp only [List.map_toArray, List.map_cons, List.map_nil, Act.eval]; rfl) ?_
  refine (text_any (l.drop k) A2 (c - k) W6 (HR.out.drop k) hld HD.out hcd H10.out).mono ?_
  rintro e W7 ⟨rfl, hb2⟩
  replace HC := Aside0.mk (Kd.C_below HC.out hb2)
  replace HD := Aside0.mk (Kd.C_below HD.out hb2)
  replace HE := Aside0.mk (Kd.C_below HE.out hb2)
  replace H10 := Aside0.mk (H10.out.below hb2)
  replace HB := Aside0.mk (below_then HB.out HB.out.size hb2)
  refine ⟨_, rfl, ?_⟩
  refine hK.out _ _ trivial (fun hHeld => ?_)
  clear hb2
  clear hK K
  refine norm_ (a' := ?_) ?_ ?_
  rotate_left
  · show Act.put _ (some 40) _ = _
    simp only [Act.put, List.setIfInBounds_toArray, List.set_cons_zero, List.set_cons_succ, i64_w, i32_w]
    rfl
  refine pure_ (i := 12) (N := some 41) (v := (.string ⟨(txt lineL (l.take k) ++ txt lineL (l.drop k)).toArray⟩)) (a' := ?_) #[true, true, true, true, true, true, true, true, true, true, true, true, true, false, false, false, false, false, false, false, false, false, false, false, false, false, false, false, false, false, false, false, false, false, false, false] rfl rfl (by kernel_rfl) (fun _ _ _ h => h) (Or.inl ⟨by rfl, ?_⟩) ?_ ?_
  · rintro w'
    have h3 := Nat.not_lt.mpr st
    go_simp
    exact str_add _ _
  rotate_left
  · simp only [Act.put, List.setIfInBounds_toArray, List.set_cons_zero, List.set_cons_succ, i64_w, i32_w]
    rfl
  refine pure_ (i := 13) (N := some 42) (v := (.bool true)) (a' := ?_) #[true, true, true, true, true, true, true, true, true, true, true, true, true, true, false, false, false, false, false, false, false, false, false, false, false, false, false, false, false, false, false, false, false, false, false, false] rfl rfl (by kernel_rfl) (fun _ _ _ h => h) (Or.inl ⟨by rfl, ?_⟩) ?_ ?_
  · rintro w'
    rw [tt]
    go_simp
  rotate_left
  · simp only [Act.put, List.setIfInBounds_toArray, List.set_cons_zero, List.set_cons_succ, i64_w, i32_w]
    rfl
  refine pure_ (i := 14) (N := some 43) (v := ?_) (a' := ?_) #[true, true, true, true, true, true, true, true, true, true, true, true, true, true, true, false, false, false, false, false, false, false, false, false, false, false, false, false, false, false, false, false, false, false, false, false] rfl rfl (by kernel_rfl) (fun _ _ _ h => h) (Or.inl ⟨by rfl, ?_⟩) ?_ ?_
  rotate_left
  · rintro w'
    go_simp
    with_reducible rfl
  rotate_left
  · simp only [Act.put, List.setIfInBounds_toArray, List.set_cons_zero, List.set_cons_succ, i64_w, i32_w]
    rfl
  refine pure_ (i := 15) (N := some 44) (v := ?_) (a' := ?_) #[true, true, true, true, true, true, true, true, true, true, true, true, true, true, true, true, false, false, false, false, false, false, false, false, false, false, false, false, false, false, false, false, false, false, false, false] rfl rfl (by kernel_rfl) (fun _ _ _ h => h) (Or.inl ⟨by rfl, ?_⟩) ?_ ?_
  rotate_left
  · rintro w'
    go_simp
    with_reducible rfl
  rotate_left
  · simp only [Act.put, List.setIfInBounds_toArray, List.set_cons_zero, List.set_cons_succ, i64_w, i32_w]
    rfl
  refine pure_ (i := 16) (N := some 45) (v := ?_) (a' := ?_) #[true, true, true, true, true, true, true, true, true, true, true, true, true, true, true, true, true, false, false, false, false, false, false, false, false, false, false, false, false, false, false, false, false, false, false, false] rfl rfl (by kernel_rfl) (fun _ _ _ h => h) (Or.inl ⟨by rfl, ?_⟩) ?_ ?_
  rotate_left
  · rintro w'
    go_simp
    with_reducible rfl
  rotate_left
  · simp only [Act.put, List.setIfInBounds_toArray, List.set_cons_zero, List.set_cons_succ, i64_w, i32_w]
    rfl
  refine pure_ (i := 18) (N := some 47) (v := ?_) (a' := ?_) #[true, true, true, true, true, true, true, true, true, true, true, true, true, true, true, true, true, false, true, false, false, false, false, false, false, false, false, false, false, false, false, false, false, false, false, false] rfl rfl (by kernel_rfl) (fun _ _ _ h => h) (Or.inl ⟨by rfl, ?_⟩) ?_ ?_
  rotate_left
  · rintro w'
    go_simp
    with_reducible rfl
  rotate_left
  · simp only [Act.put, List.setIfInBounds_toArray, List.set_cons_zero, List.set_cons_succ, i64_w, i32_w]
    rfl
  refine pure_ (i := 19) (N := some 48) (v := ?_) (a' := ?_) #[true, true, true, true, true, true, true, true, true, true, true, true, true, true, true, true, true, false, true, true, false, false, false, false, false, false, false, false, false, false, false, false, false, false, false, false] rfl rfl (by kernel_rfl) (fun _ _ _ h => h) (Or.inl ⟨by rfl, ?_⟩) ?_ ?_
  rotate_left
  · rintro w'
    go_simp
    with_reducible rfl
  rotate_left
  · simp only [Act.put, List.setIfInBounds_toArray, List.set_cons_zero, List.set_cons_succ, i64_w, i32_w]
    rfl
  refine pure_ (i := 20) (N := some 49) (v := (.slice A (l.take k).length c)) (a' := ?_) #[true, true, true, true, true, true, true, true, true, true, true, true, true, true, true, true, true, false, true, true, true, false, false, false, false, false, false, false, false, false, false, false, false, false, false, false] rfl rfl (by kernel_rfl) (fun _ _ _ h => h) (Or.inl ⟨by rfl, ?_⟩) ?_ ?_
  · rintro w'
    go_simp
  rotate_left
  · simp only [Act.put, List.setIfInBounds_toArray, List.set_cons_zero, List.set_cons_succ, i64_w, i32_w]
    rfl
  refine pure_ (i := 22) (N := some 51) (v := ?_) (a' := ?_) #[true, true, true, true, true, true, true, true, true, true, true, true, true, true, true, true, true, false, true, true, true, false, true, false, false, false, false, false, false, false, false, false, false, false, false, false] rfl rfl (by kernel_rfl) (fun _ _ _ h => h) (Or.inl ⟨by rfl, ?_⟩) ?_ ?_
  rotate_left
  · rintro w'
    go_simp
    with_reducible rfl
  rotate_left
  · simp only [Act.put, List.setIfInBounds_toArray, List.set_cons_zero, List.set_cons_succ, i64_w, i32_w]
    rfl
  refine pure_ (i := 23) (N := some 52) (v := ?_) (a' := ?_) #[true, true, true, true, true, true, true, true, true, true, true, true, true, true, true, true, true, false, true, true, true, false, true, true, false, false, false, false, false, false, false, false, false, false, false, false] rfl rfl (by kernel_rfl) (fun _ _ _ h => h) (Or.inl ⟨by rfl, ?_⟩) ?_ ?_
  rotate_left
  · rintro w'
    go_simp
    with_reducible rfl
  rotate_left
  · simp only [Act.put, List.setIfInBounds_toArray, List.set_cons_zero, List.set_cons_succ, i64_w, i32_w]
    rfl
  refine pure_ (i := 24) (N := some 53) (v := (.slice A2 (l.drop k).length (c - k))) (a' := ?_) #[true, true, true, true, true, true, true, true, true, true, true, true, true, true, true, true, true, false, true, true, true, false, true, true, true, false, false, false, false, false, false, false, false, false, false, false] rfl rfl (by kernel_rfl) (fun _ _ _ h => h) (Or.inl ⟨by rfl, ?_⟩) ?_ ?_
  · rintro w'
    go_simp
  rotate_left
  · simp only [Act.put, List.setIfInBounds_toArray, List.set_cons_zero, List.set_cons_succ, i64_w, i32_w]
    rfl
  refine one_ (i := 17) (N := some 46) #[true, true, true, true, true, true, true, true, true, true, true, true, true, true, true, true, true, true, true, true, true, false, true, true, true, false, false, false, false, false, false, false, false, false, false, false] rfl rfl (by kernel_rfl) (by decide) (fun K hK => ?_)
  refine goes_ Tryd.func12 (by kernel_rfl) rfl #[.slice A l.length c, .int .i64 1] (by rfl) rfl rfl (by simp only [List.map_toArray, List.map_cons, List.map_nil, Act.eval]; rfl) ?_
  refine (bar_any 1 l A (c) W7 HR.out (by omega) HC.out hc).mono ?_
  rintro e W8 ⟨rfl, hb2⟩
  replace HC := Aside0.mk (Kd.C_below HC.out hb2)
  replace HD := Aside0.mk (Kd.C_below HD.out hb2)
  replace HE := Aside0.mk (Kd.C_below HE.out hb2)
  replace H10 := Aside0.mk (H10.out.below hb2)
  replace HB := Aside0.mk (below_then HB.out HB.out.size hb2)
  refine ⟨_, rfl, ?_⟩
  refine hK.out _ _ trivial (fun hHeld => ?_)
  clear hb2
  clear hK K
  refine norm_ (a' := ?_) ?_ ?_
  rotate_left
  · show Act.put _ (some 46) _ = _
    simp only [Act.put, List.setIfInBounds_toArray, List.set_cons_zero, List.set_cons_succ, i64_w, i32_w]
    rfl
  refine one_ (i := 21) (N := some 50) #[true, true, true, true, true, true, true, true, true, true, true, true, true, true, true, true, true, true, true, true, true, true, true, true, true, false, false, false, false, false, false, false, false, false, false, false] rfl rfl (by kernel_rfl) (by decide) (fun K hK => ?_)
  refine goes_ Tryd.func12 (by kernel_rfl) rfl #[.slice A (l.take k).length c, .int .i64 1] (by rfl) rfl rfl (by simp only [List.map_toArray, List.map_cons, List.map_nil, Act.eval]; rfl) ?_
  refine (bar_any 1 (l.take k) A (c) W8 (HR.out.take k) hlt HE.out hct).mono ?_
  rintro e W9 ⟨rfl, hb2⟩
  replace HC := Aside0.mk (Kd.C_below HC.out hb2)
  replace HD := Aside0.mk (Kd.C_below HD.out hb2)
  replace HE := Aside0.mk (Kd.C_below HE.out hb2)
  replace H10 := Aside0.mk (H10.out.below hb2)
  replace HB := Aside0.mk (below_then HB.out HB.out.size hb2)
  refine ⟨_, rfl, ?_⟩
  refine hK.out _ _ trivial (fun hHeld => ?_)
  clear hb2
  clear hK K
  refine norm_ (a' := ?_) ?_ ?_
  rotate_left
  · show Act.put _ (some 50) _ = _
    simp only [Act.put, List.setIfInBounds_toArray, List.set_cons_zero, List.set_cons_succ, i64_w, i32_w]
    rfl
  refine one_ (i := 25) (N := some 54) #[true, true, true, true, true, true, true, true, true, true, true, true, true, true, true, true, true, true, true, true, true, true, true, true, true, true, false, false, false, false, false, false, false, false, false, false] rfl rfl (by kernel_rfl) (by decide) (fun K hK => ?_)
  refine goes_ Tryd.func12 (by kernel_rfl) rfl #[.slice A2 (l.drop k).length (c - k), .int .i64 1] (by rfl) rfl rfl (by simp only [List.map_toArray, List.map_cons, List.map_nil, Act.eval]; rfl) ?_
  refine (bar_any 1 (l.drop k) A2 (c - k) W9 (HR.out.drop k) hld HD.out hcd).mono ?_
  rintro e W10 ⟨rfl, hb2⟩
  replace HC := Aside0.mk (Kd.C_below HC.out hb2)
  replace HD := Aside0.mk (Kd.C_below HD.out hb2)
  replace HE := Aside0.mk (Kd.C_below HE.out hb2)
  replace H10 := Aside0.mk (H10.out.below hb2)
  replace HB := Aside0.mk (below_then HB.out HB.out.size hb2)
  refine ⟨_, rfl, ?_⟩
  refine hK.out _ _ trivial (fun hHeld => ?_)
  clear hb2
  clear hK K
  refine norm_ (a' := ?_) ?_ ?_
  rotate_left
  · show Act.put _ (some 54) _ = _
    simp only [Act.put, List.setIfInBounds_toArray, List.set_cons_zero, List.set_cons_succ, i64_w, i32_w]
    rfl
  refine pure_ (i := 26) (N := some 55) (v := (.string ⟨(txt (markL 1) (l.take k) ++ txt (markL 1) (l.drop k)).toArray⟩)) (a' := ?_) #[true, true, true, true, true, true, true, true, true, true, true, true, true, true, true, true, true, true, true, true, true, true, true, true, true, true, true, false, false, false, false, false, false, false, false, false] rfl rfl (by kernel_rfl) (fun _ _ _ h => h) (Or.inl ⟨by rfl, ?_⟩) ?_ ?_
  · rintro w'
    have h3 := Nat.not_lt.mpr sb
    go_simp
    exact str_add _ _
  rotate_left
  · simp only [Act.put, List.setIfInBounds_toArray, List.set_cons_zero, List.set_cons_succ, i64_w, i32_w]
    rfl
  refine pure_ (i := 27) (N := some 56) (v := (.bool true)) (a' := ?_) #[true, true, true, true, true, true, true, true, true, true, true, true, true, true, true, true, true, true, true, true, true, true, true, true, true, true, true, true, false, false, false, false, false, false, false, false] rfl rfl (by kernel_rfl) (fun _ _ _ h => h) (Or.inl ⟨by rfl, ?_⟩) ?_ ?_
  · rintro w'
    rw [tb]
    go_simp
  rotate_left
  · simp only [Act.put, List.setIfInBounds_toArray, List.set_cons_zero, List.set_cons_succ, i64_w, i32_w]
    rfl
  refine pure_ (i := 28) (N := some 57) (v := ?_) (a' := ?_) #[true, true, true, true, true, true, true, true, true, true, true, true, true, true, true, true, true, true, true, true, true, true, true, true, true, true, true, true, true, false, false, false, false, false, false, false] rfl rfl (by kernel_rfl) (fun _ _ _ h => h) (Or.inl ⟨by rfl, ?_⟩) ?_ ?_
  rotate_left
  · rintro w'
    go_simp
    with_reducible rfl
  rotate_left
  · simp only [Act.put, List.setIfInBounds_toArray, List.set_cons_zero, List.set_cons_succ, i64_w, i32_w]
    rfl
  refine pure_ (i := 29) (N := some 58) (v := ?_) (a' := ?_) #[true, true, true, true, true, true, true, true, true, true, true, true, true, true, true, true, true, true, true, true, true, true, true, true, true, true, true, true, true, true, false, false, false, false, false, false] rfl rfl (by kernel_rfl) (fun _ _ _ h => h) (Or.inl ⟨by rfl, ?_⟩) ?_ ?_
  rotate_left
  · rintro w'
    go_simp
    with_reducible rfl
  rotate_left
  · simp only [Act.put, List.setIfInBounds_toArray, List.set_cons_zero, List.set_cons_succ, i64_w, i32_w]
    rfl
  refine pure_ (i := 30) (N := some 59) (v := ?_) (a' := ?_) #[true, true, true, true, true, true, true, true, true, true, true, true, true, true, true, true, true, true, true, true, true, true, true, true, true, true, true, true, true, true, true, false, false, false, false, false] rfl rfl (by kernel_rfl) (fun _ _ _ h => h) (Or.inl ⟨by rfl, ?_⟩) ?_ ?_
  rotate_left
  · rintro w'
    go_simp
    with_reducible rfl
  rotate_left
  · simp only [Act.put, List.setIfInBounds_toArray, List.set_cons_zero, List.set_cons_succ, i64_w, i32_w]
    rfl
  refine pure_ (i := 31) (N := some 60) (v := ?_) (a' := ?_) #[true, true, true, true, true, true, true, true, true, true, true, true, true, true, true, true, true, true, true, true, true, true, true, true, true, true, true, true, true, true, true, true, false, false, false, false] rfl rfl (by kernel_rfl) (fun _ _ _ h => h) (Or.inl ⟨by rfl, ?_⟩) ?_ ?_
  rotate_left
  · rintro w'
    go_simp
    with_reducible rfl
  rotate_left
  · simp only [Act.put, List.setIfInBounds_toArray, List.set_cons_zero, List.set_cons_succ, i64_w, i32_w]
    rfl
  refine pure_ (i := 32) (N := some 61) (v := (.slice A2 (l.drop k).length (c - k))) (a' := ?_) #[true, true, true, true, true, true, true, true, true, true, true, true, true, true, true, true, true, true, true, true, true, true, true, true, true, true, true, true, true, true, true, true, true, false, false, false] rfl rfl (by kernel_rfl) (fun _ _ _ h => h) (Or.inl ⟨by rfl, ?_⟩) ?_ ?_
  · rintro w'
    go_simp
  rotate_left
  · simp only [Act.put, List.setIfInBounds_toArray, List.set_cons_zero, List.set_cons_succ, i64_w, i32_w]
    rfl
  refine one_ (i := 33) (N := some 62) #[true, true, true, true, true, true, true, true, true, true, true, true, true, true, true, true, true, true, true, true, true, true, true, true, true, true, true, true, true, true, true, true, true, true, false, false] rfl rfl (by kernel_rfl) (by decide) (fun K hK => ?_)
  refine goes_ Tryd.func13 (by kernel_rfl) rfl #[.slice A2 (l.drop k).length (c - k)] (by rfl) rfl rfl (by simp only [List.map_toArray, List.map_cons, List.map_nil, Act.eval]; rfl) ?_
  refine (right_any (l.drop k) A2 (c - k) W10 (HR.out.drop k) hld HD.out hcd).mono ?_
  rintro e W11 ⟨rfl, hb2⟩
  replace HC := Aside0.mk (Kd.C_below HC.out hb2)
  replace HD := Aside0.mk (Kd.C_below HD.out hb2)
  replace HE := Aside0.mk (Kd.C_below HE.out hb2)
  replace H10 := Aside0.mk (H10.out.below hb2)
  replace HB := Aside0.mk (below_then HB.out HB.out.size hb2)
  refine ⟨_, rfl, ?_⟩
  refine hK.out _ _ trivial (fun hHeld => ?_)
  clear hb2
  clear hK K
  refine norm_ (a' := ?_) ?_ ?_
  rotate_left
  · show Act.put _ (some 62) _ = _
    simp only [Act.put, List.setIfInBounds_toArray, List.set_cons_zero, List.set_cons_succ, i64_w, i32_w]
    rfl
  refine pure_ (i := 34) (N := some 63) (v := ?_) (a' := ?_) #[true, true, true, true, true, true, true, true, true, true, true, true, true, true, true, true, true, true, true, true, true, true, true, true, true, true, true, true, true, true, true, true, true, true, true, false] rfl rfl (by kernel_rfl) (fun _ _ _ h => h) (Or.inl ⟨by rfl, ?_⟩) ?_ ?_
  rotate_left
  · rintro w'
    go_simp
    with_reducible rfl
  rotate_left
  · simp only [Act.put, List.setIfInBounds_toArray, List.set_cons_zero, List.set_cons_succ, i64_w, i32_w]
    rfl
  refine pure_ (i := 35) (N := some 4) (v := ?_) (a' := ?_) #[true, true, true, true, true, true, true, true, true, true, true, true, true, true, true, true, true, true, true, true, true, true, true, true, true, true, true, true, true, true, true, true, true, true, true, true] rfl rfl (by kernel_rfl) (fun _ _ _ h => h) (Or.inl ⟨by rfl, ?_⟩) ?_ ?_
  rotate_left
  · rintro w'
    go_simp
    with_reducible rfl
  rotate_left
  · simp only [Act.put, List.setIfInBounds_toArray, List.set_cons_zero, List.set_cons_succ, i64_w, i32_w]
    rfl
  refine done_ (by kernel_rfl) ?_
  go_wp2_with fail
  go_ret
  exact ⟨rfl, HB.out⟩
end Go.Proofs.YtbldolbeijpipaaDoor
namespace Go.Proofs.YtbldolbeijpipaaDoor
open Go.ChangeShapes Go.WideShapes Go.ChangeAt Go.RowKit Go.Proofs.YtbldolbeijpipaaDoorW.PrintWords
set_option linter.unusedVariables false
set_option linter.unusedSimpArgs false
set_option maxRecDepth 100000 in
theorem parts_contract (H : Type) (enc : TypeId × Value → H) (W : World) (base : Nat) (args : Array Value) (ds gs : List (DataW H)) (before : List MemPlace)
    (hval : ∀ (j : Nat) t v, Tryd.f3.params[j]? = some t → args[j]? = some v → Value.okWide Tryd.prog W .any base t v)
    (hW : DataW.Whole enc Tryd.prog Tryd.f3.params.toList Rows.tracePartsSpec.vars false W args.toList ds gs before) (hL : laidMetH Tryd.prog Rows.tracePartsRow.laid W) :
    Calls Tryd.prog 3 args W fun e W' => ∃ v, e = .returned v ∧ Rows.tracePartsSpec.post enc Tryd.prog Tryd.f3 false true false false W args v W' := by
  have hW' := hW
  obtain ⟨p, q, hA, hV, rfl, hfz, hnd⟩ := hW
  rw [Tryd.params3] at hA hval
  obtain ⟨v0, vs0, d0, ds0, p0, q0, hargs, rfl, rfl, h0, r0⟩ := trodAll_cons hA
  obtain ⟨v1, vs1, d1, ds1, p1, q1, rfl, rfl, rfl, h1, r1⟩ := trodAll_cons r0
  obtain ⟨rfl, rfl, rfl⟩ := trodAll_nil r1
  obtain rfl : args = #[v0, v1] := by cases args; simp_all
  obtain ⟨rfl, rfl⟩ := trodVars_none hV
  obtain ⟨x, cs, rfl, hK, _⟩ := open_param Tryd.underlying30 (hval 0 30 v0 rfl rfl) opensRun h0
  obtain ⟨An, cn, At, ct, Aq, cq, Aa, ca, rfl, hn, ht, hq, ha⟩ := kRun_open hK
  obtain ⟨k, rfl, _, _, hkw⟩ := open_int Tryd.underlying3 (hval 1 3 v1 rfl rfl) h1
  have hk0 : -9223372036854775808 ≤ k ∧ k ≤ 9223372036854775807 := by
    simp only [Lit.wf, IntKind.has, Bool.and_eq_true, decide_eq_true_eq] at hkw
    exact hkw
  refine (parts_any x.a0 x.a1 x.b0 x.b1 k An At Aq Aa cn ct cq ca x.ln x.lt x.lq x.la W hn ht hq ha (table10 hL) hk0.1 hk0.2).mono fun e W' ⟨he, hb⟩ => ?_
  subst he
  exact ⟨_, rfl, post_below laidOutP (fun t ht => by
      rw [Tryd.params3] at ht
      simp only [List.mem_cons, List.not_mem_nil, or_false] at ht
      rcases ht with rfl | rfl
      · exact ⟨by kernel_rfl, of_decide_eq_true (by kernel_rfl)⟩
      · exact ⟨by kernel_rfl, of_decide_eq_true (by kernel_rfl)⟩) hb rfl hW' rfl rfl (fun _ _ _ => trodAll_cons_mk (shut_bool Tryd.underlying4 _) trodAll_mk0) (ok_one (by kernel_rfl) rfl (okWide_bool_mk Tryd.underlying4 _))⟩
def setTab (cs : Array Value) : Obj → Obj
  | .cells _ t frozen => .cells cs t frozen
  | o => o
def tab32 : Array Value := #[.int .u8 0, .int .u8 1, .int .u8 28, .int .u8 2, .int .u8 29, .int .u8 14, .int .u8 24, .int .u8 3, .int .u8 30, .int .u8 22, .int .u8 20, .int .u8 15, .int .u8 25, .int .u8 17, .int .u8 4, .int .u8 8, .int .u8 31, .int .u8 27, .int .u8 13, .int .u8 23, .int .u8 21, .int .u8 19, .int .u8 16, .int .u8 7, .int .u8 26, .int .u8 12, .int .u8 18, .int .u8 6, .int .u8 11, .int .u8 5, .int .u8 10, .int .u8 9]
def tab64 : Array Value := #[.int .u8 0, .int .u8 1, .int .u8 56, .int .u8 2, .int .u8 57, .int .u8 49, .int .u8 28, .int .u8 3, .int .u8 61, .int .u8 58, .int .u8 42, .int .u8 50, .int .u8 38, .int .u8 29, .int .u8 17, .int .u8 4, .int .u8 62, .int .u8 47, .int .u8 59, .int .u8 36, .int .u8 45, .int .u8 43, .int .u8 51, .int .u8 22, .int .u8 53, .int .u8 39, .int .u8 33, .int .u8 30, .int .u8 24, .int .u8 18, .int .u8 12, .int .u8 5, .int .u8 63, .int .u8 55, .int .u8 48, .int .u8 27, .int .u8 60, .int .u8 41, .int .u8 37, .int .u8 16, .int .u8 46, .int .u8 35, .int .u8 44, .int .u8 21, .int .u8 52, .int .u8 32, .int .u8 23, .int .u8 11, .int .u8 54, .int .u8 26, .int .u8 40, .int .u8 15, .int .u8 34, .int .u8 20, .int .u8 31, .int .u8 10, .int .u8 25, .int .u8 14, .int .u8 19, .int .u8 9, .int .u8 13, .int .u8 8, .int .u8 7, .int .u8 6]
def tab10 : Array Value := (Lib.pow10Tab.map (Value.int .u64 ·)).toArray
/-- A world for the witness: the settled one, the listed tables holding what their own text lays. -/
noncomputable def laidWorld (os : Os) : World :=
  { World.holding Tryd.prog os ⟨#[], #[], []⟩ with heap := (((World.holding Tryd.prog os ⟨#[], #[], []⟩).heap.modify 0 (setTab tab10)).modify 4 (setTab tab32)).modify 5 (setTab tab64) }
def args3 : Array Value := #[.agg #[.int .i64 0, .int .i64 0, .slice none 0 0, .int .i64 0, .int .i64 0, .slice none 0 0, .slice none 0 0, .slice none 0 0], .int .i64 0]
theorem laid_met (os : Os) : laidMet Tryd.prog Rows.tracePartsRow.laid ((laidWorld os).forCall (fun _ _ => 0) ⟨#[], args3, []⟩).memory :=
  laidMet_of_run' 8 (by kernel_rfl) (by kernel_rfl)
def data3 {H : Type} : List (DataW H) := [.agg [.agg [.lit (.int .i64 0), .lit (.int .i64 0), .nil], .agg [.lit (.int .i64 0), .lit (.int .i64 0), .nil, .nil], .nil], .lit (.int .i64 0)]
theorem reads (os : Os) {H : Type} (enc : TypeId × Value → H) : ∃ places, DataW.whole enc Tryd.prog ((laidWorld os).forCall (fun _ _ => 0) ⟨#[], args3, []⟩).memory Tryd.f3.params.toList Rows.tracePartsSpec.vars false args3.toList 8 = some (data3, [], places) :=
  ⟨[], by kernel_rfl⟩
theorem own : ownKnob Tryd.prog.godebug = none := by kernel_rfl
set_option maxRecDepth 100000 in
theorem parts_lifted (os : Os) (started : os.Started) (H : Type) (enc : TypeId × Value → H) (F : Stop.Interp) :
    ReturnsInHanded {} Tryd.checked os 3 .any ((OpenSpec.ofChange Rows.tracePartsSpec).preRow enc Tryd.prog Tryd.f3 Rows.tracePartsRow.domain false Rows.tracePartsRow.laid) (((OpenSpec.ofChange Rows.tracePartsSpec).at F).post enc Tryd.prog Tryd.f3 false true false false) := by
  obtain ⟨places, hx⟩ := reads os enc
  refine returnsInHanded_of_row (C := Tryd.checked) (s := OpenSpec.ofChange Rows.tracePartsSpec) own started (by kernel_rfl) Tryd.func3
    (witness_row_at (enc := enc) (C := Tryd.checked) false (laidWorld os) args3 rfl (by kernel_rfl) (by kernel_rfl) (by kernel_rfl)
      (OpenSpec.preRow_of_cond 8 hx (by kernel_rfl) (fun k hk => by cases hk) (by kernel_rfl) (laid_met os))) ?_
  intro W base args ds gs before hval hW _ _ _ hL _ _
  exact parts_contract H enc W base args ds gs before hval hW hL
set_option maxRecDepth 100000 in
theorem parts_said : Rows.TracePartsSaid :=
  OpenClaim.holds_of_cond 3 Tryd.f3 rfl rfl rfl rfl rfl rfl rfl ⟨rfl, rfl, rfl, rfl, rfl⟩ rfl rfl rfl rfl rfl (by kernel_rfl) Tryd.func3 (by kernel_rfl)
    (of_decide_eq_true (by kernel_rfl)) (by unfold Func.isWrapper; first | (rw [if_pos (by decide +kernel)]; kernel_rfl) | (rw [if_neg (by decide +kernel)]; exact ⟨rfl, rfl⟩))
    (fun os started H enc _ F => by rw [OpenClaim.pre_eq_preRow]; exact parts_lifted os started H enc F)
set_option maxRecDepth 100000 in
theorem parts_plain (f : FuncId) (fn : Func) (hf : Tryd.pinned.checked.prog.funcNamed "ostinato/ostinatolaw19.TraceParts" = some f) (hfn : Tryd.pinned.checked.prog.funcs[f]? = some fn) :
    false = Tryd.pinned.checked.prog.looks [] ∧ ∀ (j : Nat) t, fn.params[j]? = some t → Tryd.pinned.checked.prog.wantsStandIn t = false := by
  obtain rfl : f = 3 := Option.some.inj ((show Tryd.prog.funcNamed "ostinato/ostinatolaw19.TraceParts" = some 3 by kernel_rfl).symm.trans hf) |>.symm
  obtain rfl : fn = Tryd.f3 := (Option.some.inj (Tryd.func3.symm.trans hfn)).symm
  refine ⟨by kernel_rfl, fun j t ht => ?_⟩
  rw [Tryd.params3] at ht
  have ht' : t = 30 ∨ t = 3 := by simpa using Array.mem_of_getElem? ht
  rcases ht' with rfl | rfl
  · exact (show Tryd.prog.wantsStandIn 30 = false by kernel_rfl)
  · exact (show Tryd.prog.wantsStandIn 3 = false by kernel_rfl)
set_option maxRecDepth 100000 in
/-- THE CARD. -/
theorem traceParts_card : Rows.TracePartsCardSaid :=
  Claim7.holds_tied_plain_at .later [] _ _ _ _ parts_said (fun _ h => by cases h) (by kernel_rfl) (fun _ h => by cases h) traceParts_row_tie rfl ⟨rfl, rfl⟩ (by kernel_rfl) rfl parts_plain (by kernel_rfl)
end Go.Proofs.YtbldolbeijpipaaDoor
