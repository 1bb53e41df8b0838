import Derived.Test.YtbldolbeijpipaaDoorHBefore
import Derived.Test.YtbldolbeijpipaaDoorPBx2
namespace Go.Proofs.YtbldolbeijpipaaDoor
open Go.RowKit Go.Proofs.YtbldolbeijpipaaDoorW.PrintWords Go.Proofs.YtbldolbeijpipaaDoorW.PrintLast Go.Proofs.YtbldolbeijpipaaDoorW.PrintMore
set_option linter.unusedVariables false
set_option linter.unusedSimpArgs false

def StaysP (w : World) (B bx : Nat) (s : XS) (e : Ending) (w' : World) : Prop := ∃ r a b, e = .returned (.bool r) ∧ XI w' B bx { s with on := a, left := b } ∧ KeptT [147] B w w'
/-- A pending job's place, laid open. -/
theorem XI.one {w : World} {B bx : Nat} {s : XS} (h : XI w B bx s) (i : Int) (h0 : 0 ≤ i) (h1 : i < s.l.length) : ∃ ad c, s.vL = .slice (some ad) s.l.length c ∧ s.l.length ≤ c ∧ Kd.C k159 w (some ad) s.l.length s.l := by
  obtain ⟨A, c, he, hl, hr⟩ := Kd.R_reads h.r.l
  obtain ⟨ad, _, e, _⟩ := Kd.C_get hr z159 i h0 h1
  exact ⟨ad, c, e ▸ he, hl, e ▸ hr⟩
theorem XI.ks {w w1 : World} {T : List Nat} {B bx : Nat} {s : XS} (h : XI w1 B bx s) (k : KeptT T B w w1) (hT : 147 ∈ T) (j : Nat) (u : Value) : KeptT T B w (w1.setCell ⟨bx, j, none⟩ u) := k.set h.blk h.hB hT j u
theorem XI.frz {w : World} {B bx : Nat} {s : XS} (h : XI w B bx s) (j : Nat) : w.frozen? ⟨bx, j, none⟩ = false := blk_frozen h.blk j
open Go.Proofs.YtbldolbeijpipaaDoor.PB in
theorem ends_loop (a b c d e f : Int) (l5 l6 : List Int) (h : l5.length ≤ 100) : ∀ (n : Nat) (x3 : List Int) (x4 : Int) (i : Nat), i + n = l5.length → x3.length = i →
    ∃ r, ostinatoref05_Ends.l0 (n + 1) x3 x4 i a b c d e l5 l6 = some r := by
  intro n
  induction n with
  | zero =>
    intro x3 x4 i hi hx
    exact ⟨x3, by simp only [ostinatoref05_Ends.l0]; rw [if_neg (by omega)]⟩
  | succ n ih =>
    intro x3 x4 i hi hx
    obtain ⟨r, hr⟩ := ih (x3 ++ [wrap64 (x4 + rd l5 i)]) (wrap64 (x4 + rd l5 i)) (i + 1) (by omega) (by simp [hx])
    refine ⟨r, ?_⟩
    rw [ostinatoref05_Ends.l0, if_pos (by omega), if_pos (by omega), if_pos (by omega), show wrap64 ((i : Int) + 1) = ((i + 1 : Nat) : Int) by unfold wrap64; omega]
    exact hr
open Go.Proofs.YtbldolbeijpipaaDoor.PB in
theorem ends_some (a b c d e : Int) (l5 l6 : List Int) (h : l5.length ≤ 100) : ∃ k r, ostinatoref05_Ends.f k a b c d e l5 l6 = some r := by
  by_cases hz : (l5.length : Int) = 0
  · exact ⟨0, [b], by unfold ostinatoref05_Ends.f; rw [if_pos hz]⟩
  · obtain ⟨r, hr⟩ := ends_loop a b c d e 0 l5 l6 h l5.length [] 0 0 (by omega) rfl
    exact ⟨l5.length + 1, r, by unfold ostinatoref05_Ends.f; rw [if_neg hz]; exact hr⟩
theorem mem_rd90 {xs : List S90} {i : Int} (h0 : 0 ≤ i) (h1 : i < xs.length) : rd_T90 xs i ∈ xs := by
  unfold rd_T90
  rw [List.getD_eq_getElem?_getD, List.getElem?_eq_getElem (by omega)]
  exact List.getElem_mem _
theorem mem_rd {xs : List S159} {i : Int} (h0 : 0 ≤ i) (h1 : i < xs.length) : rd_T159 xs i ∈ xs := by
  unfold rd_T159
  rw [List.getD_eq_getElem?_getD, List.getElem?_eq_getElem (by omega)]
  exact List.getElem_mem _

set_option maxHeartbeats 1600000 in
set_option maxRecDepth 100000 in
theorem stays_else (B bx : Nat) (s : XS) (w : World) (h : XI w B bx s) (h0 : 0 ≤ s.run) (hm3 : s.mode ≠ 3) (hm4 : s.mode ≠ 4) :
    Calls Tryd.prog 73 #[.pointer (some ⟨bx, 0, none⟩)] w (StaysP w B bx s) := by
  have hx4 := h.f4
  have hbx := blk_lt h.blk
  have hrun := h.run
  obtain ⟨adL, cL, eL, hcL, hCL⟩ := h.one s.run h0 (by omega)
  have hx9 := h.f9
  have hx10 := h.f10
  rw [eL] at hx9
  obtain ⟨ad, e0, q0, q1, q2, q3, q4, q5, q6, q7, q8, q9, q10, q11, q12, q13⟩ := at_T159 hCL s.run h0 (by omega)
  injection e0 with e0
  subst e0
  have hal := World.block_lt_of_cell? w _ q0
  obtain ⟨g1, g2, g3, g4⟩ := h.all _ (mem_rd h0 (by omega))
  have HAT := Aside0.mk (h.at (rd_T159 s.l s.run).f0)
  rw [h.atv _ g1 g2] at HAT
  have HX := Aside0.mk h
  have hrl : s.run < (s.l.length : Int) := hrun.2
  clear hCL hcL hrun
  have b3 : (s.mode == 3) = false := beq_eq_false_iff_ne.mpr hm3
  have b4 : (s.mode == 4) = false := beq_eq_false_iff_ne.mpr hm4
  clear hm3 hm4
  go_enter Tryd.func73, Tryd.ntmps73
  go_wp2_with fail
  go_region_held3 (fun w' => w'.cell? ⟨bx, 9, none⟩ = some (.slice (some adL) s.l.length cL) ∧ w'.cell? ⟨bx, 10, none⟩ = some (.int .i64 s.run) ∧ w'.cell? (adL.add (s.run.toNat * 14)) = some (.int .i64 (rd_T159 s.l s.run).f0) ∧ w'.cell? ⟨(adL.add (s.run.toNat * 14)).block, (adL.add (s.run.toNat * 14)).off + 1, none⟩ = some (.int .i64 (rd_T159 s.l s.run).f1) ∧ w'.cell? ⟨(adL.add (s.run.toNat * 14)).block, (adL.add (s.run.toNat * 14)).off + 2, none⟩ = some (.int .i64 (rd_T159 s.l s.run).f2) ∧ w'.cell? ⟨(adL.add (s.run.toNat * 14)).block, (adL.add (s.run.toNat * 14)).off + 3, none⟩ = some (.int .i64 (rd_T159 s.l s.run).f3) ∧ w'.cell? ⟨(adL.add (s.run.toNat * 14)).block, (adL.add (s.run.toNat * 14)).off + 4, none⟩ = some (.int .i64 (rd_T159 s.l s.run).f4) ∧ w'.cell? ⟨(adL.add (s.run.toNat * 14)).block, (adL.add (s.run.toNat * 14)).off + 5, none⟩ = some (.int .i64 (rd_T159 s.l s.run).f5) ∧ w'.cell? ⟨(adL.add (s.run.toNat * 14)).block, (adL.add (s.run.toNat * 14)).off + 6, none⟩ = some (.int .i64 (rd_T159 s.l s.run).f6) ∧ w'.cell? ⟨(adL.add (s.run.toNat * 14)).block, (adL.add (s.run.toNat * 14)).off + 7, none⟩ = some (.int .i64 (rd_T159 s.l s.run).f7) ∧ w'.cell? ⟨(adL.add (s.run.toNat * 14)).block, (adL.add (s.run.toNat * 14)).off + 8, none⟩ = some (.int .u64 (rd_T159 s.l s.run).f8) ∧ w'.cell? ⟨(adL.add (s.run.toNat * 14)).block, (adL.add (s.run.toNat * 14)).off + 9, none⟩ = some (.int .u64 (rd_T159 s.l s.run).f9) ∧ w'.cell? ⟨(adL.add (s.run.toNat * 14)).block, (adL.add (s.run.toNat * 14)).off + 10, none⟩ = some (.int .u64 (rd_T159 s.l s.run).f10) ∧ w'.cell? ⟨(adL.add (s.run.toNat * 14)).block, (adL.add (s.run.toNat * 14)).off + 11, none⟩ = some (.int .u64 (rd_T159 s.l s.run).f11))
    (first | go_keep)
    ((fail))
  go_wp2_with fail
  refine (HAT.out _ (by repeat (first | exact Below.refl _ _ | exact HB.out | apply below_alloc | apply pw_below_drewN | apply below_drew1 | (refine below_set ?_ (Nat.le_refl _)) | (refine below_set ?_ (by simp; done)) | (refine below_set ?_ (by simp; omega))))).mono ?_
  rintro e w1 ⟨rfl, rfl⟩
  go_wp2
  go_ret
  exact ⟨_, s.on, s.left, rfl, HX.out.below (by repeat (first | exact Below.refl _ _ | exact HB.out | apply below_alloc | apply pw_below_drewN | apply below_drew1 | (refine below_set ?_ (Nat.le_refl _)) | (refine below_set ?_ (by simp; done)) | (refine below_set ?_ (by simp; omega)))), KeptT.of_below (by repeat (first | exact Below.refl _ _ | exact HB.out | apply below_alloc | apply pw_below_drewN | apply below_drew1 | (refine below_set ?_ (Nat.le_refl _)) | (refine below_set ?_ (by simp; done)) | (refine below_set ?_ (by simp; omega)))) HX.out.szB⟩

set_option maxHeartbeats 1600000 in
set_option maxRecDepth 100000 in
theorem stays_float (B bx : Nat) (s : XS) (w : World) (h : XI w B bx s) (h0 : 0 ≤ s.run) (hm4 : s.mode = 4) :
    Calls Tryd.prog 73 #[.pointer (some ⟨bx, 0, none⟩)] w (StaysP w B bx s) := by
  have hx4 := h.f4
  have hx6 := h.f6
  have hx11 := h.f11
  have hx13 := h.f13
  rw [hm4] at hx4
  clear hm4
  have hbx := blk_lt h.blk
  have hrun := h.run
  obtain ⟨adL, cL, eL, hcL, hCL⟩ := h.one s.run h0 (by omega)
  have hx9 := h.f9
  have hx10 := h.f10
  rw [eL] at hx9
  obtain ⟨ad, e0, q0, q1, q2, q3, q4, q5, q6, q7, q8, q9, q10, q11, q12, q13⟩ := at_T159 hCL s.run h0 (by omega)
  injection e0 with e0
  subst e0
  have hal := World.block_lt_of_cell? w _ q0
  obtain ⟨g1, g2, g3, g4⟩ := h.all _ (mem_rd h0 (by omega))
  have HAT := Aside0.mk (h.at (rd_T159 s.l s.run).f0)
  rw [h.atv _ g1 g2] at HAT
  have HX := Aside0.mk h
  have hrl : s.run < (s.l.length : Int) := hrun.2
  clear hCL hcL hrun
  have hfz := HX.out.frz
  obtain ⟨adq, eq_, qq⟩ := Kd.at_int (HX.out.r.q w (fun _ _ _ => rfl)) ((rd_T159 s.l s.run).f0 - 1) (by omega) (by have := HX.out.r.ql; omega)
  rw [eq_] at hx6
  rw [show ((rd_T159 s.l s.run).f0 - 1).toNat = (rd_T159 s.l s.run).f0.toNat - 1 by omega] at qq
  have haq := World.block_lt_of_cell? w _ qq
  obtain ⟨adq2, eq2, qq2⟩ := Kd.at_int ((HX.out.store 11 (.bool true)).q _ (fun _ _ _ => rfl)) ((rd_T159 s.l s.run).f0 - 1) (by omega) (by have := HX.out.r.ql; omega)
  rw [eq_] at eq2
  injection eq2 with eq2
  subst eq2
  rw [show ((rd_T159 s.l s.run).f0 - 1).toNat = (rd_T159 s.l s.run).f0.toNat - 1 by omega] at qq2
  have hqn : (rd_T159 s.l s.run).f0 - 1 < (s.q.length : Int) := by have := HX.out.r.ql; omega
  go_enter Tryd.func73, Tryd.ntmps73
  go_wp2_with fail
  go_region_held3 (fun w' => w'.cell? ⟨bx, 9, none⟩ = some (.slice (some adL) s.l.length cL) ∧ w'.cell? ⟨bx, 10, none⟩ = some (.int .i64 s.run) ∧ w'.cell? (adL.add (s.run.toNat * 14)) = some (.int .i64 (rd_T159 s.l s.run).f0) ∧ w'.cell? ⟨(adL.add (s.run.toNat * 14)).block, (adL.add (s.run.toNat * 14)).off + 1, none⟩ = some (.int .i64 (rd_T159 s.l s.run).f1) ∧ w'.cell? ⟨(adL.add (s.run.toNat * 14)).block, (adL.add (s.run.toNat * 14)).off + 2, none⟩ = some (.int .i64 (rd_T159 s.l s.run).f2) ∧ w'.cell? ⟨(adL.add (s.run.toNat * 14)).block, (adL.add (s.run.toNat * 14)).off + 3, none⟩ = some (.int .i64 (rd_T159 s.l s.run).f3) ∧ w'.cell? ⟨(adL.add (s.run.toNat * 14)).block, (adL.add (s.run.toNat * 14)).off + 4, none⟩ = some (.int .i64 (rd_T159 s.l s.run).f4) ∧ w'.cell? ⟨(adL.add (s.run.toNat * 14)).block, (adL.add (s.run.toNat * 14)).off + 5, none⟩ = some (.int .i64 (rd_T159 s.l s.run).f5) ∧ w'.cell? ⟨(adL.add (s.run.toNat * 14)).block, (adL.add (s.run.toNat * 14)).off + 6, none⟩ = some (.int .i64 (rd_T159 s.l s.run).f6) ∧ w'.cell? ⟨(adL.add (s.run.toNat * 14)).block, (adL.add (s.run.toNat * 14)).off + 7, none⟩ = some (.int .i64 (rd_T159 s.l s.run).f7) ∧ w'.cell? ⟨(adL.add (s.run.toNat * 14)).block, (adL.add (s.run.toNat * 14)).off + 8, none⟩ = some (.int .u64 (rd_T159 s.l s.run).f8) ∧ w'.cell? ⟨(adL.add (s.run.toNat * 14)).block, (adL.add (s.run.toNat * 14)).off + 9, none⟩ = some (.int .u64 (rd_T159 s.l s.run).f9) ∧ w'.cell? ⟨(adL.add (s.run.toNat * 14)).block, (adL.add (s.run.toNat * 14)).off + 10, none⟩ = some (.int .u64 (rd_T159 s.l s.run).f10) ∧ w'.cell? ⟨(adL.add (s.run.toNat * 14)).block, (adL.add (s.run.toNat * 14)).off + 11, none⟩ = some (.int .u64 (rd_T159 s.l s.run).f11))
    (first | go_keep)
    ((fail))
  go_wp2_with fail
  refine (HAT.out _ (by repeat (first | exact Below.refl _ _ | exact HB.out | apply below_alloc | apply pw_below_drewN | apply below_drew1 | (refine below_set ?_ (Nat.le_refl _)) | (refine below_set ?_ (by simp; done)) | (refine below_set ?_ (by simp; omega))))).mono ?_
  rintro e w1 ⟨rfl, rfl⟩
  go_wp2
  · go_ret
    exact ⟨_, true, _, rfl, ((HX.out.setOn true).setLeft _).below (by repeat (first | exact Below.refl _ _ | exact HB.out | apply below_alloc | apply pw_below_drewN | apply below_drew1 | (refine below_set ?_ (Nat.le_refl _)) | (refine below_set ?_ (by simp; done)) | (refine below_set ?_ (by simp; omega)))), ((HX.out.setOn true).ks (HX.out.ks (KeptT.refl _ _ _) (by simp) 11 _) (by simp) 13 _).step (by repeat (first | exact Below.refl _ _ | exact HB.out | apply below_alloc | apply pw_below_drewN | apply below_drew1 | (refine below_set ?_ (Nat.le_refl _)) | (refine below_set ?_ (by simp; done)) | (refine below_set ?_ (by simp; omega)))) ((HX.out.setOn true).setLeft _).szB⟩
  · go_ret
    exact ⟨_, true, _, rfl, (((HX.out.setOn true).setLeft _).setLeft _).below (by repeat (first | exact Below.refl _ _ | exact HB.out | apply below_alloc | apply pw_below_drewN | apply below_drew1 | (refine below_set ?_ (Nat.le_refl _)) | (refine below_set ?_ (by simp; done)) | (refine below_set ?_ (by simp; omega)))), (((HX.out.setOn true).setLeft _).ks ((HX.out.setOn true).ks (HX.out.ks (KeptT.refl _ _ _) (by simp) 11 _) (by simp) 13 _) (by simp) 13 _).step (by repeat (first | exact Below.refl _ _ | exact HB.out | apply below_alloc | apply pw_below_drewN | apply below_drew1 | (refine below_set ?_ (Nat.le_refl _)) | (refine below_set ?_ (by simp; done)) | (refine below_set ?_ (by simp; omega)))) (((HX.out.setOn true).setLeft _).setLeft _).szB⟩
  · go_ret
    exact ⟨_, s.on, s.left, rfl, HX.out.below (by repeat (first | exact Below.refl _ _ | exact HB.out | apply below_alloc | apply pw_below_drewN | apply below_drew1 | (refine below_set ?_ (Nat.le_refl _)) | (refine below_set ?_ (by simp; done)) | (refine below_set ?_ (by simp; omega)))), KeptT.of_below (by repeat (first | exact Below.refl _ _ | exact HB.out | apply below_alloc | apply pw_below_drewN | apply below_drew1 | (refine below_set ?_ (Nat.le_refl _)) | (refine below_set ?_ (by simp; done)) | (refine below_set ?_ (by simp; omega)))) HX.out.szB⟩
  · go_ret
    exact ⟨_, s.on, _, rfl, (HX.out.setLeft _).below (by repeat (first | exact Below.refl _ _ | exact HB.out | apply below_alloc | apply pw_below_drewN | apply below_drew1 | (refine below_set ?_ (Nat.le_refl _)) | (refine below_set ?_ (by simp; done)) | (refine below_set ?_ (by simp; omega)))), (HX.out.ks (KeptT.refl _ _ _) (by simp) 13 _).step (by repeat (first | exact Below.refl _ _ | exact HB.out | apply below_alloc | apply pw_below_drewN | apply below_drew1 | (refine below_set ?_ (Nat.le_refl _)) | (refine below_set ?_ (by simp; done)) | (refine below_set ?_ (by simp; omega)))) (HX.out.setLeft _).szB⟩

set_option maxHeartbeats 1600000 in
set_option maxRecDepth 100000 in
theorem stays_chunk (B bx : Nat) (s : XS) (w : World) (h : XI w B bx s) (h0 : 0 ≤ s.run) (hm3 : s.mode = 3) :
    Calls Tryd.prog 73 #[.pointer (some ⟨bx, 0, none⟩)] w (StaysP w B bx s) := by
  have hx4 := h.f4
  have hx2 := h.f2
  have hx12 := h.f12
  rw [hm3] at hx4
  clear hm3
  have hbx := blk_lt h.blk
  have hrun := h.run
  obtain ⟨adL, cL, eL, hcL, hCL⟩ := h.one s.run h0 (by omega)
  have hx9 := h.f9
  have hx10 := h.f10
  rw [eL] at hx9
  obtain ⟨ad, e0, q0, q1, q2, q3, q4, q5, q6, q7, q8, q9, q10, q11, q12, q13⟩ := at_T159 hCL s.run h0 (by omega)
  injection e0 with e0
  subst e0
  have hal := World.block_lt_of_cell? w _ q0
  obtain ⟨g1, g2, g3, g4⟩ := h.all _ (mem_rd h0 (by omega))
  have HAT := Aside0.mk (h.at (rd_T159 s.l s.run).f0)
  rw [h.atv _ g1 g2] at HAT
  have HX := Aside0.mk h
  have hrl : s.run < (s.l.length : Int) := hrun.2
  clear hCL hcL hrun
  obtain ⟨adt, A5, c5, A6, c6, et, p0, p1, p2, p3, p4, p5, p6, l5, r5, l6, r6⟩ := at_T90 (HX.out.r.ts w (fun _ _ _ => rfl)) ((rd_T159 s.l s.run).f0 - 1) (by omega) (by omega)
  rw [et] at hx2
  have hat := World.block_lt_of_cell? w _ p0
  rw [show ((rd_T159 s.l s.run).f0 - 1).toNat = (rd_T159 s.l s.run).f0.toNat - 1 by omega] at p0 p1 p2 p3 p4 p5 p6 hat
  have htn : (rd_T159 s.l s.run).f0 - 1 < (s.ts.length : Int) := by omega
  have R5 := Aside0.mk r5
  have R6 := Aside0.mk r6
  clear r5 r6
  obtain ⟨ek, er, hE⟩ := ends_some (rd_T90 s.ts ((rd_T159 s.l s.run).f0 - 1)).f0 (rd_T90 s.ts ((rd_T159 s.l s.run).f0 - 1)).f1 (rd_T90 s.ts ((rd_T159 s.l s.run).f0 - 1)).f2 (rd_T90 s.ts ((rd_T159 s.l s.run).f0 - 1)).f3 (rd_T90 s.ts ((rd_T159 s.l s.run).f0 - 1)).f4 (rd_T90 s.ts ((rd_T159 s.l s.run).f0 - 1)).f5 (rd_T90 s.ts ((rd_T159 s.l s.run).f0 - 1)).f6 (HX.out.r.ch _ (mem_rd90 (by omega) (by omega))).1
  have HE := Aside0.mk (fun W (hW : Below w.heap.size w W) => Go.Proofs.YtbldolbeijpipaaDoor.PB.ostinatoref05_Ends.calls ek _ _ _ _ _ A5 c5 _ A6 c6 _ er W (Kd.C_below R5.out hW) l5 (Kd.C_below R6.out hW) l6 hE)
  clear hE
  go_enter Tryd.func73, Tryd.ntmps73
  go_wp2_with fail
  go_region_held3 (fun w' => w'.cell? ⟨bx, 9, none⟩ = some (.slice (some adL) s.l.length cL) ∧ w'.cell? ⟨bx, 10, none⟩ = some (.int .i64 s.run) ∧ w'.cell? (adL.add (s.run.toNat * 14)) = some (.int .i64 (rd_T159 s.l s.run).f0) ∧ w'.cell? ⟨(adL.add (s.run.toNat * 14)).block, (adL.add (s.run.toNat * 14)).off + 1, none⟩ = some (.int .i64 (rd_T159 s.l s.run).f1) ∧ w'.cell? ⟨(adL.add (s.run.toNat * 14)).block, (adL.add (s.run.toNat * 14)).off + 2, none⟩ = some (.int .i64 (rd_T159 s.l s.run).f2) ∧ w'.cell? ⟨(adL.add (s.run.toNat * 14)).block, (adL.add (s.run.toNat * 14)).off + 3, none⟩ = some (.int .i64 (rd_T159 s.l s.run).f3) ∧ w'.cell? ⟨(adL.add (s.run.toNat * 14)).block, (adL.add (s.run.toNat * 14)).off + 4, none⟩ = some (.int .i64 (rd_T159 s.l s.run).f4) ∧ w'.cell? ⟨(adL.add (s.run.toNat * 14)).block, (adL.add (s.run.toNat * 14)).off + 5, none⟩ = some (.int .i64 (rd_T159 s.l s.run).f5) ∧ w'.cell? ⟨(adL.add (s.run.toNat * 14)).block, (adL.add (s.run.toNat * 14)).off + 6, none⟩ = some (.int .i64 (rd_T159 s.l s.run).f6) ∧ w'.cell? ⟨(adL.add (s.run.toNat * 14)).block, (adL.add (s.run.toNat * 14)).off + 7, none⟩ = some (.int .i64 (rd_T159 s.l s.run).f7) ∧ w'.cell? ⟨(adL.add (s.run.toNat * 14)).block, (adL.add (s.run.toNat * 14)).off + 8, none⟩ = some (.int .u64 (rd_T159 s.l s.run).f8) ∧ w'.cell? ⟨(adL.add (s.run.toNat * 14)).block, (adL.add (s.run.toNat * 14)).off + 9, none⟩ = some (.int .u64 (rd_T159 s.l s.run).f9) ∧ w'.cell? ⟨(adL.add (s.run.toNat * 14)).block, (adL.add (s.run.toNat * 14)).off + 10, none⟩ = some (.int .u64 (rd_T159 s.l s.run).f10) ∧ w'.cell? ⟨(adL.add (s.run.toNat * 14)).block, (adL.add (s.run.toNat * 14)).off + 11, none⟩ = some (.int .u64 (rd_T159 s.l s.run).f11))
    (first | go_keep)
    ((fail))
  go_wp2_with fail
  refine (HAT.out _ (by repeat (first | exact Below.refl _ _ | exact HB.out | apply below_alloc | apply pw_below_drewN | apply below_drew1 | (refine below_set ?_ (Nat.le_refl _)) | (refine below_set ?_ (by simp; done)) | (refine below_set ?_ (by simp; omega))))).mono ?_
  rintro e w1 ⟨rfl, rfl⟩
  go_wp2_with fail
  refine (HE.out _ (by repeat (first | exact Below.refl _ _ | exact HB.out | apply below_alloc | apply pw_below_drewN | apply below_drew1 | (refine below_set ?_ (Nat.le_refl _)) | (refine below_set ?_ (by simp; done)) | (refine below_set ?_ (by simp; omega))))).mono ?_
  rintro e w2 ⟨v0, rfl, hR, hb⟩
  obtain ⟨A, c, rfl, hc, hC⟩ := Kd.R_reads hR
  have HB := Aside0.mk (below_step (w := w) (by repeat (first | exact Below.refl _ _ | exact HB.out | apply below_alloc | apply pw_below_drewN | apply below_drew1 | (refine below_set ?_ (Nat.le_refl _)) | (refine below_set ?_ (by simp; done)) | (refine below_set ?_ (by simp; omega)))) hb)
  have HC := Aside0.mk hC
  have y12 : w2.cell? ⟨bx, 12, none⟩ = some (.bool s.ld) := pw_cell_below HB.out hx12
  have y4 : w2.cell? ⟨w.heap.size, 4, none⟩ = some (.int .i64 (rd_T159 s.l s.run).f4) := (hb.cell (p := ⟨w.heap.size, 4, none⟩) (by simp)).trans (by simp [go_sem])
  have hlen : er.length ≤ 9223372036854775807 := hC.2.1
  clear hb hR hC q0 q1 q2 q3 q4 q5 q6 q7 q8 q9 q10 q11 q12 q13 p0 p1 p2 p3 p4 p5 p6 hx4 hx2 hx9 hx10 hx12 hal hat
  cases hld : s.ld
  · rw [hld] at y12
    go_wp2
    go_loopw [6] (fun i wr => ∃ k : Nat, k ≤ er.length ∧ i = .int .i64 k ∧ Drawn0 w2 wr) (fun i _ => er.length - (intOf i).toNat)
    case atStart => exact ⟨0, Nat.zero_le _, rfl, Drawn0.refl _⟩
    case round =>
      obtain ⟨k, hk, rfl, ⟨m, rfl⟩⟩ := hrel
      by_cases hlt : k < er.length
      · obtain ⟨ad, ea, hx⟩ := Kd.at_int HC.out k (by omega) (by omega)
        cases ea
        rw [Int.toNat_natCast] at hx
        by_cases heq : (rd_T159 s.l s.run).f4 = rd er k
        · have hb := beq_iff_eq.mpr heq
          clear heq
          go_wp2_with fail
          go_quiet (fail)
          go_wp2
          go_ret
          exact ⟨_, s.on, s.left, rfl, HX.out.below (by repeat (first | exact HB.out | apply pw_below_drewN | apply below_drew1)), KeptT.of_below (by repeat (first | exact HB.out | apply pw_below_drewN | apply below_drew1)) HX.out.szB⟩
        · have hb := beq_eq_false_iff_ne.mpr heq
          clear heq
          go_wp2_with fail
          go_quiet (fail)
          go_wp2
          go_roundw
          case rel => exact ⟨k + 1, by omega, by go_num, by repeat (first | exact Drawn0.refl _ | apply Drawn0.step)⟩
          case measure => simp [intOf]; omega
      · go_wp2
        go_ret
        exact ⟨_, s.on, s.left, rfl, HX.out.below (by repeat (first | exact HB.out | apply pw_below_drewN | apply below_drew1)), KeptT.of_below (by repeat (first | exact HB.out | apply pw_below_drewN | apply below_drew1)) HX.out.szB⟩
  · rw [hld] at y12
    go_wp2
    go_loopw [6] (fun i wr => ∃ k : Nat, k ≤ er.length ∧ i = .int .i64 k ∧ Drawn0 w2 wr) (fun i _ => er.length - (intOf i).toNat)
    case atStart => exact ⟨0, Nat.zero_le _, rfl, Drawn0.refl _⟩
    case round =>
      obtain ⟨k, hk, rfl, ⟨m, rfl⟩⟩ := hrel
      by_cases hlt : k < er.length
      · go_wp2_with fail
        go_quiet (fail)
        go_wp2
        go_roundw
        case rel => exact ⟨k + 1, by omega, by go_num, by repeat (first | exact Drawn0.refl _ | apply Drawn0.step)⟩
        case measure => simp [intOf]; omega
      · go_wp2
        go_ret
        exact ⟨_, s.on, s.left, rfl, HX.out.below (by repeat (first | exact HB.out | apply pw_below_drewN | apply below_drew1)), KeptT.of_below (by repeat (first | exact HB.out | apply pw_below_drewN | apply below_drew1)) HX.out.szB⟩

theorem stays_any (B bx : Nat) (s : XS) (w : World) (h : XI w B bx s) (h0 : 0 ≤ s.run) : Calls Tryd.prog 73 #[.pointer (some ⟨bx, 0, none⟩)] w (StaysP w B bx s) := by
  by_cases h3 : s.mode = 3
  · exact stays_chunk B bx s w h h0 h3
  · by_cases h4 : s.mode = 4
    · exact stays_float B bx s w h h0 h4
    · exact stays_else B bx s w h h0 h3 h4
end Go.Proofs.YtbldolbeijpipaaDoor
