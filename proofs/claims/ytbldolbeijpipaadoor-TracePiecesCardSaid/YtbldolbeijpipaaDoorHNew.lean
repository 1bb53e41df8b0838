import Derived.Test.YtbldolbeijpipaaDoorHSetup
import Derived.Test.YtbldolbeijpipaaDoorHTick
namespace Go.Proofs.YtbldolbeijpipaaDoor
open Go.RowKit Go.Proofs.YtbldolbeijpipaaDoorW.PrintWords Go.Proofs.YtbldolbeijpipaaDoorW.PrintLast Go.Proofs.YtbldolbeijpipaaDoorW.PrintMore
set_option linter.unusedVariables false
set_option linter.unusedSimpArgs false
set_option maxHeartbeats 1600000 in
theorem setup19_any (a0 a1 sets reload : Int) (At Aq A1 : Option Addr) (ct cq c1 : Nat) (lt lq : List Int) (ts : List S90) (w : World) (ht : (Kd.int .i64).C w At lt.length lt) (hq : (Kd.int .i64).C w Aq lq.length lq) (hc1 : ts.length ≤ c1) (hs : k90.C w A1 ts.length ts) (h6 : ts.length ≤ 6) :
    Calls Tryd.prog 32 #[.agg #[.int .i64 a0, .int .i64 a1, .slice At lt.length ct, .slice Aq lq.length cq], .agg #[.int .i64 sets, .int .i64 reload, .slice A1 ts.length c1]] w (SetupP w sets reload A1 c1 ts.length) := by
  have HT := Aside0.mk ht
  have HQ := Aside0.mk hq
  have HS := Aside0.mk hs
  clear ht hq hs
  go_enter Tryd.func32, Tryd.ntmps32
  go_wp2_with fail
  have B2 : Aside0 (((((w.alloc (.cells #[.int .i64 a0, .int .i64 a1, .slice At lt.length ct, .slice Aq lq.length cq] 27)).alloc (.cells #[.int .i64 sets, .int .i64 reload, .slice A1 ts.length c1] 54)).alloc (.cells #[.int .i64 0, .int .i64 0, .slice none 0 0, .int .i64 0, .int .i64 0, .slice none 0 0, .slice none 0 0] 57)).alloc (.cells #[.int .i64 a0, .int .i64 a1, .slice At lt.length ct, .slice Aq lq.length cq] 148)).heap[w.heap.size + 1 + 1]? = some (.cells #[.int .i64 0, .int .i64 0, .slice none 0 0, .int .i64 0, .int .i64 0, .slice none 0 0, .slice none 0 0] 57 (0, 0))) := ⟨blk_alloc (blk_nw _ _ _ (by simp)) _⟩
  have HB : Aside0 (Below w.heap.size w ((((w.alloc (.cells #[.int .i64 a0, .int .i64 a1, .slice At lt.length ct, .slice Aq lq.length cq] 27)).alloc (.cells #[.int .i64 sets, .int .i64 reload, .slice A1 ts.length c1] 54)).alloc (.cells #[.int .i64 0, .int .i64 0, .slice none 0 0, .int .i64 0, .int .i64 0, .slice none 0 0, .slice none 0 0] 57)).alloc (.cells #[.int .i64 a0, .int .i64 a1, .slice At lt.length ct, .slice Aq lq.length cq] 148))) := ⟨below_alloc (below_alloc (below_alloc (below_alloc (Below.refl _ _) _) _) _) _⟩
  generalize ((((w.alloc (.cells #[.int .i64 a0, .int .i64 a1, .slice At lt.length ct, .slice Aq lq.length cq] 27)).alloc (.cells #[.int .i64 sets, .int .i64 reload, .slice A1 ts.length c1] 54)).alloc (.cells #[.int .i64 0, .int .i64 0, .slice none 0 0, .int .i64 0, .int .i64 0, .slice none 0 0, .slice none 0 0] 57)).alloc (.cells #[.int .i64 a0, .int .i64 a1, .slice At lt.length ct, .slice Aq lq.length cq] 148)) = W0 at B2 HB ⊢
  refine (setup_any a0 a1 sets reload At Aq A1 ct cq c1 lt lq ts W0 (Kd.C_below HT.out HB.out) (Kd.C_below HQ.out HB.out) hc1 (Kd.C_below HS.out HB.out) h6).mono ?_
  rintro e w1 ⟨pol, mode, v5, v6, th, q, rfl, hl5, hl6, hr5, hr6, hb⟩
  obtain ⟨A5, c5, rfl⟩ := Kd.R_slice hr5
  obtain ⟨A6, c6, rfl⟩ := Kd.R_slice hr6
  have BR := blk_below B2.out hb
  have r0 : w1.cell? ⟨w.heap.size + 1 + 1, 0, none⟩ = some (.int .i64 0) := (blk_cell BR 0).trans rfl
  have r1 : w1.cell? ⟨w.heap.size + 1 + 1, 1, none⟩ = some (.int .i64 0) := (blk_cell BR 1).trans rfl
  have r2 : w1.cell? ⟨w.heap.size + 1 + 1, 2, none⟩ = some (.slice none 0 0) := (blk_cell BR 2).trans rfl
  have r3 : w1.cell? ⟨w.heap.size + 1 + 1, 3, none⟩ = some (.int .i64 0) := (blk_cell BR 3).trans rfl
  have r4 : w1.cell? ⟨w.heap.size + 1 + 1, 4, none⟩ = some (.int .i64 0) := (blk_cell BR 4).trans rfl
  have r5 : w1.cell? ⟨w.heap.size + 1 + 1, 5, none⟩ = some (.slice none 0 0) := (blk_cell BR 5).trans rfl
  have r6 : w1.cell? ⟨w.heap.size + 1 + 1, 6, none⟩ = some (.slice none 0 0) := (blk_cell BR 6).trans rfl
  have rf := fun j => blk_frozen BR j
  have BR2 := Aside0.mk BR
  have H5 := Aside0.mk hr5
  have H6 := Aside0.mk hr6
  have L5 := Aside0.mk hl5
  have L6 := Aside0.mk hl6
  have HB1 := Aside0.mk hb
  clear BR hr5 hr6 hl5 hl6 hb
  go_wp2_with fail
  refine bodyPost_ret (v := .agg #[.int .i64 sets, .int .i64 reload, .slice A1 ts.length c1, .int .i64 pol, .int .i64 mode, .slice A5 th.length c5, .slice A6 q.length c6]) (results_single rfl (.cell (w.heap.size + 1 + 1) 57 _ (0, 0) _ rfl (fill7 BR2.out) Tryd.underlying57 rfl (by kernel_rfl) .nil)) rfl ?_
  exact ⟨pol, mode, _, _, th, q, rfl, L5.out, L6.out, R_sets7 (Kd.R_lower H5.out HB.out.size) BR2.out (by decide) _ _ _ _ _ _ _, R_sets7 (Kd.R_lower H6.out HB.out.size) BR2.out (by decide) _ _ _ _ _ _ _, by repeat (with_reducible first | exact below_then HB.out HB.out.size HB1.out | apply bset2)⟩
/-- A cache of the document's, of sets to 8. -/
theorem cache_any (sets : Int) (w : World) (h0 : 1 ≤ sets) (h1 : sets ≤ 8) :
    Calls Tryd.prog 68 #[.int .i64 sets] w fun e w' => ∃ bc v own, e = .returned (.pointer (some ⟨bc, 0, none⟩)) ∧ w.heap.size ≤ bc ∧ w'.heap[bc]? = some (.cells #[v] 194 (0, 0)) ∧ w'.ownsRow w.heap.size 3 1 v own.length (nums .i64 own) ∧ Below w.heap.size w w' := by
  obtain ⟨n, rfl⟩ := Int.eq_ofNat_of_zero_le (show 0 ≤ sets by omega)
  have hmk := print_make (P := Tryd.prog) 25 3 .i64 8 Tryd.underlying25 info3 (by decide) n (by omega)
  go_enter Tryd.func68, Tryd.ntmps68
  go_wp2_with fail
  go_ret
  exact ⟨_, _, List.replicate n 0, rfl, by omega, blk_nw _ _ _ (by simp), by
    have h := own_made w w.heap.size 3 .i64 n (Nat.le_refl _) (by omega)
    rw [List.length_replicate]
    exact pw_own_below h (below_alloc (Below.refl _ _) _), below_alloc (below_alloc (Below.refl _ _) _) _⟩
theorem new_cells (sets reload pol mode : Int) (A1 At Aq : Option Addr) (c1 ct cq bc : Nat) (th q : List Int) (ts : List S90) (vC : Value) (own : List Int) :
    (((((((((Tryd.zeroCells147.setIfInBounds 0 (.int .i64 sets)).setIfInBounds 1 (.int .i64 reload)).setIfInBounds 2 (.slice A1 ts.length c1)).setIfInBounds 3 (.int .i64 pol)).setIfInBounds 4 (.int .i64 mode)).setIfInBounds 5 (.slice At th.length ct)).setIfInBounds 6 (.slice Aq q.length cq)).setIfInBounds 7 (.pointer (some ⟨bc, 0, none⟩))).setIfInBounds 10 (.int .i64 (-1))) =
    XS.cells { sets := sets, reload := reload, AT := A1, cT := c1, ts := ts, pol := pol, mode := mode, At := At, ct := ct, th := th, Aq := Aq, cq := cq, q := q, bc := bc, now := 0, vL := .slice none 0 0, l := [], run := -1, on := false, ld := false, left := 0, vE := .slice none 0 0, m := 0, es := [], nx := List.replicate 100 (.int .i64 0), vC := vC, own := own } := by kernel_rfl
/-- A new executive of the document's. -/
def NewP (w : World) (ts : List S90) (e : Ending) (w' : World) : Prop := ∃ (bx : Nat) (s : XS), e = .returned (.pointer (some ⟨bx, 0, none⟩)) ∧ XI w' w.heap.size bx s ∧ s.ts = ts ∧ s.now = 0 ∧ s.l = [] ∧ s.m = 0 ∧ Below w.heap.size w w'
set_option maxHeartbeats 1600000 in
set_option maxRecDepth 100000 in
theorem new_any (sets reload pol mode : Int) (A1 At Aq : Option Addr) (c1 ct cq : Nat) (th q : List Int) (ts : List S90) (w : World) (h0 : 1 ≤ sets) (h1 : sets ≤ 8) (hts : k90.C w A1 ts.length ts) (hth : (Kd.int .i64).C w At th.length th) (hq : (Kd.int .i64).C w Aq q.length q)
    (hl1 : ts.length ≤ c1) (hl2 : th.length ≤ ct) (hl3 : q.length ≤ cq) (he1 : th.length = ts.length) (he2 : q.length = ts.length) (hpos : 1 ≤ ts.length) (hok : TasksOK ts) :
    Calls Tryd.prog 31 #[.agg #[.int .i64 sets, .int .i64 reload, .slice A1 ts.length c1, .int .i64 pol, .int .i64 mode, .slice At th.length ct, .slice Aq q.length cq]] w (NewP w ts) := by
  have HTS := Aside0.mk hts
  have HTH := Aside0.mk hth
  have HQ := Aside0.mk hq
  have E1 := Aside0.mk he1
  have E2 := Aside0.mk he2
  have HOK := Aside0.mk hok
  clear hts hth hq he1 he2 hok
  go_enter Tryd.func31, Tryd.ntmps31
  go_wp2_with fail
  have x0 : (w.alloc (.cells #[.int .i64 sets, .int .i64 reload, .slice A1 ts.length c1, .int .i64 pol, .int .i64 mode, .slice At th.length ct, .slice Aq q.length cq] 57)).cell? ⟨w.heap.size, 0, none⟩ = some (.int .i64 sets) := (blk_cell (blk_new _ _) 0).trans rfl
  have x1 : (w.alloc (.cells #[.int .i64 sets, .int .i64 reload, .slice A1 ts.length c1, .int .i64 pol, .int .i64 mode, .slice At th.length ct, .slice Aq q.length cq] 57)).cell? ⟨w.heap.size, 1, none⟩ = some (.int .i64 reload) := (blk_cell (blk_new _ _) 1).trans rfl
  have x2 : (w.alloc (.cells #[.int .i64 sets, .int .i64 reload, .slice A1 ts.length c1, .int .i64 pol, .int .i64 mode, .slice At th.length ct, .slice Aq q.length cq] 57)).cell? ⟨w.heap.size, 2, none⟩ = some (.slice A1 ts.length c1) := (blk_cell (blk_new _ _) 2).trans rfl
  have x3 : (w.alloc (.cells #[.int .i64 sets, .int .i64 reload, .slice A1 ts.length c1, .int .i64 pol, .int .i64 mode, .slice At th.length ct, .slice Aq q.length cq] 57)).cell? ⟨w.heap.size, 3, none⟩ = some (.int .i64 pol) := (blk_cell (blk_new _ _) 3).trans rfl
  have x4 : (w.alloc (.cells #[.int .i64 sets, .int .i64 reload, .slice A1 ts.length c1, .int .i64 pol, .int .i64 mode, .slice At th.length ct, .slice Aq q.length cq] 57)).cell? ⟨w.heap.size, 4, none⟩ = some (.int .i64 mode) := (blk_cell (blk_new _ _) 4).trans rfl
  have x5 : (w.alloc (.cells #[.int .i64 sets, .int .i64 reload, .slice A1 ts.length c1, .int .i64 pol, .int .i64 mode, .slice At th.length ct, .slice Aq q.length cq] 57)).cell? ⟨w.heap.size, 5, none⟩ = some (.slice At th.length ct) := (blk_cell (blk_new _ _) 5).trans rfl
  have x6 : (w.alloc (.cells #[.int .i64 sets, .int .i64 reload, .slice A1 ts.length c1, .int .i64 pol, .int .i64 mode, .slice At th.length ct, .slice Aq q.length cq] 57)).cell? ⟨w.heap.size, 6, none⟩ = some (.slice Aq q.length cq) := (blk_cell (blk_new _ _) 6).trans rfl
  have HB := Aside0.mk (below_alloc (Below.refl w.heap.size w) (.cells #[.int .i64 sets, .int .i64 reload, .slice A1 ts.length c1, .int .i64 pol, .int .i64 mode, .slice At th.length ct, .slice Aq q.length cq] 57))
  generalize w.alloc (.cells #[.int .i64 sets, .int .i64 reload, .slice A1 ts.length c1, .int .i64 pol, .int .i64 mode, .slice At th.length ct, .slice Aq q.length cq] 57) = W0 at x0 x1 x2 x3 x4 x5 x6 HB ⊢
  have HB1 := Aside0.mk (below_drew1 HB.out)
  refine start_ (n := 8) (S := fun w' => w'.cell? ⟨w.heap.size, 0, none⟩ = some (.int .i64 sets) ∧ w'.cell? ⟨w.heap.size, 1, none⟩ = some (.int .i64 reload) ∧ w'.cell? ⟨w.heap.size, 2, none⟩ = some (.slice A1 ts.length c1) ∧ w'.cell? ⟨w.heap.size, 3, none⟩ = some (.int .i64 pol) ∧ w'.cell? ⟨w.heap.size, 4, none⟩ = some (.int .i64 mode) ∧ w'.cell? ⟨w.heap.size, 5, none⟩ = some (.slice At th.length ct) ∧ w'.cell? ⟨w.heap.size, 6, none⟩ = some (.slice Aq q.length cq)) (ds := []) #[false, false, false, false, false, false, false, false] (by kernel_rfl) rfl rfl ⟨x0, x1, x2, x3, x4, x5, x6⟩ (fun hHeld => ?_)
  have hHeld0 := hHeld
  generalize W0.drew = W4 at HB1 hHeld hHeld0 ⊢
  refine take_ (i := 0) (N := some 3) (v := ?_) (a' := ?_) #[true, false, false, false, false, false, false, false] rfl rfl (by kernel_rfl) (fun _ _ _ h => h) (Or.inl ⟨by rfl, ?_⟩) hHeld ?_ ?_
  rotate_left
  · rintro w' ⟨s0, s1, s2, s3, s4, s5, s6⟩
    go_simp
    with_reducible rfl
  rotate_left
  · simp only [Act.put, List.setIfInBounds_toArray, List.set_cons_zero, List.set_cons_succ, i64_w, i32_w]
    rfl
  refine pure_ (i := 1) (N := some 4) (v := ?_) (a' := ?_) #[true, true, false, false, false, false, false, false] rfl rfl (by kernel_rfl) (fun _ _ _ h => h) (Or.inl ⟨by rfl, ?_⟩) ?_ ?_
  rotate_left
  · rintro w'
    go_simp
    with_reducible rfl
  rotate_left
  · simp only [Act.put, List.setIfInBounds_toArray, List.set_cons_zero, List.set_cons_succ, i64_w, i32_w]
    rfl
  refine pure_ (i := 2) (N := some 5) (v := ?_) (a' := ?_) #[true, true, true, false, false, false, false, false] rfl rfl (by kernel_rfl) (fun _ _ _ h => h) (Or.inl ⟨by rfl, ?_⟩) ?_ ?_
  rotate_left
  · rintro w'
    go_simp
    with_reducible rfl
  rotate_left
  · simp only [Act.put, List.setIfInBounds_toArray, List.set_cons_zero, List.set_cons_succ, i64_w, i32_w]
    rfl
  refine take_ (i := 3) (N := some 6) (v := ?_) (a' := ?_) #[true, true, true, true, false, false, false, false] rfl rfl (by kernel_rfl) (fun _ _ _ h => h) (Or.inl ⟨by rfl, ?_⟩) hHeld ?_ ?_
  rotate_left
  · rintro w' ⟨s0, s1, s2, s3, s4, s5, s6⟩
    go_simp
    with_reducible rfl
  rotate_left
  · simp only [Act.put, List.setIfInBounds_toArray, List.set_cons_zero, List.set_cons_succ, i64_w, i32_w]
    rfl
  refine one_ (i := 4) (N := some 7) #[true, true, true, true, true, false, false, false] rfl rfl (by kernel_rfl) (by decide) (fun K hK => ?_)
  refine goes_ Tryd.func68 (by kernel_rfl) rfl #[.int .i64 sets] (by rfl) rfl rfl (by simp only [List.map_toArray, List.map_cons, List.map_nil, Act.eval]; rfl) ?_
  refine (cache_any sets _ h0 h1).mono ?_
  rintro e w2 ⟨bc, vC, own, rfl, hbc, hblk, hown, hb2⟩
  have HC := Aside0.mk hblk
  have HO := Aside0.mk hown
  have HB2 := Aside0.mk hb2
  have HBC := Aside0.mk hbc
  clear hblk hown hbc
  refine ⟨_, rfl, ?_⟩
  refine hK.out _ _ ⟨(hb2.cell (World.block_lt_of_cell? W4 _ hHeld.1)).trans hHeld.1, (hb2.cell (World.block_lt_of_cell? W4 _ hHeld.2.1)).trans hHeld.2.1, (hb2.cell (World.block_lt_of_cell? W4 _ hHeld.2.2.1)).trans hHeld.2.2.1, (hb2.cell (World.block_lt_of_cell? W4 _ hHeld.2.2.2.1)).trans hHeld.2.2.2.1, (hb2.cell (World.block_lt_of_cell? W4 _ hHeld.2.2.2.2.1)).trans hHeld.2.2.2.2.1, (hb2.cell (World.block_lt_of_cell? W4 _ hHeld.2.2.2.2.2.1)).trans hHeld.2.2.2.2.2.1, (hb2.cell (World.block_lt_of_cell? W4 _ hHeld.2.2.2.2.2.2)).trans hHeld.2.2.2.2.2.2⟩ (fun hHeld => ?_)
  clear hK K
  refine norm_ (a' := ?_) ?_ ?_
  rotate_left
  · show Act.put _ (some 7) _ = _
    simp only [Act.put, List.setIfInBounds_toArray, List.set_cons_zero, List.set_cons_succ, i64_w, i32_w]
    rfl
  refine pure_ (i := 5) (N := some 8) (v := ?_) (a' := ?_) #[true, true, true, true, true, true, false, false] rfl rfl (by kernel_rfl) (fun _ _ _ h => h) (Or.inl ⟨by rfl, ?_⟩) ?_ ?_
  rotate_left
  · rintro w'
    go_simp
    with_reducible rfl
  rotate_left
  · simp only [Act.put, List.setIfInBounds_toArray, List.set_cons_zero, List.set_cons_succ, i64_w, i32_w]
    rfl
  refine one_ (i := 6) (N := some 9) #[true, true, true, true, true, true, true, false] rfl rfl (by kernel_rfl) (by decide) (fun K hK => ?_)
  refine value_ (w1 := ?_) (v := ?_) (by rfl) rfl ?_ ?_
  rotate_left 2
  · go_simp
    constructor
    · rfl
    · rfl
  refine hK.out _ _ ⟨by go_keep, by go_keep, by go_keep, by go_keep, by go_keep, by go_keep, by go_keep⟩ (fun hHeld => ?_)
  clear hK K
  refine norm_ (a' := ?_) ?_ ?_
  rotate_left
  · simp only [Act.put, List.setIfInBounds_toArray, List.set_cons_zero, List.set_cons_succ, i64_w, i32_w]
    rfl
  refine pure_ (i := 7) (N := some 2) (v := ?_) (a' := ?_) #[true, true, true, true, true, true, true, true] rfl rfl (by kernel_rfl) (fun _ _ _ h => h) (Or.inl ⟨by rfl, ?_⟩) ?_ ?_
  rotate_left
  · rintro w'
    go_simp
    with_reducible rfl
  rotate_left
  · simp only [Act.put, List.setIfInBounds_toArray, List.set_cons_zero, List.set_cons_succ, i64_w, i32_w]
    rfl
  refine done_ (by kernel_rfl) ?_
  go_wp2_with fail
  go_ret
  have hsz := HB1.out.size
  have hb2 := below_then HB1.out hsz HB2.out
  have hb3 := below_alloc hb2 (.cells (((((((((Tryd.zeroCells147.setIfInBounds 0 (.int .i64 sets)).setIfInBounds 1 (.int .i64 reload)).setIfInBounds 2 (.slice A1 ts.length c1)).setIfInBounds 3 (.int .i64 pol)).setIfInBounds 4 (.int .i64 mode)).setIfInBounds 5 (.slice At th.length ct)).setIfInBounds 6 (.slice Aq q.length cq)).setIfInBounds 7 (.pointer (some ⟨bc, 0, none⟩))).setIfInBounds 10 (.int .i64 (-1))) 147)
  refine ⟨w2.heap.size, { sets := sets, reload := reload, AT := A1, cT := c1, ts := ts, pol := pol, mode := mode, At := At, ct := ct, th := th, Aq := Aq, cq := cq, q := q, bc := bc, now := 0, vL := .slice none 0 0, l := [], run := -1, on := false, ld := false, left := 0, vE := .slice none 0 0, m := 0, es := [], nx := List.replicate 100 (.int .i64 0), vC := vC, own := own }, rfl, ⟨?_, hb2.size, ⟨?_, ?_, ?_, ?_, ?_, ?_, ?_, ?_, ?_, ?_, ?_, ?_, ?_, ?_, ?_⟩, ?_, ?_, ?_⟩, rfl, rfl, rfl, rfl, hb3⟩
  · rw [← new_cells]; exact blk_new _ _
  · exact ⟨by simp, fun v hv => ⟨0, List.eq_of_mem_replicate hv⟩⟩
  · exact Kd.F_step (Kd.C_F k90_heap HTS.out) (fun k hk _ => hb3.block k hk)
  · intro i hi
    have := (HOK.out.2 i _ (List.getElem?_eq_getElem hi)).1
    simpa [rd_T90, List.getD_eq_getElem?_getD, hi] using this
  · exact ⟨hpos, HOK.out.1⟩
  · intro t ht
    obtain ⟨i, hi⟩ := List.getElem?_of_mem ht
    have := HOK.out.2 i t hi
    exact ⟨this.2.2.2.1, this.2.2.2.2⟩
  · exact ⟨hl1, hl2, hl3⟩
  · exact Kd.F_step (Kd.C_F (Kd.heap_int .i64) HTH.out) (fun k hk _ => hb3.block k hk)
  · exact E1.out
  · exact Kd.F_step (Kd.C_F (Kd.heap_int .i64) HQ.out) (fun k hk _ => hb3.block k hk)
  · exact E2.out
  · exact Nat.le_trans hsz HBC.out
  · exact blk_alloc HC.out _
  · exact own_weaken (pw_own_below HO.out (below_alloc (Below.refl _ _) _)) hsz
  · exact Kd.R_nil _ _ _ _ _
  · exact own_nil _ _ _ _
  · exact ⟨by simp, by simp⟩
  · intro x hx; cases hx
  · exact Int.le_refl _
end Go.Proofs.YtbldolbeijpipaaDoor
