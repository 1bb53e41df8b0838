import Derived.Test.YtbldolbeijpipaaDoorHMake
import Derived.Deep.RegionHeld3
namespace Go.Proofs.YtbldolbeijpipaaDoor
open Go.RowKit Go.Proofs.YtbldolbeijpipaaDoorW.PrintWords Go.Proofs.YtbldolbeijpipaaDoorW.PrintLast Go.Proofs.YtbldolbeijpipaaDoorW.PrintMore
set_option linter.unusedVariables false
set_option linter.unusedSimpArgs false
/-- What is known of a task of the document's making, at its place. -/
def TaskOK (i : Nat) (x : S90) : Prop := x.f0 = i + 1 ∧ 1 ≤ x.f1 ∧ x.f1 ≤ 24 ∧ x.f5.length ≤ 100 ∧ x.f6.length ≤ 100
def TasksOK (l : List S90) : Prop := l.length ≤ 6 ∧ ∀ i x, l[i]? = some x → TaskOK i x
theorem TasksOK.snoc {l : List S90} {x : S90} (h : TasksOK l) (hl : l.length < 6) (hx : TaskOK l.length x) : TasksOK (l ++ [x]) := by
  refine ⟨by simp; omega, fun i y hy => ?_⟩
  rcases Nat.lt_or_ge i l.length with hi | hi
  · rw [List.getElem?_append_left hi] at hy
    exact h.2 i y hy
  · rcases Nat.eq_or_lt_of_le hi with e | e
    · subst e
      simp at hy
      exact hy ▸ hx
    · rw [List.getElem?_eq_none (by simp; omega)] at hy
      cases hy
/-- A system of the document's making. -/
def MadeP (w : World) (e : Ending) (w' : World) : Prop := ∃ (sets reload : Int) (v : Value) (ts : List S90), e = .returned (.agg #[.int .i64 sets, .int .i64 reload, v]) ∧ 1 ≤ sets ∧ sets ≤ 8 ∧ 1 ≤ ts.length ∧ TasksOK ts ∧
  k90.R 90 w' w.heap.size (fun _ => True) v ts ∧ Below w.heap.size w w'
theorem info90 : (Tryd.prog.info? 90).map (fun i => (i.zero, i.size, i.bytes)) = some (some (.agg #[.int .i64 0, .int .i64 0, .int .i64 0, .int .i64 0, .int .i64 0, .slice none 0 0, .slice none 0 0]), 7, 88) := by kernel_rfl
theorem fill3 {W : World} {g : Nat} {t : TypeId} {x0 x1 x2 v0 v1 v2 : Value} (h : W.heap[g]? = some (.cells #[x0, x1, x2] t (0, 0))) :
    (((W.setCell ⟨g, 0, none⟩ v0).setCell ⟨g, 1, none⟩ v1).setCell ⟨g, 2, none⟩ v2).heap[g]? = some (.cells #[v0, v1, v2] t (0, 0)) := by simpa using (blk_set (blk_set (blk_set h 0 v0) 1 v1) 2 v2)
theorem R_sets3 {α : Type} {d : Kd α} {e g t : Nat} {w : World} {base : Nat} {ok : Nat → Prop} {v : Value} {xs : List α} {cells : Array Value} (h : d.R e w base ok v xs) (hb : w.heap[g]? = some (.cells cells t (0, 0))) (ht : ∀ q, q ∈ e :: d.E → q ≠ t) (v0 v1 v2 : Value) :
    d.R e (((w.setCell ⟨g, 0, none⟩ v0).setCell ⟨g, 1, none⟩ v1).setCell ⟨g, 2, none⟩ v2) base ok v xs :=
  Kd.R_mono (Kd.R_step (Kd.R_types h hb ht) (fun k hk _ => by rw [Below.heap_setCell _ _ _ _ hk.2, Below.heap_setCell _ _ _ _ hk.2, Below.heap_setCell _ _ _ _ hk.2])) (fun k hk => hk.1)
/-- A literal of one element. -/
theorem R_one {α : Type} {d : Kd α} {e base : Nat} {ok okp : Nat → Prop} {W : World} {p : α} {cs : List Value} (hp : d.M W base okp p cs) (hokp : ∀ k, okp k → ok k) (hfresh : ∀ k, W.heap.size ≤ k → ok k) (hb : base ≤ W.heap.size) :
    d.R e (W.alloc (.cells cs.toArray e)) base ok (.slice (some ⟨W.heap.size, 0, none⟩) 1 1) [p] := by
  have hl : cs.length = d.sz := d.K_len (d.K_of_M hp)
  have hown : (W.alloc (.cells cs.toArray e)).ownsRow base e d.sz (.slice (some ⟨W.heap.size, 0, none⟩) 1 1) (([] : List α).length + 1) ([] ++ cs) :=
    ⟨by simp [hl], .inr ⟨W.heap.size, 1, cs.toArray, rfl, hb, blk_new _ _, Nat.le_refl _, by decide, by simp [hl], by simp [← hl]⟩⟩
  exact Kd.R_appended (v := .slice none 0 0) (xs := []) (inner := []) (by simp [Value.ownBlock]) (Reps.none _ _) hp (fun k hk => ⟨hokp k hk, by simp [Value.ownBlock]⟩) hfresh hown (grown_of_below (below_alloc (Below.refl _ _) _) _) (.inr ⟨_, rfl, Nat.le_refl _⟩)
set_option maxHeartbeats 1600000 in
set_option maxRecDepth 100000 in
theorem made_any (a0 a1 : Int) (An : Option Addr) (cn : Nat) (ln : List S139) (w : World) (hn : k139.C w An ln.length ln) :
    Calls Tryd.prog 67 #[.agg #[.int .i64 a0, .int .i64 a1, .slice An ln.length cn]] w (MadeP w) := by
  have HN := Aside0.mk hn
  have hlen := hn.2.1
  clear hn
  go_enter Tryd.func67, Tryd.ntmps67
  go_wp2_with fail
  go_cut [3] (fun b wx => ∃ (sets reload : Int), b = .pointer (some ⟨w.heap.size + 1 + 1, 0, none⟩) ∧ 1 ≤ sets ∧ sets ≤ 8 ∧ Aside0 (wx.heap[w.heap.size]? = some (.cells #[.int .i64 a0, .int .i64 a1, .slice An ln.length cn] 137 (0, 0))) ∧ Aside0 (wx.heap[w.heap.size + 1]? = some (.cells #[.int .i64 0, .int .i64 0, .slice none 0 0] 54 (0, 0))) ∧ Aside0 (wx.heap[w.heap.size + 1 + 1]? = some (.cells #[.int .i64 sets, .int .i64 reload, .slice none 0 0] 54 (0, 0))) ∧ Aside0 (Below w.heap.size w wx))
  case first =>
    have hr := restV_bd a0 8 (by omega) (by omega)
    have hw : IntKind.i64.wrap (1 + restV a0 8) = 1 + restV a0 8 := by rw [IntKind.wrap_i64]; omega
    have HR := Aside0.mk hr
    have HW := Aside0.mk hw
    clear hr hw
    go_region_held3 (fun w' => w'.cell? ⟨w.heap.size, 0, none⟩ = some (.int .i64 a0) ∧ w'.cell? ⟨w.heap.size, 1, none⟩ = some (.int .i64 a1)) (first | go_keep)
      ((go_at_call 103; refine (rest_at a0 8 _ (by omega)).mono ?_; rintro e w' ⟨rfl, rfl⟩))
    all_goals
      go_wp2_with fail
      go_meet
      case rel => exact ⟨_, _, rfl, by rw [HW.out]; have := HR.out.1; omega, by rw [HW.out]; have := HR.out.2; omega, ⟨blk_drew (blk_alloc (blk_alloc (blk_new _ _) _) _)⟩, ⟨blk_drew (blk_alloc (blk_nw _ _ _ (by simp)) _)⟩, ⟨blk_drew (blk_nw _ _ _ (by simp))⟩, ⟨below_drew1 (below_alloc (below_alloc (below_alloc (Below.refl _ _) _) _) _)⟩⟩
  case rest =>
  obtain ⟨sets, reload, rfl, hs0, hs1, BN, BR, BX, HB⟩ := hcut
  go_wp2_with fail
  go_loopw [4] (fun kk wr => ∃ (k : Nat) (v : Value) (ts : List S90), kk = .int .i64 k ∧ k ≤ 6 ∧ k ≤ ln.length ∧ ts.length ≤ k ∧ k ≤ ts.length ∧ Aside0 (TasksOK ts) ∧ Aside0 (k90.R 90 wr w.heap.size (fun _ => True) v ts) ∧ Aside0 (wr.heap[w.heap.size]? = some (.cells #[.int .i64 a0, .int .i64 a1, .slice An ln.length cn] 137 (0, 0))) ∧ Aside0 (wr.heap[w.heap.size + 1]? = some (.cells #[.int .i64 0, .int .i64 0, .slice none 0 0] 54 (0, 0))) ∧ Aside0 (wr.heap[w.heap.size + 1 + 1]? = some (.cells #[.int .i64 sets, .int .i64 reload, v] 54 (0, 0))) ∧ Aside0 (Below w.heap.size w wr)) (fun kk _ => 6 - (intOf kk).toNat)
  case atStart => exact ⟨0, .slice none 0 0, [], rfl, by omega, by omega, by simp, by simp, ⟨⟨by simp, by simp⟩⟩, ⟨Kd.R_nil _ _ _ _ _⟩, BN, BR, BX, HB⟩
  case round =>
    clear BN BR BX HB
    obtain ⟨k, v, ts, rfl, hk6, hkl, ht1, ht2, HT, HV, BN, BR, BX, HB⟩ := hrel
    have n2 : wr.cell? ⟨w.heap.size, 2, none⟩ = some (.slice An ln.length cn) := (blk_cell BN.out 2).trans rfl
    have x0 : wr.cell? ⟨w.heap.size + 1 + 1, 0, none⟩ = some (.int .i64 sets) := (blk_cell BX.out 0).trans rfl
    have x2 : wr.cell? ⟨w.heap.size + 1 + 1, 2, none⟩ = some v := (blk_cell BX.out 2).trans rfl
    have fx := blk_frozen BX.out 2
    by_cases hin : k < ln.length ∧ k < 6
    · obtain ⟨hin1, hin2⟩ := hin
      have hk0 : (0 : Int) ≤ (k : Int) := by omega
      have hk1' : (k : Int) < ln.length := by omega
      have hk6' : (k : Int) ≤ 5 := by omega
      obtain ⟨ad, A5, c5, ea, p0, p1, p2, p3, p4, p5, l5, g5⟩ := at_T139 HN.out k (by omega) (by omega)
      subst ea
      rw [Int.toNat_natCast] at p0 p1 p2 p3 p4 p5
      have hadb := World.block_lt_of_cell? w _ p0
      have hnv : some (ad.add (k * 6)).block ≠ v.ownBlock := fun e => by obtain ⟨inner, ho⟩ := Kd.R_own HV.out; have := own_base ho _ e.symm; omega
      have G5 := Aside0.mk g5
      have L5 := Aside0.mk l5
      clear g5 l5
      replace p0 := (HB.out.cell hadb).trans p0
      replace p1 := (HB.out.cell (p := ⟨(ad.add (k * 6)).block, (ad.add (k * 6)).off + 1, none⟩) hadb).trans p1
      replace p2 := (HB.out.cell (p := ⟨(ad.add (k * 6)).block, (ad.add (k * 6)).off + 2, none⟩) hadb).trans p2
      replace p3 := (HB.out.cell (p := ⟨(ad.add (k * 6)).block, (ad.add (k * 6)).off + 3, none⟩) hadb).trans p3
      replace p4 := (HB.out.cell (p := ⟨(ad.add (k * 6)).block, (ad.add (k * 6)).off + 4, none⟩) hadb).trans p4
      replace p5 := (HB.out.cell (p := ⟨(ad.add (k * 6)).block, (ad.add (k * 6)).off + 5, none⟩) hadb).trans p5
      have hnx : some (w.heap.size + 1 + 1) ≠ v.ownBlock := Kd.R_ne HV.out BX.out (by decide)
      have hnn : some (w.heap.size) ≠ v.ownBlock := Kd.R_ne HV.out BN.out (by decide)
      have hnr : some (w.heap.size + 1) ≠ v.ownBlock := Kd.R_ne HV.out BR.out (by decide)
      go_upto_region 5 with fail
      replace BX := Aside0.mk (blk_drew BX.out)
      replace BN := Aside0.mk (blk_drew BN.out)
      replace BR := Aside0.mk (blk_drew BR.out)
      replace HV := Aside0.mk (Kd.R_drew HV.out)
      replace HB := Aside0.mk (below_drew1 HB.out)
      refine start_ (n := 15) (S := fun w' => w'.cell? ⟨w.heap.size + 1 + 1, 2, none⟩ = some v ∧ w'.cell? ⟨w.heap.size, 2, none⟩ = some (.slice (some ad) ln.length cn) ∧ w'.cell? ⟨w.heap.size + 1 + 1, 0, none⟩ = some (.int .i64 sets) ∧ w'.cell? (ad.add (k * 6)) = some (.int .i64 (rd_T139 ln ↑k).f0) ∧ w'.cell? ⟨(ad.add (k * 6)).block, (ad.add (k * 6)).off + 1, none⟩ = some (.int .i64 (rd_T139 ln ↑k).f1) ∧ w'.cell? ⟨(ad.add (k * 6)).block, (ad.add (k * 6)).off + 2, none⟩ = some (.int .i64 (rd_T139 ln ↑k).f2) ∧ w'.cell? ⟨(ad.add (k * 6)).block, (ad.add (k * 6)).off + 3, none⟩ = some (.int .i64 (rd_T139 ln ↑k).f3) ∧ w'.cell? ⟨(ad.add (k * 6)).block, (ad.add (k * 6)).off + 4, none⟩ = some (.int .i64 (rd_T139 ln ↑k).f4) ∧ w'.cell? ⟨(ad.add (k * 6)).block, (ad.add (k * 6)).off + 5, none⟩ = some (.slice A5 (rd_T139 ln ↑k).f5.length c5)) (ds := [14]) #[false, false, false, false, false, false, false, false, false, false, false, false, false, false, false] (by kernel_rfl) rfl rfl ⟨x2, n2, x0, p0, p1, p2, p3, p4, p5⟩ (fun hHeld => ?_)
      have hHeld0 := hHeld
      generalize wr.drew = W4 at HV BX BN BR HB hHeld hHeld0 ⊢
      refine pure_ (i := 0) (N := some 24) (v := ?_) (a' := ?_) #[true, false, false, false, false, false, false, false, false, false, false, false, false, false, false] rfl rfl (by kernel_rfl) (fun _ _ _ h => h) (Or.inl ⟨by rfl, ?_⟩) ?_ ?_
      rotate_left
      · rintro w'
        go_simp
        with_reducible rfl
      rotate_left
      · simp only [Act.put, List.setIfInBounds_toArray, List.set_cons_zero, List.set_cons_succ, i64_w, i32_w]
        rfl
      refine take_ (i := 1) (N := some 25) (v := ?_) (a' := ?_) #[true, true, false, false, false, false, false, false, false, false, false, false, false, false, false] rfl rfl (by kernel_rfl) (fun _ _ _ h => h) (Or.inl ⟨by rfl, ?_⟩) hHeld ?_ ?_
      rotate_left
      · rintro w' ⟨s0, s1, s2, s3, s4, s5, s6, s7, s8⟩
        go_simp
        with_reducible rfl
      rotate_left
      · simp only [Act.put, List.setIfInBounds_toArray, List.set_cons_zero, List.set_cons_succ, i64_w, i32_w]
        rfl
      refine pure_ (i := 2) (N := some 26) (v := ?_) (a' := ?_) #[true, true, true, false, false, false, false, false, false, false, false, false, false, false, false] rfl rfl (by kernel_rfl) (fun _ _ _ h => h) (Or.inl ⟨by rfl, ?_⟩) ?_ ?_
      rotate_left
      · rintro w'
        go_simp
        with_reducible rfl
      rotate_left
      · simp only [Act.put, List.setIfInBounds_toArray, List.set_cons_zero, List.set_cons_succ, i64_w, i32_w]
        rfl
      refine take_ (i := 3) (N := some 27) (v := ?_) (a' := ?_) #[true, true, true, true, false, false, false, false, false, false, false, false, false, false, false] rfl rfl (by kernel_rfl) (fun _ _ _ h => h) (Or.inl ⟨by rfl, ?_⟩) hHeld ?_ ?_
      rotate_left
      · rintro w' ⟨s0, s1, s2, s3, s4, s5, s6, s7, s8⟩
        go_simp
        with_reducible rfl
      rotate_left
      · simp only [Act.put, List.setIfInBounds_toArray, List.set_cons_zero, List.set_cons_succ, i64_w, i32_w]
        rfl
      refine pure_ (i := 4) (N := some 28) (v := ?_) (a' := ?_) #[true, true, true, true, true, false, false, false, false, false, false, false, false, false, false] rfl rfl (by kernel_rfl) (fun _ _ _ h => h) (Or.inl ⟨by rfl, ?_⟩) ?_ ?_
      rotate_left
      · rintro w'
        go_simp
        with_reducible rfl
      rotate_left
      · simp only [Act.put, List.setIfInBounds_toArray, List.set_cons_zero, List.set_cons_succ, i64_w, i32_w]
        rfl
      refine pure_ (i := 5) (N := some 29) (v := ?_) (a' := ?_) #[true, true, true, true, true, true, false, false, false, false, false, false, false, false, false] rfl rfl (by kernel_rfl) (fun _ _ _ h => h) (Or.inl ⟨by rfl, ?_⟩) ?_ ?_
      rotate_left
      · rintro w'
        go_simp
        with_reducible rfl
      rotate_left
      · simp only [Act.put, List.setIfInBounds_toArray, List.set_cons_zero, List.set_cons_succ, i64_w, i32_w]
        rfl
      refine take_ (i := 6) (N := some 30) (v := ?_) (a' := ?_) #[true, true, true, true, true, true, true, false, false, false, false, false, false, false, false] rfl rfl (by kernel_rfl) (fun _ _ _ h => h) (Or.inl ⟨by rfl, ?_⟩) hHeld ?_ ?_
      rotate_left
      · rintro w' ⟨s0, s1, s2, s3, s4, s5, s6, s7, s8⟩
        go_simp
        with_reducible rfl
      rotate_left
      · simp only [Act.put, List.setIfInBounds_toArray, List.set_cons_zero, List.set_cons_succ, i64_w, i32_w]
        rfl
      refine pure_ (i := 7) (N := some 31) (v := ?_) (a' := ?_) #[true, true, true, true, true, true, true, true, false, false, false, false, false, false, false] rfl rfl (by kernel_rfl) (fun _ _ _ h => h) (Or.inl ⟨by rfl, ?_⟩) ?_ ?_
      rotate_left
      · rintro w'
        go_simp
        with_reducible rfl
      rotate_left
      · simp only [Act.put, List.setIfInBounds_toArray, List.set_cons_zero, List.set_cons_succ, i64_w, i32_w]
        rfl
      refine pure_ (i := 8) (N := some 32) (v := ?_) (a' := ?_) #[true, true, true, true, true, true, true, true, true, false, false, false, false, false, false] rfl rfl (by kernel_rfl) (fun _ _ _ h => h) (Or.inl ⟨by rfl, ?_⟩) ?_ ?_
      rotate_left
      · rintro w'
        go_simp
        with_reducible rfl
      rotate_left
      · simp only [Act.put, List.setIfInBounds_toArray, List.set_cons_zero, List.set_cons_succ, i64_w, i32_w]
        rfl
      refine take_ (i := 9) (N := some 33) (v := ?_) (a' := ?_) #[true, true, true, true, true, true, true, true, true, true, false, false, false, false, false] rfl rfl (by kernel_rfl) (fun _ _ _ h => h) (Or.inl ⟨by rfl, ?_⟩) hHeld ?_ ?_
      rotate_left
      · rintro w' ⟨s0, s1, s2, s3, s4, s5, s6, s7, s8⟩
        go_simp
        with_reducible rfl
      rotate_left
      · simp only [Act.put, List.setIfInBounds_toArray, List.set_cons_zero, List.set_cons_succ, i64_w, i32_w]
        rfl
      refine one_ (i := 10) (N := some 34) #[true, true, true, true, true, true, true, true, true, true, true, false, false, false, false] rfl rfl (by kernel_rfl) (by decide) (fun K hK => ?_)
      refine goes_ Tryd.func104 (by kernel_rfl) rfl #[.agg #[.int .i64 (rd_T139 ln ↑k).f0, .int .i64 (rd_T139 ln ↑k).f1, .int .i64 (rd_T139 ln ↑k).f2, .int .i64 (rd_T139 ln ↑k).f3, .int .i64 (rd_T139 ln ↑k).f4, .slice A5 (rd_T139 ln ↑k).f5.length c5], .int .i64 ↑k, .int .i64 sets] (by rfl) rfl rfl (by simp only [List.map_toArray, List.map_cons, List.map_nil, Act.eval]; rfl) ?_
      refine (task_any _ _ _ _ _ ↑k sets A5 c5 _ W4 (Kd.C_below G5.out HB.out) hk0 hk6' hs0 hs1).mono ?_
      rintro e w2 ⟨x, v5, v6, rfl, hx0, hx1, hx2, hx5, hx6, hr5, hr6, hb2⟩
      have HTK : Aside0 (TaskOK k x) := ⟨⟨hx0, hx1, hx2, hx5, hx6⟩⟩
      have HC : Aside0 ((Kd.int .i64).R 2 w2 W4.heap.size (fun _ => True) v5 x.f5) := ⟨hr5⟩
      have HD : Aside0 ((Kd.int .i64).R 3 w2 W4.heap.size (fun _ => True) v6 x.f6) := ⟨hr6⟩
      have HB2 := Aside0.mk hb2
      clear hx0 hx1 hx2 hx5 hx6 hr5 hr6
      refine ⟨_, rfl, ?_⟩
      refine hK.out _ _ ⟨(hb2.cell (World.block_lt_of_cell? W4 _ hHeld.1)).trans hHeld.1, (hb2.cell (World.block_lt_of_cell? W4 _ hHeld.2.1)).trans hHeld.2.1, (hb2.cell (World.block_lt_of_cell? W4 _ hHeld.2.2.1)).trans hHeld.2.2.1, (hb2.cell (World.block_lt_of_cell? W4 _ hHeld.2.2.2.1)).trans hHeld.2.2.2.1, (hb2.cell (World.block_lt_of_cell? W4 _ hHeld.2.2.2.2.1)).trans hHeld.2.2.2.2.1, (hb2.cell (World.block_lt_of_cell? W4 _ hHeld.2.2.2.2.2.1)).trans hHeld.2.2.2.2.2.1, (hb2.cell (World.block_lt_of_cell? W4 _ hHeld.2.2.2.2.2.2.1)).trans hHeld.2.2.2.2.2.2.1, (hb2.cell (World.block_lt_of_cell? W4 _ hHeld.2.2.2.2.2.2.2.1)).trans hHeld.2.2.2.2.2.2.2.1, (hb2.cell (World.block_lt_of_cell? W4 _ hHeld.2.2.2.2.2.2.2.2)).trans hHeld.2.2.2.2.2.2.2.2⟩ (fun hHeld => ?_)
      clear hK K
      refine norm_ (a' := ?_) ?_ ?_
      rotate_left
      · show Act.put _ (some 34) _ = _
        simp only [Act.put, List.setIfInBounds_toArray, List.set_cons_zero, List.set_cons_succ, i64_w, i32_w]
        rfl
      refine one_ (i := 11) (N := some 35) #[true, true, true, true, true, true, true, true, true, true, true, true, false, false, false] rfl rfl (by kernel_rfl) (by decide) (fun K hK => ?_)
      refine value_ (w1 := ?_) (v := ?_) (by rfl) rfl ?_ ?_
      rotate_left 2
      · go_simp
        constructor
        · rfl
        · rfl
      refine hK.out _ _ ⟨by go_keep, by go_keep, by go_keep, by go_keep, by go_keep, by go_keep, by go_keep, by go_keep, by go_keep⟩ (fun hHeld => ?_)
      clear hK K
      refine norm_ (a' := ?_) ?_ ?_
      rotate_left
      · simp only [Act.put, List.setIfInBounds_toArray, List.set_cons_zero, List.set_cons_succ, i64_w, i32_w]
        rfl
      refine one_ (i := 12) (N := some 36) #[true, true, true, true, true, true, true, true, true, true, true, true, true, false, false] rfl rfl (by kernel_rfl) (by decide) (fun K hK => ?_)
      have hlt := Kd.R_lt HV.out
      have hM : k90.M w2 w.heap.size (fun k => W4.heap.size ≤ k) x [.int .i64 x.f0, .int .i64 x.f1, .int .i64 x.f2, .int .i64 x.f3, .int .i64 x.f4, v5, v6] := k90_mkM w2 w.heap.size _ x (Kd.R_lower (Kd.R_mono (Kd.R_bound HC.out) (fun k hk => hk.2.1)) HB.out.size) (Kd.R_lower (Kd.R_mono (Kd.R_bound HD.out) (fun k hk => hk.2.1)) HB.out.size)
      refine Kd.R_append_step k90 (w0 := w2) (W := w2) w.heap.size (by rfl) _ _ _ 90 _ 88 (by rfl) Tryd.underlying52 info90 (by rfl) (by decide) (by decide) v ts x [.int .i64 x.f0, .int .i64 x.f1, .int .i64 x.f2, .int .i64 x.f3, .int .i64 x.f4, v5, v6] (fun _ => True) (fun k => W4.heap.size ≤ k) (by rfl) (by rfl) hM (fun k hk => ⟨trivial, fun e => by have := hlt k e.symm; omega⟩) (fun _ _ => trivial) (Kd.R_below HV.out HB2.out) (Below.refl _ _) (by have := HB.out.size; have := HB2.out.size; omega) (by omega) ?_
      intro v1 w4 hR hB4 hg4 hat4
      obtain ⟨A1, c1, rfl⟩ := Kd.R_slice hR
      have BX1 := blk_grown (blk_below BX.out HB2.out) hg4 hnx
      have BN1 := blk_grown (blk_below BN.out HB2.out) hg4 hnn
      have BR1 := blk_grown (blk_below BR.out HB2.out) hg4 hnr
      have ef := blk_frozen BX1 2
      refine hK.out _ _ ⟨(blk_cell BX1 2).trans rfl, (blk_cell BN1 2).trans rfl, (blk_cell BX1 0).trans rfl, hg4.cell ((HB2.out.cell (World.block_lt_of_cell? W4 _ hHeld0.2.2.2.1)).trans hHeld0.2.2.2.1) hnv, hg4.cell ((HB2.out.cell (World.block_lt_of_cell? W4 _ hHeld0.2.2.2.2.1)).trans hHeld0.2.2.2.2.1) hnv, hg4.cell ((HB2.out.cell (World.block_lt_of_cell? W4 _ hHeld0.2.2.2.2.2.1)).trans hHeld0.2.2.2.2.2.1) hnv, hg4.cell ((HB2.out.cell (World.block_lt_of_cell? W4 _ hHeld0.2.2.2.2.2.2.1)).trans hHeld0.2.2.2.2.2.2.1) hnv, hg4.cell ((HB2.out.cell (World.block_lt_of_cell? W4 _ hHeld0.2.2.2.2.2.2.2.1)).trans hHeld0.2.2.2.2.2.2.2.1) hnv, hg4.cell ((HB2.out.cell (World.block_lt_of_cell? W4 _ hHeld0.2.2.2.2.2.2.2.2)).trans hHeld0.2.2.2.2.2.2.2.2) hnv⟩ (fun hHeld => ?_)
      clear hK K
      refine norm_ (a' := ?_) ?_ ?_
      rotate_left
      · show Act.put _ (some 36) _ = _
        simp only [Act.put, List.setIfInBounds_toArray, List.set_cons_zero, List.set_cons_succ, i64_w, i32_w]
        rfl
      refine pure_ (i := 13) (N := some 37) (v := ?_) (a' := ?_) #[true, true, true, true, true, true, true, true, true, true, true, true, true, true, false] rfl rfl (by kernel_rfl) (fun _ _ _ h => h) (Or.inl ⟨by rfl, ?_⟩) ?_ ?_
      rotate_left
      · rintro w'
        go_simp
        with_reducible rfl
      rotate_left
      · simp only [Act.put, List.setIfInBounds_toArray, List.set_cons_zero, List.set_cons_succ, i64_w, i32_w]
        rfl
      refine last_ (i := 14) (N := none) #[true, true, true, true, true, true, true, true, true, true, true, true, true, true, true] rfl rfl (by kernel_rfl) (by decide) (fun K hK => ?_)
      refine skip_ (w1 := ?_) (by rfl) rfl ?_ ?_
      rotate_left
      · go_simp
        rfl
      refine hK.out _ _ ?_
      clear hK K
      refine done_ (by kernel_rfl) ?_
      go_wp2_with fail
      go_roundw
      case rel => exact ⟨k + 1, _, ts ++ [x], by go_num, by omega, by omega, by simp; omega, by simp; omega, ⟨HT.out.snoc (by omega) (by rw [show ts.length = k by omega]; exact HTK.out)⟩, ⟨Kd.R_set hR BX1 (by decide) 2 _⟩, ⟨blk_far BN1 (by show w.heap.size ≠ w.heap.size + 1 + 1; omega) _⟩, ⟨blk_far BR1 (by show w.heap.size + 1 ≠ w.heap.size + 1 + 1; omega) _⟩, ⟨by simpa using blk_set BX1 2 _⟩, ⟨below_set ((below_then HB.out HB.out.size HB2.out).grown hg4 (by have := HB.out.size; have := HB2.out.size; omega) (fun q e => by obtain ⟨inner, ho⟩ := Kd.R_own HV.out; exact own_base ho _ e)) (by omega)⟩⟩
      case measure => simp [intOf]; omega
    · obtain ⟨A, c, rfl⟩ := Kd.R_slice HV.out
      have x1 : wr.cell? ⟨w.heap.size + 1 + 1, 1, none⟩ = some (.int .i64 reload) := (blk_cell BX.out 1).trans rfl
      have r0 : wr.cell? ⟨w.heap.size + 1, 0, none⟩ = some (.int .i64 0) := (blk_cell BR.out 0).trans rfl
      have r1 : wr.cell? ⟨w.heap.size + 1, 1, none⟩ = some (.int .i64 0) := (blk_cell BR.out 1).trans rfl
      have r2 : wr.cell? ⟨w.heap.size + 1, 2, none⟩ = some (.slice none 0 0) := (blk_cell BR.out 2).trans rfl
      have rf := fun j => blk_frozen BR.out j
      have hz := blk_lt BX.out
      have hz1 := blk_lt BR.out
      by_cases h0 : ts.length = 0
      · have hb : ((ts.length : Int) == 0) = true := by simp [h0]
        go_wp2_with fail
        all_goals
          have BR1 : (wr.setCell ⟨w.heap.size + 1 + 1, 2, none⟩ (.slice (some ⟨wr.heap.size, 0, none⟩) 1 1)).heap[w.heap.size + 1]? = some (.cells #[.int .i64 0, .int .i64 0, .slice none 0 0] 54 (0, 0)) := blk_far BR.out (by show w.heap.size + 1 ≠ w.heap.size + 1 + 1; omega) _
          have HB1 : Below w.heap.size w ((((wr.setCell ⟨w.heap.size + 1 + 1, 2, none⟩ (.slice (some ⟨wr.heap.size, 0, none⟩) 1 1)).setCell ⟨w.heap.size + 1, 0, none⟩ (.int .i64 sets)).setCell ⟨w.heap.size + 1, 1, none⟩ (.int .i64 reload)).setCell ⟨w.heap.size + 1, 2, none⟩ (.slice (some ⟨wr.heap.size, 0, none⟩) 1 1)) := by repeat (with_reducible first | exact HB.out | apply bset1 | apply bset2)
          have BR2 := fill3 BR1 (v0 := .int .i64 sets) (v1 := .int .i64 reload) (v2 := .slice (some ⟨wr.heap.size, 0, none⟩) 1 1)
          have hS : ((((wr.setCell ⟨w.heap.size + 1 + 1, 2, none⟩ (.slice (some ⟨wr.heap.size, 0, none⟩) 1 1)).setCell ⟨w.heap.size + 1, 0, none⟩ (.int .i64 sets)).setCell ⟨w.heap.size + 1, 1, none⟩ (.int .i64 reload)).setCell ⟨w.heap.size + 1, 2, none⟩ (.slice (some ⟨wr.heap.size, 0, none⟩) 1 1)).heap.size = wr.heap.size := by simp
          generalize ((((wr.setCell ⟨w.heap.size + 1 + 1, 2, none⟩ (.slice (some ⟨wr.heap.size, 0, none⟩) 1 1)).setCell ⟨w.heap.size + 1, 0, none⟩ (.int .i64 sets)).setCell ⟨w.heap.size + 1, 1, none⟩ (.int .i64 reload)).setCell ⟨w.heap.size + 1, 2, none⟩ (.slice (some ⟨wr.heap.size, 0, none⟩) 1 1)) = S at HB1 BR2 hS ⊢
          have HR1 := R_one (d := k90) (e := 90) (base := w.heap.size) (ok := fun _ => True) (okp := fun _ => True) (W := S) (p := ⟨1, 1, 4, 4, 10, [], []⟩) (k90_mkM _ _ _ _ (Kd.R_nil _ _ _ _ _) (Kd.R_nil _ _ _ _ _)) (fun _ _ => trivial) (fun _ _ => trivial) (by omega)
          rw [hS] at HR1
          refine bodyPost_ret (v := .agg #[.int .i64 sets, .int .i64 reload, .slice (some ⟨wr.heap.size, 0, none⟩) 1 1]) (results_single rfl (.cell (w.heap.size + 1) 54 _ (0, 0) _ rfl (blk_alloc BR2 _) Tryd.underlying54 rfl (by kernel_rfl) .nil)) rfl ?_
          exact ⟨sets, reload, _, [⟨1, 1, 4, 4, 10, [], []⟩], rfl, hs0, hs1, by simp, ⟨by simp, fun i x hx => by
            rcases i with _ | i
            · simp at hx; subst hx; exact ⟨rfl, by decide, by decide, by simp, by simp⟩
            · simp at hx⟩, HR1, below_alloc HB1 _⟩
      · have hb : ((ts.length : Int) == 0) = false := beq_eq_false_iff_ne.mpr (by omega)
        go_wp2_with fail
        all_goals
          refine bodyPost_ret (v := .agg #[.int .i64 sets, .int .i64 reload, .slice A ts.length c]) (results_single rfl (.cell (w.heap.size + 1) 54 _ (0, 0) _ rfl (fill3 BR.out) Tryd.underlying54 rfl (by kernel_rfl) .nil)) rfl ?_
          exact ⟨sets, reload, _, ts, rfl, hs0, hs1, by omega, HT.out, R_sets3 HV.out BR.out (by decide) _ _ _, by repeat (with_reducible first | exact HB.out | apply bset1)⟩
end Go.Proofs.YtbldolbeijpipaaDoor
