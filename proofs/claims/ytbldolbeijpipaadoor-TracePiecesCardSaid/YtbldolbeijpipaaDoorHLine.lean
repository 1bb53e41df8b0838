import Derived.Test.YtbldolbeijpipaaDoorHDig
namespace Go.Proofs.YtbldolbeijpipaaDoor
open Go.RowKit Go.Proofs.YtbldolbeijpipaaDoorW.PrintWords Go.Proofs.YtbldolbeijpipaaDoorW.PrintLast Go.Proofs.YtbldolbeijpipaaDoorW.PrintMore
set_option linter.unusedVariables false
set_option linter.unusedSimpArgs false
theorem strs_reps : ∀ xs : List ByteArray, Reps (fun x cs => cs = [Value.string x]) 1 xs (xs.map Value.string)
  | xs => ⟨by simp, fun j p hj => by
      obtain ⟨hl, rfl⟩ := List.getElem?_eq_some_iff.mp hj
      rw [Nat.mul_one]
      refine List.ext_getElem? fun i => ?_
      rcases i with _ | i
      · simp [hl]
      · simp [List.getElem?_take]⟩
/-- A literal's row of strings. -/
theorem strs_lit (W : World) (base : Nat) (xs : List ByteArray) (hb : base ≤ W.heap.size) (h : xs.length ≤ 100) (n : Nat) (hn : n = xs.length) : Kd.string.R 9 (W.alloc (.cells (xs.map Value.string).toArray 9)) base (fun _ => True) (.slice (some ⟨W.heap.size, 0, none⟩) n n) xs := by
  subst hn
  exact ⟨fun _ _ => trivial, xs.map Value.string, ⟨by simp [Kd.string, Kd.scalar], .inr ⟨W.heap.size, xs.length, (xs.map Value.string).toArray, rfl, hb, blk_new _ _, Nat.le_refl _, Nat.le_trans h (by decide), by simp [Kd.string, Kd.scalar], by simp [Kd.string, Kd.scalar, List.take_of_length_le]⟩⟩, strs_reps xs⟩
theorem strs_reads (W : World) (xs : List ByteArray) (h : xs.length ≤ 100) : Kd.string.C (W.alloc (.cells (xs.map Value.string).toArray 9)) (some ⟨W.heap.size, 0, none⟩) xs.length xs := by
  obtain ⟨A, c, hve, hc, hC⟩ := Kd.R_reads (strs_lit W 0 xs (Nat.zero_le _) h xs.length rfl)
  injection hve with h1 h2 h3
  rw [h1]
  exact hC
/-- A slot that may be. -/
def MayOK (a0 a1 a2 a3 : Int) (a4 : Bool) (a5 : Int) : Prop := 0 ≤ a0 ∧ a0 ≤ 2147483648 ∧ ((a1 = 0 ∧ a2 = 0 ∧ a3 = 0 ∧ a4 = false ∧ a5 = 0) ∨ ((a3 = 1 ∨ a3 = 2) ∧ 1 ≤ a1 ∧ a1 ≤ 99 ∧ 0 ≤ a2 ∧ a2 ≤ a0 ∧ 0 ≤ a5 ∧ a5 ≤ 99 ∧ (a4 = true → a3 = 1)))
theorem may_f (a0 a1 a2 a3 : Int) (a4 : Bool) (a5 : Int) (h : MayOK a0 a1 a2 a3 a4 a5) : PB.trace_may.f 1 a0 a1 a2 a3 a4 a5 = some true := by
  obtain ⟨h0, h1, ⟨rfl, rfl, rfl, rfl, rfl⟩ | ⟨h3, h4, h5, h6, h7, h8, h9, h10⟩⟩ := h
  · simp [PB.trace_may.f, PB.trace_within.f, h0, h1]
  · rcases h3 with rfl | rfl
    · cases a4 <;> simp [PB.trace_may.f, PB.trace_may.j0, PB.trace_within.f, h0, h1, h4, h5, h6, h7, h8, h9, h10]
    · cases a4
      · simp [PB.trace_may.f, PB.trace_may.j0, PB.trace_within.f, h0, h1, h4, h5, h6, h7, h8, h9]
      · exact absurd (h10 rfl) (by decide)
/-- The words of a slot's line. -/
def lineW (a0 a1 a2 a3 : Int) (a4 : Bool) (a5 : Int) : List ByteArray :=
  [dig a0] ++ [if a3 = 1 then "work".toUTF8 else "load".toUTF8] ++ [dig a1, dig a2] ++ (if a4 = true then ["done".toUTF8] else []) ++ (if a5 = 0 then [] else ["out".toUTF8, dig a5])
def joinB (l : List ByteArray) : ByteArray := ⟨(Lib.join (l.map (·.data.toList)) [32]).toArray⟩
def lineB (a0 a1 a2 a3 : Int) (a4 : Bool) (a5 : Int) : ByteArray := if a3 = 0 then dig a0 ++ " idle".toUTF8 else joinB (lineW a0 a1 a2 a3 a4 a5)
set_option maxHeartbeats 1600000 in
theorem line_idle (a0 : Int) (w : World) (h0 : 0 ≤ a0) (h1 : a0 ≤ 2147483648) (ht : T10 w) :
    Calls Tryd.prog 29 #[.agg #[.int .i64 a0, .int .i64 0, .int .i64 0, .int .i64 0, .bool false, .int .i64 0]] w fun e w' => e = .returned (.string (dig a0 ++ " idle".toUTF8)) ∧ Below w.heap.size w w' := by
  go_enter Tryd.func29, Tryd.ntmps29
  go_wp2_with fail
  refine (PB.trace_may.calls 1 a0 0 0 0 false 0 true _ (may_f _ _ _ _ _ _ ⟨h0, h1, .inl ⟨rfl, rfl, rfl, rfl, rfl⟩⟩)).mono ?_
  rintro e w1 ⟨rfl, hb⟩
  have BX := Aside0.mk (blk_below (blk_new w (.cells #[.int .i64 a0, .int .i64 0, .int .i64 0, .int .i64 0, .bool false, .int .i64 0] 43)) hb)
  have HB := Aside0.mk (below_then (below_alloc (Below.refl w.heap.size w) (.cells #[.int .i64 a0, .int .i64 0, .int .i64 0, .int .i64 0, .bool false, .int .i64 0] 43)) (by simp) hb)
  clear hb
  have x0 : w1.cell? ⟨w.heap.size, 0, none⟩ = some (.int .i64 a0) := (blk_cell BX.out 0).trans rfl
  have x3 : w1.cell? ⟨w.heap.size, 3, none⟩ = some (.int .i64 0) := (blk_cell BX.out 3).trans rfl
  go_wp2_with fail
  refine (digits_any a0 w1 (by omega) (by omega) (ht.below HB.out)).mono ?_
  rintro e w2 ⟨rfl, hb⟩
  replace BX := Aside0.mk (blk_below BX.out hb)
  replace HB := Aside0.mk (below_then HB.out HB.out.size hb)
  clear hb x0 x3 w1
  have x3 : w2.cell? ⟨w.heap.size, 3, none⟩ = some (.int .i64 0) := (blk_cell BX.out 3).trans rfl
  have hlt := blk_lt BX.out
  have hds := dig_size a0 (by omega) (by omega)
  go_wp2_with fail
  go_ret
  exact ⟨rfl, below_alloc HB.out _⟩
theorem info9 : (Tryd.prog.info? 9).map (fun i => (i.zero, i.size, i.bytes)) = some (some (.string ByteArray.empty), 1, 16) := by kernel_rfl
theorem R_ne_blk {α : Type} {d : Kd α} {e t : Nat} {w : World} {base g : Nat} {ok : Nat → Prop} {v : Value} {xs : List α} {cs : Array Value} {f : Nat × Nat} (h : d.R e w base ok v xs) (hb : w.heap[g]? = some (.cells cs t f)) (ht : t ≠ e) : some g ≠ v.ownBlock := fun hg => by
  obtain ⟨inner, ho⟩ := Kd.R_own h
  obtain ⟨cells, hc⟩ := own_typed ho g hg.symm
  rw [hb] at hc
  injection hc with hc
  injection hc with _ hc _
  exact ht hc
theorem strs_own {w : World} {base : Nat} {ok : Nat → Prop} {v : Value} {xs : List ByteArray} (h : Kd.string.R 9 w base ok v xs) (hp : 0 < xs.length) :
    ∃ g c, v = .slice (some ⟨g, 0, none⟩) xs.length c ∧ g < w.heap.size ∧ xs.length ≤ c ∧ ∀ (j : Nat) x, xs[j]? = some x → w.cell? ⟨g, 0 + j, none⟩ = some (.string x) := by
  obtain ⟨A, c, hv, hc, hC⟩ := Kd.R_reads h
  obtain ⟨_, inner, ⟨hle, ⟨_, hn⟩ | ⟨g, cap, cur, hv2, hbg, hg, hcap, hrest⟩⟩, hr⟩ := h
  · omega
  · rw [hv] at hv2
    injection hv2 with h1 h2 h3
    subst h1 h3
    refine ⟨g, c, hv, blk_lt hg, hc, fun j x hx => ?_⟩
    obtain ⟨hl, hx⟩ := List.getElem?_eq_some_iff.mp hx
    obtain ⟨ad, e, hcell⟩ := Kd.at_string hC j (by omega) (by omega)
    injection e with e
    subst e
    have : rdOf ByteArray.empty xs (j : Int) = x := by simp [rdOf, hl, hx]
    rw [this] at hcell
    by_cases hj : j = 0
    · simpa [Addr.add, hj] using hcell
    · simpa [Addr.add, hj] using hcell
theorem joinTail_len (sep : List UInt8) (m : Nat) : ∀ l : List ByteArray, (∀ x ∈ l, x.size ≤ m) → (Lib.joinTail sep (l.map (·.data.toList))).length ≤ l.length * (m + sep.length)
  | [], _ => by simp [Lib.joinTail]
  | x :: l, h => by
    have h1 := joinTail_len sep m l (fun y hy => h y (List.mem_cons_of_mem _ hy))
    have h2 := h x (by simp)
    have h3 : x.data.toList.length = x.size := by rw [Array.length_toList]; rfl
    simp only [Lib.joinTail, List.map_cons, List.flatten_cons, List.length_append, List.length_cons] at h1 ⊢
    rw [Nat.add_mul]
    omega
theorem joinB_len (l : List ByteArray) (h : ∀ x ∈ l, x.size ≤ 21) (hl : l.length ≤ 7) : (Lib.join (l.map (·.data.toList)) [32]).length ≤ 200 := by
  rcases l with _ | ⟨x, l⟩
  · simp [Lib.join_nil]
  · rw [List.map_cons, Lib.join_cons]
    have h1 := joinTail_len [32] 21 l (fun y hy => h y (List.mem_cons_of_mem _ hy))
    have h2 := h x (by simp)
    have h3 : x.data.toList.length = x.size := by rw [Array.length_toList]; rfl
    simp only [List.length_append, List.length_cons, List.length_nil] at *
    omega
theorem lineW_len (a0 a1 a2 a3 : Int) (a4 : Bool) (a5 : Int) : 0 < (lineW a0 a1 a2 a3 a4 a5).length ∧ (lineW a0 a1 a2 a3 a4 a5).length ≤ 7 := by
  unfold lineW
  rcases a4 with _ | _ <;> by_cases h : a5 = 0 <;> simp [h]
theorem lineW_sizes (a0 a1 a2 a3 : Int) (a4 : Bool) (a5 : Int) (h0 : 0 ≤ a0 ∧ a0 ≤ 2147483648) (h1 : 0 ≤ a1 ∧ a1 ≤ 99) (h2 : 0 ≤ a2 ∧ a2 ≤ 2147483648) (h5 : 0 ≤ a5 ∧ a5 ≤ 99) : ∀ x ∈ lineW a0 a1 a2 a3 a4 a5, x.size ≤ 21 := by
  have d0 := dig_size a0 (by omega) (by omega)
  have d1 := dig_size a1 (by omega) (by omega)
  have d2 := dig_size a2 (by omega) (by omega)
  have d5 := dig_size a5 (by omega) (by omega)
  have e1 : "work".toUTF8.size ≤ 21 := by decide
  have e2 : "load".toUTF8.size ≤ 21 := by decide
  have e3 : "done".toUTF8.size ≤ 21 := by decide
  have e4 : "out".toUTF8.size ≤ 21 := by decide
  intro x hx
  unfold lineW at hx
  simp only [List.mem_append, List.mem_cons, List.not_mem_nil, or_false] at hx
  rcases hx with (((rfl | hx) | rfl | rfl) | hx) | hx
  · exact d0
  · rw [hx]; split <;> assumption
  · exact d1
  · exact d2
  · split at hx
    · simp at hx; rw [hx]; exact e3
    · simp at hx
  · split at hx
    · simp at hx
    · simp at hx
      rcases hx with rfl | rfl
      · exact e4
      · exact d5
set_option maxHeartbeats 3200000 in
set_option maxRecDepth 100000 in
theorem line_busy (a0 a1 a2 a3 a5 : Int) (a4 : Bool) (w : World) (h3 : a3 = 1 ∨ a3 = 2) (hm : MayOK a0 a1 a2 a3 a4 a5) (ht : T10 w) :
    Calls Tryd.prog 29 #[.agg #[.int .i64 a0, .int .i64 a1, .int .i64 a2, .int .i64 a3, .bool a4, .int .i64 a5]] w fun e w' => e = .returned (.string (joinB (lineW a0 a1 a2 a3 a4 a5))) ∧ Below w.heap.size w w' := by
  have hB0 : 0 ≤ a0 ∧ a0 ≤ 2147483648 := ⟨hm.1, hm.2.1⟩
  have hB1 : (1 ≤ a1 ∧ a1 ≤ 99) ∧ (0 ≤ a2 ∧ a2 ≤ 2147483648) ∧ (0 ≤ a5 ∧ a5 ≤ 99) := by
    obtain ⟨h0, h1, h | h⟩ := hm
    · omega
    · omega
  have HM := Aside0.mk hm
  have hz : (a3 == 0) = false := beq_eq_false_iff_ne.mpr (by omega)
  clear hm
  go_enter Tryd.func29, Tryd.ntmps29
  go_wp2_with fail
  refine (PB.trace_may.calls 1 a0 a1 a2 a3 a4 a5 true _ (may_f _ _ _ _ _ _ HM.out)).mono ?_
  rintro e w1 ⟨rfl, hb⟩
  have BX := Aside0.mk (blk_below (blk_new w (.cells #[.int .i64 a0, .int .i64 a1, .int .i64 a2, .int .i64 a3, .bool a4, .int .i64 a5] 43)) hb)
  have HB := Aside0.mk (below_then (below_alloc (Below.refl w.heap.size w) (.cells #[.int .i64 a0, .int .i64 a1, .int .i64 a2, .int .i64 a3, .bool a4, .int .i64 a5] 43)) (by simp) hb)
  clear hb
  have x0 : w1.cell? ⟨w.heap.size, 0, none⟩ = some (.int .i64 a0) := (blk_cell BX.out 0).trans rfl
  go_wp2_with fail
  refine (digits_any a0 w1 (by omega) (by omega) (ht.below HB.out)).mono ?_
  rintro e w2 ⟨rfl, hb⟩
  replace BX := Aside0.mk (blk_below BX.out hb)
  replace HB := Aside0.mk (below_then HB.out HB.out.size hb)
  clear hb x0 w1
  go_upto_region 4 with fail
  have HR := Aside0.mk (strs_lit w2 w.heap.size [dig a0] HB.out.size (by simp) 1 rfl)
  replace BX := Aside0.mk (blk_alloc BX.out (.cells ([dig a0].map Value.string).toArray 9))
  replace HB := Aside0.mk (below_alloc HB.out (.cells ([dig a0].map Value.string).toArray 9))
  obtain ⟨v, hv⟩ : ∃ v, v = Value.slice (some ⟨w2.heap.size, 0, none⟩) 1 1 := ⟨_, rfl⟩
  rw [← hv] at HR ⊢
  change Aside0 (Kd.string.R 9 (w2.alloc (.cells #[.string (dig a0)] 9)) _ _ _ _) at HR
  change Aside0 ((w2.alloc (.cells #[.string (dig a0)] 9)).heap[_]? = _) at BX
  change Aside0 (Below _ _ (w2.alloc (.cells #[.string (dig a0)] 9))) at HB
  generalize w2.alloc (.cells #[.string (dig a0)] 9) = W0 at HR BX HB ⊢
  clear hv w2
  have x3 : W0.cell? ⟨w.heap.size, 3, none⟩ = some (.int .i64 a3) := (blk_cell BX.out 3).trans rfl
  go_upto_block 0 with fail
  go_cut [3] (fun b wx => Aside0 (Kd.string.R 9 wx w.heap.size (fun _ => True) b ([dig a0] ++ [if a3 = 1 then "work".toUTF8 else "load".toUTF8])) ∧ Aside0 (wx.heap[w.heap.size]? = some (.cells #[.int .i64 a0, .int .i64 a1, .int .i64 a2, .int .i64 a3, .bool a4, .int .i64 a5] 43 (0, 0))) ∧ Aside0 (Below w.heap.size w wx))
  case first =>
    have hne := R_ne_blk HR.out BX.out (by decide)
    rcases h3 with rfl | rfl
    · have hk : (if (1 : Int) = 1 then "work".toUTF8 else "load".toUTF8) = "work".toUTF8 := if_pos rfl
      go_wp2_with (at_builtin; (refine Kd.R_append Kd.string (w0 := w) w.heap.size rfl (.tmp 24) (.tmp 25) 112 9 (.string ByteArray.empty) 16 rfl Tryd.underlying112 info9 rfl (by decide) (by decide) v [dig a0] "work".toUTF8 [.string "work".toUTF8] (fun _ => True) (fun _ => False) rfl rfl ?aP (fun _ hk => hk.elim) (fun _ _ => trivial) ?aO ?aB ?aS ?aL ?_); (case aP => exact rfl); (case aO => exact HR.out); (case aB => exact HB.out); (case aS => exact HB.out.size); (case aL => first | omega | (simp; done) | (simp; omega)); intro v1 w3 hR hb hg hat)
      replace BX := Aside0.mk (blk_grown BX.out hg hne)
      replace HR := Aside0.mk hR
      go_wp2_with fail
      go_meet
      exact ⟨by rw [hk]; exact HR, BX, ⟨hb⟩⟩
    · have hk : (if (2 : Int) = 1 then "work".toUTF8 else "load".toUTF8) = "load".toUTF8 := if_neg (by decide)
      go_wp2_with (at_builtin; refine Kd.R_append Kd.string (w0 := w) w.heap.size rfl (.tmp 13) (.tmp 14) 112 9 (.string ByteArray.empty) 16 rfl Tryd.underlying112 info9 rfl (by decide) (by decide) v [dig a0] "load".toUTF8 [.string "load".toUTF8] (fun _ => True) (fun _ => False) rfl rfl ?aP (fun _ hk => hk.elim) (fun _ _ => trivial) ?aO ?aB ?aS ?aL ?_; (case aP => exact rfl); (case aO => exact HR.out); (case aB => exact HB.out); (case aS => exact HB.out.size); (case aL => first | omega | (simp; done) | (simp; omega)); intro v1 w3 hR hb hg hat)
      replace BX := Aside0.mk (blk_grown BX.out hg hne)
      replace HR := Aside0.mk hR
      go_wp2_with fail
      go_meet
      exact ⟨by rw [hk]; exact HR, BX, ⟨hb⟩⟩
  case rest =>
    obtain ⟨HR1, BX1, HB1⟩ := hcut
    clear HR BX HB x3
    go_upto_region 10 with fail
    obtain ⟨ws, hws⟩ : ∃ ws, ws = [dig a0] ++ [if a3 = 1 then "work".toUTF8 else "load".toUTF8] := ⟨_, rfl⟩
    have hwl : ws.length = 2 := by rw [hws]; rfl
    rw [← hws] at HR1
    have HR := Aside0.mk (Kd.R_below HR1.out (below_drew1 (Below.refl _ _)))
    have BX := Aside0.mk (blk_drew BX1.out)
    have HB := Aside0.mk (below_drew1 HB1.out)
    have y1 : wc.cell? ⟨w.heap.size, 1, none⟩ = some (.int .i64 a1) := (blk_cell BX1.out 1).trans rfl
    have y2 : wc.cell? ⟨w.heap.size, 2, none⟩ = some (.int .i64 a2) := (blk_cell BX1.out 2).trans rfl
    clear HR1 BX1 HB1
    refine start_ (n := 10) (S := fun w' => w'.cell? ⟨w.heap.size, 1, none⟩ = some (.int .i64 a1) ∧ w'.cell? ⟨w.heap.size, 2, none⟩ = some (.int .i64 a2)) (ds := []) #[false, false, false, false, false, false, false, false, false, false] (by kernel_rfl) rfl rfl ⟨y1, y2⟩ (fun hHeld => ?_)
    have hHeld0 := hHeld
    generalize wc.drew = W4 at HR BX HB hHeld hHeld0 ⊢
    refine pure_ (i := 0) (N := some 27) (v := ?_) (a' := ?_) #[true, false, false, false, false, false, false, false, false, false] rfl rfl (by kernel_rfl) (fun _ _ _ h => h) (Or.inl ⟨by rfl, ?_⟩) ?_ ?_
    rotate_left
    · rintro w'
      go_simp
      with_reducible rfl
    rotate_left
    · simp only [Act.put, List.setIfInBounds_toArray, List.set_cons_zero, List.set_cons_succ, i64_w, i32_w]
      rfl
    refine pure_ (i := 1) (N := some 28) (v := ?_) (a' := ?_) #[true, true, false, false, false, false, false, false, false, false] rfl rfl (by kernel_rfl) (fun _ _ _ h => h) (Or.inl ⟨by rfl, ?_⟩) ?_ ?_
    rotate_left
    · rintro w'
      go_simp
      with_reducible rfl
    rotate_left
    · simp only [Act.put, List.setIfInBounds_toArray, List.set_cons_zero, List.set_cons_succ, i64_w, i32_w]
      rfl
    refine take_ (i := 2) (N := some 29) (v := ?_) (a' := ?_) #[true, true, true, false, false, false, false, false, false, false] rfl rfl (by kernel_rfl) (fun _ _ _ h => h) (Or.inl ⟨by rfl, ?_⟩) hHeld ?_ ?_
    rotate_left
    · rintro w' ⟨s0, s1⟩
      go_simp
      with_reducible rfl
    rotate_left
    · simp only [Act.put, List.setIfInBounds_toArray, List.set_cons_zero, List.set_cons_succ, i64_w, i32_w]
      rfl
    refine pure_ (i := 4) (N := some 31) (v := ?_) (a' := ?_) #[true, true, true, false, true, false, false, false, false, false] rfl rfl (by kernel_rfl) (fun _ _ _ h => h) (Or.inl ⟨by rfl, ?_⟩) ?_ ?_
    rotate_left
    · rintro w'
      go_simp
      with_reducible rfl
    rotate_left
    · simp only [Act.put, List.setIfInBounds_toArray, List.set_cons_zero, List.set_cons_succ, i64_w, i32_w]
      rfl
    refine take_ (i := 5) (N := some 32) (v := ?_) (a' := ?_) #[true, true, true, false, true, true, false, false, false, false] rfl rfl (by kernel_rfl) (fun _ _ _ h => h) (Or.inl ⟨by rfl, ?_⟩) hHeld ?_ ?_
    rotate_left
    · rintro w' ⟨s0, s1⟩
      go_simp
      with_reducible rfl
    rotate_left
    · simp only [Act.put, List.setIfInBounds_toArray, List.set_cons_zero, List.set_cons_succ, i64_w, i32_w]
      rfl
    refine one_ (i := 3) (N := some 30) #[true, true, true, true, true, true, false, false, false, false] rfl rfl (by kernel_rfl) (by decide) (fun K hK => ?_)
    refine goes_ Tryd.func65 (by kernel_rfl) rfl #[.int .i64 a1] (by rfl) rfl rfl (by simp only [List.map_toArray, List.map_cons, List.map_nil, Act.eval]; rfl) ?_
    refine (digits_any a1 W4 (by omega) (by omega) (ht.below HB.out)).mono ?_
    rintro e W5 ⟨rfl, hb2⟩
    replace HR := Aside0.mk (Kd.R_below HR.out hb2)
    replace BX := Aside0.mk (blk_below BX.out hb2)
    replace HB := Aside0.mk (below_then HB.out HB.out.size hb2)
    refine ⟨_, rfl, ?_⟩
    refine hK.out _ _ ⟨(hb2.cell (World.block_lt_of_cell? W4 _ hHeld.1)).trans hHeld.1, (hb2.cell (World.block_lt_of_cell? W4 _ hHeld.2)).trans hHeld.2⟩ (fun hHeld => ?_)
    clear hb2
    clear hK K
    refine norm_ (a' := ?_) ?_ ?_
    rotate_left
    · show Act.put _ (some 30) _ = _
      simp only [Act.put, List.setIfInBounds_toArray, List.set_cons_zero, List.set_cons_succ, i64_w, i32_w]
      rfl
    refine one_ (i := 6) (N := some 33) #[true, true, true, true, true, true, true, false, false, false] rfl rfl (by kernel_rfl) (by decide) (fun K hK => ?_)
    refine goes_ Tryd.func65 (by kernel_rfl) rfl #[.int .i64 a2] (by rfl) rfl rfl (by simp only [List.map_toArray, List.map_cons, List.map_nil, Act.eval]; rfl) ?_
    refine (digits_any a2 W5 (by omega) (by omega) (ht.below HB.out)).mono ?_
    rintro e W6 ⟨rfl, hb2⟩
    replace HR := Aside0.mk (Kd.R_below HR.out hb2)
    replace BX := Aside0.mk (blk_below BX.out hb2)
    replace HB := Aside0.mk (below_then HB.out HB.out.size hb2)
    refine ⟨_, rfl, ?_⟩
    refine hK.out _ _ ⟨(hb2.cell (World.block_lt_of_cell? W5 _ hHeld.1)).trans hHeld.1, (hb2.cell (World.block_lt_of_cell? W5 _ hHeld.2)).trans hHeld.2⟩ (fun hHeld => ?_)
    clear hb2
    clear hK K
    refine norm_ (a' := ?_) ?_ ?_
    rotate_left
    · show Act.put _ (some 33) _ = _
      simp only [Act.put, List.setIfInBounds_toArray, List.set_cons_zero, List.set_cons_succ, i64_w, i32_w]
      rfl
    refine one_ (i := 7) (N := some 34) #[true, true, true, true, true, true, true, true, false, false] rfl rfl (by kernel_rfl) (by decide) (fun K hK => ?_)
    refine value_ (w1 := ?_) (v := ?_) (by rfl) rfl ?_ ?_
    rotate_left 2
    · go_simp
      constructor
      · rfl
      · rfl
    refine hK.out _ _ ⟨by go_keep, by go_keep⟩ (fun hHeld => ?_)
    clear hK K
    refine norm_ (a' := ?_) ?_ ?_
    rotate_left
    · simp only [Act.put, List.setIfInBounds_toArray, List.set_cons_zero, List.set_cons_succ, i64_w, i32_w]
      rfl
    refine one_ (i := 8) (N := some 35) #[true, true, true, true, true, true, true, true, true, false] rfl rfl (by kernel_rfl) (by decide) (fun K hK => ?_)
    have HRR := strs_reads W6 [dig a1, dig a2] (by simp)
    have hne := R_ne_blk HR.out BX.out (by decide)
    have HA := below_alloc (Below.refl W6.heap.size W6) (.cells ([dig a1, dig a2].map Value.string).toArray 9)
    replace BX := Aside0.mk (blk_below BX.out HA)
    refine Kd.R_append_rows_step Kd.string (Rr := fun x cs => cs = [.string x]) (w0 := w) (W := W6.alloc (.cells ([dig a1, dig a2].map Value.string).toArray 9)) w.heap.size (by rfl) (.tmp 27) (.tmp 34) 112 9 (.string ByteArray.empty) 16 (by rfl) Tryd.underlying112 info9 (by rfl) (by decide) (by decide) u3 ws [dig a1, dig a2] (some ⟨W6.heap.size, 0, none⟩) 2 2 (fun _ => True) (fun _ => False) (by rfl) (by rfl) (Kd.R_below HR.out HA) HRR (fun _ _ h => h) (fun _ hk => hk.elim) (fun _ _ => trivial) (below_alloc HB.out _) (Nat.le_trans HB.out.size HA.size) (by omega) ?_
    intro v1 w4 hR hB4 hg4 hat4
    refine hK.out _ _ ⟨(blk_cell (blk_grown BX.out hg4 hne) 1).trans rfl, (blk_cell (blk_grown BX.out hg4 hne) 2).trans rfl⟩ (fun hHeld => ?_)
    refine norm_ (a' := ?_) ?_ ?_
    rotate_left
    · show Act.put _ (some 35) _ = _
      simp only [Act.put, List.setIfInBounds_toArray, List.set_cons_zero, List.set_cons_succ, i64_w, i32_w]
      rfl
    refine pure_ (i := 9) (N := some 3) (v := ?_) (a' := ?_) #[true, true, true, true, true, true, true, true, true, true] rfl rfl (by kernel_rfl) (fun _ _ _ h => h) (Or.inl ⟨by rfl, ?_⟩) ?_ ?_
    rotate_left
    · rintro w'
      go_simp
      with_reducible rfl
    rotate_left
    · simp only [Act.put, List.setIfInBounds_toArray, List.set_cons_zero, List.set_cons_succ, i64_w, i32_w]
      rfl
    refine done_ (by kernel_rfl) ?_
    replace BX := Aside0.mk (blk_grown BX.out hg4 hne)
    replace HR := Aside0.mk hR
    replace HB := Aside0.mk hB4
    obtain ⟨ws1, hws1⟩ : ∃ ws1, ws1 = ws ++ [dig a1, dig a2] := ⟨_, rfl⟩
    have hwl1 : ws1.length = 4 := by rw [hws1]; simp [hwl]
    rw [← hws1] at HR
    clear hR hB4 hg4 hat4 hHeld HRR HA hne y1 y2
    have z4 : w4.cell? ⟨w.heap.size, 4, none⟩ = some (.bool a4) := (blk_cell BX.out 4).trans rfl
    go_upto_if 37 with fail
    go_cut [3] (fun b wx => Aside0 (Kd.string.R 9 wx w.heap.size (fun _ => True) b (ws1 ++ (if a4 = true then ["done".toUTF8] else []))) ∧ Aside0 (wx.heap[w.heap.size]? = some (.cells #[.int .i64 a0, .int .i64 a1, .int .i64 a2, .int .i64 a3, .bool a4, .int .i64 a5] 43 (0, 0))) ∧ Aside0 (Below w.heap.size w wx))
    case first =>
      have hne := R_ne_blk HR.out BX.out (by decide)
      rcases a4 with _ | _
      · go_wp2_with fail
        go_meet
        exact ⟨by simpa using HR, BX, HB⟩
      · go_wp2_with (at_builtin; refine Kd.R_append Kd.string (w0 := w) w.heap.size rfl (.tmp 38) (.tmp 39) 112 9 (.string ByteArray.empty) 16 rfl Tryd.underlying112 info9 rfl (by decide) (by decide) v1 ws1 "done".toUTF8 [.string "done".toUTF8] (fun _ => True) (fun _ => False) rfl rfl ?aP (fun _ hk => hk.elim) (fun _ _ => trivial) ?aO ?aB ?aS ?aL ?_; (case aP => exact rfl); (case aO => exact HR.out); (case aB => exact HB.out); (case aS => exact HB.out.size); (case aL => first | omega | (simp; done) | (simp; omega)); intro v4 w3 hR hb hg hat)
        replace BX := Aside0.mk (blk_grown BX.out hg hne)
        replace HR := Aside0.mk hR
        go_wp2_with fail
        go_meet
        exact ⟨HR, BX, ⟨hb⟩⟩
    case rest =>
      obtain ⟨HR1, BX1, HB1⟩ := hcut
      clear HR BX HB z4
      obtain ⟨ws2, hws2⟩ : ∃ ws2, ws2 = ws1 ++ (if a4 = true then ["done".toUTF8] else []) := ⟨_, rfl⟩
      have hwl2 : ws2.length ≤ 5 ∧ 4 ≤ ws2.length := by rw [hws2]; rcases a4 with _ | _ <;> simp [hwl1]
      rw [← hws2] at HR1
      have z5 : wc.cell? ⟨w.heap.size, 5, none⟩ = some (.int .i64 a5) := (blk_cell BX1.out 5).trans rfl
      go_upto_if 43 with fail
      go_cut [3] (fun b wx => Aside0 (Kd.string.R 9 wx w.heap.size (fun _ => True) b (ws2 ++ (if a5 = 0 then [] else ["out".toUTF8, dig a5]))) ∧ Aside0 (Below w.heap.size w wx))
      case first =>
        by_cases h5 : a5 = 0
        · have hb5 : (a5 != 0) = false := by simp [h5]
          go_wp2_with fail
          go_meet
          exact ⟨by simpa [h5] using HR1, HB1⟩
        · have hb5 : (a5 != 0) = true := by simp [h5]
          go_wp2_with fail
          refine (digits_any a5 wc (by omega) (by omega) (ht.below HB1.out)).mono ?_
          rintro e w5 ⟨rfl, hb⟩
          have HR := Aside0.mk (Kd.R_below HR1.out hb)
          have HB := Aside0.mk (below_then HB1.out HB1.out.size hb)
          clear HR1 HB1 BX1 hb z5
          go_wp2_with (at_builtin; refine Kd.R_append_rows Kd.string (Rr := fun x cs => cs = [.string x]) (w0 := w) w.heap.size rfl (.tmp 44) (.tmp 48) 112 9 (.string ByteArray.empty) 16 rfl Tryd.underlying112 info9 rfl (by decide) (by decide) u3 ws2 ["out".toUTF8, dig a5] (some ⟨w5.heap.size, 0, none⟩) 2 2 (fun _ => True) (fun _ => False) rfl rfl ?aO ?aR (fun _ _ h => h) (fun _ hk => hk.elim) (fun _ _ => trivial) ?aB ?aS ?aL ?_; (case aO => exact Kd.R_below HR.out (below_alloc (Below.refl _ _) _)); (case aR => exact strs_reads _ ["out".toUTF8, dig a5] (by simp)); (case aB => exact below_alloc HB.out _); (case aS => exact Nat.le_trans HB.out.size (by simp)); (case aL => first | omega | (simp; done) | (simp; omega)); intro v4 w3 hR hb hg hat)
          replace HR := Aside0.mk hR
          go_wp2_with fail
          go_meet
          exact ⟨by rw [if_neg h5]; exact HR, ⟨hb⟩⟩
      case rest =>
        obtain ⟨HR, HB⟩ := hcut
        have hrow : ws2 ++ (if a5 = 0 then [] else ["out".toUTF8, dig a5]) = lineW a0 a1 a2 a3 a4 a5 := by rw [hws2, hws1, hws]; rfl
        have hsz := lineW_sizes a0 a1 a2 a3 a4 a5 ⟨by omega, by omega⟩ ⟨by omega, by omega⟩ ⟨by omega, by omega⟩ ⟨by omega, by omega⟩
        have hll := lineW_len a0 a1 a2 a3 a4 a5
        rw [hrow] at HR
        have HJ := Aside0.mk (joinB_len _ hsz hll.2)
        clear hws hwl hws1 hwl1 hws2 hwl2 HR1 BX1 HB1 z5 hrow
        generalize hwds : lineW a0 a1 a2 a3 a4 a5 = wds at HR HJ hll ⊢
        obtain ⟨g, c, rfl, hgs, hc, hcells⟩ := strs_own HR.out (by omega)
        have HC := Aside0.mk hcells
        have HWD := Aside0.mk hwds
        clear hcells HR hwds
        have h7 := hll.2
        clear hll
        go_wp2_with fail
        refine (Tryd.strings_Join g 0 c wds ⟨#[32]⟩ _ HC.out hgs (by omega) hc (by have := HJ.out; simpa using Nat.le_trans this (by decide))).mono ?_
        rintro e w6 ⟨rfl, hb⟩
        go_wp2_with fail
        go_ret
        refine ⟨?_, below_then HB.out HB.out.size hb⟩
        rw [HWD.out]
        rfl
theorem line_any (a0 a1 a2 a3 a5 : Int) (a4 : Bool) (w : World) (hm : MayOK a0 a1 a2 a3 a4 a5) (ht : T10 w) :
    Calls Tryd.prog 29 #[.agg #[.int .i64 a0, .int .i64 a1, .int .i64 a2, .int .i64 a3, .bool a4, .int .i64 a5]] w fun e w' => e = .returned (.string (lineB a0 a1 a2 a3 a4 a5)) ∧ Below w.heap.size w w' := by
  have hm' := hm
  obtain ⟨h0, h1, ⟨rfl, rfl, rfl, rfl, rfl⟩ | ⟨h3, _⟩⟩ := hm
  · simpa [lineB] using line_idle a0 w h0 h1 ht
  · have h : ¬ a3 = 0 := by omega
    simpa [lineB, h] using line_busy a0 a1 a2 a3 a5 a4 w h3 hm' ht
end Go.Proofs.YtbldolbeijpipaaDoor
