import Derived.Test.YtbldolbeijpipaaDoorHBase
import Derived.Test.YtbldolbeijpipaaDoorPBx2
import Derived.StillTailTactics
import Derived.Deep.CutRange
namespace Go.Proofs.YtbldolbeijpipaaDoor
open Go.RowKit Go.Proofs.YtbldolbeijpipaaDoorW.PrintWords Go.Proofs.YtbldolbeijpipaaDoorW.PrintLast Go.Proofs.YtbldolbeijpipaaDoorW.PrintMore
set_option linter.unusedVariables false
set_option linter.unusedSimpArgs false
theorem bits_and_lt (a : Int) (m : Int) (n : Nat) (h0 : 0 ≤ m) (hm : m < n) (hn : n ≤ 4294967296) : 0 ≤ bits .and .i64 a m ∧ bits .and .i64 a m < n := by
  obtain ⟨m, rfl⟩ := Int.eq_ofNat_of_zero_le h0
  have hm2 : m < n := by exact_mod_cast hm
  have e : bits .and .i64 a (m : Int) = IntKind.i64.wrap (((BitVec.ofInt 64 a) &&& (BitVec.ofInt 64 (m : Int))).toNat : Int) := rfl
  have h1 : ((BitVec.ofInt 64 a) &&& (BitVec.ofInt 64 (m : Int))).toNat ≤ m := by
    rw [BitVec.toNat_and]
    refine Nat.le_trans Nat.and_le_right ?_
    rw [BitVec.ofInt_natCast, BitVec.toNat_ofNat]
    exact Nat.mod_le _ _
  rw [e, IntKind.wrap_i64]
  omega
/-- 'rest', of a number that is some. -/
def restV (a b : Int) : Int := Int.tmod (wrap64 ((Int.tmod a b) + b)) b
theorem restV_bd (a b : Int) (h : 1 ≤ b) (hb : b ≤ 1000) : 0 ≤ restV a b ∧ restV a b < b := by
  unfold restV
  have h1 := Int.tmod_lt_of_pos a (show 0 < b by omega)
  have h2 : -b < Int.tmod a b := by have := Int.lt_tmod_of_pos a (show 0 < b by omega); omega
  have e : wrap64 (Int.tmod a b + b) = Int.tmod a b + b := by unfold wrap64; omega
  rw [e]
  exact ⟨Int.tmod_nonneg _ (by omega), Int.tmod_lt_of_pos _ (by omega)⟩
theorem rest_eq (a b : Int) (w : World) (h : 1 ≤ b) : Calls Tryd.prog 103 #[.int .i64 a, .int .i64 b] w fun e w' => e = .returned (.int .i64 (restV a b)) ∧ w' = w := by
  have hb0 : (b == 0) = false := beq_eq_false_iff_ne.mpr (by omega)
  have hb1 : (b != 0) = true := bne_iff_ne.mpr (by omega)
  go_enter Tryd.func103, Tryd.ntmps103
  go_wp2
  all_goals go_ret
  all_goals exact ⟨rfl, rfl⟩
theorem rest_at (a b : Int) (w : World) (h : 1 ≤ b) : Calls Tryd.prog 103 #[.int .i64 a, .int .i64 b] w fun e w' => e = .returned (.int .i64 (restV a b)) ∧ w = w' := (rest_eq a b w h).mono fun _ _ he => ⟨he.1, he.2.symm⟩
theorem rest_any (a b : Int) (w : World) (h : 1 ≤ b) (hb : b ≤ 1000) : Calls Tryd.prog 103 #[.int .i64 a, .int .i64 b] w fun e w' => ∃ r, 0 ≤ r ∧ r < b ∧ e = .returned (.int .i64 r) ∧ w = w' :=
  (rest_eq a b w h).mono fun e w' he => ⟨_, (restV_bd a b h hb).1, (restV_bd a b h hb).2, he.1, he.2.symm⟩
theorem per8 (k : Int) (h0 : 0 ≤ k) (h1 : k < 8) : ∃ t, 4 ≤ t ∧ t ≤ 24 ∧ ([Value.int .i64 4, .int .i64 5, .int .i64 6, .int .i64 8, .int .i64 10, .int .i64 12, .int .i64 20, .int .i64 24] : List Value)[k.toNat]? = some (.int .i64 t) := by
  have h : k.toNat < 8 := by omega
  generalize k.toNat = n at h
  match n, h with
  | 0, _ => exact ⟨4, by omega, by omega, rfl⟩
  | 1, _ => exact ⟨5, by omega, by omega, rfl⟩
  | 2, _ => exact ⟨6, by omega, by omega, rfl⟩
  | 3, _ => exact ⟨8, by omega, by omega, rfl⟩
  | 4, _ => exact ⟨10, by omega, by omega, rfl⟩
  | 5, _ => exact ⟨12, by omega, by omega, rfl⟩
  | 6, _ => exact ⟨20, by omega, by omega, rfl⟩
  | 7, _ => exact ⟨24, by omega, by omega, rfl⟩
/-- A task of the document's making: its number is its place and one; its work is some. -/
def TaskP (w : World) (i : Int) (e : Ending) (w' : World) : Prop := ∃ (x : S90) (v5 v6 : Value), e = .returned (.agg #[.int .i64 x.f0, .int .i64 x.f1, .int .i64 x.f2, .int .i64 x.f3, .int .i64 x.f4, v5, v6]) ∧ x.f0 = i + 1 ∧ 1 ≤ x.f1 ∧ x.f1 ≤ 24 ∧ x.f5.length ≤ 100 ∧ x.f6.length ≤ 100 ∧
  (Kd.int .i64).R 2 w' w.heap.size (fun _ => True) v5 x.f5 ∧ (Kd.int .i64).R 3 w' w.heap.size (fun _ => True) v6 x.f6 ∧ Below w.heap.size w w'
/-- Another row has grown, of elements of another type. -/
theorem R_grown_types {α : Type} {d : Kd α} {e e' sz' n' : Nat} {w w1 : World} {base b' : Nat} {ok : Nat → Prop} {v v' : Value} {xs : List α} {ys : List Value} (h : d.R e w base ok v xs) (h' : w.ownsRow b' e' sz' v' n' ys) (hne : ∀ q, q ∈ e :: d.E → e' ≠ q) (hg : w.grownBy w1 v'.ownBlock) : d.R e w1 base ok v xs :=
  Kd.R_mono (Kd.R_grown (Kd.R_bound h) hg (fun k hk => by
    obtain ⟨_, _, _, q, hq, cells, hc⟩ := hk
    exact own_ne h' hc (hne q hq))) (fun k hk => hk.1)
theorem sets7_far (W : World) (g k : Nat) (v0 v1 v2 v3 v4 v5 v6 : Value) (h : k ≠ g) : (((((((W.setCell ⟨g, 0, none⟩ v0).setCell ⟨g, 1, none⟩ v1).setCell ⟨g, 2, none⟩ v2).setCell ⟨g, 3, none⟩ v3).setCell ⟨g, 4, none⟩ v4).setCell ⟨g, 5, none⟩ v5).setCell ⟨g, 6, none⟩ v6).heap[k]? = W.heap[k]? := by
  rw [Below.heap_setCell _ _ _ _ h, Below.heap_setCell _ _ _ _ h, Below.heap_setCell _ _ _ _ h, Below.heap_setCell _ _ _ _ h, Below.heap_setCell _ _ _ _ h, Below.heap_setCell _ _ _ _ h, Below.heap_setCell _ _ _ _ h]
theorem R_sets7 {α : Type} {d : Kd α} {e g t : Nat} {w : World} {base : Nat} {ok : Nat → Prop} {v : Value} {xs : List α} {cells : Array Value} (h : d.R e w base ok v xs) (hb : w.heap[g]? = some (.cells cells t (0, 0))) (ht : ∀ q, q ∈ e :: d.E → q ≠ t) (v0 v1 v2 v3 v4 v5 v6 : Value) :
    d.R e (((((((w.setCell ⟨g, 0, none⟩ v0).setCell ⟨g, 1, none⟩ v1).setCell ⟨g, 2, none⟩ v2).setCell ⟨g, 3, none⟩ v3).setCell ⟨g, 4, none⟩ v4).setCell ⟨g, 5, none⟩ v5).setCell ⟨g, 6, none⟩ v6) base ok v xs :=
  Kd.R_mono (Kd.R_step (Kd.R_types h hb ht) (fun k hk _ => sets7_far w g k _ _ _ _ _ _ _ hk.2)) (fun k hk => hk.1)
theorem info2 : (Tryd.prog.info? 2).map (fun i => (i.zero, i.size, i.bytes)) = some (some (.int .i64 0), 1, 8) := by kernel_rfl
theorem info3 : (Tryd.prog.info? 3).map (fun i => (i.zero, i.size, i.bytes)) = some (some (.int .i64 0), 1, 8) := by kernel_rfl
set_option maxHeartbeats 1600000 in
set_option maxRecDepth 100000 in
theorem task_any (a0 a1 a2 a3 a4 i sets : Int) (Au : Option Addr) (cu : Nat) (lu : List Int) (w : World) (hu : (Kd.int .i64).C w Au lu.length lu) (hi0 : 0 ≤ i) (hi : i ≤ 5) (hs0 : 1 ≤ sets) (hs : sets ≤ 8) :
    Calls Tryd.prog 104 #[.agg #[.int .i64 a0, .int .i64 a1, .int .i64 a2, .int .i64 a3, .int .i64 a4, .slice Au lu.length cu], .int .i64 i, .int .i64 sets] w (TaskP w i) := by
  have k0 := bits_and_lt a2 7 8 (by omega) (by omega) (by omega)
  have k1 := k0.1
  have k2 := k0.2
  clear k0
  obtain ⟨t, t0, t1, ht⟩ := per8 _ k1 k2
  have HU := Aside0.mk hu
  clear hu
  go_enter Tryd.func104, Tryd.ntmps104
  go_wp2_with fail
  refine (rest_any a1 t _ (by omega) (by omega)).mono ?_
  rintro e w1 ⟨d, hd0, hd1, rfl, rfl⟩
  go_wp2_with fail
  refine (rest_any a0 (1 + d) _ (by omega) (by omega)).mono ?_
  rintro e w1 ⟨c, hc0, hc1, rfl, rfl⟩
  go_wp2_with fail
  refine (rest_any a3 9 _ (by omega) (by omega)).mono ?_
  rintro e w1 ⟨p, hp0, hp1, rfl, rfl⟩
  go_wp2_with fail
  clear ht
  generalize bits .and .i64 a2 7 = ba at k1 k2 ⊢
  have hc24 : 1 + c ≤ 24 := by omega
  have Hn : (((((w.alloc (.cells #[.int .i64 a0, .int .i64 a1, .int .i64 a2, .int .i64 a3, .int .i64 a4, .slice Au lu.length cu] 139)).alloc (.cells #[.int .i64 0, .int .i64 0, .int .i64 0, .int .i64 0, .int .i64 0, .slice none 0 0, .slice none 0 0] 90)).alloc (.cells #[.int .i64 4, .int .i64 5, .int .i64 6, .int .i64 8, .int .i64 10, .int .i64 12, .int .i64 20, .int .i64 24] 222)).alloc (.cells #[.int .i64 (i + 1), .int .i64 (1 + c), .int .i64 (1 + d), .int .i64 t, .int .i64 (10 * (1 + p) + i), .slice none 0 0, .slice none 0 0] 90))).heap[w.heap.size]? = some (.cells #[.int .i64 a0, .int .i64 a1, .int .i64 a2, .int .i64 a3, .int .i64 a4, .slice Au lu.length cu] 139 (0, 0)) := blk_alloc (blk_alloc (blk_alloc (blk_new _ _) _) _) _
  have Hx : (((((w.alloc (.cells #[.int .i64 a0, .int .i64 a1, .int .i64 a2, .int .i64 a3, .int .i64 a4, .slice Au lu.length cu] 139)).alloc (.cells #[.int .i64 0, .int .i64 0, .int .i64 0, .int .i64 0, .int .i64 0, .slice none 0 0, .slice none 0 0] 90)).alloc (.cells #[.int .i64 4, .int .i64 5, .int .i64 6, .int .i64 8, .int .i64 10, .int .i64 12, .int .i64 20, .int .i64 24] 222)).alloc (.cells #[.int .i64 (i + 1), .int .i64 (1 + c), .int .i64 (1 + d), .int .i64 t, .int .i64 (10 * (1 + p) + i), .slice none 0 0, .slice none 0 0] 90))).heap[w.heap.size + 1 + 1 + 1]? = some (.cells #[.int .i64 (i + 1), .int .i64 (1 + c), .int .i64 (1 + d), .int .i64 t, .int .i64 (10 * (1 + p) + i), .slice none 0 0, .slice none 0 0] 90 (0, 0)) := blk_nw _ _ _ (by simp)
  have Hr : (((((w.alloc (.cells #[.int .i64 a0, .int .i64 a1, .int .i64 a2, .int .i64 a3, .int .i64 a4, .slice Au lu.length cu] 139)).alloc (.cells #[.int .i64 0, .int .i64 0, .int .i64 0, .int .i64 0, .int .i64 0, .slice none 0 0, .slice none 0 0] 90)).alloc (.cells #[.int .i64 4, .int .i64 5, .int .i64 6, .int .i64 8, .int .i64 10, .int .i64 12, .int .i64 20, .int .i64 24] 222)).alloc (.cells #[.int .i64 (i + 1), .int .i64 (1 + c), .int .i64 (1 + d), .int .i64 t, .int .i64 (10 * (1 + p) + i), .slice none 0 0, .slice none 0 0] 90))).heap[w.heap.size + 1]? = some (.cells #[.int .i64 0, .int .i64 0, .int .i64 0, .int .i64 0, .int .i64 0, .slice none 0 0, .slice none 0 0] 90 (0, 0)) := blk_alloc (blk_alloc (blk_nw _ _ _ (by simp)) _) _
  have HB0 : Below w.heap.size w _ := below_alloc (below_alloc (below_alloc (below_alloc (Below.refl w.heap.size w) (.cells #[.int .i64 a0, .int .i64 a1, .int .i64 a2, .int .i64 a3, .int .i64 a4, .slice Au lu.length cu] 139)) (.cells #[.int .i64 0, .int .i64 0, .int .i64 0, .int .i64 0, .int .i64 0, .slice none 0 0, .slice none 0 0] 90)) (.cells #[.int .i64 4, .int .i64 5, .int .i64 6, .int .i64 8, .int .i64 10, .int .i64 12, .int .i64 20, .int .i64 24] 222)) (.cells #[.int .i64 (i + 1), .int .i64 (1 + c), .int .i64 (1 + d), .int .i64 t, .int .i64 (10 * (1 + p) + i), .slice none 0 0, .slice none 0 0] 90)
  generalize ((((w.alloc (.cells #[.int .i64 a0, .int .i64 a1, .int .i64 a2, .int .i64 a3, .int .i64 a4, .slice Au lu.length cu] 139)).alloc (.cells #[.int .i64 0, .int .i64 0, .int .i64 0, .int .i64 0, .int .i64 0, .slice none 0 0, .slice none 0 0] 90)).alloc (.cells #[.int .i64 4, .int .i64 5, .int .i64 6, .int .i64 8, .int .i64 10, .int .i64 12, .int .i64 20, .int .i64 24] 222)).alloc (.cells #[.int .i64 (i + 1), .int .i64 (1 + c), .int .i64 (1 + d), .int .i64 t, .int .i64 (10 * (1 + p) + i), .slice none 0 0, .slice none 0 0] 90)) = W0 at Hn Hx Hr HB0 ⊢
  generalize 10 * (1 + p) + i = pr at Hx ⊢
  have hx0 := Aside0.mk Hx
  have hn0 := Aside0.mk Hn
  have hr0 := Aside0.mk Hr
  have hb0 := Aside0.mk HB0
  clear Hx Hn HB0 Hr
  go_loopw [12, 13] (fun fr kk wr => ∃ (k : Nat) (fv : Int) (v5 : Value) (l5 : List Int), kk = .int .i64 k ∧ fr = .int .i64 fv ∧ 1 ≤ k ∧ (k : Int) ≤ 1 + c ∧ 0 ≤ fv ∧ fv < k ∧ l5.length < k ∧
      Aside0 (wr.heap[w.heap.size]? = some (.cells #[.int .i64 a0, .int .i64 a1, .int .i64 a2, .int .i64 a3, .int .i64 a4, .slice Au lu.length cu] 139 (0, 0))) ∧ Aside0 (wr.heap[w.heap.size + 1]? = some (.cells #[.int .i64 0, .int .i64 0, .int .i64 0, .int .i64 0, .int .i64 0, .slice none 0 0, .slice none 0 0] 90 (0, 0))) ∧
      Aside0 (wr.heap[w.heap.size + 1 + 1 + 1]? = some (.cells #[.int .i64 (i + 1), .int .i64 (1 + c), .int .i64 (1 + d), .int .i64 t, .int .i64 pr, v5, .slice none 0 0] 90 (0, 0))) ∧
      Aside0 ((Kd.int .i64).R 2 wr w.heap.size (fun _ => True) v5 l5) ∧ Aside0 (Below w.heap.size w wr)) (fun _ kk _ => (1 + c).toNat - (intOf kk).toNat)
  case atStart => exact ⟨1, 0, .slice none 0 0, [], rfl, rfl, by omega, by omega, by omega, by omega, by simp, hn0, hr0, hx0, ⟨Kd.R_nil _ _ _ _ _⟩, hb0⟩
  case round =>
    clear hn0 hx0 hb0 hr0
    obtain ⟨k, fv, v5, l5, rfl, rfl, hk1, hkc, hf0, hfk, hl5, HN, HR, HX, H5, HB⟩ := hrel
    have n4 : wr.cell? ⟨w.heap.size, 4, none⟩ = some (.int .i64 a4) := (blk_cell HN.out 4).trans rfl
    have n5 : wr.cell? ⟨w.heap.size, 5, none⟩ = some (.slice Au lu.length cu) := (blk_cell HN.out 5).trans rfl
    by_cases hlt : (k : Int) < 1 + c
    · have x5 : wr.cell? ⟨w.heap.size + 1 + 1 + 1, 5, none⟩ = some v5 := (blk_cell HX.out 5).trans rfl
      have f5 := blk_frozen HX.out 5
      have hne : some (w.heap.size + 1 + 1 + 1) ≠ v5.ownBlock := Kd.R_ne H5.out HX.out (by decide)
      have hnn : some (w.heap.size) ≠ v5.ownBlock := Kd.R_ne H5.out HN.out (by decide)
      have hnr : some (w.heap.size + 1) ≠ v5.ownBlock := Kd.R_ne H5.out HR.out (by decide)
      go_wp2_with (at_builtin; refine Kd.R_append (Kd.int .i64) (w0 := w) w.heap.size rfl (.tmp 57) (.tmp 61) 55 2 (.int .i64 0) 8 rfl Tryd.underlying55 info2 rfl (by decide) (by omega) v5 l5 ((k : Int) - fv) [.int .i64 ((k : Int) - fv)] (fun _ => True) (fun _ => False) rfl rfl ?aP (fun _ hk => hk.elim) (fun _ _ => trivial) ?aO ?aB ?aS ?aL ?_; (case aP => exact rfl); (case aO => exact H5.out); (case aB => exact HB.out); (case aS => exact HB.out.size); (case aL => omega); intro v1 w2 ho hb hg hat; obtain ⟨A1, c1, rfl⟩ := Kd.R_slice ho; have HX1 := blk_grown HX.out hg hne; have HN1 := blk_grown HN.out hg hnn; have HR1 := blk_grown HR.out hg hnr; have c5 : w2.cell? ⟨w.heap.size + 1 + 1 + 1, 5, none⟩ = some v5 := (blk_cell HX1 5).trans rfl; have g5 := blk_frozen HX1 5; have HX2 := Aside0.mk HX1; have HN2 := Aside0.mk HN1; have HR2 := Aside0.mk HR1; have HO := Aside0.mk ho; have HB2 := Aside0.mk hb; clear HX1 HN1 HR1 ho hb hg hat)
      · go_roundw
        case rel => exact ⟨k + 1, k, _, l5 ++ [(k : Int) - fv], by go_num, rfl, by omega, by omega, by omega, by omega, by simp; omega, ⟨blk_far HN2.out (by show w.heap.size ≠ w.heap.size + 1 + 1 + 1; omega) _⟩, ⟨blk_far HR2.out (by show w.heap.size + 1 ≠ w.heap.size + 1 + 1 + 1; omega) _⟩, ⟨by simpa using blk_set HX2.out 5 _⟩, ⟨Kd.R_set HO.out HX2.out (by simp [Kd.int, Kd.scalar]) 5 _⟩, ⟨below_set HB2.out (by omega)⟩⟩
        case measure => simp [intOf]; omega
      · go_roundw
        case rel => exact ⟨k + 1, fv, v5, l5, by go_num, rfl, by omega, by omega, by omega, by omega, by omega, HN, HR, HX, H5, HB⟩
        case measure => simp [intOf]; omega
    · have x5 : wr.cell? ⟨w.heap.size + 1 + 1 + 1, 5, none⟩ = some v5 := (blk_cell HX.out 5).trans rfl
      have f5 := blk_frozen HX.out 5
      have hne : some (w.heap.size + 1 + 1 + 1) ≠ v5.ownBlock := Kd.R_ne H5.out HX.out (by decide)
      have hnn : some (w.heap.size) ≠ v5.ownBlock := Kd.R_ne H5.out HN.out (by decide)
      have hnr : some (w.heap.size + 1) ≠ v5.ownBlock := Kd.R_ne H5.out HR.out (by decide)
      go_upto_if 66 with fail
      go_cut [66] (fun b wx => (∃ (v5 : Value) (l5 : List Int), l5.length ≤ 100 ∧ Aside0 (wx.heap[w.heap.size]? = some (.cells #[.int .i64 a0, .int .i64 a1, .int .i64 a2, .int .i64 a3, .int .i64 a4, .slice Au lu.length cu] 139 (0, 0))) ∧ Aside0 (wx.heap[w.heap.size + 1]? = some (.cells #[.int .i64 0, .int .i64 0, .int .i64 0, .int .i64 0, .int .i64 0, .slice none 0 0, .slice none 0 0] 90 (0, 0))) ∧
      Aside0 (wx.heap[w.heap.size + 1 + 1 + 1]? = some (.cells #[.int .i64 (i + 1), .int .i64 (1 + c), .int .i64 (1 + d), .int .i64 t, .int .i64 pr, v5, .slice none 0 0] 90 (0, 0))) ∧
      Aside0 ((Kd.int .i64).R 2 wx w.heap.size (fun _ => True) v5 l5) ∧ Aside0 (Below w.heap.size w wx)))
      case first =>
        by_cases hf : 0 < fv
        · go_wp2_with (at_builtin; refine Kd.R_append (Kd.int .i64) (w0 := w) w.heap.size rfl (.tmp 68) (.tmp 72) 55 2 (.int .i64 0) 8 rfl Tryd.underlying55 info2 rfl (by decide) (by omega) v5 l5 (1 + c - fv) [.int .i64 (1 + c - fv)] (fun _ => True) (fun _ => False) rfl rfl ?aP (fun _ hk => hk.elim) (fun _ _ => trivial) ?aO ?aB ?aS ?aL ?_; (case aP => exact rfl); (case aO => exact H5.out); (case aB => exact HB.out); (case aS => exact HB.out.size); (case aL => omega); intro v1 w2 ho hb hg hat; obtain ⟨A1, c1, rfl⟩ := Kd.R_slice ho; have HX1 := blk_grown HX.out hg hne; have HN1 := blk_grown HN.out hg hnn; have HR1 := blk_grown HR.out hg hnr; have c5 : w2.cell? ⟨w.heap.size + 1 + 1 + 1, 5, none⟩ = some v5 := (blk_cell HX1 5).trans rfl; have g5 := blk_frozen HX1 5; have HX2 := Aside0.mk HX1; have HN2 := Aside0.mk HN1; have HR2 := Aside0.mk HR1; have HO := Aside0.mk ho; have HB2 := Aside0.mk hb; clear HX1 HN1 HR1 ho hb hg hat)
          go_meet
          case rel => exact ⟨_, l5 ++ [1 + c - fv], by simp; omega, ⟨blk_far HN2.out (by show w.heap.size ≠ w.heap.size + 1 + 1 + 1; omega) _⟩, ⟨blk_far HR2.out (by show w.heap.size + 1 ≠ w.heap.size + 1 + 1 + 1; omega) _⟩, ⟨by simpa using blk_set HX2.out 5 _⟩, ⟨Kd.R_set HO.out HX2.out (by simp [Kd.int, Kd.scalar]) 5 _⟩, ⟨below_set HB2.out (by omega)⟩⟩
        · go_wp2_with fail
          go_meet
          case rel => exact ⟨v5, l5, by omega, HN, HR, HX, H5, HB⟩
      case rest =>
      clear x5 f5 hne hnn hnr hl5 n4 n5 HN HR HX H5 HB
      clear v5 l5
      obtain ⟨v5, l5, hl5, HN, HR, HX, H5, HB⟩ := hcut
      go_wp2_with fail
      go_loopw [14] (fun kk wr => ∃ (k : Nat) (v6 : Value) (l6 : List Int), kk = .int .i64 k ∧ k ≤ 5 ∧ l6.length ≤ k ∧ Aside0 ((Kd.int .i64).R 3 wr w.heap.size (fun _ => True) v6 l6) ∧ Aside0 (wr.heap[w.heap.size]? = some (.cells #[.int .i64 a0, .int .i64 a1, .int .i64 a2, .int .i64 a3, .int .i64 a4, .slice Au lu.length cu] 139 (0, 0))) ∧ Aside0 (wr.heap[w.heap.size + 1]? = some (.cells #[.int .i64 0, .int .i64 0, .int .i64 0, .int .i64 0, .int .i64 0, .slice none 0 0, .slice none 0 0] 90 (0, 0))) ∧
      Aside0 (wr.heap[w.heap.size + 1 + 1 + 1]? = some (.cells #[.int .i64 (i + 1), .int .i64 (1 + c), .int .i64 (1 + d), .int .i64 t, .int .i64 pr, v5, v6] 90 (0, 0))) ∧
      Aside0 ((Kd.int .i64).R 2 wr w.heap.size (fun _ => True) v5 l5) ∧ Aside0 (Below w.heap.size w wr)) (fun kk _ => 5 - (intOf kk).toNat)
      case atStart => exact ⟨0, .slice none 0 0, [], rfl, by omega, by simp, ⟨Kd.R_nil _ _ _ _ _⟩, HN, HR, HX, H5, HB⟩
      case round =>
        clear HN HR HX H5 HB
        obtain ⟨k, v6, l6, rfl, hk5, hl6, H6, HN, HR, HX, H5, HB⟩ := hrel
        have n5 : wr.cell? ⟨w.heap.size, 5, none⟩ = some (.slice Au lu.length cu) := (blk_cell HN.out 5).trans rfl
        have x6 : wr.cell? ⟨w.heap.size + 1 + 1 + 1, 6, none⟩ = some v6 := (blk_cell HX.out 6).trans rfl
        have f6 := blk_frozen HX.out 6
        by_cases hin : k < lu.length ∧ k < 5
        · obtain ⟨hin1, hin2⟩ := hin
          obtain ⟨ad, ea, hu0⟩ := Kd.at_int HU.out k (by omega) (by omega)
          subst ea
          rw [Int.toNat_natCast] at hu0
          have hadb := World.block_lt_of_cell? w _ hu0
          have hnad : some (ad.add k).block ≠ v6.ownBlock := fun e => by obtain ⟨inner, ho⟩ := Kd.R_own H6.out; have := own_base ho _ e.symm; omega
          replace hu0 := (HB.out.cell hadb).trans hu0
          have hnx : some (w.heap.size + 1 + 1 + 1) ≠ v6.ownBlock := Kd.R_ne H6.out HX.out (by decide)
          have hnn : some (w.heap.size) ≠ v6.ownBlock := Kd.R_ne H6.out HN.out (by decide)
          have hnr : some (w.heap.size + 1) ≠ v6.ownBlock := Kd.R_ne H6.out HR.out (by decide)
          go_upto_region 18 with fail
          replace HX := Aside0.mk (blk_drew HX.out)
          replace HN := Aside0.mk (blk_drew HN.out)
          replace HR := Aside0.mk (blk_drew HR.out)
          replace H5 := Aside0.mk (Kd.R_drew H5.out)
          replace H6 := Aside0.mk (Kd.R_drew H6.out)
          replace HB := Aside0.mk (below_drew1 HB.out)
          refine start_ (n := 13) (S := fun w' => w'.cell? ⟨w.heap.size + 1 + 1 + 1, 6, none⟩ = some v6 ∧ w'.cell? ⟨w.heap.size, 5, none⟩ = some (.slice (some ad) lu.length cu) ∧ w'.cell? (ad.add k) = some (.int .i64 (rd lu ↑k))) (ds := [12]) #[false, false, false, false, false, false, false, false, false, false, false, false, false] (by kernel_rfl) rfl rfl ⟨x6, n5, hu0⟩ (fun hHeld => ?_)
          have hHeld0 := hHeld
          generalize wr.drew = W4 at H6 HX HN HR H5 HB hHeld hHeld0 ⊢
          refine pure_ (i := 0) (N := some 86) (v := ?_) (a' := ?_) #[true, false, false, false, false, false, false, false, false, false, false, false, false] rfl rfl (by kernel_rfl) (fun _ _ _ h => h) (Or.inl ⟨by rfl, ?_⟩) ?_ ?_
          rotate_left
          · rintro w'
            go_simp
            with_reducible rfl
          rotate_left
          · simp only [Act.put, List.setIfInBounds_toArray, List.set_cons_zero, List.set_cons_succ, i64_w, i32_w]
            rfl
          refine take_ (i := 1) (N := some 87) (v := ?_) (a' := ?_) #[true, true, false, false, false, false, false, false, false, false, false, false, false] rfl rfl (by kernel_rfl) (fun _ _ _ h => h) (Or.inl ⟨by rfl, ?_⟩) hHeld ?_ ?_
          rotate_left
          · rintro w' ⟨s0, s1, s2⟩
            go_simp
            with_reducible rfl
          rotate_left
          · simp only [Act.put, List.setIfInBounds_toArray, List.set_cons_zero, List.set_cons_succ, i64_w, i32_w]
            rfl
          refine pure_ (i := 2) (N := some 88) (v := ?_) (a' := ?_) #[true, true, true, false, false, false, false, false, false, false, false, false, false] rfl rfl (by kernel_rfl) (fun _ _ _ h => h) (Or.inl ⟨by rfl, ?_⟩) ?_ ?_
          rotate_left
          · rintro w'
            go_simp
            with_reducible rfl
          rotate_left
          · simp only [Act.put, List.setIfInBounds_toArray, List.set_cons_zero, List.set_cons_succ, i64_w, i32_w]
            rfl
          refine take_ (i := 3) (N := some 89) (v := ?_) (a' := ?_) #[true, true, true, true, false, false, false, false, false, false, false, false, false] rfl rfl (by kernel_rfl) (fun _ _ _ h => h) (Or.inl ⟨by rfl, ?_⟩) hHeld ?_ ?_
          rotate_left
          · rintro w' ⟨s0, s1, s2⟩
            go_simp
            with_reducible rfl
          rotate_left
          · simp only [Act.put, List.setIfInBounds_toArray, List.set_cons_zero, List.set_cons_succ, i64_w, i32_w]
            rfl
          refine pure_ (i := 4) (N := some 90) (v := ?_) (a' := ?_) #[true, true, true, true, true, false, false, false, false, false, false, false, false] rfl rfl (by kernel_rfl) (fun _ _ _ h => h) (Or.inl ⟨by rfl, ?_⟩) ?_ ?_
          rotate_left
          · rintro w'
            go_simp
            with_reducible rfl
          rotate_left
          · simp only [Act.put, List.setIfInBounds_toArray, List.set_cons_zero, List.set_cons_succ, i64_w, i32_w]
            rfl
          refine pure_ (i := 5) (N := some 91) (v := ?_) (a' := ?_) #[true, true, true, true, true, true, false, false, false, false, false, false, false] rfl rfl (by kernel_rfl) (fun _ _ _ h => h) (Or.inl ⟨by rfl, ?_⟩) ?_ ?_
          rotate_left
          · rintro w'
            go_simp
            with_reducible rfl
          rotate_left
          · simp only [Act.put, List.setIfInBounds_toArray, List.set_cons_zero, List.set_cons_succ, i64_w, i32_w]
            rfl
          refine take_ (i := 6) (N := some 92) (v := ?_) (a' := ?_) #[true, true, true, true, true, true, true, false, false, false, false, false, false] rfl rfl (by kernel_rfl) (fun _ _ _ h => h) (Or.inl ⟨by rfl, ?_⟩) hHeld ?_ ?_
          rotate_left
          · rintro w' ⟨s0, s1, s2⟩
            go_simp
            with_reducible rfl
          rotate_left
          · simp only [Act.put, List.setIfInBounds_toArray, List.set_cons_zero, List.set_cons_succ, i64_w, i32_w]
            rfl
          refine pure_ (i := 7) (N := some 93) (v := ?_) (a' := ?_) #[true, true, true, true, true, true, true, true, false, false, false, false, false] rfl rfl (by kernel_rfl) (fun _ _ _ h => h) (Or.inl ⟨by rfl, ?_⟩) ?_ ?_
          rotate_left
          · rintro w'
            go_simp
            with_reducible rfl
          rotate_left
          · simp only [Act.put, List.setIfInBounds_toArray, List.set_cons_zero, List.set_cons_succ, i64_w, i32_w]
            rfl
          refine one_ (i := 8) (N := some 94) #[true, true, true, true, true, true, true, true, true, false, false, false, false] rfl rfl (by kernel_rfl) (by decide) (fun K hK => ?_)
          refine goes_ Tryd.func103 (by kernel_rfl) rfl #[.int .i64 (rd lu ↑k), .int .i64 sets] (by rfl) rfl rfl (by simp only [List.map_toArray, List.map_cons, List.map_nil, Act.eval]; rfl) ?_
          refine (rest_at (rd lu ↑k) sets _ hs0).mono ?_
          rintro e w2 ⟨rfl, rfl⟩
          refine ⟨_, rfl, ?_⟩
          refine hK.out _ _ hHeld (fun hHeld => ?_)
          clear hK K
          refine norm_ (a' := ?_) ?_ ?_
          rotate_left
          · show Act.put _ (some 94) _ = _
            simp only [Act.put, List.setIfInBounds_toArray, List.set_cons_zero, List.set_cons_succ, i64_w, i32_w]
            rfl
          refine one_ (i := 9) (N := some 95) #[true, true, true, true, true, true, true, true, true, true, false, false, false] rfl rfl (by kernel_rfl) (by decide) (fun K hK => ?_)
          refine value_ (w1 := ?_) (v := ?_) (by rfl) rfl ?_ ?_
          rotate_left 2
          · go_simp
            constructor
            · rfl
            · rfl
          refine hK.out _ _ ⟨by go_keep, by go_keep, by go_keep⟩ (fun hHeld => ?_)
          clear hK K
          refine norm_ (a' := ?_) ?_ ?_
          rotate_left
          · simp only [Act.put, List.setIfInBounds_toArray, List.set_cons_zero, List.set_cons_succ, i64_w, i32_w]
            rfl
          refine one_ (i := 10) (N := some 96) #[true, true, true, true, true, true, true, true, true, true, true, false, false] rfl rfl (by kernel_rfl) (by decide) (fun K hK => ?_)
          refine Kd.R_append_step (Kd.int .i64) (w0 := W4) (W := W4) w.heap.size (by rfl) _ _ _ 3 _ 8 (by rfl) Tryd.underlying25 info3 (by rfl) (by decide) (by decide) v6 l6 (restV (rd lu ↑k) sets) [.int .i64 (restV (rd lu ↑k) sets)] (fun _ => True) (fun _ => False) (by rfl) (by rfl) rfl (fun _ h => h.elim) (fun _ _ => trivial) H6.out (Below.refl _ _) HB.out.size (by omega) ?_
          intro v1 w4 hR hB4 hg4 hat4
          obtain ⟨A1, c1, rfl⟩ := Kd.R_slice hR
          have HX1 := blk_grown HX.out hg4 hnx
          have HN1 := blk_grown HN.out hg4 hnn
          have HR1 := blk_grown HR.out hg4 hnr
          have ef := blk_frozen HX1 6
          have e6 : w4.cell? ⟨w.heap.size + 1 + 1 + 1, 6, none⟩ = some v6 := (blk_cell HX1 6).trans rfl
          have e5 : w4.cell? ⟨w.heap.size, 5, none⟩ = some (.slice (some ad) lu.length cu) := (blk_cell HN1 5).trans rfl
          have e7 : w4.cell? (ad.add k) = some (.int .i64 (rd lu ↑k)) := hg4.cell hHeld0.2.2 hnad
          refine hK.out _ _ ⟨e6, e5, e7⟩ (fun hHeld => ?_)
          clear hK K
          refine norm_ (a' := ?_) ?_ ?_
          rotate_left
          · show Act.put _ (some 96) _ = _
            simp only [Act.put, List.setIfInBounds_toArray, List.set_cons_zero, List.set_cons_succ, i64_w, i32_w]
            rfl
          refine pure_ (i := 11) (N := some 97) (v := ?_) (a' := ?_) #[true, true, true, true, true, true, true, true, true, true, true, true, false] rfl rfl (by kernel_rfl) (fun _ _ _ h => h) (Or.inl ⟨by rfl, ?_⟩) ?_ ?_
          rotate_left
          · rintro w'
            go_simp
            with_reducible rfl
          rotate_left
          · simp only [Act.put, List.setIfInBounds_toArray, List.set_cons_zero, List.set_cons_succ, i64_w, i32_w]
            rfl
          refine last_ (i := 12) (N := none) #[true, true, true, true, true, true, true, true, true, true, true, true, true] rfl rfl (by kernel_rfl) (by decide) (fun K hK => ?_)
          refine skip_ (w1 := ?_) (by rfl) rfl ?_ ?_
          rotate_left
          · go_simp
            rfl
          refine hK.out _ _ ?_
          clear hK K
          refine done_ (by kernel_rfl) ?_
          go_wp2_with fail
          go_roundw
          case rel => exact ⟨k + 1, _, l6 ++ [restV (rd lu ↑k) sets], by go_num, by omega, by simp; omega, ⟨Kd.R_set hR HX1 (by simp [Kd.int, Kd.scalar]) 6 _⟩, ⟨blk_far HN1 (by show w.heap.size ≠ w.heap.size + 1 + 1 + 1; omega) _⟩, ⟨blk_far HR1 (by show w.heap.size + 1 ≠ w.heap.size + 1 + 1 + 1; omega) _⟩, ⟨by simpa using blk_set HX1 6 _⟩, ⟨Kd.R_set (R_grown_types H5.out (Kd.R_own H6.out).choose_spec (by simp [Kd.int, Kd.scalar]) hg4) HX1 (by simp [Kd.int, Kd.scalar]) 6 _⟩, ⟨below_set (HB.out.grown hg4 HB.out.size (fun q e => by obtain ⟨inner, ho⟩ := Kd.R_own H6.out; exact own_base ho _ e)) (by omega)⟩⟩
          case measure => simp [intOf]; omega
        · obtain ⟨A5, c5, rfl⟩ := Kd.R_slice H5.out
          obtain ⟨A6, c6, rfl⟩ := Kd.R_slice H6.out
          have y0 := (blk_cell HX.out 0).trans rfl
          have y1 := (blk_cell HX.out 1).trans rfl
          have y2 := (blk_cell HX.out 2).trans rfl
          have y3 := (blk_cell HX.out 3).trans rfl
          have y4 := (blk_cell HX.out 4).trans rfl
          have y5 := (blk_cell HX.out 5).trans rfl
          have r0 : wr.cell? ⟨w.heap.size + 1, 0, none⟩ = some (.int .i64 0) := (blk_cell HR.out 0).trans rfl
          have r1 : wr.cell? ⟨w.heap.size + 1, 1, none⟩ = some (.int .i64 0) := (blk_cell HR.out 1).trans rfl
          have r2 : wr.cell? ⟨w.heap.size + 1, 2, none⟩ = some (.int .i64 0) := (blk_cell HR.out 2).trans rfl
          have r3 : wr.cell? ⟨w.heap.size + 1, 3, none⟩ = some (.int .i64 0) := (blk_cell HR.out 3).trans rfl
          have r4 : wr.cell? ⟨w.heap.size + 1, 4, none⟩ = some (.int .i64 0) := (blk_cell HR.out 4).trans rfl
          have r5 : wr.cell? ⟨w.heap.size + 1, 5, none⟩ = some (.slice none 0 0) := (blk_cell HR.out 5).trans rfl
          have r6 : wr.cell? ⟨w.heap.size + 1, 6, none⟩ = some (.slice none 0 0) := (blk_cell HR.out 6).trans rfl
          have rf := fun j => blk_frozen HR.out j
          go_wp2_with fail
          all_goals
            refine bodyPost_ret (v := .agg #[.int .i64 (i + 1), .int .i64 (1 + c), .int .i64 (1 + d), .int .i64 t, .int .i64 pr, .slice A5 l5.length c5, .slice A6 l6.length c6]) (results_single rfl (.cell (w.heap.size + 1) 90 _ (0, 0) _ rfl (fill7 HR.out) Tryd.underlying90 rfl (by kernel_rfl) .nil)) rfl ?_
            exact ⟨⟨i + 1, 1 + c, 1 + d, t, pr, l5, l6⟩, _, _, rfl, rfl, by show 1 ≤ 1 + c; omega, by show 1 + c ≤ 24; omega, hl5, by show l6.length ≤ 100; omega, R_sets7 H5.out HR.out (by simp [Kd.int, Kd.scalar]) _ _ _ _ _ _ _, R_sets7 H6.out HR.out (by simp [Kd.int, Kd.scalar]) _ _ _ _ _ _ _, by repeat (with_reducible first | exact HB.out | apply bset1)⟩
end Go.Proofs.YtbldolbeijpipaaDoor
