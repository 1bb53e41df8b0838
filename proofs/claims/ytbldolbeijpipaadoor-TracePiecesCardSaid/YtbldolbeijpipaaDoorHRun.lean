import Derived.Test.YtbldolbeijpipaaDoorHNew
namespace Go.Proofs.YtbldolbeijpipaaDoor
open Go.RowKit Go.Proofs.YtbldolbeijpipaaDoorW.PrintWords Go.Proofs.YtbldolbeijpipaaDoorW.PrintLast Go.Proofs.YtbldolbeijpipaaDoorW.PrintMore
set_option linter.unusedVariables false
set_option linter.unusedSimpArgs false
set_option maxHeartbeats 800000 in
theorem demand18_any (b1 s0 s1 i : Int) (Aw A : Option Addr) (cw c : Nat) (lw : List Int) (ts : List S90) (w : World) (hw : (Kd.int .i64).C w Aw lw.length lw) (hts : k90.C w A ts.length ts) (hi0 : 0 ≤ i) (hi1 : i < ts.length) (hC : 1 ≤ (rd_T90 ts i).f1) :
    Calls Tryd.prog 70 #[.agg #[.slice Aw lw.length cw, .int .i64 b1], .agg #[.int .i64 s0, .int .i64 s1, .slice A ts.length c], .int .i64 i] w (SomeInt w) := by
  obtain ⟨ad, A5, c5, A6, c6, ea, p0, p1, p2, p3, p4, p5, p6, -⟩ := at_T90 hts i hi0 hi1
  subst ea
  have hadb := World.block_lt_of_cell? w _ p1
  have HW := Aside0.mk hw
  clear p0 p2 p3 p4 p5 p6 hts hw
  have hc0 : ((rd_T90 ts i).f1 == 0) = false := beq_eq_false_iff_ne.mpr (by omega)
  have hc1 : ((rd_T90 ts i).f1 != 0) = true := bne_iff_ne.mpr (by omega)
  by_cases hil : i < lw.length
  · obtain ⟨adw, ew, q0⟩ := Kd.at_int HW.out i hi0 hil
    subst ew
    have hwb := World.block_lt_of_cell? w _ q0
    have hge : decide (i ≥ (lw.length : Int)) = false := by simpa using hil
    have hge2 : ¬ (lw.length : Int) ≤ i := by omega
    by_cases hz : bits .and .i64 (rd lw i) 15 = 0
    · have hzb : (bits .and .i64 (rd lw i) 15 == 0) = true := beq_iff_eq.mpr hz
      clear hz
      go_enter Tryd.func70, Tryd.ntmps70
      go_wp2_with fail
      go_ret
      exact ⟨_, rfl, below_alloc (below_alloc (Below.refl _ _) _) _⟩
    · have hzb : (bits .and .i64 (rd lw i) 15 == 0) = false := beq_eq_false_iff_ne.mpr hz
      clear hz
      go_enter Tryd.func70, Tryd.ntmps70
      go_wp2_with fail
      go_quiet (fail)
      go_wp2_with fail
      go_ret
      exact ⟨_, rfl, pw_below_drewN (below_alloc (below_alloc (Below.refl _ _) _) _) _⟩
  · have hge : decide (i ≥ (lw.length : Int)) = true := by simp; omega
    have hge2 : (lw.length : Int) ≤ i := by omega
    clear hil
    go_enter Tryd.func70, Tryd.ntmps70
    go_wp2_with fail
    go_ret
    exact ⟨_, rfl, below_alloc (below_alloc (Below.refl _ _) _) _⟩
set_option maxHeartbeats 800000 in
theorem demand_any (b1 s0 s1 i : Int) (Aw A : Option Addr) (cw c : Nat) (lw : List Int) (ts : List S90) (w : World) (hw : (Kd.int .i64).C w Aw lw.length lw) (hts : k90.C w A ts.length ts) (hi0 : 0 ≤ i) (hi1 : i < ts.length) (hC : 1 ≤ (rd_T90 ts i).f1) :
    Calls Tryd.prog 33 #[.agg #[.slice Aw lw.length cw, .int .i64 b1], .agg #[.int .i64 s0, .int .i64 s1, .slice A ts.length c], .int .i64 i] w (SomeInt w) := by
  have HW := Aside0.mk hw
  have HT := Aside0.mk hts
  clear hw hts
  go_enter Tryd.func33, Tryd.ntmps33
  go_wp2_with fail
  have HB : Aside0 (Below w.heap.size w (((w.alloc (.cells #[.slice Aw lw.length cw, .int .i64 b1] 85)).alloc (.cells #[.int .i64 s0, .int .i64 s1, .slice A ts.length c] 54)).alloc (.cells #[.slice Aw lw.length cw, .int .i64 b1] 149))) := ⟨below_alloc (below_alloc (below_alloc (Below.refl _ _) _) _) _⟩
  refine (demand18_any b1 s0 s1 i Aw A cw c lw ts _ (Kd.C_below HW.out HB.out) (Kd.C_below HT.out HB.out) hi0 hi1 hC).mono ?_
  rintro e w1 ⟨r, rfl, hb⟩
  have HB2 := Aside0.mk (below_then HB.out HB.out.size hb)
  clear hb
  go_wp2_with fail
  go_ret
  exact ⟨_, rfl, HB2.out⟩
/-- 'Ask', whoever asks. -/
theorem ask_any (B bx : Nat) (s : XS) (id dem : Int) (w : World) (h : XI w B bx s) (hl : s.l.length ≤ 1000) : Calls Tryd.prog 34 #[.pointer (some ⟨bx, 0, none⟩), .int .i64 id, .int .i64 dem] w (AskP w B bx s) := by
  by_cases h1 : 1 ≤ id ∧ id ≤ s.ts.length
  · by_cases h2 : 1 ≤ dem ∧ dem ≤ (rd_T90 s.ts (id - 1)).f1
    · exact ask_full B bx s id dem w h h1.1 h1.2 h2.1 h2.2 hl
    · exact ask_wrong B bx s id dem w h h1.1 h1.2 h2
  · exact ask_none B bx s id dem w h (by omega)
end Go.Proofs.YtbldolbeijpipaaDoor
namespace Go.Proofs.YtbldolbeijpipaaDoor
open Go.RowKit Go.Proofs.YtbldolbeijpipaaDoorW.PrintWords Go.Proofs.YtbldolbeijpipaaDoorW.PrintLast Go.Proofs.YtbldolbeijpipaaDoorW.PrintMore
set_option linter.unusedVariables false
set_option linter.unusedSimpArgs false
/-- Slots of an executive: one behind the other, each as it may be. -/
def SlotsOK (l : List S43) : Prop := ∀ (j : Nat) (x : S43), l[j]? = some x → x.f0 = j ∧ SlotOK 6 x
theorem SlotsOK.snoc {l : List S43} {x : S43} (h : SlotsOK l) (h0 : x.f0 = l.length) (hx : SlotOK 6 x) : SlotsOK (l ++ [x]) := by
  intro i y hy
  rcases Nat.lt_or_ge i l.length with hi | hi
  · rw [List.getElem?_append_left hi] at hy
    exact h i y hy
  · rcases Nat.eq_or_lt_of_le hi with e | e
    · subst e
      simp at hy
      subst hy
      exact ⟨h0, hx⟩
    · rw [List.getElem?_eq_none (by simp; omega)] at hy
      cases hy
theorem SlotOK.mono {n m : Nat} {x : S43} (h : SlotOK n x) (hm : n ≤ m) : SlotOK m x := by
  obtain ⟨h0, h1 | ⟨h1, h2, h3, h4, h5, h6, h7, h8⟩⟩ := h
  · exact ⟨h0, .inl h1⟩
  · exact ⟨h0, .inr ⟨h1, by omega, h3, h4, h5, h6, h7, by omega⟩⟩
theorem R_kept {α : Type} {d : Kd α} {e : Nat} {w w1 : World} {base B : Nat} {ok : Nat → Prop} {v : Value} {xs : List α} {T : List Nat} (h : d.R e w base ok v xs) (hk : KeptT T B w w1) (ht : ∀ q, q ∈ e :: d.E → q ∉ T) : d.R e w1 base ok v xs := by
  refine Kd.R_mono (Kd.R_step (Kd.R_bound h) (fun k hk' hlt => hk.keep k hlt (fun c t f hc => ?_))) (fun k hk => hk.1)
  obtain ⟨_, _, _, q, hq, cells, hc'⟩ := hk'
  rw [hc] at hc'
  injection hc' with hc'
  injection hc' with _ hc' _
  exact hc' ▸ ht q hq
/-- The executive, while a row of another type grows. -/
theorem XI.grown {w w' : World} {B bx e sz n : Nat} {s : XS} {v : Value} {xs : List Value} (h : XI w B bx s) (hg : w.grownBy w' v.ownBlock) (ho : w.ownsRow B e sz v n xs) (h1 : e ≠ 147) (h2 : e ≠ 194) (h3 : e ≠ 3) (h4 : e ≠ 164) (h5 : e ≠ 159) : XI w' B bx s := by
  cases hv : v.ownBlock with
  | none =>
    rw [hv] at hg
    exact h.below ((Below.refl w.heap.size w).grown hg (Nat.le_refl _) (fun k e => by cases e))
  | some g =>
    obtain ⟨cells, hc⟩ := own_typed ho g hv
    rw [hv] at hg
    refine h.off hg hc (own_base ho g hv) h1 h2 h3 h4 (fun e' => ?_)
    obtain ⟨inner, hol⟩ := Kd.R_own h.r.l
    obtain ⟨cells2, hc2⟩ := own_typed hol g e'.symm
    rw [hc] at hc2
    injection hc2 with hc2
    injection hc2 with _ hc2 _
    exact h5 hc2
theorem info43 : (Tryd.prog.info? 43).map (fun i => (i.zero, i.size, i.bytes)) = some (some (.agg #[.int .i64 0, .int .i64 0, .int .i64 0, .int .i64 0, .bool false, .int .i64 0]), 6, 48) := by kernel_rfl
/-- What a run gives. -/
def RunP (w : World) (e : Ending) (w' : World) : Prop := ∃ (A : Option Addr) (c : Nat) (l : List S43), e = .returned (.slice A l.length c) ∧ l.length ≤ 160 ∧ SlotsOK l ∧ l.length ≤ c ∧ k43.C w' A l.length l ∧ Below w.heap.size w w'
set_option maxHeartbeats 3200000 in
set_option maxRecDepth 100000 in
theorem run_any (a0 a1 b0 b1 : Int) (An At Aq Aa : Option Addr) (cn ct cq ca : Nat) (ln : List S140) (lt lq : List Int) (la : List S85) (w : World) (hn : k140.C w An ln.length ln) (ht : (Kd.int .i64).C w At lt.length lt) (hq : (Kd.int .i64).C w Aq lq.length lq) (ha : k85.C w Aa la.length la) :
    Calls Tryd.prog 10 #[.agg #[.int .i64 a0, .int .i64 a1, .slice An ln.length cn], .agg #[.int .i64 b0, .int .i64 b1, .slice At lt.length ct, .slice Aq lq.length cq], .slice Aa la.length ca] w (RunP w) := by
  have HN := Aside0.mk hn
  have HT := Aside0.mk ht
  have HQ := Aside0.mk hq
  have HA := Aside0.mk ha
  clear hn ht hq ha
  go_enter Tryd.func10, Tryd.ntmps10
  go_wp2_with fail
  have BN := Aside0.mk (blk_alloc (blk_new w (.cells #[.int .i64 a0, .int .i64 a1, .slice An ln.length cn] 24)) (.cells #[.int .i64 b0, .int .i64 b1, .slice At lt.length ct, .slice Aq lq.length cq] 27))
  have BP : Aside0 (((w.alloc (.cells #[.int .i64 a0, .int .i64 a1, .slice An ln.length cn] 24)).alloc (.cells #[.int .i64 b0, .int .i64 b1, .slice At lt.length ct, .slice Aq lq.length cq] 27)).heap[w.heap.size + 1]? = some (.cells #[.int .i64 b0, .int .i64 b1, .slice At lt.length ct, .slice Aq lq.length cq] 27 (0, 0))) := ⟨blk_nw _ _ _ (by simp)⟩
  have HB := Aside0.mk (below_alloc (below_alloc (Below.refl w.heap.size w) (.cells #[.int .i64 a0, .int .i64 a1, .slice An ln.length cn] 24)) (.cells #[.int .i64 b0, .int .i64 b1, .slice At lt.length ct, .slice Aq lq.length cq] 27))
  generalize (w.alloc (.cells #[.int .i64 a0, .int .i64 a1, .slice An ln.length cn] 24)).alloc (.cells #[.int .i64 b0, .int .i64 b1, .slice At lt.length ct, .slice Aq lq.length cq] 27) = W0 at BN BP HB ⊢
  refine (sys_any a0 a1 An cn ln W0 (Kd.C_below HN.out HB.out)).mono ?_
  rintro e w1 ⟨sets, reload, v, ts, rfl, hs0, hs1, hl1, hl2, hR, hb⟩
  obtain ⟨A, c, hve, hc, hC⟩ := Kd.R_reads hR
  subst hve
  have HTS := Aside0.mk hC
  have HOK := Aside0.mk hl2
  replace BN := Aside0.mk (blk_below BN.out hb)
  replace BP := Aside0.mk (blk_below BP.out hb)
  replace HB := Aside0.mk (below_then HB.out HB.out.size hb)
  have h6 : ts.length ≤ 6 := hl2.1
  clear hC hl2 hR hb
  go_upto_region 2 with fail
  have BS := Aside0.mk (blk_new w1 (.cells #[.int .i64 sets, .int .i64 reload, .slice A ts.length c] 54))
  have hb1 := below_alloc (Below.refl w1.heap.size w1) (.cells #[.int .i64 sets, .int .i64 reload, .slice A ts.length c] 54)
  replace BP := Aside0.mk (blk_below BP.out hb1)
  replace HTS := Aside0.mk (Kd.C_below HTS.out hb1)
  replace HB := Aside0.mk (below_then HB.out HB.out.size hb1)
  obtain ⟨bs, hbs⟩ : ∃ bs, bs = w1.heap.size := ⟨_, rfl⟩
  rw [← hbs] at BS ⊢
  clear hb1
  generalize w1.alloc (.cells #[.int .i64 sets, .int .i64 reload, .slice A ts.length c] 54) = V at BS BP HTS HB ⊢
  clear hbs BN
  have y0 : V.cell? ⟨bs, 0, none⟩ = some (.int .i64 sets) := (blk_cell BS.out 0).trans rfl
  have y1 : V.cell? ⟨bs, 1, none⟩ = some (.int .i64 reload) := (blk_cell BS.out 1).trans rfl
  have y2 : V.cell? ⟨bs, 2, none⟩ = some (.slice A ts.length c) := (blk_cell BS.out 2).trans rfl
  have p0 : V.cell? ⟨w.heap.size + 1, 0, none⟩ = some (.int .i64 b0) := (blk_cell BP.out 0).trans rfl
  have p1 : V.cell? ⟨w.heap.size + 1, 1, none⟩ = some (.int .i64 b1) := (blk_cell BP.out 1).trans rfl
  have p2 : V.cell? ⟨w.heap.size + 1, 2, none⟩ = some (.slice At lt.length ct) := (blk_cell BP.out 2).trans rfl
  have p3 : V.cell? ⟨w.heap.size + 1, 3, none⟩ = some (.slice Aq lq.length cq) := (blk_cell BP.out 3).trans rfl
  go_wp2_with fail
  refine (setup19_any b0 b1 sets reload At Aq A ct cq c lt lq ts V (Kd.C_below HT.out HB.out) (Kd.C_below HQ.out HB.out) hc HTS.out h6).mono ?_
  rintro e w2 ⟨pol, mode, v5, v6, th, q, rfl, he5, he6, hr5, hr6, hb⟩
  obtain ⟨A5, c5, rfl, hc5, hC5⟩ := Kd.R_reads hr5
  obtain ⟨A6, c6, rfl, hc6, hC6⟩ := Kd.R_reads hr6
  have HC5 := Aside0.mk hC5
  have HC6 := Aside0.mk hC6
  have HE5 := Aside0.mk he5
  have HE6 := Aside0.mk he6
  have HVB := Aside0.mk hb
  clear hC5 hC6 he5 he6 hr5 hr6 hb y0 y1 y2 p0 p1 p2 p3
  go_wp2_with fail
  refine (new_any sets reload pol mode A A5 A6 c c5 c6 th q ts w2 hs0 hs1 (Kd.C_below HTS.out HVB.out) HC5.out HC6.out hc hc5 hc6 HE5.out HE6.out hl1 HOK.out).mono ?_
  rintro e w3 ⟨bx, s0, rfl, hX, hst, hsn, hsl, hsm, hb⟩
  have HX := Aside0.mk hX
  have HST := Aside0.mk hst
  have HSN := Aside0.mk hsn
  have HSL := Aside0.mk hsl
  have HSM := Aside0.mk hsm
  obtain ⟨B, hB⟩ : ∃ B, B = w2.heap.size := ⟨_, rfl⟩
  have HVB3 := Aside0.mk (below_then HVB.out HVB.out.size hb)
  have hBV : V.heap.size ≤ B := by rw [hB]; exact HVB.out.size
  rw [← hB] at HX
  clear hX hst hsn hsl hsm hb hB HC5 HC6 HE5 HE6
  have HAV := Aside0.mk (Kd.C_below HA.out HB.out)
  clear HN HT HQ HA
  go_wp2_with fail
  go_loopw [9, 10] (fun vv kk wr => ∃ (i : Nat) (v9 : Value) (l : List S43) (s : XS), kk = .int .i64 i ∧ vv = v9 ∧ i ≤ la.length ∧ i ≤ 20 ∧ l.length ≤ 8 * i ∧ s.l.length ≤ 6 * i ∧ s.m ≤ 8 * i ∧ Aside0 (XI wr B bx s) ∧ Aside0 (s.ts = ts) ∧ Aside0 (s.now = (l.length : Int)) ∧ Aside0 (k43.R 43 wr B (fun _ => True) v9 l) ∧ Aside0 (SlotsOK l) ∧ Aside0 (Below V.heap.size V wr)) (fun _ kk _ => 20 - (intOf kk).toNat)
  case atStart => exact ⟨0, .slice none 0 0, [], s0, rfl, rfl, by omega, by omega, by simp, by rw [HSL.out]; simp, by rw [HSM.out]; omega, HX, HST, ⟨by rw [HSN.out]; rfl⟩, ⟨Kd.R_nil _ _ _ _ _⟩, ⟨fun j x h => by simp at h⟩, HVB3⟩
  case round =>
    clear HX HST HSN HSL HSM HVB3
    obtain ⟨i, v9, l, s, rfl, rfl, hil, hi20, hl8, hs6, hm8, HX, HST, HSN, HR, HS, HV⟩ := hrel
    obtain ⟨A9, c9, rfl⟩ := Kd.R_slice HR.out
    by_cases hin : i < la.length ∧ i < 20
    · obtain ⟨hin1, hin2⟩ := hin
      have hi0 : (0 : Int) ≤ (i : Int) := by omega
      have hi1 : (i : Int) < la.length := by omega
      have hd20 : decide ((i : Int) < 20) = true := by simp; omega
      obtain ⟨ada, Aw, cw, ea, pa0, pa1, haw, hCw⟩ := at_T85 HAV.out i (by omega) (by omega)
      subst ea
      rw [Int.toNat_natCast] at pa0 pa1
      have hab := World.block_lt_of_cell? V _ pa0
      have PA0 := Aside0.mk pa0
      have PA1 := Aside0.mk pa1
      have HCW := Aside0.mk hCw
      clear pa0 pa1 hCw haw
      go_wp2_with fail
      go_loopw [11] (fun kk wr => ∃ (k : Nat) (s : XS), kk = .int .i64 k ∧ k ≤ ts.length ∧ s.l.length ≤ 6 * i + k ∧ s.m ≤ 8 * i ∧ Aside0 (XI wr B bx s) ∧ Aside0 (s.ts = ts) ∧ Aside0 (s.now = (l.length : Int)) ∧ Aside0 (k43.R 43 wr B (fun _ => True) (.slice A9 l.length c9) l) ∧ Aside0 (SlotsOK l) ∧ Aside0 (Below V.heap.size V wr)) (fun kk _ => ts.length - (intOf kk).toNat)
      case atStart => exact ⟨0, s, rfl, by omega, by omega, hm8, HX, HST, HSN, HR, HS, HV⟩
      case round =>
        clear HX HST HSN HR HS HV hs6 hm8
        clear s
        obtain ⟨k, s, rfl, hk, hs6, hm8, HX, HST, HSN, HR, HS, HV⟩ := hrel
        have y2 : wr.cell? ⟨bs, 2, none⟩ = some (.slice A ts.length c) := (blk_cell (blk_below BS.out HV.out) 2).trans rfl
        by_cases hkt : k < ts.length
        · have hk0 : (0 : Int) ≤ (k : Int) := by omega
          have hk1 : (k : Int) < ts.length := by omega
          have y0 : wr.cell? ⟨bs, 0, none⟩ = some (.int .i64 sets) := (blk_cell (blk_below BS.out HV.out) 0).trans rfl
          have y1 : wr.cell? ⟨bs, 1, none⟩ = some (.int .i64 reload) := (blk_cell (blk_below BS.out HV.out) 1).trans rfl
          have q0 := (HV.out.cell hab).trans PA0.out
          have q1 := (HV.out.cell (p := ⟨(ada.add (i * 2)).block, (ada.add (i * 2)).off + 1, none⟩) hab).trans PA1.out
          have hC1 : 1 ≤ (rd_T90 ts ↑k).f1 := by
            have := (HOK.out.2 k _ (List.getElem?_eq_getElem hkt)).2.1
            simpa [rd_T90, List.getD_eq_getElem?_getD, hkt] using this
          go_upto_region 10 with fail
          replace HX := Aside0.mk (HX.out.below (below_drew1 (Below.refl _ _)))
          replace HR := Aside0.mk (Kd.R_drew HR.out)
          replace HV := Aside0.mk (below_drew1 HV.out)
          refine start_ (n := 8) (S := fun w' => w'.cell? (ada.add (i * 2)) = some (.slice Aw (rd_T85 la ↑i).f0.length cw) ∧ w'.cell? ⟨(ada.add (i * 2)).block, (ada.add (i * 2)).off + 1, none⟩ = some (.int .i64 (rd_T85 la ↑i).f1) ∧ w'.cell? ⟨bs, 0, none⟩ = some (.int .i64 sets) ∧ w'.cell? ⟨bs, 1, none⟩ = some (.int .i64 reload) ∧ w'.cell? ⟨bs, 2, none⟩ = some (.slice A ts.length c)) (ds := []) #[false, false, false, false, false, false, false, false] (by kernel_rfl) rfl rfl ⟨q0, q1, y0, y1, y2⟩ (fun hHeld => ?_)
          have hHeld0 := hHeld
          generalize wr.drew = W4 at HX HR HV hHeld hHeld0 ⊢
          refine pure_ (i := 0) (N := some 38) (v := ?_) (a' := ?_) #[true, false, false, false, false, false, false, false] rfl rfl (by kernel_rfl) (fun _ _ _ h => h) (Or.inl ⟨by rfl, ?_⟩) ?_ ?_
          rotate_left
          · rintro w'
            go_simp
            with_reducible rfl
          rotate_left
          · simp only [Act.put, List.setIfInBounds_toArray, List.set_cons_zero, List.set_cons_succ, i64_w, i32_w]
            rfl
          refine pure_ (i := 1) (N := some 39) (v := ?_) (a' := ?_) #[true, true, false, false, false, false, false, false] rfl rfl (by kernel_rfl) (fun _ _ _ h => h) (Or.inl ⟨by rfl, ?_⟩) ?_ ?_
          rotate_left
          · rintro w'
            go_simp
            with_reducible rfl
          rotate_left
          · simp only [Act.put, List.setIfInBounds_toArray, List.set_cons_zero, List.set_cons_succ, i64_w, i32_w]
            rfl
          refine pure_ (i := 2) (N := some 40) (v := ?_) (a' := ?_) #[true, true, true, false, false, false, false, false] rfl rfl (by kernel_rfl) (fun _ _ _ h => h) (Or.inl ⟨by rfl, ?_⟩) ?_ ?_
          rotate_left
          · rintro w'
            go_simp
            with_reducible rfl
          rotate_left
          · simp only [Act.put, List.setIfInBounds_toArray, List.set_cons_zero, List.set_cons_succ, i64_w, i32_w]
            rfl
          refine take_ (i := 3) (N := some 41) (v := ?_) (a' := ?_) #[true, true, true, true, false, false, false, false] rfl rfl (by kernel_rfl) (fun _ _ _ h => h) (Or.inl ⟨by rfl, ?_⟩) hHeld ?_ ?_
          rotate_left
          · rintro w' ⟨s0, s1, s2, s3, s4⟩
            go_simp
            with_reducible rfl
          rotate_left
          · simp only [Act.put, List.setIfInBounds_toArray, List.set_cons_zero, List.set_cons_succ, i64_w, i32_w]
            rfl
          refine take_ (i := 4) (N := some 42) (v := ?_) (a' := ?_) #[true, true, true, true, true, false, false, false] rfl rfl (by kernel_rfl) (fun _ _ _ h => h) (Or.inl ⟨by rfl, ?_⟩) hHeld ?_ ?_
          rotate_left
          · rintro w' ⟨s0, s1, s2, s3, s4⟩
            go_simp
            with_reducible rfl
          rotate_left
          · simp only [Act.put, List.setIfInBounds_toArray, List.set_cons_zero, List.set_cons_succ, i64_w, i32_w]
            rfl
          refine pure_ (i := 5) (N := some 43) (v := ?_) (a' := ?_) #[true, true, true, true, true, true, false, false] rfl rfl (by kernel_rfl) (fun _ _ _ h => h) (Or.inl ⟨by rfl, ?_⟩) ?_ ?_
          rotate_left
          · rintro w'
            go_simp
            with_reducible rfl
          rotate_left
          · simp only [Act.put, List.setIfInBounds_toArray, List.set_cons_zero, List.set_cons_succ, i64_w, i32_w]
            rfl
          refine one_ (i := 6) (N := some 44) #[true, true, true, true, true, true, true, false] rfl rfl (by kernel_rfl) (by decide) (fun K hK => ?_)
          refine goes_ Tryd.func33 (by kernel_rfl) rfl #[.agg #[.slice Aw (rd_T85 la ↑i).f0.length cw, .int .i64 (rd_T85 la ↑i).f1], .agg #[.int .i64 sets, .int .i64 reload, .slice A ts.length c], .int .i64 ↑k] (by rfl) rfl rfl (by simp only [List.map_toArray, List.map_cons, List.map_nil, Act.eval]; rfl) ?_
          refine (demand_any _ sets reload ↑k Aw A cw c _ ts W4 (Kd.C_below HCW.out HV.out) (Kd.C_below HTS.out HV.out) hk0 hk1 hC1).mono ?_
          rintro e w2 ⟨r, rfl, hb2⟩
          have HB2 := Aside0.mk hb2
          refine ⟨_, rfl, ?_⟩
          refine hK.out _ _ ⟨(hb2.cell (World.block_lt_of_cell? W4 _ hHeld.1)).trans hHeld.1, (hb2.cell (World.block_lt_of_cell? W4 _ hHeld.2.1)).trans hHeld.2.1, (hb2.cell (World.block_lt_of_cell? W4 _ hHeld.2.2.1)).trans hHeld.2.2.1, (hb2.cell (World.block_lt_of_cell? W4 _ hHeld.2.2.2.1)).trans hHeld.2.2.2.1, (hb2.cell (World.block_lt_of_cell? W4 _ hHeld.2.2.2.2)).trans hHeld.2.2.2.2⟩ (fun hHeld => ?_)
          clear hb2
          clear hK K
          refine norm_ (a' := ?_) ?_ ?_
          rotate_left
          · show Act.put _ (some 44) _ = _
            simp only [Act.put, List.setIfInBounds_toArray, List.set_cons_zero, List.set_cons_succ, i64_w, i32_w]
            rfl
          refine pure_ (i := 7) (N := some 12) (v := ?_) (a' := ?_) #[true, true, true, true, true, true, true, true] rfl rfl (by kernel_rfl) (fun _ _ _ h => h) (Or.inl ⟨by rfl, ?_⟩) ?_ ?_
          rotate_left
          · rintro w'
            go_simp
            with_reducible rfl
          rotate_left
          · simp only [Act.put, List.setIfInBounds_toArray, List.set_cons_zero, List.set_cons_succ, i64_w, i32_w]
            rfl
          refine done_ (by kernel_rfl) ?_
          have X2 := Aside0.mk (HX.out.below HB2.out)
          have R2 := Aside0.mk (Kd.R_below HR.out HB2.out)
          have V2 := Aside0.mk (below_then HV.out HV.out.size HB2.out)
          have hl1k : s.l.length ≤ 1000 := by omega
          clear hHeld hHeld0 HX HR HV y0 y1 y2 q0 q1 HB2
          have y2 : w2.cell? ⟨bs, 2, none⟩ = some (.slice A ts.length c) := (blk_cell (blk_below BS.out V2.out) 2).trans rfl
          obtain ⟨adt, A5', c5', A6', c6', eat, t0, t1, t2, t3, t4, t5, t6, -⟩ := at_T90 (Kd.C_below HTS.out V2.out) k (by omega) (by omega)
          subst eat
          rw [Int.toNat_natCast] at t0 t1 t2 t3 t4 t5 t6
          clear t1 t2 t3 t4 t5 t6
          by_cases hr : 0 < r
          · go_wp2_with fail
            refine (ask_any B bx s (rd_T90 ts ↑k).f0 r w2 X2.out hl1k).mono ?_
            rintro e w3 ⟨n, s', rfl, hX', ht', hn', hl', hm', hk'⟩
            have X3 := Aside0.mk hX'
            have T3 := Aside0.mk (ht'.trans HST.out)
            have N3 := Aside0.mk (hn'.trans HSN.out)
            have R3 := Aside0.mk (R_kept R2.out hk' (by decide))
            have V3 := Aside0.mk (V2.out.trans (hk'.bel.mono hBV))
            have hm'' : s'.m ≤ 8 * i := by omega
            clear hX' ht' hn' hm' hk' y2 t0
            go_wp2_with fail
            go_roundw
            case rel => exact ⟨k + 1, s', by go_num, by omega, by omega, hm'', X3, T3, N3, R3, HS, V3⟩
            case measure => simp [intOf]; omega
          · clear y2 t0
            go_wp2_with fail
            go_roundw
            case rel => exact ⟨k + 1, s, by go_num, by omega, by omega, hm8, X2, HST, HSN, R2, HS, V2⟩
            case measure => simp [intOf]; omega
        · have hs66 : s.l.length ≤ 6 * i + 6 := by omega
          have hkl : ¬ (k : Int) < ts.length := by omega
          have hbt := bits_and_lt (rd_T85 la ↑i).f1 7 8 (by omega) (by omega) (by omega)
          have hb1 := hbt.1
          have hb2 := hbt.2
          clear hbt hs6
          go_wp2_with fail
          go_loopw [9, 13] (fun vv kk wr => ∃ (k : Nat) (v9 : Value) (l : List S43) (s : XS), kk = .int .i64 k ∧ vv = v9 ∧ k ≤ 8 ∧ l.length ≤ 8 * i + k ∧ s.l.length ≤ 6 * i + 6 ∧ s.m ≤ 8 * i + k ∧ Aside0 (XI wr B bx s) ∧ Aside0 (s.ts = ts) ∧ Aside0 (s.now = (l.length : Int)) ∧ Aside0 (k43.R 43 wr B (fun _ => True) v9 l) ∧ Aside0 (SlotsOK l) ∧ Aside0 (Below V.heap.size V wr)) (fun _ kk _ => 9 - (intOf kk).toNat)
          case atStart => exact ⟨0, _, l, s, rfl, rfl, by omega, by omega, hs66, by omega, HX, HST, HSN, HR, HS, HV⟩
          case round =>
            clear HX HST HSN HR HS HV hs66 hm8 hl8 hkl y2
            obtain ⟨k2, v9, l2, s2, rfl, rfl, hk8, hl8, hs6, hm8, HX, HST, HSN, HR, HS, HV⟩ := hrel
            obtain ⟨A8, c8, rfl⟩ := Kd.R_slice HR.out
            have q1 := (HV.out.cell (p := ⟨(ada.add (i * 2)).block, (ada.add (i * 2)).off + 1, none⟩) hab).trans PA1.out
            by_cases hkb : (k2 : Int) ≤ bits .and .i64 (rd_T85 la ↑i).f1 7
            · have hk7 : k2 ≤ 7 := by omega
              go_wp2_with fail
              refine (tick_any B bx s2 wr HX.out (by rw [HSN.out]; omega) (by omega) (by omega)).mono ?_
              rintro e w2 ⟨x, s', rfl, hx0, hx1, hX', ht', hn', hl', hm', hk'⟩
              have XOK : Aside0 (SlotOK 6 x) := ⟨hx1.mono (by rw [HST.out]; exact h6)⟩
              have X0 : Aside0 (x.f0 = (l2.length : Int)) := ⟨hx0.trans HSN.out⟩
              have X3 := Aside0.mk hX'
              have T3 := Aside0.mk (ht'.trans HST.out)
              have N3 : Aside0 (s'.now = (l2.length : Int) + 1) := ⟨by rw [hn', HSN.out]⟩
              have R3 := Aside0.mk (R_kept HR.out hk' (by decide))
              have V3 := Aside0.mk (HV.out.trans (hk'.bel.mono hBV))
              have hm'' : s'.m ≤ 8 * i + (k2 + 1) := by omega
              have hs'' : s'.l.length ≤ 6 * i + 6 := by omega
              have hB2 : B ≤ w2.heap.size := hX'.szB
              have hl9 : l2.length ≤ 200 := by omega
              clear hx0 hx1 hX' ht' hn' hl' hm' hk' q1
              go_upto_region 17 with fail
              have b5 := below_alloc (Below.refl w2.heap.size w2) (.cells #[.int .i64 x.f0, .int .i64 x.f1, .int .i64 x.f2, .int .i64 x.f3, .bool x.f4, .int .i64 x.f5] 43)
              have BL := blk_new w2 (.cells #[.int .i64 x.f0, .int .i64 x.f1, .int .i64 x.f2, .int .i64 x.f3, .bool x.f4, .int .i64 x.f5] 43)
              replace X3 := Aside0.mk (X3.out.below b5)
              replace R3 := Aside0.mk (Kd.R_below R3.out b5)
              replace V3 := Aside0.mk (below_then V3.out V3.out.size b5)
              replace hB2 := Nat.le_trans hB2 b5.size
              obtain ⟨g, hg0⟩ : ∃ g, g = w2.heap.size := ⟨_, rfl⟩
              rw [← hg0] at BL ⊢
              clear b5
              generalize w2.alloc (.cells #[.int .i64 x.f0, .int .i64 x.f1, .int .i64 x.f2, .int .i64 x.f3, .bool x.f4, .int .i64 x.f5] 43) = W5 at BL X3 R3 V3 hB2 ⊢
              have z0 : W5.cell? ⟨g, 0, none⟩ = some (.int .i64 x.f0) := (blk_cell BL 0).trans rfl
              have z1 : W5.cell? ⟨g, 1, none⟩ = some (.int .i64 x.f1) := (blk_cell BL 1).trans rfl
              have z2 : W5.cell? ⟨g, 2, none⟩ = some (.int .i64 x.f2) := (blk_cell BL 2).trans rfl
              have z3 : W5.cell? ⟨g, 3, none⟩ = some (.int .i64 x.f3) := (blk_cell BL 3).trans rfl
              have z4 : W5.cell? ⟨g, 4, none⟩ = some (.bool x.f4) := (blk_cell BL 4).trans rfl
              have z5 : W5.cell? ⟨g, 5, none⟩ = some (.int .i64 x.f5) := (blk_cell BL 5).trans rfl
              clear hg0 BL
              go_wp2_with (at_builtin; refine Kd.R_append k43 (w0 := W5) B rfl (.tmp 68) (.tmp 70) 32 43 _ 48 rfl Tryd.underlying32 info43 rfl (by decide) (by decide) (.slice A8 l2.length c8) l2 x [.int .i64 x.f0, .int .i64 x.f1, .int .i64 x.f2, .int .i64 x.f3, .bool x.f4, .int .i64 x.f5] (fun _ => True) (fun _ => False) rfl rfl ?aP (fun _ hk => hk.elim) (fun _ _ => trivial) ?aO ?aB ?aS ?aL ?aR)
              case aP => exact k43_mkM _ _ _ x
              case aO => exact R3.out
              case aB => exact Below.refl _ _
              case aS => exact hB2
              case aL => omega
              case aR =>
              intro v1 w4 ho hb hg hat
              have X4 := Aside0.mk (X3.out.grown hg (Kd.R_own R3.out).choose_spec (by decide) (by decide) (by decide) (by decide) (by decide))
              have V4 := Aside0.mk (V3.out.trans (hb.mono hBV))
              have R4 := Aside0.mk ho
              have N4 : Aside0 (s'.now = ((l2 ++ [x]).length : Int)) := ⟨by rw [N3.out]; simp⟩
              have S4 : Aside0 (SlotsOK (l2 ++ [x])) := ⟨HS.out.snoc X0.out XOK.out⟩
              have hl10 : (l2 ++ [x]).length ≤ 8 * i + (k2 + 1) := by simp; omega
              clear ho hb hg hat
              go_wp2_with fail
              go_roundw
              case rel => exact ⟨k2 + 1, v1, l2 ++ [x], s', by go_num, rfl, by omega, hl10, hs'', hm'', X4, T3, N4, R4, S4, V4⟩
              case measure => simp [intOf]; omega
            · go_wp2_with fail
              go_roundw
              case rel => exact ⟨i + 1, _, l2, s2, by go_num, rfl, by omega, by omega, by omega, by omega, by omega, HX, HST, HSN, HR, HS, HV⟩
              case measure => simp [intOf]; omega
    · go_wp2_with fail
      all_goals
        go_ret
        obtain ⟨A9', c9', e9, hc9, hC9⟩ := Kd.R_reads HR.out
        injection e9 with e9 _ e9'
        subst e9
        subst e9'
        exact ⟨A9, c9, l, rfl, by omega, HS.out, hc9, hC9, below_then HB.out HB.out.size HV.out⟩
end Go.Proofs.YtbldolbeijpipaaDoor
