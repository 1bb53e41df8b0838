import Derived.Test.YtbldolbeijpipaaDoorHSys
namespace Go.Proofs.YtbldolbeijpipaaDoor
open Go.RowKit Go.Proofs.YtbldolbeijpipaaDoorW.PrintWords Go.Proofs.YtbldolbeijpipaaDoorW.PrintLast Go.Proofs.YtbldolbeijpipaaDoorW.PrintMore
set_option linter.unusedVariables false
set_option linter.unusedSimpArgs false
/-- 'ByPrio': as many tasks, all of them. -/
def PrioP (w : World) (okI : Nat → Prop) (ts : List S90) (e : Ending) (w' : World) : Prop := ∃ (A : Option Addr) (c : Nat) (l : List S90), e = .returned (.slice A l.length c) ∧ l.length = ts.length ∧ (∀ x ∈ ts, x ∈ l) ∧ l.length ≤ c ∧ Kd.F k90 w' (fun q => okI q ∨ w.heap.size ≤ q) A l.length l ∧ Below w.heap.size w w'
/-- A literal of no elements. -/
theorem N_empty {α : Type} (d : Kd α) (e base : Nat) (W : World) (hb : base ≤ W.heap.size) {ok : Nat → Prop} (hok : ok W.heap.size) : Kd.N d e (W.alloc (.cells #[] e)) base ok (.slice (some ⟨W.heap.size, 0, none⟩) 0 0) [] :=
  ⟨fun k hk => by have e' : W.heap.size = k := Option.some.inj hk; exact e' ▸ hok, [], rfl, ⟨fun k hk => hk.symm, [], ⟨by simp, .inr ⟨W.heap.size, 0, #[], rfl, hb, blk_new _ _, Nat.le_refl _, by decide, by simp, by simp⟩⟩, Reps.none _ _⟩, fun j x c h => by simp at h⟩
set_option maxHeartbeats 1600000 in
set_option maxRecDepth 100000 in
theorem prio_any (okI : Nat → Prop) (a0 a1 : Int) (A0 : Option Addr) (c0 : Nat) (ts : List S90) (w : World) (hc0 : ts.length ≤ c0) (ht : Kd.F k90 w okI A0 ts.length ts) (h6 : ts.length ≤ 6) :
    Calls Tryd.prog 105 #[.agg #[.int .i64 a0, .int .i64 a1, .slice A0 ts.length c0]] w (PrioP w okI ts) := by
  have HT := Aside0.mk ht
  clear ht
  go_enter Tryd.func105, Tryd.ntmps105
  go_wp2_with fail
  have BN := Aside0.mk (blk_new w (.cells #[.int .i64 a0, .int .i64 a1, .slice A0 ts.length c0] 54))
  have HB := Aside0.mk (below_alloc (Below.refl w.heap.size w) (.cells #[.int .i64 a0, .int .i64 a1, .slice A0 ts.length c0] 54))
  generalize w.alloc (.cells #[.int .i64 a0, .int .i64 a1, .slice A0 ts.length c0] 54) = W0 at BN HB ⊢
  go_loopw [3, 4] (fun vv kk wr => ∃ (i : Nat) (v : Value) (l : List S90), kk = .int .i64 i ∧ vv = v ∧ i ≤ ts.length ∧ l.length ≤ i ∧ i ≤ l.length ∧ Aside0 (∀ x ∈ ts.take i, x ∈ l) ∧ Aside0 (Kd.N k90 90 wr w.heap.size (fun q => okI q ∨ w.heap.size ≤ q) v l) ∧ Aside0 (wr.heap[w.heap.size]? = some (.cells #[.int .i64 a0, .int .i64 a1, .slice A0 ts.length c0] 54 (0, 0))) ∧ Aside0 (Below w.heap.size w wr)) (fun _ kk _ => ts.length - (intOf kk).toNat)
  case atStart => exact ⟨0, .slice none 0 0, [], rfl, rfl, by omega, by simp, by simp, ⟨by simp⟩, ⟨Kd.N_nil _ _ _ _ _⟩, BN, HB⟩
  case round =>
    clear BN HB
    obtain ⟨i, v, l, rfl, rfl, hi, hl1, hl2, HM, HV, BN, HB⟩ := hrel
    obtain ⟨A, c, rfl⟩ := Kd.N_slice HV.out
    have n2 : wr.cell? ⟨w.heap.size, 2, none⟩ = some (.slice A0 ts.length c0) := (blk_cell BN.out 2).trans rfl
    by_cases hin : i < ts.length
    · have hi0 : (0 : Int) ≤ (i : Int) := by omega
      have hi1 : (i : Int) < ts.length := by omega
      obtain ⟨ad, cs, ea, hcl, hFK, hcc, -⟩ := Kd.F_get HT.out z90 i (by omega) (by omega)
      obtain ⟨A5, c5, A6, c6, rfl, l5, g5, l6, g6⟩ := k90_openF (x := rd_T90 ts ↑i) hFK
      subst ea
      have hcc' : ∀ j u, ([.int .i64 (rd_T90 ts ↑i).f0, .int .i64 (rd_T90 ts ↑i).f1, .int .i64 (rd_T90 ts ↑i).f2, .int .i64 (rd_T90 ts ↑i).f3, .int .i64 (rd_T90 ts ↑i).f4, .slice A5 (rd_T90 ts ↑i).f5.length c5, .slice A6 (rd_T90 ts ↑i).f6.length c6] : List Value)[j]? = some u → w.cell? (ad.add (i * 7 + j)) = some u := hcc
      have p0 := hcc' 0 _ rfl
      rw [Nat.add_zero] at p0
      have p1 := hcc' 1 _ rfl
      have p2 := hcc' 2 _ rfl
      have p3 := hcc' 3 _ rfl
      have p4 := hcc' 4 _ rfl
      have p5 := hcc' 5 _ rfl
      have p6 := hcc' 6 _ rfl
      rw [add_field _ _ 1 (by omega)] at p1
      rw [add_field _ _ 2 (by omega)] at p2
      rw [add_field _ _ 3 (by omega)] at p3
      rw [add_field _ _ 4 (by omega)] at p4
      rw [add_field _ _ 5 (by omega)] at p5
      rw [add_field _ _ 6 (by omega)] at p6
      clear hcc hcc' hcl hFK
      have hadb := World.block_lt_of_cell? w _ p0
      have G5 := Aside0.mk (Kd.F_bound g5)
      have L5 := Aside0.mk l5
      have G6 := Aside0.mk (Kd.F_bound g6)
      have L6 := Aside0.mk l6
      have P0 := Aside0.mk p0
      have P1 := Aside0.mk p1
      have P2 := Aside0.mk p2
      have P3 := Aside0.mk p3
      have P4 := Aside0.mk p4
      have P5 := Aside0.mk p5
      have P6 := Aside0.mk p6
      clear g5 l5 g6 l6 p0 p1 p2 p3 p4 p5 p6
      go_upto_block 2 with fail
      go_cut [5] (fun kk wx => ∃ k : Nat, kk = .int .i64 k ∧ k ≤ l.length ∧ Aside0 (Kd.N k90 90 wx w.heap.size (fun q => okI q ∨ w.heap.size ≤ q) (.slice A l.length c) l) ∧ Aside0 (wx.heap[w.heap.size]? = some (.cells #[.int .i64 a0, .int .i64 a1, .slice (some ad) ts.length c0] 54 (0, 0))) ∧ Aside0 (Below w.heap.size w wx))
      case first =>
        go_wp2_with fail
        go_loopw [5] (fun kk wx => ∃ k : Nat, kk = .int .i64 k ∧ k ≤ l.length ∧ Aside0 (Kd.N k90 90 wx w.heap.size (fun q => okI q ∨ w.heap.size ≤ q) (.slice A l.length c) l) ∧ Aside0 (wx.heap[w.heap.size]? = some (.cells #[.int .i64 a0, .int .i64 a1, .slice (some ad) ts.length c0] 54 (0, 0))) ∧ Aside0 (Below w.heap.size w wx)) (fun kk _ => (intOf kk).toNat)
        case atStart => exact ⟨l.length, rfl, Nat.le_refl _, HV, BN, HB⟩
        case round =>
          clear HV BN HB n2
          obtain ⟨k, rfl, hk, HV, BN, HB⟩ := hrel
          have n2 : wr.cell? ⟨w.heap.size, 2, none⟩ = some (.slice (some ad) ts.length c0) := (blk_cell BN.out 2).trans rfl
          have p4 := (HB.out.cell (p := ⟨(ad.add (i * 7)).block, (ad.add (i * 7)).off + 4, none⟩) hadb).trans P4.out
          by_cases hk0 : 0 < k
          · have hb : decide ((0 : Int) < k) = true := by simp; omega
            have hk1 : (0 : Int) < k := by omega
            have hk2 : (k : Int) - 1 < l.length := by omega
            have hk3 : (0 : Int) ≤ (k : Int) - 1 := by omega
            obtain ⟨ad2, B5, d5, B6, d6, ea2, q0, q1, q2, q3, q4, q5, q6, -⟩ := at_T90 (Kd.N_reads' HV.out).2.2 ((k : Int) - 1) (by omega) (by omega)
            subst ea2
            rw [show ((k : Int) - 1).toNat = k - 1 by omega] at q0 q1 q2 q3 q4 q5 q6
            clear q0 q1 q2 q3 q5 q6
            go_upto_region 6 with fail
            go_quiet (fail)
            go_wp2_with fail
            · go_roundw
              case rel => exact ⟨k - 1, by go_num, by omega, ⟨Kd.N_drewN HV.out _⟩, ⟨blk_drewN BN.out _⟩, ⟨pw_below_drewN HB.out _⟩⟩
              case measure => simp [intOf]; omega
            · go_meet
              case rel => exact ⟨k, rfl, hk, ⟨Kd.N_drewN HV.out _⟩, ⟨blk_drewN BN.out _⟩, ⟨pw_below_drewN HB.out _⟩⟩
          · have hb : decide ((0 : Int) < k) = false := by simp; omega
            have hk1 : ¬ (0 : Int) < k := by omega
            go_upto_region 6 with fail
            go_quiet (fail)
            go_wp2_with fail
            go_meet
            case rel => exact ⟨k, rfl, hk, ⟨Kd.N_drewN HV.out _⟩, ⟨blk_drewN BN.out _⟩, ⟨pw_below_drewN HB.out _⟩⟩
      case rest =>
      clear HV BN HB n2
      obtain ⟨k, rfl, hk, HV, BN, HB⟩ := hcut
      have hL6 : l.length ≤ 6 := by omega
      have HFl := Aside0.mk (Kd.F_bound (Kd.N_F HV.out))
      have HFt := Aside0.mk (Kd.F_bound (Kd.N_F (Kd.N_take HV.out hk)))
      have hlc : l.length ≤ c := (Kd.N_reads' HV.out).2.1
      go_wp2_with (at_builtin; refine Kd.N_append_rows k90 (w0 := w) w.heap.size rfl (.tmp 35) (.tmp 38) 52 90 _ 88 rfl Tryd.underlying52 info90 rfl (by decide) (by decide) (.slice (some ⟨wc.heap.size, 0, none⟩) 0 0) [] (l.take k) A k c (fun q => okI q ∨ w.heap.size ≤ q) (fun q => (okI q ∨ w.heap.size ≤ q) ∧ q < wc.heap.size) rfl rfl ?cO ?cF ?cP ?cQ ?cB ?cS ?cL ?cR)
      case cO => exact N_empty k90 90 _ wc HB.out.size (.inr HB.out.size)
      case cF => exact Kd.F_alloc HFt.out _
      case cP =>
        intro q hq
        refine ⟨hq.1, fun e => ?_⟩
        have e' : q = wc.heap.size := Option.some.inj e
        have := hq.2
        omega
      case cQ => intro q hq; exact .inr (by have := HB.out.size; simp at hq; omega)
      case cB => exact below_alloc HB.out _
      case cS => have := HB.out.size; simp; omega
      case cL => rw [List.length_nil]; omega
      case cR =>
      intro v1 w1 ho hb hg hat
      have hsz := HB.out.size
      have hown1 : ∀ q, v1.ownBlock = some q → wc.heap.size ≤ q := by
        intro q hq
        rcases hat with hat | ⟨b, hb', hle⟩
        · rw [hat] at hq
          have e' : wc.heap.size = q := Option.some.inj hq
          omega
        · rw [hb'] at hq
          have e' : b = q := Option.some.inj hq
          try simp at hle
          omega
      have HO := Aside0.mk ho
      have HB1 := Aside0.mk hb
      have HFl1 := Aside0.mk (Kd.F_grown (Kd.F_alloc HFl.out _) hg (fun q hq e => by have e' : q = wc.heap.size := Option.some.inj e; have := hq.2; omega))
      have BN1 := Aside0.mk (blk_grown (blk_alloc BN.out _) hg (fun e => by have e' : w.heap.size = wc.heap.size := Option.some.inj e; have := blk_lt BN.out; omega))
      have HW1 := Aside0.mk hown1
      have hsz1 := hg.size
      try simp at hsz1
      clear ho hb hg hat hown1
      have n2 : w1.cell? ⟨w.heap.size, 2, none⟩ = some (.slice (some ad) ts.length c0) := (blk_cell BN1.out 2).trans rfl
      have p0 := (HB1.out.cell (p := ad.add (i * 7)) hadb).trans P0.out
      have p1 := (HB1.out.cell (p := ⟨(ad.add (i * 7)).block, (ad.add (i * 7)).off + 1, none⟩) hadb).trans P1.out
      have p2 := (HB1.out.cell (p := ⟨(ad.add (i * 7)).block, (ad.add (i * 7)).off + 2, none⟩) hadb).trans P2.out
      have p3 := (HB1.out.cell (p := ⟨(ad.add (i * 7)).block, (ad.add (i * 7)).off + 3, none⟩) hadb).trans P3.out
      have p4 := (HB1.out.cell (p := ⟨(ad.add (i * 7)).block, (ad.add (i * 7)).off + 4, none⟩) hadb).trans P4.out
      have p5 := (HB1.out.cell (p := ⟨(ad.add (i * 7)).block, (ad.add (i * 7)).off + 5, none⟩) hadb).trans P5.out
      have p6 := (HB1.out.cell (p := ⟨(ad.add (i * 7)).block, (ad.add (i * 7)).off + 6, none⟩) hadb).trans P6.out
      go_wp2_with (at_builtin; refine Kd.N_append k90 (w0 := w) w.heap.size rfl (.tmp 40) (.tmp 46) 52 90 _ 88 rfl Tryd.underlying52 info90 rfl (by decide) (by decide) v1 ([] ++ l.take k) (rd_T90 ts ↑i) [.int .i64 (rd_T90 ts ↑i).f0, .int .i64 (rd_T90 ts ↑i).f1, .int .i64 (rd_T90 ts ↑i).f2, .int .i64 (rd_T90 ts ↑i).f3, .int .i64 (rd_T90 ts ↑i).f4, .slice A5 (rd_T90 ts ↑i).f5.length c5, .slice A6 (rd_T90 ts ↑i).f6.length c6] (fun q => okI q ∨ w.heap.size ≤ q) (fun q => okI q ∧ q < w.heap.size) rfl rfl ?dK ?dP (fun q hq => .inr (Nat.le_trans HB1.out.size hq)) ?dO ?dB ?dS ?dL ?dR)
      case dK => exact k90_mkF w1 _ (rd_T90 ts ↑i) L5.out (Kd.F_step G5.out (fun q hq _ => HB1.out.block q hq.2)) L6.out (Kd.F_step G6.out (fun q hq _ => HB1.out.block q hq.2))
      case dP => intro q hq; exact ⟨.inl hq.1, fun e => by have := HW1.out q e.symm; have := hq.2; have := HB.out.size; omega⟩
      case dO => exact HO.out
      case dB => exact HB1.out
      case dS => exact HB1.out.size
      case dL => have : ([] ++ l.take k).length ≤ l.length := by simp; omega
                 omega
      case dR =>
      intro v2 w2 ho hb hg hat
      have hown2 : ∀ q, v2.ownBlock = some q → wc.heap.size ≤ q := by
        intro q hq
        rcases hat with hat | ⟨b, hb', hle⟩
        · rw [hat] at hq
          exact HW1.out q hq
        · rw [hb'] at hq
          have e' : b = q := Option.some.inj hq
          omega
      have HO2 := Aside0.mk ho
      have HB2 := Aside0.mk hb
      have HFl2 := Aside0.mk (Kd.F_grown HFl1.out hg (fun q hq e => by have := HW1.out q e.symm; have := hq.2; omega))
      have BN2 := Aside0.mk (blk_grown BN1.out hg (fun e => by have := HW1.out _ e.symm; have := blk_lt BN.out; omega))
      have HW2 := Aside0.mk hown2
      clear ho hb hg hat hown2 n2 p0 p1 p2 p3 p4 p5 p6
      have hcf := fun W => cut_from 52 90 .i64 Tryd.underlying52 (show Tryd.prog.info? 90 = some _ from rfl) 7 (by rfl) A l.length c (k : Int) (by omega) (by omega) W
      go_wp2_with (at_builtin; refine Kd.N_append_rows k90 (w0 := w) w.heap.size rfl (.tmp 48) (.tmp 51) 52 90 _ 88 rfl Tryd.underlying52 info90 rfl (by decide) (by decide) v2 (([] ++ l.take k) ++ [rd_T90 ts ↑i]) (l.drop k) (if c = k then A else A.map (·.add (k * 7))) (l.length - k) (c - k) (fun q => okI q ∨ w.heap.size ≤ q) (fun q => (okI q ∨ w.heap.size ≤ q) ∧ q < wc.heap.size) rfl rfl ?cO ?cF ?cP ?cQ ?cB ?cS ?cL ?cR)
      case cF.inl =>
        have e : c = k := by assumption
        have := Kd.F_cut HFl2.out hk hlc
        rw [if_pos e, List.length_drop] at this
        exact this
      case cF.inr =>
        have e : ¬ c = k := by assumption
        have := Kd.F_cut HFl2.out hk hlc
        rw [if_neg e, List.length_drop] at this
        exact this
      all_goals first | exact HO2.out | exact HB2.out | exact HB2.out.size | (intro q hq; exact ⟨hq.1, fun e => by have := HW2.out q e.symm; have := hq.2; omega⟩) | (intro q hq; exact .inr (Nat.le_trans HB2.out.size hq)) | (simp; omega; done) | skip
      all_goals
      intro v3 w3 ho hb hg hat
      have hl3 : ((l.take k ++ rd_T90 ts ↑i :: l.drop k)).length = l.length + 1 := by simp; omega
      have BN3 := Aside0.mk (blk_grown BN2.out hg (fun e => by have := HW2.out _ e.symm; have := blk_lt BN.out; omega))
      have HO3 := Aside0.mk ho
      have HB3 := Aside0.mk hb
      have hl4 : ((l.take k ++ rd_T90 ts ↑i :: l.drop k)).length ≤ i + 1 := by omega
      have hl5 : i + 1 ≤ ((l.take k ++ rd_T90 ts ↑i :: l.drop k)).length := by omega
      have HM3 : Aside0 (∀ x ∈ ts.take (i + 1), x ∈ (l.take k ++ rd_T90 ts ↑i :: l.drop k)) := ⟨fun x hx => by
        rw [List.take_succ_eq_append_getElem hin] at hx
        rcases List.mem_append.1 hx with hx | hx
        · have hm := HM.out x hx
          rw [← List.take_append_drop k l] at hm
          simp only [List.mem_append, List.mem_cons] at hm ⊢
          rcases hm with hm | hm
          · exact .inl hm
          · exact .inr (.inr hm)
        · have e : x = rd_T90 ts ↑i := by
            simp at hx
            rw [hx]
            simp [rd_T90, List.getD_eq_getElem?_getD, hin]
          rw [e]
          simp⟩
      generalize l.take k ++ rd_T90 ts ↑i :: l.drop k = l3 at hl4 hl5 HM3 HO3
      clear ho hb hg hat hl3 hcf
      go_wp2_with fail
      go_roundw
      case rel => exact ⟨i + 1, v3, l3, by go_num, rfl, by omega, hl4, hl5, HM3, HO3, BN3, HB3⟩
      case measure => simp [intOf]; omega
    · go_wp2_with fail
      go_ret
      exact ⟨A, c, l, rfl, by omega, by have := HM.out; rwa [List.take_of_length_le (by omega)] at this, (Kd.N_reads' HV.out).2.1, Kd.N_F HV.out, HB.out⟩
end Go.Proofs.YtbldolbeijpipaaDoor
