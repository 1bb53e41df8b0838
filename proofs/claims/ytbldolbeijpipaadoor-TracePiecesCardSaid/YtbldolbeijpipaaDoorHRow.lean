import Derived.Test.YtbldolbeijpipaaDoorHAsk
import Derived.Deep.CutRange
import Derived.Deep.DeepCutAuto
namespace Go.Proofs.YtbldolbeijpipaaDoor
open Go.RowKit Go.Proofs.YtbldolbeijpipaaDoorW.PrintWords Go.Proofs.YtbldolbeijpipaaDoorW.PrintLast Go.Proofs.YtbldolbeijpipaaDoorW.PrintMore
set_option linter.unusedVariables false
set_option linter.unusedSimpArgs false

/-- A store into a block of slots. -/
theorem XI.slot {w : World} {B bx g : Nat} {s : XS} {cs : Array Value} (h : XI w B bx s) (hg : w.heap[g]? = some (.cells cs 43 (0, 0))) (hB : B ≤ g) (j : Nat) (v : Value) : XI (w.setCell ⟨g, j, none⟩ v) B bx s := by
  have k : KeptT [43] B w (w.setCell ⟨g, j, none⟩ v) := (KeptT.refl _ _ _).set hg hB (by simp) j v
  exact ⟨k.blk h.blk (by simp), h.hB, h.r.kept k (by simp) (by simp) (by simp) (by simp), h.run, h.all, h.now0⟩
theorem XI.slot6 {w : World} {B bx g : Nat} {s : XS} {cs : Array Value} (h : XI w B bx s) (hg : w.heap[g]? = some (.cells cs 43 (0, 0))) (hB : B ≤ g) (v0 v1 v2 v3 v4 v5 : Value) :
    XI ((((((w.setCell ⟨g, 0, none⟩ v0).setCell ⟨g, 1, none⟩ v1).setCell ⟨g, 2, none⟩ v2).setCell ⟨g, 3, none⟩ v3).setCell ⟨g, 4, none⟩ v4).setCell ⟨g, 5, none⟩ v5) B bx s :=
  (((((h.slot hg hB 0 v0).slot (blk_set hg 0 v0) hB 1 v1).slot (blk_set (blk_set hg 0 v0) 1 v1) hB 2 v2).slot (blk_set (blk_set (blk_set hg 0 v0) 1 v1) 2 v2) hB 3 v3).slot (blk_set (blk_set (blk_set (blk_set hg 0 v0) 1 v1) 2 v2) 3 v3) hB 4 v4).slot (blk_set (blk_set (blk_set (blk_set (blk_set hg 0 v0) 1 v1) 2 v2) 3 v3) 4 v4) hB 5 v5
theorem add_zero_none (g m : Nat) : (⟨g, 0, none⟩ : Addr).add m = ⟨g, m, none⟩ := by
  unfold Addr.add
  by_cases h : m = 0 <;> simp [h]
/-- The jobs' row, laid open: its block is its own. -/
theorem XI.row {w : World} {B bx : Nat} {s : XS} (h : XI w B bx s) (hn : 0 < s.l.length) : ∃ g c, s.vL = .slice (some ⟨g, 0, none⟩) s.l.length c ∧ s.l.length ≤ c ∧ B ≤ g ∧ g ≠ bx ∧ g < w.heap.size ∧ (∀ j, w.frozen? ⟨g, j, none⟩ = false) ∧ (∃ cells, w.heap[g]? = some (.cells cells 159 (0, 0))) ∧ Kd.C k159 w (some ⟨g, 0, none⟩) s.l.length s.l := by
  obtain ⟨inner, ho⟩ := h.ownL
  obtain ⟨ad, c, e, hc, hC⟩ := h.one 0 (by omega) (by omega)
  rcases ho.2 with ⟨_, h0⟩ | ⟨g, cap, cur, e2, hb, hh, _⟩
  · omega
  rw [e2] at e
  injection e with e _ e3
  injection e with e
  subst e
  subst e3
  exact ⟨g, cap, e2, hc, hb, fun e => h.neL (by rw [e2, ← e]; rfl), blk_lt hh, fun j => blk_frozen hh j, ⟨cur, hh⟩, hC⟩
def jobCells (x : S159) : List Value := [.int .i64 x.f0, .int .i64 x.f1, .int .i64 x.f2, .int .i64 x.f3, .int .i64 x.f4, .int .i64 x.f5, .int .i64 x.f6, .int .i64 x.f7, .int .u64 x.f8, .int .u64 x.f9, .int .u64 x.f10, .int .u64 x.f11, .int .i64 x.f12, .bool x.f13]
theorem row_cells {w : World} {g n : Nat} {l : List S159} (h : Kd.C k159 w (some ⟨g, 0, none⟩) n l) (i : Int) (h0 : 0 ≤ i) (h1 : i < n) (j : Nat) (u : Value) (hu : (jobCells (rd_T159 l i))[j]? = some u) : w.cell? ⟨g, i.toNat * 14 + j, none⟩ = some u := by
  obtain ⟨ad, e, p0, p1, p2, p3, p4, p5, p6, p7, p8, p9, p10, p11, p12, p13⟩ := at_T159 h i h0 h1
  cases e
  rw [add_zero_none] at p0 p1 p2 p3 p4 p5 p6 p7 p8 p9 p10 p11 p12 p13
  match j, hu with
  | 0, hu => rw [← hu]; exact p0
  | 1, hu => rw [← hu]; exact p1
  | 2, hu => rw [← hu]; exact p2
  | 3, hu => rw [← hu]; exact p3
  | 4, hu => rw [← hu]; exact p4
  | 5, hu => rw [← hu]; exact p5
  | 6, hu => rw [← hu]; exact p6
  | 7, hu => rw [← hu]; exact p7
  | 8, hu => rw [← hu]; exact p8
  | 9, hu => rw [← hu]; exact p9
  | 10, hu => rw [← hu]; exact p10
  | 11, hu => rw [← hu]; exact p11
  | 12, hu => rw [← hu]; exact p12
  | 13, hu => rw [← hu]; exact p13
  | n + 14, hu => simp [jobCells] at hu

theorem XI.putRow {W W1 : World} {B bx g c : Nat} {s : XS} (h : XI W B bx s) (ev : s.vL = .slice (some ⟨g, 0, none⟩) s.l.length c) (i : Int) (h0 : 0 ≤ i) (h1 : i < s.l.length) (x' : S159)
    (j : Nat) (seg : List Value) (hW : W1 = W.setCells g (i.toNat * 14 + j) seg) (hj : j + seg.length ≤ 14) (hM : (jobCells (rd_T159 s.l i)).take j ++ seg ++ (jobCells (rd_T159 s.l i)).drop (j + seg.length) = jobCells x')
    (hx : 1 ≤ x'.f0 ∧ x'.f0 ≤ s.ts.length ∧ 0 ≤ x'.f1 ∧ x'.f1 ≤ s.now) : XI W1 B bx { s with l := s.l.set i.toNat x' } ∧ KeptT [147, 3, 159, 164] B W W1 := by
  subst hW
  obtain ⟨g', c', ev', hcc, hB, hne, hlt, hf, ⟨cells, hty⟩, hC⟩ := h.row (by omega)
  rw [ev] at ev'
  injection ev' with e1 _ e2
  injection e1 with e1
  injection e1 with e1
  subst e1
  subst e2
  have hR := h.r.l
  rw [ev] at hR
  obtain ⟨hr, hg⟩ := Kd.R_seg hR i h0 h1 (c := jobCells (rd_T159 s.l i)) (seg := seg) (j := j) rfl (fun j u hu => row_cells hC i h0 h1 j u hu) hj (x' := x') (okp := fun _ => False) (by rw [hM]; exact k159_mkM _ _ _ _) (fun _ h => h.elim)
  have K : ∀ T : List Nat, 159 ∈ T → KeptT T B W (W.setCells g (i.toNat * 14 + j) seg) := fun T hT => (KeptT.refl _ _ _).grown h.szB hg (fun k e => by injection e with e; subst e; exact ⟨hB, cells, 159, hty, hT⟩)
  have k := K [159] (by simp)
  refine ⟨⟨?_, h.hB, ⟨h.r.nx, Kd.F_stays h.r.ts k.bel, h.r.id, h.r.six, h.r.ch, h.r.cap, Kd.F_stays h.r.th k.bel, h.r.thl, Kd.F_stays h.r.q k.bel, h.r.ql, h.r.bcB, k.blk h.r.bc (by simp), k.owns h.r.own (by simp), ?_, k.owns h.r.es (by simp)⟩, ?_, ?_, h.now0⟩, K _ (by simp)⟩
  · exact k.blk h.blk (by simp)
  · show Kd.R k159 159 _ B _ s.vL _
    rw [ev]
    exact hr
  · show -1 ≤ s.run ∧ s.run < (s.l.set _ _).length
    rw [List.length_set]
    exact h.run
  · intro y hy
    rcases List.mem_or_eq_of_mem_set hy with hy | rfl
    · exact h.all y hy
    · exact hx

theorem own_fill8 {w : World} {B g : Nat} {v : Value} {own : List Int} {c : Array Value} (hg : w.heap[g]? = some (.cells c 155 (0, 0))) (ho : w.ownsRow B 3 1 v own.length (nums .i64 own)) (v0 v1 v2 v3 v4 v5 v6 v7 : Value) :
    ((((((((w.setCell ⟨g, 0, none⟩ v0).setCell ⟨g, 1, none⟩ v1).setCell ⟨g, 2, none⟩ v2).setCell ⟨g, 3, none⟩ v3).setCell ⟨g, 4, none⟩ v4).setCell ⟨g, 5, none⟩ v5).setCell ⟨g, 6, none⟩ v6).setCell ⟨g, 7, none⟩ v7).ownsRow B 3 1 v own.length (nums .i64 own) := by
  have k0 := (KeptT.refl [155] 0 w).set hg (Nat.zero_le _) (by simp) 0 v0
  have h0 := blk_set hg 0 v0
  have k1 := k0.set h0 (Nat.zero_le _) (by simp) 1 v1
  have h1 := blk_set h0 1 v1
  have k2 := k1.set h1 (Nat.zero_le _) (by simp) 2 v2
  have h2 := blk_set h1 2 v2
  have k3 := k2.set h2 (Nat.zero_le _) (by simp) 3 v3
  have h3 := blk_set h2 3 v3
  have k4 := k3.set h3 (Nat.zero_le _) (by simp) 4 v4
  have h4 := blk_set h3 4 v4
  have k5 := k4.set h4 (Nat.zero_le _) (by simp) 5 v5
  have h5 := blk_set h4 5 v5
  have k6 := k5.set h5 (Nat.zero_le _) (by simp) 6 v6
  have h6 := blk_set h5 6 v6
  have k7 := k6.set h6 (Nat.zero_le _) (by simp) 7 v7
  exact k7.owns ho (by simp)
/-- Its cache's row has turned. -/
theorem XI.stepped {W w4 : World} {B bx : Nat} {s : XS} {own : List Int} (h : XI W B bx s) (k : KeptT [3] B W w4) (ho : w4.ownsRow B 3 1 s.vC own.length (nums .i64 own)) : XI w4 B bx { s with own := own } :=
  ⟨k.blk h.blk (by simp), h.hB, ⟨h.r.nx, Kd.F_stays h.r.ts k.bel, h.r.id, h.r.six, h.r.ch, h.r.cap, Kd.F_stays h.r.th k.bel, h.r.thl, Kd.F_stays h.r.q k.bel, h.r.ql, h.r.bcB, k.blk h.r.bc (by simp), ho,
    ⟨h.r.l.1, h.r.l.2.imp_ (fun _ _ hp => hp) |> fun ⟨inner, ho, hr⟩ => ⟨inner, k.owns ho (by simp), hr⟩⟩, k.owns h.r.es (by simp)⟩, h.run, h.all, h.now0⟩
theorem KeptT.wide {T T' : List Nat} {B : Nat} {w w1 : World} (h : KeptT T B w w1) (hT : ∀ x ∈ T, x ∈ T') : KeptT T' B w w1 := ⟨h.bel, fun k hk ht => h.keep k hk (fun c t f hc hm => ht c t f hc (hT t hm))⟩
abbrev slotV (x : S43) : Value := .agg #[.int .i64 x.f0, .int .i64 x.f1, .int .i64 x.f2, .int .i64 x.f3, .bool x.f4, .int .i64 x.f5]
/-- What a slot of the executive's may say. -/
def SlotOK (n : Nat) (x : S43) : Prop := 0 ≤ x.f0 ∧ ((x.f1 = 0 ∧ x.f2 = 0 ∧ x.f3 = 0 ∧ x.f4 = false ∧ x.f5 = 0) ∨ (1 ≤ x.f1 ∧ x.f1 ≤ n ∧ 0 ≤ x.f2 ∧ x.f2 ≤ x.f0 ∧ (x.f3 = 1 ∨ x.f3 = 2) ∧ (x.f4 = true → x.f3 = 1) ∧ 0 ≤ x.f5 ∧ x.f5 ≤ n))
def TickP (w : World) (B bx : Nat) (s : XS) (e : Ending) (w' : World) : Prop := ∃ (x : S43) (s' : XS), e = .returned (slotV x) ∧ x.f0 = s.now ∧ SlotOK s.ts.length x ∧ XI w' B bx s' ∧ s'.ts = s.ts ∧ s'.now = s.now + 1 ∧ s'.l.length ≤ s.l.length ∧ s'.m ≤ s.m + 1 ∧ KeptT [147, 3, 159, 164] B w w'

theorem grown_set (w : World) (g j : Nat) (v : Value) : w.grownBy (w.setCell ⟨g, j, none⟩ v) (some g) := ⟨rfl, rfl, rfl, by simp, fun k _ hk => Below.heap_setCell _ _ _ _ (fun e => hk (by rw [e]))⟩
/-- Another block has turned. -/
theorem XI.off {w w' : World} {B bx g t : Nat} {s : XS} {cs : Array Value} (h : XI w B bx s) (hg : w.grownBy w' (some g)) (hty : w.heap[g]? = some (.cells cs t (0, 0))) (hB : B ≤ g) (h1 : t ≠ 147) (h2 : t ≠ 194) (h3 : t ≠ 3) (h4 : t ≠ 164) (hn : some g ≠ s.vL.ownBlock) : XI w' B bx s := by
  have hk : KeptT [t] B w w' := (KeptT.refl _ _ _).grown h.szB hg (fun k e => by injection e with e; subst e; exact ⟨hB, cs, t, hty, by simp⟩)
  obtain ⟨hl1, inner, ho, hr⟩ := h.r.l
  refine ⟨hk.blk h.blk (by simpa using fun e => h1 e.symm), h.hB, ⟨h.r.nx, Kd.F_stays h.r.ts hk.bel, h.r.id, h.r.six, h.r.ch, h.r.cap, Kd.F_stays h.r.th hk.bel, h.r.thl, Kd.F_stays h.r.q hk.bel, h.r.ql, h.r.bcB, hk.blk h.r.bc (by simpa using fun e => h2 e.symm), hk.owns h.r.own (by simpa using fun e => h3 e.symm), ⟨hl1, inner, own_move ho (fun k hk => hg.block k (own_lt ho k hk) (fun e => hn (by rw [← e]; exact hk.symm))), hr⟩, hk.owns h.r.es (by simpa using fun e => h4 e.symm)⟩, h.run, h.all, h.now0⟩
theorem own_ne {w : World} {B e sz n g t : Nat} {v : Value} {xs : List Value} {cs : Array Value} (ho : w.ownsRow B e sz v n xs) (hg : w.heap[g]? = some (.cells cs t (0, 0))) (ht : t ≠ e) : some g ≠ v.ownBlock := fun h => by
  obtain ⟨c, hc⟩ := own_typed ho g h.symm
  rw [hc] at hg
  injection hg with hg
  injection hg with _ hg
  exact ht hg.symm
/-- Its row of endings has turned, and its field tells the new one. -/
theorem XI.putE {W w4 : World} {B bx : Nat} {s : XS} {v1 : Value} {es' : List Value} (h : XI W B bx s) (hg : W.grownBy w4 s.vE.ownBlock) (ho' : w4.ownsRow B 164 5 v1 (s.m + 1) es') :
    XI (w4.setCell ⟨bx, 14, none⟩ v1) B bx { s with vE := v1, m := s.m + 1, es := es' } ∧ KeptT [147, 3, 159, 164] B W (w4.setCell ⟨bx, 14, none⟩ v1) := by
  have ho := h.r.es
  have K : ∀ T : List Nat, 164 ∈ T → KeptT T B W w4 := fun T hT => (KeptT.refl _ _ _).grown h.szB hg (fun k e => ⟨own_base ho k e, by obtain ⟨c, hc⟩ := own_typed ho k e; exact ⟨c, 164, hc, hT⟩⟩)
  have hk := K [164] (by simp)
  have hb4 : w4.heap[bx]? = some (.cells s.cells 147 (0, 0)) := hk.blk h.blk (by simp)
  have k2 : KeptT [147] B w4 (w4.setCell ⟨bx, 14, none⟩ v1) := (KeptT.refl _ _ _).set hb4 h.hB (by simp) 14 v1
  have k3 : KeptT [147, 164] B W (w4.setCell ⟨bx, 14, none⟩ v1) := (K _ (by simp)).set hb4 h.hB (by simp) 14 v1
  refine ⟨⟨blk_put hb4 14 _ rfl, h.hB, ⟨h.r.nx, Kd.F_stays h.r.ts k3.bel, h.r.id, h.r.six, h.r.ch, h.r.cap, Kd.F_stays h.r.th k3.bel, h.r.thl, Kd.F_stays h.r.q k3.bel, h.r.ql, h.r.bcB, k3.blk h.r.bc (by simp), k3.owns h.r.own (by simp),
    ⟨h.r.l.1, h.r.l.2.imp_ (fun _ _ hp => hp) |> fun ⟨inner, ho, hr⟩ => ⟨inner, k3.owns ho (by simp), hr⟩⟩, k2.owns ho' (by simp)⟩, h.run, h.all, h.now0⟩, (K _ (by simp)).set hb4 h.hB (by simp) 14 v1⟩
theorem info164 : (Tryd.prog.info? 164).map (fun i => (i.zero, i.size, i.bytes)) = some (some (.agg #[.int .i64 0, .int .i64 0, .int .i64 0, .int .i64 0, .int .i64 0]), 5, 40) := by kernel_rfl
/-- A done job has gone: its row, its running place, its flag. -/
theorem XI.doneL {w : World} {B bx : Nat} {s : XS} {v2 : Value} {l' : List S159} (h : XI w B bx s) (hR : Kd.R k159 159 w B (fun _ => True) v2 l') (hall : ∀ x ∈ l', x ∈ s.l) :
    XI (((w.setCell ⟨bx, 9, none⟩ v2).setCell ⟨bx, 10, none⟩ (.int .i64 (-1))).setCell ⟨bx, 11, none⟩ (.bool false)) B bx { s with vL := v2, l := l', run := -1, on := false } ∧ KeptT [147, 3, 159, 164] B w (((w.setCell ⟨bx, 9, none⟩ v2).setCell ⟨bx, 10, none⟩ (.int .i64 (-1))).setCell ⟨bx, 11, none⟩ (.bool false)) := by
  have c1 : (w.setCell ⟨bx, 9, none⟩ v2).heap[bx]? = _ := blk_set h.blk 9 v2
  have c2 : ((w.setCell ⟨bx, 9, none⟩ v2).setCell ⟨bx, 10, none⟩ (.int .i64 (-1))).heap[bx]? = _ := blk_set c1 10 (.int .i64 (-1))
  have K : ∀ T : List Nat, 147 ∈ T → KeptT T B w (((w.setCell ⟨bx, 9, none⟩ v2).setCell ⟨bx, 10, none⟩ (.int .i64 (-1))).setCell ⟨bx, 11, none⟩ (.bool false)) := fun T hT =>
    (((KeptT.refl T B w).set h.blk h.hB hT 9 v2).set c1 h.hB hT 10 _).set c2 h.hB hT 11 _
  have k := K [147] (by simp)
  have ht : ∀ q, q ∈ 159 :: k159.E → q ≠ 147 := by intro q hq; have e : q = 159 := (by simpa [k159, Kd.iso, Kd.pair, Kd.int, Kd.bool, Kd.scalar] using hq); subst e; decide
  refine ⟨⟨blk_put (blk_put (blk_put h.blk 9 _ rfl) 10 _ rfl) 11 _ rfl, h.hB, ⟨h.r.nx, Kd.F_stays h.r.ts k.bel, h.r.id, h.r.six, h.r.ch, h.r.cap, Kd.F_stays h.r.th k.bel, h.r.thl, Kd.F_stays h.r.q k.bel, h.r.ql, h.r.bcB, k.blk h.r.bc (by simp), k.owns h.r.own (by simp),
    Kd.R_set (Kd.R_set (Kd.R_set hR h.blk ht 9 _) c1 ht 10 _) c2 ht 11 _, k.owns h.r.es (by simp)⟩, ⟨Int.le_refl _, ?_⟩, fun x hx => h.all x (hall x hx), h.now0⟩, K _ (by simp)⟩
  show (-1 : Int) < (l'.length : Int)
  omega
theorem k159_KM {w : World} {base : Nat} {okp : Nat → Prop} (x : S159) (cs : List Value) (h : k159.K w x cs) : k159.M w base okp x cs := by
  rw [k159_open h]
  exact k159_mkM _ _ _ _
theorem mem_parts {l : List S159} {a b : Nat} {x : S159} (h : x ∈ ([] ++ l.take a) ++ l.drop b) : x ∈ l := by
  rcases List.mem_append.1 h with h | h
  · rcases List.mem_append.1 h with h | h
    · cases h
    · exact List.mem_of_mem_take h
  · exact List.mem_of_mem_drop h
theorem own_at {g k : Nat} (e : (Value.slice (some ⟨g, 0, none⟩) 0 0).ownBlock = some k) : g = k := by simpa [Value.ownBlock] using e
theorem own_from {v1 : Value} {g n : Nat} (hn : g ≤ n) (h : v1.ownBlock = (Value.slice (some ⟨g, 0, none⟩) 0 0).ownBlock ∨ ∃ b, v1.ownBlock = some b ∧ n ≤ b) (k : Nat) (e : v1.ownBlock = some k) : g ≤ k := by
  rcases h with h | ⟨b, h, hb⟩
  · rw [e] at h
    have := own_at h.symm
    omega
  · rw [e] at h
    injection h with h
    omega
def firstRegion : Code → Option Nat
  | .region id _ _ => some id
  | .seq a _ => firstRegion a
  | _ => none
/-- What the text does from a region on. -/
def codeFrom (n : Nat) : Code → Option Code
  | .seq a b => if firstRegion a == some n then some (.seq a b) else match codeFrom n a with
    | some c => some c
    | none => codeFrom n b
  | .cond _ a b => match codeFrom n a with
    | some c => some c
    | none => codeFrom n b
  | _ => none
/-- The walk is at the statement list that begins with a region. -/
theorem at_seq1 {P : Program} {Q : Exit → Act → World → Prop} {a : Act} {w : World} (n : Nat) {ops : Array Oper} {d : Bool} {y : Code} (h : (Code.seq (.region n ops d) y).wp P Q a w) : (Code.seq (.region n ops d) y).wp P Q a w := h
theorem at_seq2 {P : Program} {Q : Exit → Act → World → Prop} {a : Act} {w : World} (n : Nat) {ops : Array Oper} {d : Bool} {x y : Code} (h : (Code.seq (.seq (.region n ops d) x) y).wp P Q a w) : (Code.seq (.seq (.region n ops d) x) y).wp P Q a w := h
theorem at_seq3 {P : Program} {Q : Exit → Act → World → Prop} {a : Act} {w : World} (n : Nat) {ops : Array Oper} {d : Bool} {x y z : Code} (h : (Code.seq (.seq (.seq (.region n ops d) x) y) z).wp P Q a w) : (Code.seq (.seq (.seq (.region n ops d) x) y) z).wp P Q a w := h
end Go.Proofs.YtbldolbeijpipaaDoor
