import Derived.Test.YtbldolbeijpipaaDoorHAt
namespace Go.Proofs.YtbldolbeijpipaaDoor
open Go.RowKit Go.Proofs.YtbldolbeijpipaaDoorW.PrintWords Go.Proofs.YtbldolbeijpipaaDoorW.PrintLast Go.Proofs.YtbldolbeijpipaaDoorW.PrintMore
set_option linter.unusedVariables false
set_option linter.unusedSimpArgs false

/-- Only blocks of these types, from B on, have turned; and new ones. -/
structure KeptT (T : List Nat) (B : Nat) (w w' : World) : Prop where
  bel : Below B w w'
  keep : ∀ k, k < w.heap.size → (∀ c t f, w.heap[k]? = some (.cells c t f) → t ∉ T) → w'.heap[k]? = w.heap[k]?
section
variable {T : List Nat} {B : Nat} {w w1 w2 : World}
theorem KeptT.refl (T : List Nat) (B : Nat) (w : World) : KeptT T B w w := ⟨Below.refl _ _, fun _ _ _ => rfl⟩
theorem KeptT.trans (h : KeptT T B w w1) (k : KeptT T B w1 w2) : KeptT T B w w2 :=
  ⟨h.bel.trans k.bel, fun i hi ht => by
    have e := h.keep i hi ht
    rw [k.keep i (Nat.lt_of_lt_of_le hi h.bel.size) (fun c t f hc => ht c t f (e ▸ hc)), e]⟩
theorem KeptT.of_below (hb : Below w.heap.size w w1) (hB : B ≤ w.heap.size) : KeptT T B w w1 := ⟨hb.mono hB, fun k hk _ => hb.block k hk⟩
theorem KeptT.step (h : KeptT T B w w1) (hb : Below w1.heap.size w1 w2) (hB : B ≤ w1.heap.size) : KeptT T B w w2 := h.trans (KeptT.of_below hb hB)
theorem KeptT.alloc (h : KeptT T B w w1) (hB : B ≤ w1.heap.size) (o : Obj) : KeptT T B w (w1.alloc o) := h.step (below_alloc (Below.refl _ _) o) hB
theorem KeptT.drewN (h : KeptT T B w w1) (n : Nat) : KeptT T B w (w1.drewN n) := ⟨pw_below_drewN h.bel n, h.keep⟩
theorem KeptT.drew (h : KeptT T B w w1) : KeptT T B w w1.drew := ⟨below_drew1 h.bel, h.keep⟩
theorem KeptT.grown (h : KeptT T B w w1) (hB : B ≤ w1.heap.size) {row : Option Nat} (hg : w1.grownBy w2 row) (hr : ∀ k, row = some k → B ≤ k ∧ ∃ c t, w1.heap[k]? = some (.cells c t (0, 0)) ∧ t ∈ T) : KeptT T B w w2 := by
  refine h.trans ⟨(Below.refl _ _).grown hg hB (fun k e => (hr k e).1), fun k hk ht => hg.block k hk (fun e => ?_)⟩
  obtain ⟨_, c, t, hc, hT⟩ := hr k e.symm
  exact ht c t _ hc hT
theorem KeptT.set (h : KeptT T B w w1) {g t : Nat} {cs : Array Value} (hb : w1.heap[g]? = some (.cells cs t (0, 0))) (hB : B ≤ g) (ht : t ∈ T) (j : Nat) (u : Value) : KeptT T B w (w1.setCell ⟨g, j, none⟩ u) := by
  refine h.trans ⟨(Below.refl _ _).setCell hB _, fun k hk hn => Below.heap_setCell _ _ _ _ (fun e => ?_)⟩
  subst e
  exact hn _ _ _ hb ht
theorem KeptT.loc (h : KeptT T B w w1) (hB : B ≤ w.heap.size) {g : Nat} (hg : w.heap.size ≤ g) (j : Nat) (u : Value) : KeptT T B w (w1.setCell ⟨g, j, none⟩ u) :=
  ⟨h.bel.setCell (Nat.le_trans hB hg) _, fun k hk ht => (Below.heap_setCell _ _ _ _ (by show k ≠ g; omega)).trans (h.keep k hk ht)⟩
theorem KeptT.loc0 {j : Nat} {u : Value} (h : KeptT T B w w1) (hB : B ≤ w.heap.size) : KeptT T B w (w1.setCell ⟨w.heap.size, j, none⟩ u) := h.loc hB (Nat.le_refl _) j u
theorem KeptT.loc1 {j : Nat} {u : Value} (h : KeptT T B w w1) (hB : B ≤ w.heap.size) : KeptT T B w (w1.setCell ⟨w.heap.size + 1, j, none⟩ u) := h.loc hB (by omega) j u
theorem KeptT.loc2 {j : Nat} {u : Value} (h : KeptT T B w w1) (hB : B ≤ w.heap.size) : KeptT T B w (w1.setCell ⟨w.heap.size + 1 + 1, j, none⟩ u) := h.loc hB (by omega) j u
theorem KeptT.row {e sz gC n c j : Nat} {u : Value} {xs : List Value} (h : KeptT T B w w1) (ho : w1.ownsRow B e sz (.slice (some ⟨gC, 0, none⟩) n c) n xs) (ht : e ∈ T) : KeptT T B w (w1.setCell ⟨gC, j, none⟩ u) := by
  obtain ⟨cells, hc⟩ := own_typed ho gC rfl
  exact h.set hc (own_base ho gC rfl) ht j u
theorem KeptT.blk (h : KeptT T B w w1) {g t : Nat} {cs : Array Value} {f : Nat × Nat} (hb : w.heap[g]? = some (.cells cs t f)) (ht : t ∉ T) : w1.heap[g]? = some (.cells cs t f) :=
  (h.keep g (blk_lt hb) (fun c t' f' e => by rw [hb] at e; injection e with e; injection e with _ e _; exact e ▸ ht)).trans hb
theorem KeptT.owns (h : KeptT T B w w1) {base e size n : Nat} {v : Value} {xs : List Value} (ho : w.ownsRow base e size v n xs) (ht : e ∉ T) : w1.ownsRow base e size v n xs :=
  own_move ho (fun k hk => by obtain ⟨cells, hc⟩ := own_typed ho k hk; rw [h.blk hc ht, hc])
end
theorem Kd.F_stays {α : Type} {d : Kd α} {w w1 : World} {B : Nat} {A : Option Addr} {n : Nat} {xs : List α} (h : Kd.F d w (fun k => k < B) A n xs) (hb : Below B w w1) : Kd.F d w1 (fun k => k < B) A n xs :=
  fun W hW => h W (fun k hk hlt => (hW k hk (Nat.lt_of_lt_of_le hlt hb.size)).trans (hb.block k hk))
/-- Blocks of other types have turned. -/
theorem XR.kept {w w1 : World} {B : Nat} {s : XS} {T : List Nat} (h : XR w B s) (hk : KeptT T B w w1) (h1 : 194 ∉ T) (h2 : 3 ∉ T) (h3 : 159 ∉ T) (h4 : 164 ∉ T) : XR w1 B s :=
  ⟨h.nx, Kd.F_stays h.ts hk.bel, h.id, h.six, h.ch, h.cap, Kd.F_stays h.th hk.bel, h.thl, Kd.F_stays h.q hk.bel, h.ql, h.bcB, hk.blk h.bc h1, hk.owns h.own h2,
    ⟨h.l.1, h.l.2.imp_ (fun _ _ hp => hp) |> fun ⟨inner, ho, hr⟩ => ⟨inner, hk.owns ho h3, hr⟩⟩, hk.owns h.es h4⟩
theorem XI.below {w w1 : World} {B bx : Nat} {s : XS} (h : XI w B bx s) (hb : Below w.heap.size w w1) : XI w1 B bx s := by
  have hk : KeptT [] B w w1 := KeptT.of_below hb (Nat.le_of_lt (Nat.lt_of_le_of_lt h.hB (blk_lt h.blk)))
  exact ⟨blk_below h.blk hb, h.hB, h.r.kept hk (by simp) (by simp) (by simp) (by simp), h.run, h.all, h.now0⟩
theorem XI.szB {w : World} {B bx : Nat} {s : XS} (h : XI w B bx s) : B ≤ w.heap.size := Nat.le_of_lt (Nat.lt_of_le_of_lt h.hB (blk_lt h.blk))
/-- A store into its own block. -/
theorem XI.store {w : World} {B bx : Nat} {s : XS} (h : XI w B bx s) (j : Nat) (u : Value) : XR (w.setCell ⟨bx, j, none⟩ u) B s :=
  h.r.kept (T := [147]) ((KeptT.refl _ _ _).set h.blk h.hB (by simp) j u) (by simp) (by simp) (by simp) (by simp)
theorem XI.setNow {w : World} {B bx : Nat} {s : XS} (h : XI w B bx s) (n : Int) (hn : s.now ≤ n) : XI (w.setCell ⟨bx, 8, none⟩ (.int .i64 n)) B bx { s with now := n } := by
  have r := h.store 8 (.int .i64 n)
  exact ⟨blk_put h.blk 8 _ rfl, h.hB, ⟨r.nx, r.ts, r.id, r.six, r.ch, r.cap, r.th, r.thl, r.q, r.ql, r.bcB, r.bc, r.own, r.l, r.es⟩, h.run, fun x hx => by have := h.all x hx; exact ⟨this.1, this.2.1, this.2.2.1, Int.le_trans this.2.2.2 hn⟩, Int.le_trans h.now0 hn⟩
theorem XI.setRun {w : World} {B bx : Nat} {s : XS} (h : XI w B bx s) (n : Int) (hn : -1 ≤ n ∧ n < s.l.length) : XI (w.setCell ⟨bx, 10, none⟩ (.int .i64 n)) B bx { s with run := n } := by
  have r := h.store 10 (.int .i64 n)
  exact ⟨blk_put h.blk 10 _ rfl, h.hB, ⟨r.nx, r.ts, r.id, r.six, r.ch, r.cap, r.th, r.thl, r.q, r.ql, r.bcB, r.bc, r.own, r.l, r.es⟩, hn, h.all, h.now0⟩
theorem XI.setOn {w : World} {B bx : Nat} {s : XS} (h : XI w B bx s) (b : Bool) : XI (w.setCell ⟨bx, 11, none⟩ (.bool b)) B bx { s with on := b } := by
  have r := h.store 11 (.bool b)
  exact ⟨blk_put h.blk 11 _ rfl, h.hB, ⟨r.nx, r.ts, r.id, r.six, r.ch, r.cap, r.th, r.thl, r.q, r.ql, r.bcB, r.bc, r.own, r.l, r.es⟩, h.run, h.all, h.now0⟩
theorem XI.setLd {w : World} {B bx : Nat} {s : XS} (h : XI w B bx s) (b : Bool) : XI (w.setCell ⟨bx, 12, none⟩ (.bool b)) B bx { s with ld := b } := by
  have r := h.store 12 (.bool b)
  exact ⟨blk_put h.blk 12 _ rfl, h.hB, ⟨r.nx, r.ts, r.id, r.six, r.ch, r.cap, r.th, r.thl, r.q, r.ql, r.bcB, r.bc, r.own, r.l, r.es⟩, h.run, h.all, h.now0⟩
theorem XI.setLeft {w : World} {B bx : Nat} {s : XS} (h : XI w B bx s) (n : Int) : XI (w.setCell ⟨bx, 13, none⟩ (.int .i64 n)) B bx { s with left := n } := by
  have r := h.store 13 (.int .i64 n)
  exact ⟨blk_put h.blk 13 _ rfl, h.hB, ⟨r.nx, r.ts, r.id, r.six, r.ch, r.cap, r.th, r.thl, r.q, r.ql, r.bcB, r.bc, r.own, r.l, r.es⟩, h.run, h.all, h.now0⟩
end Go.Proofs.YtbldolbeijpipaaDoor
