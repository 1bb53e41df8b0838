import Derived.Test.YtbldolbeijpipaaDoorHKinds
namespace Go.Proofs.YtbldolbeijpipaaDoor
open Go.RowKit Go.Proofs.YtbldolbeijpipaaDoorW.PrintWords Go.Proofs.YtbldolbeijpipaaDoorW.PrintLast Go.Proofs.YtbldolbeijpipaaDoorW.PrintMore
set_option linter.unusedVariables false
set_option linter.unusedSimpArgs false

/-- some bool comes back; what was there stays. -/
def SomeBool (w : World) (e : Ending) (w' : World) : Prop := ∃ b, e = .returned (.bool b) ∧ Below w.heap.size w w'
def SomeBits (w : World) (e : Ending) (w' : World) : Prop := ∃ b0 b1 b2 b3 : Int, e = .returned (.agg #[.int .u64 b0, .int .u64 b1, .int .u64 b2, .int .u64 b3]) ∧ Below w.heap.size w w'
def SomeInt (w : World) (e : Ending) (w' : World) : Prop := ∃ b : Int, e = .returned (.int .i64 b) ∧ Below w.heap.size w w'
theorem bcell {W w1 : World} (hb : Below W.heap.size W w1) : (∀ b o, b < W.heap.size → w1.cell? ⟨b, o, none⟩ = W.cell? ⟨b, o, none⟩) ∧ (∀ b o, b < W.heap.size → w1.frozen? ⟨b, o, none⟩ = W.frozen? ⟨b, o, none⟩) :=
  ⟨fun b o h => hb.cell (p := ⟨b, o, none⟩) h, fun b o h => hb.frozen (p := ⟨b, o, none⟩) h⟩
theorem blk_nw (w : World) (o : Obj) (n : Nat) (hn : n = w.heap.size) : (w.alloc o).heap[n]? = some o := by subst hn; exact heap_alloc_new w o

theorem bset0 {w W : World} {j : Nat} {v : Value} (h : Below w.heap.size w W) : Below w.heap.size w (W.setCell ⟨w.heap.size, j, none⟩ v) := below_set h (by omega)
theorem bset1 {w W : World} {j : Nat} {v : Value} (h : Below w.heap.size w W) : Below w.heap.size w (W.setCell ⟨w.heap.size + 1, j, none⟩ v) := below_set h (by omega)
theorem bset2 {w W : World} {j : Nat} {v : Value} (h : Below w.heap.size w W) : Below w.heap.size w (W.setCell ⟨w.heap.size + 1 + 1, j, none⟩ v) := below_set h (by omega)
theorem bset3 {w W : World} {j : Nat} {v : Value} (h : Below w.heap.size w W) : Below w.heap.size w (W.setCell ⟨w.heap.size + 1 + 1 + 1, j, none⟩ v) := below_set h (by omega)
theorem bset4 {w W : World} {j : Nat} {v : Value} (h : Below w.heap.size w W) : Below w.heap.size w (W.setCell ⟨w.heap.size + 1 + 1 + 1 + 1, j, none⟩ v) := below_set h (by omega)
theorem fill4 {W : World} {g : Nat} {t : TypeId} {x0 x1 x2 x3 v0 v1 v2 v3 : Value} (h : W.heap[g]? = some (.cells #[x0, x1, x2, x3] t (0, 0))) :
    ((((W.setCell ⟨g, 0, none⟩ v0).setCell ⟨g, 1, none⟩ v1).setCell ⟨g, 2, none⟩ v2).setCell ⟨g, 3, none⟩ v3).heap[g]? = some (.cells #[v0, v1, v2, v3] t (0, 0)) := by simpa using (blk_set (blk_set (blk_set (blk_set h 0 v0) 1 v1) 2 v2) 3 v3)
theorem fill6 {W : World} {g : Nat} {t : TypeId} {x0 x1 x2 x3 x4 x5 v0 v1 v2 v3 v4 v5 : Value} (h : W.heap[g]? = some (.cells #[x0, x1, x2, x3, x4, x5] t (0, 0))) :
    ((((((W.setCell ⟨g, 0, none⟩ v0).setCell ⟨g, 1, none⟩ v1).setCell ⟨g, 2, none⟩ v2).setCell ⟨g, 3, none⟩ v3).setCell ⟨g, 4, none⟩ v4).setCell ⟨g, 5, none⟩ v5).heap[g]? = some (.cells #[v0, v1, v2, v3, v4, v5] t (0, 0)) := by simpa using (blk_set (blk_set (blk_set (blk_set (blk_set (blk_set h 0 v0) 1 v1) 2 v2) 3 v3) 4 v4) 5 v5)
theorem fill7 {W : World} {g : Nat} {t : TypeId} {x0 x1 x2 x3 x4 x5 x6 v0 v1 v2 v3 v4 v5 v6 : Value} (h : W.heap[g]? = some (.cells #[x0, x1, x2, x3, x4, x5, x6] t (0, 0))) :
    (((((((W.setCell ⟨g, 0, none⟩ v0).setCell ⟨g, 1, none⟩ v1).setCell ⟨g, 2, none⟩ v2).setCell ⟨g, 3, none⟩ v3).setCell ⟨g, 4, none⟩ v4).setCell ⟨g, 5, none⟩ v5).setCell ⟨g, 6, none⟩ v6).heap[g]? = some (.cells #[v0, v1, v2, v3, v4, v5, v6] t (0, 0)) := by simpa using (blk_set (blk_set (blk_set (blk_set (blk_set (blk_set (blk_set h 0 v0) 1 v1) 2 v2) 3 v3) 4 v4) 5 v5) 6 v6)
theorem fill8 {W : World} {g : Nat} {t : TypeId} {x0 x1 x2 x3 x4 x5 x6 x7 v0 v1 v2 v3 v4 v5 v6 v7 : Value} (h : W.heap[g]? = some (.cells #[x0, x1, x2, x3, x4, x5, x6, x7] t (0, 0))) :
    ((((((((W.setCell ⟨g, 0, none⟩ v0).setCell ⟨g, 1, none⟩ v1).setCell ⟨g, 2, none⟩ v2).setCell ⟨g, 3, none⟩ v3).setCell ⟨g, 4, none⟩ v4).setCell ⟨g, 5, none⟩ v5).setCell ⟨g, 6, none⟩ v6).setCell ⟨g, 7, none⟩ v7).heap[g]? = some (.cells #[v0, v1, v2, v3, v4, v5, v6, v7] t (0, 0)) := by simpa using (blk_set (blk_set (blk_set (blk_set (blk_set (blk_set (blk_set (blk_set h 0 v0) 1 v1) 2 v2) 3 v3) 4 v4) 5 v5) 6 v6) 7 v7)
theorem fill14 {W : World} {g : Nat} {t : TypeId} {x0 x1 x2 x3 x4 x5 x6 x7 x8 x9 x10 x11 x12 x13 v0 v1 v2 v3 v4 v5 v6 v7 v8 v9 v10 v11 v12 v13 : Value} (h : W.heap[g]? = some (.cells #[x0, x1, x2, x3, x4, x5, x6, x7, x8, x9, x10, x11, x12, x13] t (0, 0))) :
    ((((((((((((((W.setCell ⟨g, 0, none⟩ v0).setCell ⟨g, 1, none⟩ v1).setCell ⟨g, 2, none⟩ v2).setCell ⟨g, 3, none⟩ v3).setCell ⟨g, 4, none⟩ v4).setCell ⟨g, 5, none⟩ v5).setCell ⟨g, 6, none⟩ v6).setCell ⟨g, 7, none⟩ v7).setCell ⟨g, 8, none⟩ v8).setCell ⟨g, 9, none⟩ v9).setCell ⟨g, 10, none⟩ v10).setCell ⟨g, 11, none⟩ v11).setCell ⟨g, 12, none⟩ v12).setCell ⟨g, 13, none⟩ v13).heap[g]? = some (.cells #[v0, v1, v2, v3, v4, v5, v6, v7, v8, v9, v10, v11, v12, v13] t (0, 0)) := by simpa using (blk_set (blk_set (blk_set (blk_set (blk_set (blk_set (blk_set (blk_set (blk_set (blk_set (blk_set (blk_set (blk_set (blk_set h 0 v0) 1 v1) 2 v2) 3 v3) 4 v4) 5 v5) 6 v6) 7 v7) 8 v8) 9 v9) 10 v10) 11 v11) 12 v12) 13 v13)
end Go.Proofs.YtbldolbeijpipaaDoor
