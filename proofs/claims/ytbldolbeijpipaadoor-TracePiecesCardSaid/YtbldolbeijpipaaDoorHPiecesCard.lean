/- TracePieces: whatever the input, the law returns true, and the input reads as it did; where the three package-level tables (of math/bits and of internal/strconv) hold what their own text lays. -/
import Derived.Test.YtbldolbeijpipaaDoorHKinds
import Derived.RangeFuncNested
import Derived.RangeFuncBound
import Derived.RangeFuncCalls
import Derived.RangeFuncLeaves
import Derived.RangeFuncGives
import Derived.Shelf.Abstract
import Derived.Shelf.RegionOpen
import Derived.WalkKit
import Derived.OwnWalkIn
import Derived.Maps.OwnIn
import Derived.Maps.AppendAt
import Derived.TacticsInMore
import Derived.LoopNIn
import Derived.LoopIn
import Derived.Test.YtbldolbeijpipaaDoorHBase
import Derived.Test.YtbldolbeijpipaaDoorHText
import Derived.Test.YtbldolbeijpipaaDoorHRun
import Derived.Test.YtbldolbeijpipaaDoorHCard
namespace Go.Proofs.YtbldolbeijpipaaDoor
open Go.RowKit Go.Proofs.YtbldolbeijpipaaDoorW.PrintWords
set_option linter.unusedVariables false
set_option linter.unusedSimpArgs false
/-! ### Pieces of slots: plain -/
def sameP (p : S41) (s : S43) : Bool := decide (0 < p.f4) && (p.f0 == s.f1 && (p.f1 == s.f2 && p.f2 == s.f3))
def nextP (p : S41) (s : S43) : S41 := if sameP p s = true then { p with f4 := p.f4 + 1 } else ⟨s.f1, s.f2, s.f3, s.f0, 1⟩
def outP (p : S41) (s : S43) : List S41 := if (decide (0 < p.f4) && !sameP p s) = true then [p] else []
def stepP (a : S41 × List S41) (s : S43) : S41 × List S41 := (nextP a.1 s, a.2 ++ outP a.1 s)
def pcs (l : List S43) : S41 × List S41 := l.foldl stepP (z41, [])
theorem pcs_take (l : List S43) (k : Nat) (x : S43) (h : l[k]? = some x) : pcs (l.take (k + 1)) = stepP (pcs (l.take k)) x := by
  rw [List.take_add_one, h, pcs, List.foldl_append]; rfl
def piecesOf (l : List S43) : List S41 := (pcs l).2 ++ (if 0 < (pcs l).1.f4 then [(pcs l).1] else [])
/-- A piece stands for the slots from n on. -/
def OneP (l : List S43) (n : Nat) (p : S41) : Prop := 1 ≤ p.f4 ∧ p.f3 = n ∧ ∀ k : Nat, (k : Int) < p.f4 → ∃ x, l[n + k]? = some x ∧ x.f1 = p.f0 ∧ x.f2 = p.f1 ∧ x.f3 = p.f2 ∧ x.f0 = p.f3 + k
def TileP (l : List S43) : Nat → List S41 → Nat → Prop
  | n, [], m => n = m
  | n, p :: ps, m => OneP l n p ∧ TileP l (n + p.f4.toNat) ps m
theorem TileP.snoc {l : List S43} : ∀ {ps : List S41} {n m : Nat} {p : S41}, TileP l n ps m → OneP l m p → TileP l n (ps ++ [p]) (m + p.f4.toNat)
  | [], n, m, p, h, ho => by
    have e : n = m := h
    subst e
    exact ⟨ho, rfl⟩
  | q :: ps, n, m, p, h, ho => ⟨h.1, TileP.snoc h.2 ho⟩
def keyP (p q : S41) : Prop := p.f0 = q.f0 ∧ p.f1 = q.f1 ∧ p.f2 = q.f2
def DiffP : List S41 → Prop
  | [] => True
  | [_] => True
  | a :: b :: l => ¬ keyP b a ∧ DiffP (b :: l)
theorem DiffP.snoc : ∀ {ps : List S41} {p q : S41}, DiffP (ps ++ [p]) → ¬ keyP q p → DiffP (ps ++ [p] ++ [q])
  | [], p, q, _, hq => ⟨hq, trivial⟩
  | [a], p, q, h, hq => ⟨h.1, hq, trivial⟩
  | a :: b :: l, p, q, h, hq => ⟨h.1, DiffP.snoc (ps := b :: l) h.2 hq⟩
theorem DiffP.last : ∀ {ps : List S41} {p q : S41}, DiffP (ps ++ [p]) → keyP q p → DiffP (ps ++ [q])
  | [], p, q, _, _ => trivial
  | [a], p, q, h, hq => ⟨fun hk => h.1 ⟨hq.1 ▸ hk.1, hq.2.1 ▸ hk.2.1, hq.2.2 ▸ hk.2.2⟩, trivial⟩
  | a :: b :: l, p, q, h, hq => ⟨h.1, DiffP.last (ps := b :: l) h.2 hq⟩
theorem DiffP.get : ∀ {ps : List S41}, DiffP ps → ∀ (i : Nat) (p q : S41), ps[i]? = some p → ps[i + 1]? = some q → ¬ keyP q p
  | [], _, i, p, q, h, _ => by simp at h
  | [a], _, i, p, q, h, h2 => by simp at h2
  | a :: b :: l, hd, 0, p, q, h, h2 => by
    simp at h h2
    subst h h2
    exact hd.1
  | a :: b :: l, hd, i + 1, p, q, h, h2 => DiffP.get (ps := b :: l) hd.2 i p q (by simpa using h) (by simpa using h2)
/-- What stands behind k slots. -/
structure PI (l : List S43) (k : Nat) (a : S41 × List S41) : Prop where
  zero : k = 0 → a = (z41, [])
  one : 0 < k → ∃ m, TileP l 0 a.2 m ∧ OneP l m a.1 ∧ m + a.1.f4.toNat = k
  diff : 0 < k → DiffP (a.2 ++ [a.1])
theorem pi_step {l : List S43} {k : Nat} {a : S41 × List S41} {x : S43} (h : PI l k a) (hx : l[k]? = some x) (h0 : x.f0 = k) : PI l (k + 1) (stepP a x) := by
  refine ⟨fun e => by omega, fun _ => ?_, fun _ => ?_⟩
  · rcases Nat.eq_zero_or_pos k with e | e
    · obtain rfl := h.zero e
      subst e
      refine ⟨0, ?_, ⟨by simp [stepP, nextP, sameP, z41], by simp [stepP, nextP, sameP, z41, h0], fun j hj => ?_⟩, by simp [stepP, nextP, sameP, z41]⟩
      · show TileP l 0 ([] ++ outP z41 x) 0
        simp [outP, z41, TileP]
      · have : j = 0 := by simp [stepP, nextP, sameP, z41] at hj; omega
        subst this
        exact ⟨x, by simpa using hx, by simp [stepP, nextP, sameP, z41], by simp [stepP, nextP, sameP, z41], by simp [stepP, nextP, sameP, z41], by simp [stepP, nextP, sameP, z41]⟩
    · obtain ⟨m, ht, ho, hm⟩ := h.one e
      have hp : 0 < a.1.f4 := by have := ho.1; omega
      by_cases hs : sameP a.1 x = true
      · refine ⟨m, ?_, ⟨?_, ?_, fun j hj => ?_⟩, ?_⟩
        · simpa [stepP, outP, hs] using ht
        · simp [stepP, nextP, hs]; omega
        · simpa [stepP, nextP, hs] using ho.2.1
        · simp [stepP, nextP, hs] at hj ⊢
          by_cases hj2 : (j : Int) < a.1.f4
          · exact ho.2.2 j hj2
          · have ej : m + j = k := by omega
            simp [sameP] at hs
            refine ⟨x, by rw [ej]; exact hx, hs.2.1.symm, hs.2.2.1.symm, hs.2.2.2.symm, ?_⟩
            rw [h0, ho.2.1]; omega
        · simp [stepP, nextP, hs]; omega
      · have hs' : sameP a.1 x = false := by simpa using hs
        refine ⟨k, ?_, ⟨by simp [stepP, nextP, hs'], by simp [stepP, nextP, hs', h0], fun j hj => ?_⟩, by simp [stepP, nextP, hs']⟩
        · have := TileP.snoc ht ho
          rw [hm] at this
          simpa [stepP, outP, hs', hp] using this
        · have : j = 0 := by simp [stepP, nextP, hs'] at hj; omega
          subst this
          exact ⟨x, by simpa using hx, by simp [stepP, nextP, hs'], by simp [stepP, nextP, hs'], by simp [stepP, nextP, hs'], by simp [stepP, nextP, hs']⟩
  · rcases Nat.eq_zero_or_pos k with e | e
    · obtain rfl := h.zero e
      simp [stepP, outP, z41, DiffP]
    · obtain ⟨m, ht, ho, hm⟩ := h.one e
      have hp : 0 < a.1.f4 := by have := ho.1; omega
      have hd := h.diff e
      by_cases hs : sameP a.1 x = true
      · have : (stepP a x).2 = a.2 := by simp [stepP, outP, hs]
        rw [this]
        exact DiffP.last hd (by simp [stepP, nextP, hs, keyP])
      · have hs' : sameP a.1 x = false := by simpa using hs
        have : (stepP a x).2 = a.2 ++ [a.1] := by simp [stepP, outP, hs', hp]
        rw [this]
        refine DiffP.snoc hd (fun hk => ?_)
        simp [stepP, nextP, hs', keyP] at hk
        simp [sameP, hp, hk.1.symm, hk.2.1.symm, hk.2.2.symm] at hs'
theorem pi_all (l : List S43) (h : ∀ (j : Nat) x, l[j]? = some x → x.f0 = j) : ∀ k, k ≤ l.length → PI l k (pcs (l.take k))
  | 0, _ => ⟨fun _ => by simp [pcs], fun e => by omega, fun e => by omega⟩
  | k + 1, hk => by
    have hx : l[k]? = some l[k] := List.getElem?_eq_getElem (by omega)
    rw [pcs_take l k _ hx]
    exact pi_step (pi_all l h k (by omega)) hx (h k _ hx)
/-- The pieces tile the slots, and neighbours differ. -/
theorem pieces_tile (l : List S43) (h : ∀ (j : Nat) x, l[j]? = some x → x.f0 = j) : TileP l 0 (piecesOf l) l.length ∧ DiffP (piecesOf l) := by
  have hp := pi_all l h l.length (Nat.le_refl _)
  rw [List.take_length] at hp
  rcases Nat.eq_zero_or_pos l.length with e | e
  · have := hp.zero e
    simp [piecesOf, this, z41, TileP, DiffP, e]
  · obtain ⟨m, ht, ho, hm⟩ := hp.one e
    have hd := hp.diff e
    have hpos : 0 < (pcs l).1.f4 := by have := ho.1; omega
    have := TileP.snoc ht ho
    rw [hm] at this
    simp only [piecesOf, hpos, if_true]
    exact ⟨this, hd⟩
end Go.Proofs.YtbldolbeijpipaaDoor
namespace Go.Proofs.YtbldolbeijpipaaDoor
open Go.RowKit Go.Proofs.YtbldolbeijpipaaDoorW.PrintWords
attribute [local go_sem] Oper.semAt_some
set_option linter.unusedVariables false
set_option linter.unusedSimpArgs false
def cells41 (p : S41) : List Value := [.int .i64 p.f0, .int .i64 p.f1, .int .i64 p.f2, .int .i64 p.f3, .int .i64 p.f4]
def enc41 (ps : List S41) : List Value := (ps.map cells41).flatten
theorem enc41_snoc (ps : List S41) (p : S41) : enc41 (ps ++ [p]) = enc41 ps ++ cells41 p := by simp [enc41]
theorem k41_cells (w : World) (p : S41) : k41.K w p (cells41 p) := k41_mk w p
theorem info41 : (Tryd.prog.info? 41).map (fun i => (i.zero, i.size, i.bytes)) = some (some (.agg #[.int .i64 0, .int .i64 0, .int .i64 0, .int .i64 0, .int .i64 0]), 5, 40) := by kernel_rfl
def apAssign : Code := Code.region 2 #[{ dst := some 5, op := Op.alloc 41, type := 0, pos := "iter.go:51", after := #[], guard := none }, { dst := none, op := Op.store 41 (Operand.tmp 5) (Operand.tmp 7), type := 0, pos := "iter.go:51", after := #[{ on := 0, ground := Ground.data }, { on := 0, ground := Ground.phase }], guard := none }] false
def apBody : Code := Code.block 1 (Code.region 3 #[{ dst := some 8, op := Op.load 38 (Operand.tmp 2), type := 38, pos := "iter.go:52", after := #[], guard := none }, { dst := some 9, op := Op.load 41 (Operand.tmp 5), type := 41, pos := "iter.go:52", after := #[], guard := none }, { dst := some 10, op := Op.buildSlice 38 1 #[(0, Operand.tmp 9)], type := 38, pos := "iter.go:52", after := #[{ on := 1, ground := Ground.data }], guard := none }, { dst := some 11, op := Op.call { callee := Callee.builtin Builtin.append, args := #[Operand.tmp 8, Operand.tmp 10], argTypes := #[38, 38] }, type := 38, pos := "iter.go:52", after := #[{ on := 0, ground := Ground.data }, { on := 2, ground := Ground.data }], guard := none }, { dst := none, op := Op.store 38 (Operand.tmp 2) (Operand.tmp 11), type := 0, pos := "iter.go:52", after := #[{ on := 3, ground := Ground.data }, { on := 3, ground := Ground.chain }, { on := 0, ground := Ground.phase }, { on := 1, ground := Ground.phase }, { on := 2, ground := Ground.phase }, { on := 3, ground := Ground.phase }], guard := none }] false)
/-- The loop's record in AppendSeq. -/
def apRec (fn : FuncId) (sv : Value) (Bs D : Nat) (st : LoopState) (pend : Option Code) : Loop :=
  { state := st, pending := pend, fn, tmps := #[.slice none 0 0, sv, .pointer (some ⟨Bs, 0, none⟩), undef, .slice none 0 0, undef, sv, undef, undef, undef, undef, undef, undef], params := #[7], assign := apAssign, body := apBody, defers := D }
/-- Between two rounds; fo: blocks that are the iterator's own. -/
structure ApAt (B : Nat) (w0 : World) (fn : FuncId) (sv : Value) (Bs l D : Nat) (fo : List Nat) (ps : List S41) (W : World) : Prop where
  box : ∃ v, W.heap[Bs]? = some (.cells #[v] 38 (0, 0)) ∧ W.ownsRow B 41 5 v ps.length (enc41 ps) ∧ ∀ k ∈ fo, v.ownBlock ≠ some k
  L : W.heap[l]? = some (.loop (apRec fn sv Bs D .ready none))
  K : W.heap[D]? = some (.deferred (some []))
  below : Below B w0 W
  fo : ∀ k ∈ fo, k < W.heap.size ∧ k ≠ Bs ∧ k ≠ l ∧ k ≠ D
theorem ap_alloc {B : Nat} {w0 : World} {fn : FuncId} {sv : Value} {Bs l D : Nat} {fo : List Nat} {ps : List S41} {W : World} (h : ApAt B w0 fn sv Bs l D fo ps W) (hB : B ≤ W.heap.size) (o : Obj) : ApAt B w0 fn sv Bs l D (W.heap.size :: fo) ps (W.alloc o) := by
  obtain ⟨v, hv, hr, hf⟩ := h.box
  have hlt : ∀ {k : Nat} {o' : Obj}, W.heap[k]? = some o' → (W.alloc o).heap[k]? = some o' := fun hk => (Below.heap_alloc W o _ (Array.getElem?_eq_some_iff.1 hk).1).trans hk
  have lt : ∀ {k : Nat} {o' : Obj}, W.heap[k]? = some o' → k < W.heap.size := fun hk => (Array.getElem?_eq_some_iff.1 hk).1
  refine ⟨⟨v, hlt hv, hr.alloc o, fun k hk => ?_⟩, hlt h.L, hlt h.K, h.below.alloc hB o, fun k hk => ?_⟩
  · rcases List.mem_cons.1 hk with rfl | hk
    · intro e
      have := (hr.lt _ e).2
      omega
    · exact hf k hk
  · rcases List.mem_cons.1 hk with rfl | hk
    · have h1 := lt hv; have h2 := lt h.L; have h3 := lt h.K
      exact ⟨by simp, by omega, by omega, by omega⟩
    · obtain ⟨h1, h2⟩ := h.fo k hk
      exact ⟨by simp; omega, h2⟩
theorem ap_set {B : Nat} {w0 : World} {fn : FuncId} {sv : Value} {Bs l D : Nat} {fo : List Nat} {ps : List S41} {W : World} (h : ApAt B w0 fn sv Bs l D fo ps W) {k : Nat} (hk : k ∈ fo) (hB : B ≤ k) (j : Nat) (u : Value) : ApAt B w0 fn sv Bs l D fo ps (W.setCell ⟨k, j, none⟩ u) := by
  obtain ⟨v, hv, hr, hf⟩ := h.box
  obtain ⟨h1, h2, h3, h4⟩ := h.fo k hk
  have hne : ∀ {i : Nat}, i ≠ k → (W.setCell ⟨k, j, none⟩ u).heap[i]? = W.heap[i]? := fun hi => Below.heap_setCell _ _ _ _ hi
  refine ⟨⟨v, (hne (Ne.symm h2)).trans hv, ?_, hf⟩, (hne (Ne.symm h3)).trans h.L, (hne (Ne.symm h4)).trans h.K, h.below.setCell (p := ⟨k, j, none⟩) hB u, fun i hi => ?_⟩
  · exact hr.kept (row := some k) ⟨rfl, rfl, rfl, by simp, fun i _ hi => hne (fun e => hi (by rw [e]))⟩ (.inr (hf k hk))
  · obtain ⟨g1, g2⟩ := h.fo i hi
    exact ⟨by simpa using g1, g2⟩
theorem ap_sub {B : Nat} {w0 : World} {fn : FuncId} {sv : Value} {Bs l D : Nat} {fo fo' : List Nat} {ps : List S41} {W : World} (h : ApAt B w0 fn sv Bs l D fo ps W) (hs : ∀ k ∈ fo', k ∈ fo) : ApAt B w0 fn sv Bs l D fo' ps W := by
  obtain ⟨v, hv, hr, hf⟩ := h.box
  exact ⟨⟨v, hv, hr, fun k hk => hf k (hs k hk)⟩, h.L, h.K, h.below, fun k hk => h.fo k (hs k hk)⟩
theorem put_grown (W : World) (l : Nat) (o : Obj) : W.grownBy (W.putObj l o) (some l) :=
  ⟨rfl, rfl, rfl, by simp, fun k _ hk => World.putObj_heap_other (fun e => hk (by rw [e]))⟩
theorem set_grown (W : World) (b j : Nat) (v : Value) : W.grownBy (W.setCell ⟨b, j, none⟩ v) (some b) :=
  ⟨rfl, rfl, rfl, by simp, fun k _ hk => Below.heap_setCell _ _ _ k (fun e => hk (by rw [e]))⟩
theorem row_ne {W : World} {base : Nat} {e : TypeId} {size : Nat} {v : Value} {k : Nat} {xs : List Value} (h : W.ownsRow base e size v k xs) {j : Nat} {o : Obj} (hj : W.heap[j]? = some o) (hno : ∀ cur, o ≠ .cells cur e (0, 0)) : v.ownBlock ≠ some j := fun e' => by
  rcases h.2 with ⟨rfl, _⟩ | ⟨g, cap, cur, rfl, _, hgb, _⟩
  · simp [Value.ownBlock] at e'
  · have : g = j := by simpa [Value.ownBlock] using e'
    subst this
    rw [hgb] at hj
    cases hj
    exact hno cur rfl
theorem box_cell {W : World} {b : Nat} {v : Value} {t : TypeId} (h : W.heap[b]? = some (.cells #[v] t (0, 0))) : W.cell? ⟨b, 0, none⟩ = some v ∧ W.frozen? ⟨b, 0, none⟩ = false := by
  constructor <;> simp [World.cell?, World.frozen?, h]
theorem new_cells41 (W : World) (x : S41) : ∀ j u, (cells41 x)[j]? = some u → (W.alloc (.cells #[.int .i64 x.f0, .int .i64 x.f1, .int .i64 x.f2, .int .i64 x.f3, .int .i64 x.f4] 41)).cell? ((⟨W.heap.size, 0, none⟩ : Addr).add j) = some u := by
  intro j u hu
  have hb := heap_alloc_new W (.cells #[.int .i64 x.f0, .int .i64 x.f1, .int .i64 x.f2, .int .i64 x.f3, .int .i64 x.f4] 41)
  have e : (⟨W.heap.size, 0, none⟩ : Addr).add j = ⟨W.heap.size, j, none⟩ := by
    by_cases hj : j = 0 <;> simp [Addr.add, hj]
  rw [e, (blk_cell hb j : _ = _), ← hu]
  simp [cells41]
theorem one_cells41 (x : S41) : ∀ u ∈ cells41 x, u.oneCell' = true := by
  intro u hu
  simp [cells41] at hu
  rcases hu with rfl | rfl | rfl | rfl | rfl <;> rfl
set_option maxRecDepth 100000 in
set_option maxHeartbeats 2000000 in
theorem ap_yield (F : Fence) (m B : Nat) (w0 : World) (fn : FuncId) (hfn : F.fn fn) (sv : Value) (Bs l D : Nat) (hBl : Bs ≠ l) (hDl : D ≠ l) (hDB : D ≠ Bs) (h0B : B ≤ Bs) (h0l : B ≤ l) (hw0 : B ≤ w0.heap.size)
    (fo : List Nat) (ps : List S41) (x : S41) (W : World) (h : ApAt B w0 fn sv Bs l D fo ps W) (hlen : ps.length < 1000) :
    YieldAt F m Tryd.prog l #[.agg #[.int .i64 x.f0, .int .i64 x.f1, .int .i64 x.f2, .int .i64 x.f3, .int .i64 x.f4]] W fun e W' => e = .returned (.bool true) ∧ ApAt B w0 fn sv Bs l D fo (ps ++ [x]) W' ∧ ∀ k ∈ fo, W'.heap[k]? = W.heap[k]? := by
  obtain ⟨i0, hi, hz0, hz1, hz2⟩ := info_parts info41
  refine ⟨fn, #[.slice none 0 0, sv, .pointer (some ⟨Bs, 0, none⟩), undef, .slice none 0 0, undef, sv, .agg #[.int .i64 x.f0, .int .i64 x.f1, .int .i64 x.f2, .int .i64 x.f3, .int .i64 x.f4], undef, undef, undef, undef, undef], apAssign, apBody, by simpa [apRec] using run_yield (P := Tryd.prog) (args := #[.agg #[.int .i64 x.f0, .int .i64 x.f1, .int .i64 x.f2, .int .i64 x.f3, .int .i64 x.f4]]) h.L rfl, roundIn_of_wpIn hfn ?_⟩
  have hBW : B ≤ W.heap.size := Nat.le_trans hw0 h.below.size
  obtain ⟨Wa, hWa⟩ : ∃ Wa, W.alloc (.cells #[.int .i64 x.f0, .int .i64 x.f1, .int .i64 x.f2, .int .i64 x.f3, .int .i64 x.f4] 41) = Wa := ⟨_, rfl⟩
  have ha := ap_alloc h hBW (.cells #[.int .i64 x.f0, .int .i64 x.f1, .int .i64 x.f2, .int .i64 x.f3, .int .i64 x.f4] 41)
  have hold : ∀ k ∈ fo, Wa.heap[k]? = W.heap[k]? := fun k hk => by rw [← hWa]; exact Below.heap_alloc _ _ _ (h.fo k hk).1
  have hnb : Wa.heap[W.heap.size]? = some (.cells #[.int .i64 x.f0, .int .i64 x.f1, .int .i64 x.f2, .int .i64 x.f3, .int .i64 x.f4] 41 (0, 0)) := by rw [← hWa]; exact heap_alloc_new W _
  rw [hWa] at ha
  clear h
  have hbr := run_beginRound (P := Tryd.prog) ha.L rfl
  unfold apAssign
  gi_wp2
  obtain ⟨W2, hW2⟩ : ∃ W2, Wa.putObj l (.loop { apRec fn sv Bs D .ready none with state := .busy }) = W2 := ⟨_, rfl⟩
  refine ⟨W2, hbr.trans (by rw [← hW2]), ?_⟩
  clear hbr
  obtain ⟨v, hv, hrow, hvf⟩ := ha.box
  obtain ⟨nb, hnbe⟩ : ∃ nb, nb = W.heap.size := ⟨_, rfl⟩
  rw [← hnbe] at ha hnb hvf ⊢
  have HNB := Aside0.mk hnbe
  clear hnbe
  have hl : l < Wa.heap.size := (Array.getElem?_eq_some_iff.1 ha.L).1
  have hg2 : Wa.grownBy W2 (some l) := by rw [← hW2]; exact put_grown _ _ _
  have hsame2 : ∀ k, k ≠ l → W2.heap[k]? = Wa.heap[k]? := fun k hk => by rw [← hW2]; exact World.putObj_heap_other hk
  have hv2 : W2.heap[Bs]? = some (.cells #[v] 38 (0, 0)) := (hsame2 Bs hBl).trans hv
  have hK2 : W2.heap[D]? = some (.deferred (some [])) := (hsame2 D hDl).trans ha.K
  have hL2 : W2.heap[l]? = some (.loop { apRec fn sv Bs D .ready none with state := .busy }) := by rw [← hW2]; exact World.putObj_heap_same hl
  have hrow2 : W2.ownsRow B 41 5 v ps.length (enc41 ps) := hrow.kept hg2 (.inr (row_ne hrow ha.L (fun cur e => by cases e)))
  have hb2 : Below B w0 W2 := ha.below.grown hg2 (Nat.le_trans hw0 ha.below.size) (fun k e => by cases e; exact h0l)
  have hnb2 : W2.heap[nb]? = some (.cells #[.int .i64 x.f0, .int .i64 x.f1, .int .i64 x.f2, .int .i64 x.f3, .int .i64 x.f4] 41 (0, 0)) := (hsame2 nb (ha.fo nb (by simp)).2.2.1).trans hnb
  obtain ⟨hc2, hf2⟩ := box_cell hv2
  have hle2 : Wa.heap.size ≤ W2.heap.size := hg2.size
  have hBlt : Bs < W2.heap.size := (Array.getElem?_eq_some_iff.1 hv2).1
  have hl2 : l < W2.heap.size := (Array.getElem?_eq_some_iff.1 hL2).1
  have hDlt : D < W2.heap.size := (Array.getElem?_eq_some_iff.1 hK2).1
  have hBW2 : B ≤ W2.heap.size := Nat.le_trans hw0 hb2.size
  have q0 : W2.cell? ⟨nb, 0, none⟩ = some (.int .i64 x.f0) := by simp [World.cell?, hnb2]
  have q1 : W2.cell? ⟨nb, 1, none⟩ = some (.int .i64 x.f1) := by simp [World.cell?, hnb2]
  have q2 : W2.cell? ⟨nb, 2, none⟩ = some (.int .i64 x.f2) := by simp [World.cell?, hnb2]
  have q3 : W2.cell? ⟨nb, 3, none⟩ = some (.int .i64 x.f3) := by simp [World.cell?, hnb2]
  have q4 : W2.cell? ⟨nb, 4, none⟩ = some (.int .i64 x.f4) := by simp [World.cell?, hnb2]
  clear hW2
  unfold apBody
  gi_wp2_with (gi_at_builtin; refine wpListIn_append_own_at _ rfl _ _ 38 rfl B 41 i0 (.agg #[.int .i64 0, .int .i64 0, .int .i64 0, .int .i64 0, .int .i64 0]) 5 40 Tryd.underlying38 hi hz0 hz1 hz2 rfl (by decide) v ps.length (enc41 ps) rfl (hrow2.alloc _) ⟨W2.heap.size, 0, none⟩ 1 1 (cells41 x) rfl rfl (new_cells41 W2 x) (one_cells41 x) (by unfold maxLen; omega) (by omega) (by simp; omega) ?_; intro v' w3 hown' hg3 hnil3 hat3; obtain ⟨g', cap', rfl⟩ := ownsRow_succ hown'; have hv3 := (hg3.block Bs (by simp; omega) (fun e => row_ne hrow2 hv2 (fun cur e => by cases e) e.symm)).trans ((Below.heap_alloc _ _ Bs hBlt).trans hv2); obtain ⟨hc3, hf3⟩ := box_cell hv3)
  have hL3 : w3.heap[l]? = some (.loop { apRec fn sv Bs D .ready none with state := .busy }) := (hg3.block l (by simp; omega) (fun e => row_ne hrow2 hL2 (fun cur e => by cases e) e.symm)).trans ((Below.heap_alloc _ _ l hl2).trans hL2)
  have hK3 : w3.heap[D]? = some (.deferred (some [])) := (hg3.block D (by simp; omega) (fun e => row_ne hrow2 hK2 (fun cur e => by cases e) e.symm)).trans ((Below.heap_alloc _ _ D hDlt).trans hK2)
  have hf3o : ∀ k ∈ fo, w3.heap[k]? = W.heap[k]? := fun k hk => by
    have h1 := ha.fo k (List.mem_cons_of_mem _ hk)
    have h2 := hvf k (List.mem_cons_of_mem _ hk)
    rw [hg3.block k (by simp; omega) (fun e => h2 e.symm), Below.heap_alloc _ _ k (by omega), hsame2 k h1.2.2.1]
    exact hold k hk
  have hv4 : (w3.setCell ⟨Bs, 0, none⟩ (.slice (some ⟨g', 0, none⟩) (ps.length + 1) cap')).heap[Bs]? = some (.cells #[.slice (some ⟨g', 0, none⟩) (ps.length + 1) cap'] 38 (0, 0)) := by simpa using blk_set hv3 0 (.slice (some ⟨g', 0, none⟩) (ps.length + 1) cap')
  have hb3 : Below B w0 w3 := (hb2.alloc hBW2 _).grown hg3 (by simp; omega) (fun k e => (hrow2.lt k e).1)
  have hg4 := set_grown w3 Bs 0 (.slice (some ⟨g', 0, none⟩) (ps.length + 1) cap')
  have hs3 : W2.heap.size + 1 ≤ w3.heap.size := by have := hg3.size; simpa using this
  have hL4 := (hg4.block l (Array.getElem?_eq_some_iff.1 hL3).1 (fun e => hBl (by cases e; rfl))).trans hL3
  have hK4 := (hg4.block D (Array.getElem?_eq_some_iff.1 hK3).1 (fun e => hDB (by cases e; rfl))).trans hK3
  have hrow4 := hown'.kept hg4 (.inr (row_ne hown' hv3 (fun cur e => by cases e)))
  have hb4 : Below B w0 (w3.setCell ⟨Bs, 0, none⟩ (.slice (some ⟨g', 0, none⟩) (ps.length + 1) cap')) := hb3.grown hg4 (by omega) (fun k e => by cases e; exact h0B)
  have hgne : ∀ k ∈ fo, g' ≠ k := fun k hk e => by
    subst e
    have h1 := ha.fo g' (List.mem_cons_of_mem _ hk)
    rcases hat3 with h | h
    · exact hvf g' (List.mem_cons_of_mem _ hk) (h.symm.trans (by simp [Value.ownBlock]))
    · simp [Value.ownBlock] at h
      omega
  have hfo4 : ∀ k ∈ fo, (w3.setCell ⟨Bs, 0, none⟩ (.slice (some ⟨g', 0, none⟩) (ps.length + 1) cap')).heap[k]? = W.heap[k]? := fun k hk => by
    have h1 := ha.fo k (List.mem_cons_of_mem _ hk)
    rw [hg4.block k (by omega) (fun e => h1.2.1 (by cases e; rfl))]
    exact hf3o k hk
  generalize w3.setCell ⟨Bs, 0, none⟩ (.slice (some ⟨g', 0, none⟩) (ps.length + 1) cap') = w4 at hv4 hg4 hL4 hK4 hrow4 hb4 hfo4 ⊢
  have hl4 : l < w4.heap.size := (Array.getElem?_eq_some_iff.1 hL4).1
  have hs4 : w3.heap.size ≤ w4.heap.size := hg4.size
  have hg5 := put_grown w4 l (.loop (apRec fn sv Bs D .ready none))
  refine ⟨_, _, run_endRound none hL4, rfl, ⟨⟨.slice (some ⟨g', 0, none⟩) (ps.length + 1) cap', (World.putObj_heap_other hBl).trans hv4, ?_, fun k hk => ?_⟩, World.putObj_heap_same hl4, (World.putObj_heap_other hDl).trans hK4, hb4.grown hg5 (by omega) (fun k e => by cases e; exact h0l), fun k hk => ?_⟩, fun k hk => ?_⟩
  · have := hrow4.kept hg5 (.inr (row_ne hrow4 hL4 (fun cur e => by cases e)))
    rw [enc41_snoc, List.length_append]
    exact this
  · simp [Value.ownBlock]
    exact hgne k hk
  · have h1 := ha.fo k (List.mem_cons_of_mem _ hk)
    exact ⟨by simp; omega, h1.2⟩
  · have h1 := ha.fo k (List.mem_cons_of_mem _ hk)
    exact (World.putObj_heap_other h1.2.2.1).trans (hfo4 k hk)
end Go.Proofs.YtbldolbeijpipaaDoor
namespace Go.Proofs.YtbldolbeijpipaaDoor
open Go.RowKit Go.Proofs.YtbldolbeijpipaaDoorW.PrintWords
attribute [local go_sem] Oper.semAt_some
set_option linter.unusedVariables false
set_option linter.unusedSimpArgs false
theorem pcs_ticks (l : List S43) : ∀ k, k ≤ l.length → 0 ≤ (pcs (l.take k)).1.f4 ∧ (pcs (l.take k)).1.f4 ≤ k ∧ (pcs (l.take k)).2.length ≤ k
  | 0, _ => by simp [pcs, z41]
  | k + 1, hk => by
    have hx : l[k]? = some l[k] := List.getElem?_eq_getElem (by omega)
    have ih := pcs_ticks l k (by omega)
    rw [pcs_take l k _ hx]
    generalize pcs (l.take k) = a at ih
    simp only [stepP, nextP, outP, List.length_append]
    refine ⟨?_, ?_, ?_⟩
    · split
      · simp; omega
      · simp
    · split
      · simp; omega
      · simp; omega
    · split <;> simp <;> omega
theorem fill5x {W : World} {g : Nat} {t : TypeId} {x0 x1 x2 x3 x4 v0 v1 v2 v3 v4 v5 : Value} (h : W.heap[g]? = some (.cells #[x0, x1, x2, x3, x4] t (0, 0))) :
    ((((((W.setCell ⟨g, 0, none⟩ v0).setCell ⟨g, 1, none⟩ v1).setCell ⟨g, 2, none⟩ v2).setCell ⟨g, 3, none⟩ v3).setCell ⟨g, 4, none⟩ v4).setCell ⟨g, 4, none⟩ v5).heap[g]? = some (.cells #[v0, v1, v2, v3, v5] t (0, 0)) := by simpa using (blk_set (blk_set (blk_set (blk_set (blk_set (blk_set h 0 v0) 1 v1) 2 v2) 3 v3) 4 v4) 4 v5)
theorem ap_fill {B : Nat} {w0 : World} {fn : FuncId} {sv : Value} {Bs l D : Nat} {fo : List Nat} {ps : List S41} {W : World} (h : ApAt B w0 fn sv Bs l D fo ps W) {k : Nat} (hk : k ∈ fo) (hB : B ≤ k) (v0 v1 v2 v3 v4 v5 : Value) :
    ApAt B w0 fn sv Bs l D fo ps ((((((W.setCell ⟨k, 0, none⟩ v0).setCell ⟨k, 1, none⟩ v1).setCell ⟨k, 2, none⟩ v2).setCell ⟨k, 3, none⟩ v3).setCell ⟨k, 4, none⟩ v4).setCell ⟨k, 4, none⟩ v5) :=
  ap_set (ap_set (ap_set (ap_set (ap_set (ap_set h hk hB 0 v0) hk hB 1 v1) hk hB 2 v2) hk hB 3 v3) hk hB 4 v4) hk hB 4 v5
theorem ap_two {B : Nat} {w0 : World} {fn : FuncId} {sv : Value} {Bs l D : Nat} {fo : List Nat} {ps : List S41} {W : World} (h : ApAt B w0 fn sv Bs l D fo ps W) (hw0 : B ≤ w0.heap.size) (o o' : Obj) : ApAt B w0 fn sv Bs l D ((W.alloc o).heap.size :: W.heap.size :: fo) ps ((W.alloc o).alloc o') := by
  have h1 := ap_alloc h (Nat.le_trans hw0 h.below.size) o
  exact ap_alloc h1 (Nat.le_trans hw0 h1.below.size) o'
set_option maxRecDepth 100000 in
set_option maxHeartbeats 2000000 in
theorem pieces1_in (F : Fence) (n : Nat) (h78 : F.fn 78) (hro : F.round = none) (hn : 1 ≤ n) (w0 : World) (fn : FuncId) (hfn : F.fn fn) (sv : Value) (Bs l D Bm : Nat) (hBl : Bs ≠ l) (hDl : D ≠ l) (hDB : D ≠ Bs) (h0B : w0.heap.size ≤ Bs) (h0l : w0.heap.size ≤ l)
    (A : Option Addr) (c : Nat) (sl : List S43) (hC : k43.C w0 A sl.length sl) (hsl : sl.length ≤ 160) (hBm : w0.heap[Bm]? = some (.cells #[.slice A sl.length c] 32 (0, 0)))
    (W : World) (h : ApAt w0.heap.size w0 fn sv Bs l D [] [] W) :
    CallsIn F n Tryd.prog 78 #[.func (.yield l) #[] #[], .pointer (some ⟨Bm, 0, none⟩)] W fun e W' => (∃ v, e = .returned v) ∧ ApAt w0.heap.size w0 fn sv Bs l D [] (piecesOf sl) W' := by
  have HC := Aside0.mk hC
  clear hC
  have hBmlt := blk_lt hBm
  have hm : W.cell? ⟨Bm, 0, none⟩ = some (.slice A sl.length c) := (blk_cell ((h.below.block Bm hBmlt).trans hBm) 0).trans rfl
  have hBmW : Bm < W.heap.size := Nat.lt_of_lt_of_le hBmlt h.below.size
  have HH := Aside0.mk h
  have HBm := Aside0.mk hBm
  clear h hBm
  refine callsIn_of_wp Tryd.func78 rfl h78 ?_ hro
  simp only [Tryd.ntmps78, List.size_toArray, List.length_cons, List.length_nil, Nat.reduceAdd, Nat.reduceSub, Array.replicate_succ, Array.replicate_zero, List.push_toArray, List.append_toArray, List.nil_append, List.cons_append]
  gi_wp2
  have hBW : w0.heap.size ≤ W.heap.size := HH.out.below.size
  have HA := Aside0.mk (ap_alloc HH.out hBW (.cells #[.int .i64 0, .int .i64 0, .int .i64 0, .int .i64 0, .int .i64 0] 41))
  have HP := Aside0.mk (blk_new W (.cells #[.int .i64 0, .int .i64 0, .int .i64 0, .int .i64 0, .int .i64 0] 41))
  obtain ⟨bp, hbp⟩ : ∃ bp, bp = W.heap.size := ⟨_, rfl⟩
  have hBp : w0.heap.size ≤ bp := by omega
  rw [← hbp] at HA HP ⊢
  clear hm hBmW HH hBW
  generalize W.alloc (.cells #[.int .i64 0, .int .i64 0, .int .i64 0, .int .i64 0, .int .i64 0] 41) = W1 at HA HP ⊢
  clear hbp
  gi_loopw [11] (fun i wr => ∃ (k : Nat) (p : S41) (out : List S41), i = .int .i64 k ∧ k ≤ sl.length ∧ 0 ≤ p.f4 ∧ p.f4 ≤ k ∧ out.length ≤ k ∧ Aside0 (pcs (sl.take k) = (p, out)) ∧ Aside0 (wr.heap[bp]? = some (.cells #[.int .i64 p.f0, .int .i64 p.f1, .int .i64 p.f2, .int .i64 p.f3, .int .i64 p.f4] 41 (0, 0))) ∧ Aside0 (ApAt w0.heap.size w0 fn sv Bs l D [bp] out wr)) (fun i _ => sl.length - (intOf i).toNat)
  case atStart => exact ⟨0, z41, [], rfl, by omega, by simp [z41], by simp [z41], by simp, ⟨by simp [pcs]⟩, HP, HA⟩
  case round =>
    clear HA HP
    obtain ⟨k, p, out, rfl, hk, hp0, hpk, hol, HPC, HP, HA⟩ := hrel
    have hBwr : w0.heap.size ≤ wr.heap.size := HA.out.below.size
    have hbpl : bp < wr.heap.size := blk_lt HP.out
    have x4 : wr.cell? ⟨bp, 4, none⟩ = some (.int .i64 p.f4) := (blk_cell HP.out 4).trans rfl
    have x0 : wr.cell? ⟨bp, 0, none⟩ = some (.int .i64 p.f0) := (blk_cell HP.out 0).trans rfl
    have x1 : wr.cell? ⟨bp, 1, none⟩ = some (.int .i64 p.f1) := (blk_cell HP.out 1).trans rfl
    have x2 : wr.cell? ⟨bp, 2, none⟩ = some (.int .i64 p.f2) := (blk_cell HP.out 2).trans rfl
    have x3 : wr.cell? ⟨bp, 3, none⟩ = some (.int .i64 p.f3) := (blk_cell HP.out 3).trans rfl
    have xf := fun j => blk_frozen HP.out j
    by_cases hin : k < sl.length
    · have hx : sl[k]? = some sl[k] := List.getElem?_eq_getElem hin
      obtain ⟨s, hse⟩ : ∃ s, s = sl[k] := ⟨_, rfl⟩
      rw [← hse] at hx
      obtain ⟨ad, ea, p0, p1, p2, p3, p4, p5⟩ := at_T43 HC.out k (by omega) (by omega)
      subst ea
      have hrd : rd_T43 sl (k : Int) = s := by simp [rd_T43, List.getD, hx]
      rw [hrd] at p0 p1 p2 p3 p4 p5
      rw [Int.toNat_natCast] at p0 p1 p2 p3 p4 p5
      have HX := Aside0.mk (pcs_take sl k s hx)
      clear hx hse hrd
      have hadb := World.block_lt_of_cell? w0 _ p0
      have hbl := HA.out.below
      replace p0 := (hbl.cell hadb).trans p0
      replace p1 := (hbl.cell (p := ⟨(ad.add (k * 6)).block, (ad.add (k * 6)).off + 1, none⟩) hadb).trans p1
      replace p2 := (hbl.cell (p := ⟨(ad.add (k * 6)).block, (ad.add (k * 6)).off + 2, none⟩) hadb).trans p2
      replace p3 := (hbl.cell (p := ⟨(ad.add (k * 6)).block, (ad.add (k * 6)).off + 3, none⟩) hadb).trans p3
      replace p4 := (hbl.cell (p := ⟨(ad.add (k * 6)).block, (ad.add (k * 6)).off + 4, none⟩) hadb).trans p4
      replace p5 := (hbl.cell (p := ⟨(ad.add (k * 6)).block, (ad.add (k * 6)).off + 5, none⟩) hadb).trans p5
      clear hbl
      have hin1 : (k : Int) < sl.length := by omega
      by_cases hpos : 0 < p.f4
      · have hd : decide (p.f4 > 0) = true := by simpa using hpos
        by_cases e0 : p.f0 = s.f1
        · have be0 : (p.f0 == s.f1) = true := beq_iff_eq.mpr e0
          have E0 := Aside0.mk e0
          clear e0
          by_cases e1 : p.f1 = s.f2
          · have be1 : (p.f1 == s.f2) = true := beq_iff_eq.mpr e1
            have E1 := Aside0.mk e1
            clear e1
            by_cases e2 : p.f2 = s.f3
            · have be2 : (p.f2 == s.f3) = true := beq_iff_eq.mpr e2
              have hss : sameP p s = true := by simp [sameP, hpos, E0.out, E1.out, e2]
              have hwr : wrap64 (p.f4 + 1) = p.f4 + 1 := by unfold wrap64; omega
              gi_wp2
              refine ⟨fun _ h => (by cases h), ?_⟩
              gi_wp2
              go_roundw
              case rel => exact ⟨k + 1, nextP p s, out ++ outP p s, by go_num, by omega, (by simp [nextP, hss] <;> omega), (by simp [nextP, hss] <;> omega), (by simp [outP, hss] <;> omega), ⟨by rw [HX.out, HPC.out]; rfl⟩, ⟨by simp only [nextP, hss, if_true]; exact blk_alloc (blk_alloc (by simpa using blk_set HP.out 4 (.int .i64 (p.f4 + 1))) _) _⟩, ⟨by rw [show outP p s = [] by simp [outP, hss], List.append_nil]; exact ap_sub (ap_two (ap_set HA.out (List.mem_singleton.2 rfl) hBp 4 _) (Nat.le_refl _) _ _) (by simp)⟩⟩
              case measure => simp [intOf]; omega
            · have be2 : (p.f2 == s.f3) = false := beq_eq_false_iff_ne.mpr e2
              have hns : sameP p s = false := by simp [sameP, e2]
              obtain ⟨fn', tmps, assign, body, hy, hR⟩ := ap_yield F (n - 1) w0.heap.size w0 fn hfn sv Bs l D hBl hDl hDB h0B h0l (Nat.le_refl _) _ out p _ (ap_two HA.out (Nat.le_refl _) (.cells #[.int .i64 s.f0, .int .i64 s.f1, .int .i64 s.f2, .int .i64 s.f3, .bool s.f4, .int .i64 s.f5] 43) (.cells #[.int .i64 s.f1, .int .i64 s.f2, .int .i64 s.f3, .int .i64 s.f0, .int .i64 0] 41)) (by omega)
              gi_wp2
              refine hR.mono ?_
              rintro e W3 ⟨rfl, hJ, hk3⟩
              clear hy hR
              have hq := (hk3 bp (by simp)).trans (blk_alloc (blk_alloc HP.out (.cells #[.int .i64 s.f0, .int .i64 s.f1, .int .i64 s.f2, .int .i64 s.f3, .bool s.f4, .int .i64 s.f5] 43)) (.cells #[.int .i64 s.f1, .int .i64 s.f2, .int .i64 s.f3, .int .i64 s.f0, .int .i64 0] 41))
              have hN := (hk3 (wr.alloc (.cells #[.int .i64 s.f0, .int .i64 s.f1, .int .i64 s.f2, .int .i64 s.f3, .bool s.f4, .int .i64 s.f5] 43)).heap.size (by simp)).trans (blk_new (wr.alloc (.cells #[.int .i64 s.f0, .int .i64 s.f1, .int .i64 s.f2, .int .i64 s.f3, .bool s.f4, .int .i64 s.f5] 43)) (.cells #[.int .i64 s.f1, .int .i64 s.f2, .int .i64 s.f3, .int .i64 s.f0, .int .i64 0] 41))
              rw [World.size_alloc] at hN
              have n0 : W3.cell? ⟨wr.heap.size + 1, 0, none⟩ = some (.int .i64 s.f1) := (blk_cell hN 0).trans rfl
              have n1 : W3.cell? ⟨wr.heap.size + 1, 1, none⟩ = some (.int .i64 s.f2) := (blk_cell hN 1).trans rfl
              have n2 : W3.cell? ⟨wr.heap.size + 1, 2, none⟩ = some (.int .i64 s.f3) := (blk_cell hN 2).trans rfl
              have n3 : W3.cell? ⟨wr.heap.size + 1, 3, none⟩ = some (.int .i64 s.f0) := (blk_cell hN 3).trans rfl
              have n4 : W3.cell? ⟨wr.heap.size + 1, 4, none⟩ = some (.int .i64 0) := (blk_cell hN 4).trans rfl
              have y0 : W3.cell? ⟨bp, 0, none⟩ = some (.int .i64 p.f0) := (blk_cell hq 0).trans rfl
              have y1 : W3.cell? ⟨bp, 1, none⟩ = some (.int .i64 p.f1) := (blk_cell hq 1).trans rfl
              have y2 : W3.cell? ⟨bp, 2, none⟩ = some (.int .i64 p.f2) := (blk_cell hq 2).trans rfl
              have y3 : W3.cell? ⟨bp, 3, none⟩ = some (.int .i64 p.f3) := (blk_cell hq 3).trans rfl
              have y4 : W3.cell? ⟨bp, 4, none⟩ = some (.int .i64 p.f4) := (blk_cell hq 4).trans rfl
              have yf := fun j => blk_frozen hq j
              gi_wp2
              go_roundw
              case rel => exact ⟨k + 1, nextP p s, out ++ outP p s, by go_num, by omega, (by simp [nextP, hns]), (by simp [nextP, hns] <;> omega), (by simp [outP, hns, hpos] <;> omega), ⟨by rw [HX.out, HPC.out]; rfl⟩, ⟨by simp only [nextP, hns]; exact fill5x hq⟩, ⟨by rw [show outP p s = [p] by simp [outP, hns, hpos]]; exact ap_fill (ap_sub hJ (by simp)) (List.mem_singleton.2 rfl) hBp _ _ _ _ _ _⟩⟩
              case measure => simp [intOf]; omega
          · have be1 : (p.f1 == s.f2) = false := beq_eq_false_iff_ne.mpr e1
            have hns : sameP p s = false := by simp [sameP, e1]
            obtain ⟨fn', tmps, assign, body, hy, hR⟩ := ap_yield F (n - 1) w0.heap.size w0 fn hfn sv Bs l D hBl hDl hDB h0B h0l (Nat.le_refl _) _ out p _ (ap_two HA.out (Nat.le_refl _) (.cells #[.int .i64 s.f0, .int .i64 s.f1, .int .i64 s.f2, .int .i64 s.f3, .bool s.f4, .int .i64 s.f5] 43) (.cells #[.int .i64 s.f1, .int .i64 s.f2, .int .i64 s.f3, .int .i64 s.f0, .int .i64 0] 41)) (by omega)
            gi_wp2
            refine hR.mono ?_
            rintro e W3 ⟨rfl, hJ, hk3⟩
            clear hy hR
            have hq := (hk3 bp (by simp)).trans (blk_alloc (blk_alloc HP.out (.cells #[.int .i64 s.f0, .int .i64 s.f1, .int .i64 s.f2, .int .i64 s.f3, .bool s.f4, .int .i64 s.f5] 43)) (.cells #[.int .i64 s.f1, .int .i64 s.f2, .int .i64 s.f3, .int .i64 s.f0, .int .i64 0] 41))
            have hN := (hk3 (wr.alloc (.cells #[.int .i64 s.f0, .int .i64 s.f1, .int .i64 s.f2, .int .i64 s.f3, .bool s.f4, .int .i64 s.f5] 43)).heap.size (by simp)).trans (blk_new (wr.alloc (.cells #[.int .i64 s.f0, .int .i64 s.f1, .int .i64 s.f2, .int .i64 s.f3, .bool s.f4, .int .i64 s.f5] 43)) (.cells #[.int .i64 s.f1, .int .i64 s.f2, .int .i64 s.f3, .int .i64 s.f0, .int .i64 0] 41))
            rw [World.size_alloc] at hN
            have n0 : W3.cell? ⟨wr.heap.size + 1, 0, none⟩ = some (.int .i64 s.f1) := (blk_cell hN 0).trans rfl
            have n1 : W3.cell? ⟨wr.heap.size + 1, 1, none⟩ = some (.int .i64 s.f2) := (blk_cell hN 1).trans rfl
            have n2 : W3.cell? ⟨wr.heap.size + 1, 2, none⟩ = some (.int .i64 s.f3) := (blk_cell hN 2).trans rfl
            have n3 : W3.cell? ⟨wr.heap.size + 1, 3, none⟩ = some (.int .i64 s.f0) := (blk_cell hN 3).trans rfl
            have n4 : W3.cell? ⟨wr.heap.size + 1, 4, none⟩ = some (.int .i64 0) := (blk_cell hN 4).trans rfl
            have y0 : W3.cell? ⟨bp, 0, none⟩ = some (.int .i64 p.f0) := (blk_cell hq 0).trans rfl
            have y1 : W3.cell? ⟨bp, 1, none⟩ = some (.int .i64 p.f1) := (blk_cell hq 1).trans rfl
            have y2 : W3.cell? ⟨bp, 2, none⟩ = some (.int .i64 p.f2) := (blk_cell hq 2).trans rfl
            have y3 : W3.cell? ⟨bp, 3, none⟩ = some (.int .i64 p.f3) := (blk_cell hq 3).trans rfl
            have y4 : W3.cell? ⟨bp, 4, none⟩ = some (.int .i64 p.f4) := (blk_cell hq 4).trans rfl
            have yf := fun j => blk_frozen hq j
            gi_wp2
            go_roundw
            case rel => exact ⟨k + 1, nextP p s, out ++ outP p s, by go_num, by omega, (by simp [nextP, hns]), (by simp [nextP, hns] <;> omega), (by simp [outP, hns, hpos] <;> omega), ⟨by rw [HX.out, HPC.out]; rfl⟩, ⟨by simp only [nextP, hns]; exact fill5x hq⟩, ⟨by rw [show outP p s = [p] by simp [outP, hns, hpos]]; exact ap_fill (ap_sub hJ (by simp)) (List.mem_singleton.2 rfl) hBp _ _ _ _ _ _⟩⟩
            case measure => simp [intOf]; omega
        · have be0 : (p.f0 == s.f1) = false := beq_eq_false_iff_ne.mpr e0
          have hns : sameP p s = false := by simp [sameP, e0]
          obtain ⟨fn', tmps, assign, body, hy, hR⟩ := ap_yield F (n - 1) w0.heap.size w0 fn hfn sv Bs l D hBl hDl hDB h0B h0l (Nat.le_refl _) _ out p _ (ap_two HA.out (Nat.le_refl _) (.cells #[.int .i64 s.f0, .int .i64 s.f1, .int .i64 s.f2, .int .i64 s.f3, .bool s.f4, .int .i64 s.f5] 43) (.cells #[.int .i64 s.f1, .int .i64 s.f2, .int .i64 s.f3, .int .i64 s.f0, .int .i64 0] 41)) (by omega)
          gi_wp2
          refine hR.mono ?_
          rintro e W3 ⟨rfl, hJ, hk3⟩
          clear hy hR
          have hq := (hk3 bp (by simp)).trans (blk_alloc (blk_alloc HP.out (.cells #[.int .i64 s.f0, .int .i64 s.f1, .int .i64 s.f2, .int .i64 s.f3, .bool s.f4, .int .i64 s.f5] 43)) (.cells #[.int .i64 s.f1, .int .i64 s.f2, .int .i64 s.f3, .int .i64 s.f0, .int .i64 0] 41))
          have hN := (hk3 (wr.alloc (.cells #[.int .i64 s.f0, .int .i64 s.f1, .int .i64 s.f2, .int .i64 s.f3, .bool s.f4, .int .i64 s.f5] 43)).heap.size (by simp)).trans (blk_new (wr.alloc (.cells #[.int .i64 s.f0, .int .i64 s.f1, .int .i64 s.f2, .int .i64 s.f3, .bool s.f4, .int .i64 s.f5] 43)) (.cells #[.int .i64 s.f1, .int .i64 s.f2, .int .i64 s.f3, .int .i64 s.f0, .int .i64 0] 41))
          rw [World.size_alloc] at hN
          have n0 : W3.cell? ⟨wr.heap.size + 1, 0, none⟩ = some (.int .i64 s.f1) := (blk_cell hN 0).trans rfl
          have n1 : W3.cell? ⟨wr.heap.size + 1, 1, none⟩ = some (.int .i64 s.f2) := (blk_cell hN 1).trans rfl
          have n2 : W3.cell? ⟨wr.heap.size + 1, 2, none⟩ = some (.int .i64 s.f3) := (blk_cell hN 2).trans rfl
          have n3 : W3.cell? ⟨wr.heap.size + 1, 3, none⟩ = some (.int .i64 s.f0) := (blk_cell hN 3).trans rfl
          have n4 : W3.cell? ⟨wr.heap.size + 1, 4, none⟩ = some (.int .i64 0) := (blk_cell hN 4).trans rfl
          have y0 : W3.cell? ⟨bp, 0, none⟩ = some (.int .i64 p.f0) := (blk_cell hq 0).trans rfl
          have y1 : W3.cell? ⟨bp, 1, none⟩ = some (.int .i64 p.f1) := (blk_cell hq 1).trans rfl
          have y2 : W3.cell? ⟨bp, 2, none⟩ = some (.int .i64 p.f2) := (blk_cell hq 2).trans rfl
          have y3 : W3.cell? ⟨bp, 3, none⟩ = some (.int .i64 p.f3) := (blk_cell hq 3).trans rfl
          have y4 : W3.cell? ⟨bp, 4, none⟩ = some (.int .i64 p.f4) := (blk_cell hq 4).trans rfl
          have yf := fun j => blk_frozen hq j
          gi_wp2
          go_roundw
          case rel => exact ⟨k + 1, nextP p s, out ++ outP p s, by go_num, by omega, (by simp [nextP, hns]), (by simp [nextP, hns] <;> omega), (by simp [outP, hns, hpos] <;> omega), ⟨by rw [HX.out, HPC.out]; rfl⟩, ⟨by simp only [nextP, hns]; exact fill5x hq⟩, ⟨by rw [show outP p s = [p] by simp [outP, hns, hpos]]; exact ap_fill (ap_sub hJ (by simp)) (List.mem_singleton.2 rfl) hBp _ _ _ _ _ _⟩⟩
          case measure => simp [intOf]; omega
      · have hz : p.f4 = 0 := by omega
        have hd : decide (p.f4 > 0) = false := by simp [hz]
        gi_wp2
        refine ⟨fun _ h => (by cases h), ?_⟩
        gi_wp2
        go_roundw
        case rel => exact ⟨k + 1, nextP p s, out ++ outP p s, by go_num, by omega, (by simp [nextP, sameP, hz]), (by simp [nextP, sameP, hz] <;> omega), (by simp [outP, hz] <;> omega), ⟨by rw [HX.out, HPC.out]; rfl⟩, ⟨by simp only [nextP, sameP, hz]; exact blk_alloc (blk_alloc (fill5x HP.out) _) _⟩, ⟨by simp only [outP, hz]; exact ap_sub (ap_two (by simpa using ap_fill HA.out (List.mem_singleton.2 rfl) hBp _ _ _ _ _ _) (Nat.le_refl _) _ _) (by simp)⟩⟩
        case measure => simp [intOf]; omega
    · have hke : k = sl.length := by omega
      have hin1 : ¬ (k : Int) < sl.length := by omega
      have HPS : Aside0 (piecesOf sl = out ++ (if 0 < p.f4 then [p] else [])) := ⟨by
        have h := HPC.out
        rw [hke, List.take_length] at h
        simp [piecesOf, h]⟩
      clear hke
      by_cases hpos : 0 < p.f4
      · have hd : decide (p.f4 > 0) = true := by simpa using hpos
        obtain ⟨fn', tmps, assign, body, hy, hR⟩ := ap_yield F (n - 1) w0.heap.size w0 fn hfn sv Bs l D hBl hDl hDB h0B h0l (Nat.le_refl _) _ out p _ HA.out (by omega)
        gi_wp2
        refine hR.mono ?_
        rintro e W3 ⟨rfl, hJ, hk3⟩
        gi_wp2
        go_end0
        exact ⟨⟨_, rfl⟩, by rw [HPS.out, if_pos hpos]; exact ap_sub hJ (by simp)⟩
      · have hz : p.f4 = 0 := by omega
        have hd : decide (p.f4 > 0) = false := by simp [hz]
        gi_wp2
        go_end0
        exact ⟨⟨_, rfl⟩, by rw [HPS.out, if_neg (by omega), List.append_nil]; exact ap_sub HA.out (by simp)⟩
end Go.Proofs.YtbldolbeijpipaaDoor
namespace Go.Proofs.YtbldolbeijpipaaDoor
open Go.RowKit Go.Proofs.YtbldolbeijpipaaDoorW.PrintWords
attribute [local go_sem] Oper.semAt_some
set_option linter.unusedVariables false
set_option linter.unusedSimpArgs false
theorem piecesOf_len (l : List S43) : (piecesOf l).length ≤ l.length + 1 := by
  have h := pcs_ticks l l.length (Nat.le_refl _)
  rw [List.take_length] at h
  simp only [piecesOf, List.length_append]
  split <;> simp <;> omega
theorem enc41_length (ps : List S41) : (enc41 ps).length = ps.length * 5 := by
  induction ps with
  | nil => rfl
  | cons p ps ih => simp only [enc41, List.map_cons, List.flatten_cons, List.length_append, List.length_cons] at ih ⊢; rw [ih]; simp [cells41]; omega
theorem reps41 (w : World) : ∀ ps : List S41, Reps (k41.K w) 5 ps (enc41 ps) := fun ps => by
  have go : ∀ (qs : List S41) (ps : List S41) (cs : List Value), Reps (k41.K w) 5 ps cs → Reps (k41.K w) 5 (ps ++ qs) (cs ++ enc41 qs) := by
    intro qs
    induction qs with
    | nil => intro ps cs h; simpa [enc41] using h
    | cons q qs ih =>
      intro ps cs h
      have h2 := ih (ps ++ [q]) (cs ++ cells41 q) (Reps.snoc h (k41_cells w q) (by simp [cells41]))
      simpa [enc41] using h2
  simpa using go ps [] [] (Reps.none _ _)
set_option maxRecDepth 100000 in
set_option maxHeartbeats 2000000 in
theorem appendSeq_in (F : Fence) (n : Nat) (h77 : F.fn 77) (h78 : F.fn 78) (hro : F.round = none) (hn : 2 ≤ n) (Bm : Nat) (A : Option Addr) (c : Nat) (sl : List S43) (w : World) (hC : k43.C w A sl.length sl) (hsl : sl.length ≤ 160) (hBm : w.heap[Bm]? = some (.cells #[.slice A sl.length c] 32 (0, 0))) :
    CallsIn F n Tryd.prog 77 #[.slice none 0 0, .func (.func 78) #[] #[.pointer (some ⟨Bm, 0, none⟩)]] w fun e w' => ∃ v, e = .returned v ∧ w'.ownsRow w.heap.size 41 5 v (piecesOf sl).length (enc41 (piecesOf sl)) ∧ Below w.heap.size w w' := by
  have h1 : 1 ≤ n := by omega
  have HC := Aside0.mk hC
  have HBm := Aside0.mk hBm
  clear hC hBm
  refine callsIn_of_wp_marks Tryd.func77 rfl h77 ?_ hro
  simp only [Tryd.ntmps77, List.size_toArray, List.length_cons, List.length_nil, Nat.reduceAdd, Nat.reduceSub, Array.replicate_succ, Array.replicate_zero, List.push_toArray, List.append_toArray, List.nil_append, List.cons_append]
  gi_wp2
  refine wpIn_rangeFunc ?_
  intro fn hfn
  rw [hro]
  obtain ⟨sv, hsv⟩ : ∃ sv, sv = Value.func (.func 78) #[] #[.pointer (some ⟨Bm, 0, none⟩)] := ⟨_, rfl⟩
  obtain ⟨W0, hW0⟩ : ∃ W0, w.alloc (.cells #[.slice none 0 0] 38) = W0 := ⟨_, rfl⟩
  have hs0 : W0.heap.size = w.heap.size + 1 := by rw [← hW0]; simp
  have hv0 : W0.heap[w.heap.size]? = some (.cells #[.slice none 0 0] 38 (0, 0)) := by rw [← hW0]; exact World.alloc_heap_new w _
  have hb0 : Below w.heap.size w W0 := by rw [← hW0]; exact (Below.refl _ w).alloc (Nat.le_refl _) _
  rw [hW0, ← hsv]
  obtain ⟨W1, hW1⟩ : ∃ W1, (W0.alloc (.deferred (some []))).alloc (.loop (apRec fn sv w.heap.size W0.heap.size .ready none)) = W1 := ⟨_, rfl⟩
  have hold : ∀ k, k < W0.heap.size → W1.heap[k]? = W0.heap[k]? := fun k hk => by
    rw [← hW1]; exact (Below.heap_alloc _ _ k (by simp; omega)).trans (Below.heap_alloc _ _ k hk)
  have hb1 : Below w.heap.size w W1 := by rw [← hW1]; exact (hb0.alloc hb0.size _).alloc (by have := hb0.size; simp; omega) _
  have hs1 : W1.heap.size = W0.heap.size + 2 := by rw [← hW1]; simp
  have hM : ApAt w.heap.size w fn sv w.heap.size (W0.heap.size + 1) W0.heap.size [] [] W1 :=
    ⟨⟨_, (hold w.heap.size (by omega)).trans hv0, ⟨rfl, .inl ⟨rfl, rfl⟩⟩, by simp⟩,
     by rw [← hW1]; have := World.alloc_heap_new (W0.alloc (.deferred (some []))) (.loop (apRec fn sv w.heap.size W0.heap.size .ready none)); rwa [World.size_alloc] at this,
     by rw [← hW1]; exact (Below.heap_alloc _ _ _ (by simp)).trans (World.alloc_heap_new W0 _), hb1, by simp⟩
  have eg : ∀ args w, (callFunc 78 args).run Tryd.prog w = .ok (.enter 78 args) w := enters_of Tryd.func78 (by kernel_rfl) rfl
  refine ⟨W0.heap.size + 1, [{ target := .collected W0.heap.size, args := #[] }], W1, { target := .fn (.func 78) #[.pointer (some ⟨Bm, 0, none⟩)], args := #[.func (.yield (W0.heap.size + 1)) #[] #[]] }, W1, 78,
    #[.func (.yield (W0.heap.size + 1)) #[] #[]] ++ #[.pointer (some ⟨Bm, 0, none⟩)], W1, ?_, ?_, ?_, ?_, fun _ => h1, ?_⟩
  · rw [← hW1]; exact run_enterLoop_outer _ _ _ _ _
  · rw [hsv]; simp [resolve, go_sem]
  · intro f' hf'; simp [Target.leads] at hf'; subst hf'; exact h78
  · simp [invoke, go_sem, eg]
  · refine (pieces1_in F (n - 1) h78 hro (by omega) w fn hfn sv w.heap.size (W0.heap.size + 1) W0.heap.size Bm (by omega) (by omega) (by omega) (Nat.le_refl _) (by omega) A c sl HC.out hsl HBm.out W1 hM).mono ?_
    rintro e W2 ⟨⟨v0, rfl⟩, h2⟩
    obtain ⟨v, hv, hrow, _⟩ := h2.box
    have hend := run_endLoop (P := Tryd.prog) h2.L (by simp [apRec])
    obtain ⟨W3, hW3⟩ : ∃ W3, W2.putObj (W0.heap.size + 1) (.loop { apRec fn sv w.heap.size W0.heap.size .ready none with state := .exhausted }) = W3 := ⟨_, rfl⟩
    have hg3 : W2.grownBy W3 (some (W0.heap.size + 1)) := by rw [← hW3]; exact put_grown _ _ _
    have hv3 : W3.heap[w.heap.size]? = some (.cells #[v] 38 (0, 0)) := by rw [← hW3]; exact (World.putObj_heap_other (by omega)).trans hv
    have hK3 : W3.heap[W0.heap.size]? = some (.deferred (some [])) := by rw [← hW3]; exact (World.putObj_heap_other (by omega)).trans h2.K
    have hrow3 := hrow.kept hg3 (.inr (row_ne hrow h2.L (fun cur e => by cases e)))
    have hb3 : Below w.heap.size w W3 := h2.below.grown hg3 h2.below.size (fun k e => by cases e; omega)
    obtain ⟨hc3, hf3⟩ := box_cell hv3
    refine ⟨none, W3, hend.trans (by rw [← hW3]; rfl), ?_⟩
    clear hend hW3 hW0 hW1 hold hsv
    gi_wp2
    rw [← hs0]
    refine ⟨by simp, .inl ⟨_, _, rfl, run_takeDeferred hK3, ?_⟩⟩
    exact ⟨_, results_tmp rfl _ _ _, v, rfl, hrow3.kept (put_grown _ _ _) (.inr (row_ne hrow3 hK3 (fun cur e => by cases e))), hb3.grown (put_grown _ _ _) hb3.size (fun k e => by cases e; omega)⟩
set_option maxHeartbeats 1000000 in
theorem collect_in (F : Fence) (n : Nat) (h40 : F.fn 40) (h77 : F.fn 77) (h78 : F.fn 78) (hro : F.round = none) (hn : 3 ≤ n) (Bm : Nat) (A : Option Addr) (c : Nat) (sl : List S43) (w : World) (hC : k43.C w A sl.length sl) (hsl : sl.length ≤ 160) (hBm : w.heap[Bm]? = some (.cells #[.slice A sl.length c] 32 (0, 0))) :
    CallsIn F n Tryd.prog 40 #[.func (.func 78) #[] #[.pointer (some ⟨Bm, 0, none⟩)]] w fun e w' => ∃ v, e = .returned v ∧ w'.ownsRow w.heap.size 41 5 v (piecesOf sl).length (enc41 (piecesOf sl)) ∧ Below w.heap.size w w' := by
  have h1 : 1 ≤ n := by omega
  refine callsIn_of_wp Tryd.func40 rfl h40 ?_ hro
  simp only [Tryd.ntmps40, List.size_toArray, List.length_cons, List.length_nil, Nat.reduceAdd, Nat.reduceSub, Array.replicate_succ, Array.replicate_zero, List.push_toArray, List.append_toArray, List.nil_append, List.cons_append]
  gi_wp2_with (gi_at_call 77; refine (appendSeq_in F (n - 1) h77 h78 hro (by omega) Bm A c sl _ hC hsl hBm).mono ?_; rintro e w' ⟨v, rfl, hrow, hb⟩)
  go_ret
  exact ⟨v, rfl, hrow, hb⟩
set_option maxHeartbeats 1000000 in
theorem collect_any (Bm : Nat) (A : Option Addr) (c : Nat) (sl : List S43) (w : World) (hC : k43.C w A sl.length sl) (hsl : sl.length ≤ 160) (hBm : w.heap[Bm]? = some (.cells #[.slice A sl.length c] 32 (0, 0))) :
    Calls Tryd.prog 40 #[.func (.func 78) #[] #[.pointer (some ⟨Bm, 0, none⟩)]] w fun e w' => ∃ v, e = .returned v ∧ w'.ownsRow w.heap.size 41 5 v (piecesOf sl).length (enc41 (piecesOf sl)) ∧ Below w.heap.size w w' :=
  (callsIn_wide (n := 3)).1 (collect_in _ 3 trivial trivial trivial rfl (by omega) Bm A c sl w hC hsl hBm)
end Go.Proofs.YtbldolbeijpipaaDoor
namespace Go.Proofs.YtbldolbeijpipaaDoor
open Go.RowKit Go.Proofs.YtbldolbeijpipaaDoorW.PrintWords Go.Proofs.YtbldolbeijpipaaDoorW.PrintLast Go.Proofs.YtbldolbeijpipaaDoorW.PrintMore
set_option linter.unusedVariables false
set_option linter.unusedSimpArgs false
set_option maxHeartbeats 800000 in
theorem piecesf_any (A : Option Addr) (n c : Nat) (w : World) :
    Calls Tryd.prog 41 #[.slice A n c] w fun e w' => e = .returned (.func (.func 78) #[] #[.pointer (some ⟨w.heap.size, 0, none⟩)]) ∧ w' = w.alloc (.cells #[.slice A n c] 32) := by
  go_enter Tryd.func41, Tryd.ntmps41
  go_wp2_with fail
  go_ret
  exact ⟨rfl, rfl⟩
/-- A row of pieces that the call has made, as it is read. -/
theorem row_reads41 {w : World} {base : Nat} {v : Value} {ps : List S41} (h : w.ownsRow base 41 5 v ps.length (enc41 ps)) : ∃ A c, v = .slice A ps.length c ∧ ps.length ≤ c ∧ k41.C w A ps.length ps := by
  have hr : k41.R 41 w base (fun _ => True) v ps := ⟨fun _ _ => trivial, enc41 ps, h, reps41 w ps⟩
  obtain ⟨A, c, hv, hc, hC⟩ := Kd.R_reads hr
  exact ⟨A, c, hv, hc, hC⟩
set_option maxHeartbeats 800000 in
theorem pieces_any (l : List S43) (A : Option Addr) (c : Nat) (w : World) (h : RightOK l) (hl : l.length ≤ 160) (hC : k43.C w A l.length l) (hc : l.length ≤ c) :
    Calls Tryd.prog 14 #[.slice A l.length c] w fun e w' => ∃ A1 c1, e = .returned (.slice A1 (piecesOf l).length c1) ∧ (piecesOf l).length ≤ c1 ∧ k41.C w' A1 (piecesOf l).length (piecesOf l) ∧ Below w.heap.size w w' := by
  have HC := Aside0.mk hC
  have HL := Aside0.mk h
  have HCC := Aside0.mk hc
  clear hC h hc
  go_enter Tryd.func14, Tryd.ntmps14
  go_wp2_with fail
  refine (right_any l A c w HL.out (by omega) HC.out HCC.out).mono ?_
  rintro e w1 ⟨rfl, hb⟩
  have HB := Aside0.mk hb
  clear hb
  go_wp2_with fail
  refine (piecesf_any A l.length c w1).mono ?_
  rintro e w2 ⟨rfl, rfl⟩
  go_wp2_with fail
  have hba := below_alloc (Below.refl w1.heap.size w1) (.cells #[.slice A l.length c] 32)
  refine (collect_any w1.heap.size A c l _ (Kd.C_below (Kd.C_below HC.out HB.out) hba) hl (blk_new _ _)).mono ?_
  rintro e w3 ⟨v, rfl, hrow, hb3⟩
  obtain ⟨A1, c1, rfl, hc1, hC1⟩ := row_reads41 hrow
  have H1 := Aside0.mk hC1
  have HB3 := Aside0.mk (below_then (below_then HB.out HB.out.size hba) (Nat.le_trans HB.out.size hba.size) hb3)
  have HC1 := Aside0.mk hc1
  clear hC1 hrow hb3 hba hc1
  go_wp2_with fail
  go_ret
  exact ⟨A1, c1, rfl, HC1.out, H1.out, HB3.out⟩
end Go.Proofs.YtbldolbeijpipaaDoor
namespace Go.Proofs.YtbldolbeijpipaaDoor
open Go.RowKit Go.Proofs.YtbldolbeijpipaaDoorW.PrintWords Go.Proofs.YtbldolbeijpipaaDoorW.PrintLast Go.Proofs.YtbldolbeijpipaaDoorW.PrintMore
set_option linter.unusedVariables false
set_option linter.unusedSimpArgs false
theorem right_of_slots {l : List S43} (h : SlotsOK l) (hl : l.length ≤ 160) : RightOK l :=
  ⟨fun x hx => by
    obtain ⟨j, hj, rfl⟩ := List.getElem_of_mem hx
    obtain ⟨h0, h1, h2⟩ := h j _ (List.getElem?_eq_getElem hj)
    refine ⟨h1, by omega, ?_⟩
    rcases h2 with h2 | h2
    · exact .inl h2
    · exact .inr ⟨h2.2.2.2.2.1, h2.1, by omega, h2.2.2.1, h2.2.2.2.1, h2.2.2.2.2.2.2.1, by omega, h2.2.2.2.2.2.1⟩, fun j x y hx hy => by
    have h1 := (h j x hx).1
    have h2 := (h (j + 1) y hy).1
    omega⟩
theorem TileP.le {l : List S43} : ∀ {ps : List S41} {n m : Nat}, TileP l n ps m → n ≤ m
  | [], n, m, h => Nat.le_of_eq h
  | p :: ps, n, m, h => by have := TileP.le h.2; omega
set_option maxHeartbeats 3200000 in
set_option maxRecDepth 100000 in
theorem law4_any (a0 a1 b0 b1 : Int) (An At Aq Aa : Option Addr) (cn ct cq ca : Nat) (ln : List S140) (lt lq : List Int) (la : List S85) (w : World) (hn : k140.C w An ln.length ln) (ht : (Kd.int .i64).C w At lt.length lt) (hq : (Kd.int .i64).C w Aq lq.length lq) (ha : k85.C w Aa la.length la) (hT : T10 w) :
    Calls Tryd.prog 4 #[.agg #[.int .i64 a0, .int .i64 a1, .slice An ln.length cn, .int .i64 b0, .int .i64 b1, .slice At lt.length ct, .slice Aq lq.length cq, .slice Aa la.length ca]] w fun e w' => e = .returned (.bool true) ∧ Below w.heap.size w w' := by
  have HN := Aside0.mk hn
  have HT := Aside0.mk ht
  have HQ := Aside0.mk hq
  have HA := Aside0.mk ha
  have H10 := Aside0.mk hT
  clear hn ht hq ha hT
  go_enter Tryd.func4, Tryd.ntmps4
  go_wp2_with fail
  obtain ⟨bx, hbx⟩ : ∃ bx, bx = Obj.cells #[.int .i64 a0, .int .i64 a1, .slice An ln.length cn, .int .i64 b0, .int .i64 b1, .slice At lt.length ct, .slice Aq lq.length cq, .slice Aa la.length ca] 30 := ⟨_, rfl⟩
  have HB0 := Aside0.mk (below_alloc (Below.refl w.heap.size w) bx)
  have BX0 := Aside0.mk (blk_new w bx)
  rw [hbx] at HB0 BX0
  clear hbx bx
  refine (awake_any _ (H10.out.below HB0.out)).mono ?_
  rintro e w1 ⟨rfl, hb⟩
  have BX := Aside0.mk (blk_below BX0.out hb)
  have HB := Aside0.mk (below_then HB0.out HB0.out.size hb)
  clear hb HB0 BX0
  have x0 : w1.cell? ⟨w.heap.size, 0, none⟩ = some (.int .i64 a0) := (blk_cell BX.out 0).trans rfl
  have x1 : w1.cell? ⟨w.heap.size, 1, none⟩ = some (.int .i64 a1) := (blk_cell BX.out 1).trans rfl
  have x2 : w1.cell? ⟨w.heap.size, 2, none⟩ = some (.slice An ln.length cn) := (blk_cell BX.out 2).trans rfl
  have x3 : w1.cell? ⟨w.heap.size, 3, none⟩ = some (.int .i64 b0) := (blk_cell BX.out 3).trans rfl
  have x4 : w1.cell? ⟨w.heap.size, 4, none⟩ = some (.int .i64 b1) := (blk_cell BX.out 4).trans rfl
  have x5 : w1.cell? ⟨w.heap.size, 5, none⟩ = some (.slice At lt.length ct) := (blk_cell BX.out 5).trans rfl
  have x6 : w1.cell? ⟨w.heap.size, 6, none⟩ = some (.slice Aq lq.length cq) := (blk_cell BX.out 6).trans rfl
  have x7 : w1.cell? ⟨w.heap.size, 7, none⟩ = some (.slice Aa la.length ca) := (blk_cell BX.out 7).trans rfl
  go_wp2_with fail
  refine (run_any a0 a1 b0 b1 An At Aq Aa cn ct cq ca ln lt lq la w1 (Kd.C_below HN.out HB.out) (Kd.C_below HT.out HB.out) (Kd.C_below HQ.out HB.out) (Kd.C_below HA.out HB.out)).mono ?_
  rintro e w2 ⟨A, c, l, rfl, hl, hS, hc, hC, hb⟩
  replace HB := Aside0.mk (below_then HB.out HB.out.size hb)
  have HC := Aside0.mk hC
  have HR := Aside0.mk (right_of_slots hS hl)
  have HS := Aside0.mk (pieces_tile l (fun j x hx => (hS j x hx).1))
  have HI := Aside0.mk (fun j x hx => (hS j x hx).1 : ∀ (j : Nat) (x : S43), l[j]? = some x → x.f0 = j)
  clear BX hb hC hS x0 x1 x2 x3 x4 x5 x6 x7 HN HT HQ HA
  replace H10 := Aside0.mk (H10.out.below HB.out)
  go_wp2_with fail
  refine (pieces_any l A c w2 HR.out hl HC.out hc).mono ?_
  rintro e w3 ⟨A1, c1, rfl, hc1, hC1, hb⟩
  replace HB := Aside0.mk (below_then HB.out HB.out.size hb)
  replace HC := Aside0.mk (Kd.C_below HC.out hb)
  have HQ := Aside0.mk hC1
  have hpl : (piecesOf l).length ≤ 161 := by have := piecesOf_len l; omega
  generalize piecesOf l = ps at HS HQ hpl hc1 ⊢
  clear hC1 hb H10
  go_wp2_with fail
  go_loopw [6, 7] (fun nn ii wr => ∃ (i n : Nat), nn = .int .i64 n ∧ ii = .int .i64 i ∧ i ≤ ps.length ∧ n ≤ l.length ∧ Aside0 (TileP l n (ps.drop i) l.length) ∧ Aside0 (k43.C wr A l.length l) ∧ Aside0 (k41.C wr A1 ps.length ps) ∧ Aside0 (Below w.heap.size w wr)) (fun nn ii _ => ps.length - (intOf ii).toNat)
  case atStart => exact ⟨0, 0, rfl, rfl, by omega, by omega, ⟨HS.out.1⟩, HC, HQ, HB⟩
  case round =>
    clear HC HQ HB
    obtain ⟨i, n, rfl, rfl, hi, hn, HT, HC, HQ, HB⟩ := hrel
    by_cases hin : i < ps.length
    · have hin1 : (i : Int) < ps.length := by omega
      obtain ⟨p, hp⟩ : ∃ p, p = ps[i] := ⟨_, rfl⟩
      have hpi : ps[i]? = some p := by rw [hp]; exact List.getElem?_eq_getElem hin
      have hdr : ps.drop i = p :: ps.drop (i + 1) := by rw [hp]; exact List.drop_eq_getElem_cons hin
      have hT := HT.out
      rw [hdr] at hT
      obtain ⟨⟨ho1, ho2, ho3⟩, hT2⟩ := hT
      have HT2 := Aside0.mk hT2
      have HO3 := Aside0.mk ho3
      obtain ⟨ad1, ea1, q0, q1, q2, q3, q4⟩ := at_T41 HQ.out i (by omega) (by omega)
      subst ea1
      have hrd : rd_T41 ps (i : Int) = p := by simp [rd_T41, List.getD, hpi]
      rw [hrd] at q0 q1 q2 q3 q4
      rw [Int.toNat_natCast] at q0 q1 q2 q3 q4
      rw [ho2] at q3
      have HPI := Aside0.mk hpi
      clear hp hpi hdr hT2 ho3 hrd
      have hd1 : decide (p.f4 < 1) = false := by simp; omega
      obtain ⟨t, ht⟩ : ∃ t : Nat, p.f4 = (t : Int) := ⟨p.f4.toNat, by omega⟩
      have HTT := Aside0.mk ht
      rw [ht] at q4 ho1 hd1
      have hnt : n + t ≤ l.length := by have := HT2.out.le; rw [ht, Int.toNat_natCast] at this; exact this
      have HO2 := Aside0.mk ho2
      clear ht ho2
      go_wp2_with fail
      clear q0 q1 q2 q3 q4
      go_loopw [6, 8] (fun nn kk wv => ∃ k : Nat, nn = .int .i64 ((n + k : Nat) : Int) ∧ kk = .int .i64 k ∧ k ≤ t ∧ Aside0 (k43.C wv A l.length l) ∧ Aside0 (k41.C wv (some ad1) ps.length ps) ∧ Aside0 (Below w.heap.size w wv)) (fun nn kk _ => t - (intOf kk).toNat)
      case atStart => exact ⟨0, by simp, rfl, by omega, HC, HQ, HB⟩
      case round =>
        clear HC HQ HB
        obtain ⟨k, rfl, rfl, hkt, HC, HQ, HB⟩ := hrel
        obtain ⟨ad2, ea2, q0, q1, q2, q3, q4⟩ := at_T41 HQ.out i (by omega) (by omega)
        injection ea2 with ea2
        subst ea2
        have hrd : rd_T41 ps (i : Int) = p := by simp [rd_T41, List.getD, HPI.out]
        rw [hrd] at q0 q1 q2 q3 q4
        rw [Int.toNat_natCast] at q0 q1 q2 q3 q4
        rw [HO2.out] at q3
        rw [HTT.out] at q4
        clear hrd
        by_cases hk : k < t
        · have hk1 : (k : Int) < t := by omega
          obtain ⟨x, hx, hx1, hx2, hx3, hx0⟩ := HO3.out k (by rw [HTT.out]; omega)
          have hnk : n + k < l.length := by omega
          obtain ⟨ad3, ea3, p0, p1, p2, p3, p4, p5⟩ := at_T43 HC.out ((n + k : Nat) : Int) (by omega) (by omega)
          subst ea3
          have hrd : rd_T43 l ((n + k : Nat) : Int) = x := by simp only [rd_T43, List.getD, Int.toNat_natCast, hx, Option.getD_some]
          rw [hrd, Int.toNat_natCast] at p0 p1 p2 p3 p4 p5
          rw [hx1] at p1
          rw [hx2] at p2
          rw [hx3] at p3
          rw [hx0, HO2.out] at p0
          clear hx hx0 hx1 hx2 hx3 hrd p4 p5
          have hw : wrap64 ((n : Int) + k) = (n : Int) + k := by unfold wrap64; omega
          obtain ⟨m, hm⟩ : ∃ m : Nat, m = n + k := ⟨_, rfl⟩
          rw [← hm] at hnk p0 p1 p2 p3 ⊢
          have HM := Aside0.mk hm
          have hm0 : (0 : Int) ≤ (m : Int) := by omega
          have hm1 : (m : Int) < l.length := by omega
          have hg : decide ((m : Int) ≥ (l.length : Int)) = false := by simp; omega
          have hg2 : decide (l.length ≤ m) = false := by simp; omega
          have hmb : m ≤ 160 := by omega
          clear hm
          go_wp2_with fail
          go_quiet (fail)
          go_wp2_with fail
          go_roundw
          case rel =>
            have hdn := pw_below_drewN (Below.refl wr.heap.size wr) nq
            exact ⟨k + 1, by rw [HM.out]; go_num, by go_num, by omega, ⟨Kd.C_below HC.out hdn⟩, ⟨Kd.C_below HQ.out hdn⟩, ⟨pw_below_drewN HB.out nq⟩⟩
          case measure => simp [intOf]; omega
        · have hke : k = t := by omega
          have hk1 : ¬ (k : Int) < t := by omega
          subst hke
          obtain ⟨m, hm⟩ : ∃ m : Nat, m = n + k := ⟨_, rfl⟩
          rw [← hm]
          have HM := Aside0.mk hm
          have hml : m ≤ l.length := by omega
          clear hm
          have HT3 : Aside0 (TileP l m (ps.drop (i + 1)) l.length) := ⟨by have := HT2.out; rw [HTT.out, Int.toNat_natCast] at this; rw [HM.out]; exact this⟩
          have fin : ∀ wx, Below wr.heap.size wr wx → ∃ (i_1 n_1 : Nat), Value.int .i64 (m : Int) = .int .i64 (n_1 : Int) ∧ Value.int .i64 ((i : Int) + 1) = .int .i64 (i_1 : Int) ∧ i_1 ≤ ps.length ∧ n_1 ≤ l.length ∧ Aside0 (TileP l n_1 (ps.drop i_1) l.length) ∧ Aside0 (k43.C wx A l.length l) ∧ Aside0 (k41.C wx (some ad1) ps.length ps) ∧ Aside0 (Below w.heap.size w wx) := fun wx hwx => ⟨i + 1, m, rfl, by simp, by omega, hml, HT3, ⟨Kd.C_below HC.out hwx⟩, ⟨Kd.C_below HQ.out hwx⟩, ⟨below_then HB.out HB.out.size hwx⟩⟩
          have FIN := Aside0.mk fin
          clear fin
          by_cases hi0 : i = 0
          · have hgt : decide ((i : Int) > 0) = false := by simp [hi0]
            have hgt2 : decide (0 < i) = false := by simp [hi0]
            clear hi0
            go_wp2_with fail
            go_quiet (fail)
            go_wp2_with fail
            go_roundw
            case rel => exact FIN.out _ (pw_below_drewN (Below.refl wr.heap.size wr) nq)
            case measure => simp [intOf]; omega
          · have hgt : decide ((i : Int) > 0) = true := by simp; omega
            have hgt2 : decide (0 < i) = true := by simp; omega
            obtain ⟨r, hr⟩ : ∃ r, ps[i - 1]? = some r := ⟨_, List.getElem?_eq_getElem (by omega)⟩
            have hdf := DiffP.get HS.out.2 (i - 1) r p hr (by rw [Nat.sub_add_cancel (by omega)]; exact HPI.out)
            obtain ⟨ad4, ea4, s0, s1, s2, s3, s4⟩ := at_T41 HQ.out ((i - 1 : Nat) : Int) (by omega) (by omega)
            injection ea4 with ea4
            subst ea4
            have hrd : rd_T41 ps ((i - 1 : Nat) : Int) = r := by simp only [rd_T41, List.getD, Int.toNat_natCast, hr, Option.getD_some]
            rw [hrd, Int.toNat_natCast] at s0 s1 s2 s3 s4
            have hw1 : wrap64 ((i : Int) - 1) = ((i - 1 : Nat) : Int) := by rw [show wrap64 ((i : Int) - 1) = (i : Int) - 1 by unfold wrap64; omega]; omega
            have hi1 : ((i - 1 : Nat) : Int) < ps.length := by omega
            have hi2 : (0 : Int) ≤ ((i - 1 : Nat) : Int) := by omega
            obtain ⟨i', hi'⟩ : ∃ i' : Nat, i' = i - 1 := ⟨_, rfl⟩
            have hw2 : (i : Int) - 1 = ((i - 1 : Nat) : Int) := by omega
            rw [← hi'] at s0 s1 s2 hw1 hi1 hi2 hw2
            clear hr hrd s3 s4 hi'
            have HD := Aside0.mk hdf
            clear hdf hi0
            by_cases e0 : p.f0 = r.f0
            · have b0 : (p.f0 == r.f0) = true := beq_iff_eq.mpr e0
              have E0 := Aside0.mk e0
              clear e0
              by_cases e1 : p.f1 = r.f1
              · have b1 : (p.f1 == r.f1) = true := beq_iff_eq.mpr e1
                have b2 : (p.f2 == r.f2) = false := beq_eq_false_iff_ne.mpr (fun e2 => HD.out ⟨E0.out, e1, e2⟩)
                clear e1
                go_wp2_with fail
                go_quiet (fail)
                go_wp2_with fail
                go_roundw
                case rel => exact FIN.out _ (pw_below_drewN (Below.refl wr.heap.size wr) nq)
                case measure => simp [intOf]; omega
              · have b1 : (p.f1 == r.f1) = false := beq_eq_false_iff_ne.mpr e1
                clear e1
                go_wp2_with fail
                go_quiet (fail)
                go_wp2_with fail
                go_roundw
                case rel => exact FIN.out _ (pw_below_drewN (Below.refl wr.heap.size wr) nq)
                case measure => simp [intOf]; omega
            · have b0 : (p.f0 == r.f0) = false := beq_eq_false_iff_ne.mpr e0
              clear e0
              go_wp2_with fail
              go_quiet (fail)
              go_wp2_with fail
              go_roundw
              case rel => exact FIN.out _ (pw_below_drewN (Below.refl wr.heap.size wr) nq)
              case measure => simp [intOf]; omega
    · have hie : i = ps.length := by omega
      have hin1 : ¬ (i : Int) < ps.length := by omega
      have hT := HT.out
      rw [List.drop_of_length_le (by omega)] at hT
      have hne : n = l.length := hT
      have hnb : ((n : Int) == (l.length : Int)) = true := by rw [hne]; simp
      clear hT hne
      go_wp2_with fail
      go_ret
      exact ⟨rfl, HB.out⟩
end Go.Proofs.YtbldolbeijpipaaDoor
namespace Go.Proofs.YtbldolbeijpipaaDoor
open Go.ChangeShapes Go.WideShapes Go.ChangeAt Go.RowKit Go.Proofs.YtbldolbeijpipaaDoorW.PrintWords
set_option linter.unusedVariables false
set_option linter.unusedSimpArgs false
set_option maxRecDepth 100000 in
theorem pieces4_contract (H : Type) (enc : TypeId × Value → H) (W : World) (base : Nat) (args : Array Value) (ds gs : List (DataW H)) (before : List MemPlace)
    (hval : ∀ (j : Nat) t v, Tryd.f4.params[j]? = some t → args[j]? = some v → Value.okWide Tryd.prog W .any base t v)
    (hW : DataW.Whole enc Tryd.prog Tryd.f4.params.toList Rows.tracePiecesSpec.vars false W args.toList ds gs before) (hL : laidMetH Tryd.prog Rows.tracePiecesRow.laid W) :
    Calls Tryd.prog 4 args W fun e W' => ∃ v, e = .returned v ∧ Rows.tracePiecesSpec.post enc Tryd.prog Tryd.f4 false true false false W args v W' := by
  have hW' := hW
  obtain ⟨p, q, hA, hV, rfl, hfz, hnd⟩ := hW
  rw [Tryd.params4] at hA hval
  obtain ⟨v0, vs0, d0, ds0, p0, q0, hargs, rfl, rfl, h0, r0⟩ := trodAll_cons hA
  obtain ⟨rfl, rfl, rfl⟩ := trodAll_nil r0
  obtain rfl : args = #[v0] := by cases args; simp_all
  obtain ⟨rfl, rfl⟩ := trodVars_none hV
  obtain ⟨x, cs, rfl, hK, _⟩ := open_param Tryd.underlying30 (hval 0 30 v0 rfl rfl) opensRun h0
  obtain ⟨An, cn, At, ct, Aq, cq, Aa, ca, rfl, hn, ht, hq, ha⟩ := kRun_open hK
  refine (law4_any x.a0 x.a1 x.b0 x.b1 An At Aq Aa cn ct cq ca x.ln x.lt x.lq x.la W hn ht hq ha (table10 hL)).mono fun e W' ⟨he, hb⟩ => ?_
  subst he
  exact ⟨_, rfl, post_below laidOutP (fun t ht => by
      rw [Tryd.params4] at ht
      simp only [List.mem_cons, List.not_mem_nil, or_false] at ht
      subst ht
      exact ⟨by kernel_rfl, of_decide_eq_true (by kernel_rfl)⟩) hb rfl hW' rfl rfl (fun _ _ _ => trodAll_cons_mk (shut_bool Tryd.underlying4 _) trodAll_mk0) (ok_one (by kernel_rfl) rfl (okWide_bool_mk Tryd.underlying4 _))⟩
def setTab (cs : Array Value) : Obj → Obj
  | .cells _ t frozen => .cells cs t frozen
  | o => o
def tab32 : Array Value := #[.int .u8 0, .int .u8 1, .int .u8 28, .int .u8 2, .int .u8 29, .int .u8 14, .int .u8 24, .int .u8 3, .int .u8 30, .int .u8 22, .int .u8 20, .int .u8 15, .int .u8 25, .int .u8 17, .int .u8 4, .int .u8 8, .int .u8 31, .int .u8 27, .int .u8 13, .int .u8 23, .int .u8 21, .int .u8 19, .int .u8 16, .int .u8 7, .int .u8 26, .int .u8 12, .int .u8 18, .int .u8 6, .int .u8 11, .int .u8 5, .int .u8 10, .int .u8 9]
def tab64 : Array Value := #[.int .u8 0, .int .u8 1, .int .u8 56, .int .u8 2, .int .u8 57, .int .u8 49, .int .u8 28, .int .u8 3, .int .u8 61, .int .u8 58, .int .u8 42, .int .u8 50, .int .u8 38, .int .u8 29, .int .u8 17, .int .u8 4, .int .u8 62, .int .u8 47, .int .u8 59, .int .u8 36, .int .u8 45, .int .u8 43, .int .u8 51, .int .u8 22, .int .u8 53, .int .u8 39, .int .u8 33, .int .u8 30, .int .u8 24, .int .u8 18, .int .u8 12, .int .u8 5, .int .u8 63, .int .u8 55, .int .u8 48, .int .u8 27, .int .u8 60, .int .u8 41, .int .u8 37, .int .u8 16, .int .u8 46, .int .u8 35, .int .u8 44, .int .u8 21, .int .u8 52, .int .u8 32, .int .u8 23, .int .u8 11, .int .u8 54, .int .u8 26, .int .u8 40, .int .u8 15, .int .u8 34, .int .u8 20, .int .u8 31, .int .u8 10, .int .u8 25, .int .u8 14, .int .u8 19, .int .u8 9, .int .u8 13, .int .u8 8, .int .u8 7, .int .u8 6]
def tab10 : Array Value := (Lib.pow10Tab.map (Value.int .u64 ·)).toArray
/-- A world for the witness: the settled one, the listed tables holding what their own text lays. -/
noncomputable def laidWorld (os : Os) : World :=
  { World.holding Tryd.prog os ⟨#[], #[], []⟩ with heap := (((World.holding Tryd.prog os ⟨#[], #[], []⟩).heap.modify 0 (setTab tab10)).modify 4 (setTab tab32)).modify 5 (setTab tab64) }
def args4 : Array Value := #[.agg #[.int .i64 0, .int .i64 0, .slice none 0 0, .int .i64 0, .int .i64 0, .slice none 0 0, .slice none 0 0, .slice none 0 0]]
theorem laid_met (os : Os) : laidMet Tryd.prog Rows.tracePiecesRow.laid ((laidWorld os).forCall (fun _ _ => 0) ⟨#[], args4, []⟩).memory :=
  laidMet_of_run' 8 (by kernel_rfl) (by kernel_rfl)
def data4 {H : Type} : List (DataW H) := [.agg [.agg [.lit (.int .i64 0), .lit (.int .i64 0), .nil], .agg [.lit (.int .i64 0), .lit (.int .i64 0), .nil, .nil], .nil]]
theorem reads (os : Os) {H : Type} (enc : TypeId × Value → H) : ∃ places, DataW.whole enc Tryd.prog ((laidWorld os).forCall (fun _ _ => 0) ⟨#[], args4, []⟩).memory Tryd.f4.params.toList Rows.tracePiecesSpec.vars false args4.toList 8 = some (data4, [], places) :=
  ⟨[], by kernel_rfl⟩
theorem own : ownKnob Tryd.prog.godebug = none := by kernel_rfl
set_option maxRecDepth 100000 in
theorem pieces4_lifted (os : Os) (started : os.Started) (H : Type) (enc : TypeId × Value → H) (F : Stop.Interp) :
    ReturnsInHanded {} Tryd.checked os 4 .any ((OpenSpec.ofChange Rows.tracePiecesSpec).preRow enc Tryd.prog Tryd.f4 Rows.tracePiecesRow.domain false Rows.tracePiecesRow.laid) (((OpenSpec.ofChange Rows.tracePiecesSpec).at F).post enc Tryd.prog Tryd.f4 false true false false) := by
  obtain ⟨places, hx⟩ := reads os enc
  refine returnsInHanded_of_row (C := Tryd.checked) (s := OpenSpec.ofChange Rows.tracePiecesSpec) own started (by kernel_rfl) Tryd.func4
    (witness_row_at (enc := enc) (C := Tryd.checked) false (laidWorld os) args4 rfl (by kernel_rfl) (by kernel_rfl) (by kernel_rfl)
      (OpenSpec.preRow_of_cond 8 hx (by kernel_rfl) (fun k hk => by cases hk) (by kernel_rfl) (laid_met os))) ?_
  intro W base args ds gs before hval hW _ _ _ hL _ _
  exact pieces4_contract H enc W base args ds gs before hval hW hL
set_option maxRecDepth 100000 in
theorem pieces4_said : Rows.TracePiecesSaid :=
  OpenClaim.holds_of_cond 4 Tryd.f4 rfl rfl rfl rfl rfl rfl rfl ⟨rfl, rfl, rfl, rfl, rfl⟩ rfl rfl rfl rfl rfl (by kernel_rfl) Tryd.func4 (by kernel_rfl)
    (of_decide_eq_true (by kernel_rfl)) (by unfold Func.isWrapper; first | (rw [if_pos (by decide +kernel)]; kernel_rfl) | (rw [if_neg (by decide +kernel)]; exact ⟨rfl, rfl⟩))
    (fun os started H enc _ F => by rw [OpenClaim.pre_eq_preRow]; exact pieces4_lifted os started H enc F)
set_option maxRecDepth 100000 in
theorem pieces4_plain (f : FuncId) (fn : Func) (hf : Tryd.pinned.checked.prog.funcNamed "ostinato/ostinatolaw19.TracePieces" = some f) (hfn : Tryd.pinned.checked.prog.funcs[f]? = some fn) :
    false = Tryd.pinned.checked.prog.looks [] ∧ ∀ (j : Nat) t, fn.params[j]? = some t → Tryd.pinned.checked.prog.wantsStandIn t = false := by
  obtain rfl : f = 4 := Option.some.inj ((show Tryd.prog.funcNamed "ostinato/ostinatolaw19.TracePieces" = some 4 by kernel_rfl).symm.trans hf) |>.symm
  obtain rfl : fn = Tryd.f4 := (Option.some.inj (Tryd.func4.symm.trans hfn)).symm
  refine ⟨by kernel_rfl, fun j t ht => ?_⟩
  rw [Tryd.params4] at ht
  obtain rfl : t = 30 := by simpa using Array.mem_of_getElem? ht
  exact (show Tryd.prog.wantsStandIn 30 = false by kernel_rfl)
set_option maxRecDepth 100000 in
/-- THE CARD. -/
theorem tracePieces_card : Rows.TracePiecesCardSaid :=
  Claim7.holds_tied_plain_at .later [] _ _ _ _ pieces4_said (fun _ h => by cases h) (by kernel_rfl) (fun _ h => by cases h) tracePieces_row_tie rfl ⟨rfl, rfl⟩ (by kernel_rfl) rfl pieces4_plain (by kernel_rfl)
end Go.Proofs.YtbldolbeijpipaaDoor
