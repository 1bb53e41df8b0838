/- What the data of arguments are read from: kind by kind, out of the reading of a row's form. -/
import Derived.Test.YtbldolbeijpipaaDoorWWords
import Derived.Deep.Slices
import Derived.Deep.Fields
import Derived.ChangeSame
import Derived.ChangeArms
import Derived.Test.YtbldolbeijpipaaDoorCards
import Derived.Test.YtbldolbeijpipaaDoorTie
import Derived.Test.YtbldolbeijpipaaDoorHDig
import Derived.WalkKit
import Derived.ProofKit
import Derived.OpenShut
import Derived.Deep.DeepHandedRow
import Derived.Lib.LaidTab
import Derived.Stop.LaidErr
namespace Go.Proofs.YtbldolbeijpipaaDoor
open Go.RowKit Go.Proofs.YtbldolbeijpipaaDoorW.PrintWords Go.Deep Go.ChangeShapes Go.WideShapes
set_option linter.unusedVariables false
set_option linter.unusedSimpArgs false

/-- A type's datum is read from cells of this kind; V: what is known of it besides. -/
def Opens {α : Type} (P : Program) (d : Kd α) (t : TypeId) (V : α → Prop) : Prop :=
  ∀ (H : Type) (enc : TypeId × Value → H) (w : World) (fuel : Nat) (cs : List Value) (x : DataW H × List MemPlace), DataW.trod enc P w 0 (fun _ => true) true fuel t cs = some x → ∃ a, d.K w a cs ∧ V a
/-- Fields, one behind the other. -/
def OpensAt {α : Type} (P : Program) (d : Kd α) (fs : List Field) (off : Nat) (V : α → Prop) : Prop :=
  ∀ (H : Type) (enc : TypeId × Value → H) (w : World) (n : Nat) (cs : List Value), (∀ f ∈ fs, ∃ y, DataW.trod enc P w 0 (fun _ => true) true n f.type ((cs.drop f.offset).take (P.cellsOf f.type)) = some y) → ∃ a, d.K w a ((cs.drop off).take d.sz) ∧ V a

theorem list_of {α : Type} {Q : Nat → α → Prop} : ∀ n : Nat, (∀ i, i < n → ∃ x, Q i x) → ∃ xs : List α, xs.length = n ∧ ∀ i x, xs[i]? = some x → Q i x
  | 0, _ => ⟨[], rfl, fun i x h => by simp at h⟩
  | n + 1, h => by
    obtain ⟨xs, hl, hx⟩ := list_of n (fun i hi => h i (by omega))
    obtain ⟨x, hq⟩ := h n (by omega)
    refine ⟨xs ++ [x], by simp [hl], fun i y hy => ?_⟩
    rcases Nat.lt_or_ge i n with hi | hi
    · rw [List.getElem?_append_left (by omega)] at hy
      exact hx i y hy
    · rw [List.getElem?_append_right (by omega)] at hy
      rcases Nat.eq_or_lt_of_le hi with e | e
      · subst e
        rw [hl, Nat.sub_self] at hy
        simp at hy
        exact hy ▸ hq
      · rw [List.getElem?_eq_none (by simp; omega)] at hy
        cases hy
section
variable {P : Program}
theorem opens_int {k : IntKind} {t : TypeId} (ht : P.underlying t = some (.int k)) : Opens P (Kd.int k) t (fun n => (Lit.int k n).wf = true) := by
  intro H enc w fuel cs x h
  obtain ⟨n, rfl, _, hw⟩ := DataW.trod_int ht h
  exact ⟨n, rfl, hw⟩
theorem opens_string {t : TypeId} (ht : P.underlying t = some .string) : Opens P Kd.string t (fun s => s.size ≤ maxLen) := by
  intro H enc w fuel cs x h
  obtain ⟨n, rfl, _, hw⟩ := DataW.trod_string ht h
  exact ⟨n, rfl, hw⟩
theorem opens_bool {t : TypeId} (ht : P.underlying t = some .bool) : Opens P Kd.bool t (fun _ => True) := by
  intro H enc w fuel cs x h
  obtain ⟨n, rfl, _⟩ := DataW.trod_bool ht h
  exact ⟨n, rfl, trivial⟩
theorem opens_slice {α : Type} {d : Kd α} {V : α → Prop} {t e : TypeId} (ht : P.underlying t = some (.slice e)) (hC : P.cellsOf e = d.sz) (h : Opens P d e V) : Opens P (Kd.slice e d) t (fun xs => ∀ x ∈ xs, V x) := by
  intro H enc w fuel cs x hx
  rcases open_slice ht hx with ⟨rfl, _⟩ | ⟨a, len, cap, m, n, D, Pl, rfl, _, hl, hm, hmm, _, hi⟩
  · exact ⟨[], ⟨none, 0, rfl, Nat.le_refl _, ⟨rfl, by simp, fun h => absurd h (by simp)⟩⟩, by simp⟩
  · have hlm : len ≤ m := by rw [hmm]; simpa using hl
    have hg : ∀ i, i < len → ∃ x : α, V x ∧ ∃ c, c.length = d.sz ∧ d.K w x c ∧ ∀ j u, c[j]? = some u → w.cell? (a.add (i * d.sz + j)) = some u := by
      intro i hi'
      obtain ⟨cs', hc, ht'⟩ := hi i (by omega)
      obtain ⟨x, hx, hV⟩ := h H enc w n cs' _ ht'
      obtain ⟨_, hcl, hat⟩ := World.cells?_some hc
      refine ⟨x, hV, cs', hcl.trans hC, hx, fun j u hu => ?_⟩
      have hj : j < cs'.length := (List.getElem?_eq_some_iff.1 hu).1
      have hq := hat j (by omega)
      rw [hC] at hq
      rw [← Go.Deep.add_add, hq, hu]
    obtain ⟨xs, hxl, hq⟩ := list_of len hg
    refine ⟨xs, ⟨some a, cap, by rw [hxl], by omega, ⟨rfl, by unfold maxLen at hm; omega, fun _ => ⟨a, rfl, fun j p hp => (hq j p hp).2⟩⟩⟩, fun x hx => ?_⟩
    obtain ⟨i, hi'⟩ := List.getElem?_of_mem hx
    exact (hq i x hi').1
theorem opensAt_one {α : Type} {d : Kd α} {V : α → Prop} {f : Field} {off : Nat} (ho : f.offset = off) (hC : P.cellsOf f.type = d.sz) (h : Opens P d f.type V) : OpensAt P d [f] off V := by
  intro H enc w n cs hf
  obtain ⟨y, hy⟩ := hf f (by simp)
  rw [ho, hC] at hy
  exact h H enc w n _ _ hy
theorem opensAt_cons {α β : Type} {d : Kd α} {d2 : Kd β} {V : α → Prop} {V2 : β → Prop} {f : Field} {fs : List Field} {off : Nat} (ho : f.offset = off) (hC : P.cellsOf f.type = d.sz) (h : Opens P d f.type V) (h2 : OpensAt P d2 fs (off + d.sz) V2) :
    OpensAt P (Kd.pair d d2) (f :: fs) off (fun x => V x.1 ∧ V2 x.2) := by
  intro H enc w n cs hf
  obtain ⟨y, hy⟩ := hf f (by simp)
  rw [ho, hC] at hy
  obtain ⟨a, ha, hV⟩ := h H enc w n _ _ hy
  obtain ⟨b, hb, hV2⟩ := h2 H enc w n cs (fun g hg => hf g (List.mem_cons_of_mem _ hg))
  refine ⟨(a, b), ⟨_, _, ?_, ha, hb⟩, hV, hV2⟩
  show (cs.drop off).take (d.sz + d2.sz) = _
  rw [List.take_add, List.drop_drop]
theorem opens_struct {α : Type} {d : Kd α} {V : α → Prop} {t : TypeId} {fs : Array Field} (ht : P.underlying t = some (.struct fs)) (hC : P.cellsOf t = d.sz) (h : OpensAt P d fs.toList 0 V) : Opens P d t V := by
  intro H enc w fuel cs x hx
  obtain ⟨xs, n, _, _, hl, hlen, hf⟩ := DataW.trod_struct ht hx
  obtain ⟨a, ha, hV⟩ := h H enc w n cs (fun f hm => by
    obtain ⟨i, hi⟩ := List.getElem?_of_mem hm
    have hi' : fs[i]? = some f := by simpa using hi
    have hk : i < xs.length := by rw [hlen]; exact (Array.getElem?_eq_some_iff.1 hi').1
    exact ⟨_, (hf i f hi').trans (List.getElem?_eq_getElem hk)⟩)
  refine ⟨a, ?_, hV⟩
  rw [List.drop_zero, List.take_of_length_le (by omega)] at ha
  exact ha
theorem opens_iso {α β : Type} {d : Kd α} {V : α → Prop} {t : TypeId} (f : β → α) (g : α → β) (hfg : ∀ x, f (g x) = x) (h : Opens P d t V) : Opens P (Kd.iso d f) t (fun b => V (f b)) := by
  intro H enc w fuel cs x hx
  obtain ⟨a, ha, hV⟩ := h H enc w fuel cs x hx
  exact ⟨g a, by show d.K w (f (g a)) cs; rw [hfg]; exact ha, by show V (f (g a)); rw [hfg]; exact hV⟩
/-- A parameter's value that is a struct. -/
theorem open_param {α : Type} {d : Kd α} {V : α → Prop} {t : TypeId} {fs : Array Field} {H : Type} {enc : TypeId × Value → H} {w : World} {v : Value} {dd : DataW H} {p : List MemPlace} {r : Reach} {b : Nat} (ht : P.underlying t = some (.struct fs))
    (hv : Value.okWide P w r b t v) (h : Opens P d t V) (hx : DataW.Trod enc P w 0 (fun _ => true) true t v dd p) : ∃ a cs, v = .agg ⟨cs⟩ ∧ d.K w a cs ∧ V a := by
  obtain ⟨cs, rfl, hsz⟩ := okWide_struct ht hv
  obtain ⟨fuel, hf⟩ := hx
  obtain ⟨a, ha, hV⟩ := h H enc w fuel _ _ hf
  exact ⟨a, cs.toList, by simp, by simpa [Value.cells] using ha, hV⟩
/-- .. and one that is a slice. -/
theorem open_param_slice {α : Type} {d : Kd α} {V : List α → Prop} {t e : TypeId} {H : Type} {enc : TypeId × Value → H} {w : World} {v : Value} {dd : DataW H} {p : List MemPlace} {r : Reach} {b : Nat} (ht : P.underlying t = some (.slice e))
    (hv : Value.okWide P w r b t v) (h : Opens P (Kd.slice e d) t V) (hx : DataW.Trod enc P w 0 (fun _ => true) true t v dd p) : ∃ xs A c, v = .slice A xs.length c ∧ xs.length ≤ c ∧ d.C w A xs.length xs ∧ V xs := by
  obtain ⟨a, len, cap, rfl⟩ := okWide_slice ht hv
  obtain ⟨fuel, hf⟩ := hx
  obtain ⟨xs, ⟨A, c, hcs, hl, hC⟩, hV⟩ := h H enc w fuel _ _ hf
  simp [Value.cells] at hcs
  obtain ⟨rfl, rfl, rfl⟩ := hcs
  exact ⟨xs, _, _, rfl, hl, hC, hV⟩
end
end Go.Proofs.YtbldolbeijpipaaDoor
namespace Go.Proofs.YtbldolbeijpipaaDoor
open Go.ChangeShapes Go.WideShapes Go.ChangeAt Go.RowKit Go.Proofs.YtbldolbeijpipaaDoorW.PrintWords
set_option linter.unusedVariables false
set_option linter.unusedSimpArgs false
/-! ### What every law's row asks behind the walk -/
theorem trodAll_stays {H : Type} {enc : TypeId × Value → H} {P : Program} (hl : laidOutB P = true) {W W' : World} (hb : Below W.heap.size W W') {sp : Nat → Bool} :
    ∀ {ts : List TypeId} {vs : List Value} {ds : List (DataW H)} {ps : List MemPlace}, (∀ t ∈ ts, P.readableRec t = true ∧ t < P.types.size) → DataW.TrodAll enc P W 0 (fun _ => true) true ts vs ds ps → (∀ x ∈ ps, x.block < W.heap.size) → (∀ x ∈ ps, sp x.block = true) → DataW.TrodAll enc P W' 0 sp true ts vs ds ps
  | [], _, _, _, _, h, _, _ => by
    obtain ⟨rfl, rfl, rfl⟩ := trodAll_nil h
    exact trodAll_mk0
  | t :: ts, _, _, _, hr, h, hlt, hs => by
    obtain ⟨v, vs', d, ds', p, q, rfl, rfl, rfl, h1, h2⟩ := trodAll_cons h
    exact trodAll_cons_mk (WideElems.Trod_stays hl (hr t (by simp)).1 (hr t (by simp)).2 h1 (fun x hx => hb.same (hlt x (by simp [hx]))) (fun x hx => hs x (by simp [hx])))
      (trodAll_stays hl hb (fun u hu => hr u (by simp [hu])) h2 (fun x hx => hlt x (by simp [hx])) (fun x hx => hs x (by simp [hx])))
theorem post_below {H : Type} {enc : TypeId × Value → H} {P : Program} (hl : laidOutB P = true) {f : Func} {s : ChangeSpec} {apart fresh handsOn again : Bool} {W W' : World} {args : Array Value} {v : Value} {ds gs : List (DataW H)} {before : List MemPlace}
    (hr : ∀ t ∈ f.params.toList, P.readableRec t = true ∧ t < P.types.size) (hb : Below W.heap.size W W') (hnv : s.vars = [])
    (hW : DataW.Whole enc P f.params.toList s.vars apart W args.toList ds gs before)
    (hargs : (s.fn H (ds ++ gs)).args = ds) (hvars : (s.fn H (ds ++ gs)).vars = [])
    (hres : ∀ (b : Nat) (sp : Nat → Bool) (hd : Bool), DataW.TrodAll enc P W' b sp hd f.resultTypes.toList (v.resultList f.resultTypes.size) (s.fn H (ds ++ gs)).results [])
    (hok : ∀ (j : Nat) (t : TypeId) (r : Value), f.resultTypes[j]? = some t → (v.resultList f.resultTypes.size)[j]? = some r → Value.okWide P W' .any 0 t r) :
    s.post enc P f apart fresh handsOn again W args v W' := by
  have hlt : ∀ p ∈ before, p.block < W.heap.size := fun p hp => hW.lt p hp
  obtain ⟨p, q, hA, hV, rfl, hz, hn⟩ := id hW
  rw [hnv] at hV
  obtain ⟨rfl, rfl⟩ := trodVars_none hV
  simp only [List.append_nil] at hW hlt hz hn hargs hvars hres ⊢
  have stays : ∀ sp : Nat → Bool, (∀ x ∈ p, sp x.block = true) → DataW.TrodAll enc P W' 0 sp true f.params.toList args.toList ds p := fun sp hs => trodAll_stays hl hb hr hA hlt hs
  have hold : ∀ x ∈ p, (fun b => decide (b < W.heap.size)) x.block = true := fun x hx => by simpa using hlt x hx
  refine ⟨ds, [], p, [], p, [], hW, ?_, ?_, ?_, World.keptBut_mono (fun x hx => ⟨hx, .inr (.inl hx)⟩) (hb.frame _), fun _ => ?_⟩
  · rw [List.append_nil]; exact hres _ _ _
  · rw [List.append_nil, hargs]; exact stays _ hold
  · rw [List.append_nil, hvars, hnv]; rfl
  · refine ⟨hok, _, [], ([] ++ p) ++ [], ⟨[] ++ p, [], trodAll_append (stays _ (fun _ _ => rfl)) (hres _ _ _), by rw [hnv]; rfl, rfl, ?_, ?_⟩, ?_⟩
    · intro b off hp
      have hp' : MemPlace.cell b off ∈ p := by simpa using hp
      rw [(bcell hb).2 b off (hlt _ hp')]
      exact hz b off hp'
    · intro ha
      simpa using hn ha
    · intro x hx _
      simpa using hx
theorem laidOutP : laidOutB Tryd.prog = true := by kernel_rfl
theorem gPow : Tryd.prog.globalNamed "internal/strconv.uint64pow10" = some 0 := by kernel_rfl
theorem gPowType : (Tryd.prog.globals[0]?).map (·.type) = some 265 := by kernel_rfl
theorem u265 : Tryd.prog.underlying 265 = some (.array 20 151) := by kernel_rfl
theorem u151 : Tryd.prog.underlying 151 = some (.int .u64) := by kernel_rfl
theorem cells265 : Tryd.prog.cellsOf 265 = 20 := by kernel_rfl
theorem cells151 : Tryd.prog.cellsOf 151 = 1 := by kernel_rfl
/-- The row's list gives the table of the powers of ten. -/
theorem table10 {W : World} (h : laidMetH Tryd.prog Rows.tracePartsRow.laid W) : T10 W := by
  have h3 : laidMet Tryd.prog Rows.tracePartsRow.laid W := h
  have h2 := laidMet.tail (laidMet.tail h3)
  have e : (Rows.laid_internal_strconv_uint64pow10 : DataW Unit) = Lib.tabData .u64 Lib.pow10Tab := rfl
  rw [e] at h2
  exact Lib.tabIs_of_head (rest := []) gPow gPowType u265 u151 cells151 cells265 h2
/-! ### The arguments: a system, a setup and acts, by numbers -/
/-- Run, by its cells. -/
structure RunD where
  a0 : Int
  a1 : Int
  ln : List S140
  b0 : Int
  b1 : Int
  lt : List Int
  lq : List Int
  la : List S85
def kRun : Kd RunD := Kd.iso (Kd.pair (Kd.pair (Kd.int .i64) (Kd.pair (Kd.int .i64) (Kd.slice 140 k140))) (Kd.pair (Kd.pair (Kd.int .i64) (Kd.pair (Kd.int .i64) (Kd.pair (Kd.slice 3 (Kd.int .i64)) (Kd.slice 3 (Kd.int .i64))))) (Kd.slice 85 k85)))
  (fun x : RunD => ((x.a0, x.a1, x.ln), (x.b0, x.b1, x.lt, x.lq), x.la))
theorem opensInt : Opens Tryd.prog (Kd.int .i64) 3 (fun n => (Lit.int .i64 n).wf = true) := opens_int Tryd.underlying3
theorem opensInts : Opens Tryd.prog (Kd.slice 3 (Kd.int .i64)) 25 (fun xs => ∀ x ∈ xs, (Lit.int .i64 x).wf = true) := opens_slice Tryd.underlying25 (by kernel_rfl) opensInt
theorem opens140 : Opens Tryd.prog k140 140 (fun _ => True) := by
  intro H enc w fuel cs x h
  obtain ⟨a, ha, _⟩ := opens_iso (fun x : S140 => (x.f0, x.f1, x.f2, x.f3, x.f4, x.f5)) (fun y => ⟨y.1, y.2.1, y.2.2.1, y.2.2.2.1, y.2.2.2.2.1, y.2.2.2.2.2⟩) (fun _ => rfl)
    (opens_struct Tryd.underlying140 (by kernel_rfl) (opensAt_cons rfl (by kernel_rfl) opensInt (opensAt_cons rfl (by kernel_rfl) opensInt (opensAt_cons rfl (by kernel_rfl) opensInt (opensAt_cons rfl (by kernel_rfl) opensInt (opensAt_cons rfl (by kernel_rfl) opensInt (opensAt_one rfl (by kernel_rfl) opensInts))))))) H enc w fuel cs x h
  exact ⟨a, ha, trivial⟩
theorem opens85 : Opens Tryd.prog k85 85 (fun _ => True) := by
  intro H enc w fuel cs x h
  obtain ⟨a, ha, _⟩ := opens_iso (fun x : S85 => (x.f0, x.f1)) (fun y => ⟨y.1, y.2⟩) (fun _ => rfl)
    (opens_struct Tryd.underlying85 (by kernel_rfl) (opensAt_cons rfl (by kernel_rfl) opensInts (opensAt_one rfl (by kernel_rfl) opensInt))) H enc w fuel cs x h
  exact ⟨a, ha, trivial⟩
theorem opensRun : Opens Tryd.prog kRun 30 (fun _ => True) := by
  intro H enc w fuel cs x h
  obtain ⟨a, ha, _⟩ := opens_iso (fun x : RunD => ((x.a0, x.a1, x.ln), (x.b0, x.b1, x.lt, x.lq), x.la)) (fun y => ⟨y.1.1, y.1.2.1, y.1.2.2, y.2.1.1, y.2.1.2.1, y.2.1.2.2.1, y.2.1.2.2.2, y.2.2⟩) (fun _ => rfl)
    (opens_struct Tryd.underlying30 (by kernel_rfl)
      (opensAt_cons rfl (by kernel_rfl) (opens_struct Tryd.underlying24 (by kernel_rfl) (opensAt_cons rfl (by kernel_rfl) opensInt (opensAt_cons rfl (by kernel_rfl) opensInt (opensAt_one rfl (by kernel_rfl) (opens_slice Tryd.underlying22 (by kernel_rfl) opens140)))))
      (opensAt_cons rfl (by kernel_rfl) (opens_struct Tryd.underlying27 (by kernel_rfl) (opensAt_cons rfl (by kernel_rfl) opensInt (opensAt_cons rfl (by kernel_rfl) opensInt (opensAt_cons rfl (by kernel_rfl) opensInts (opensAt_one rfl (by kernel_rfl) opensInts)))))
      (opensAt_one rfl (by kernel_rfl) (opens_slice Tryd.underlying28 (by kernel_rfl) opens85))))) H enc w fuel cs x h
  exact ⟨a, ha, trivial⟩
/-- What a Run's cells are. -/
theorem kRun_open {w : World} {x : RunD} {cs : List Value} (h : kRun.K w x cs) : ∃ An cn At ct Aq cq Aa ca, cs = [.int .i64 x.a0, .int .i64 x.a1, .slice An x.ln.length cn, .int .i64 x.b0, .int .i64 x.b1, .slice At x.lt.length ct, .slice Aq x.lq.length cq, .slice Aa x.la.length ca] ∧
    k140.C w An x.ln.length x.ln ∧ (Kd.int .i64).C w At x.lt.length x.lt ∧ (Kd.int .i64).C w Aq x.lq.length x.lq ∧ k85.C w Aa x.la.length x.la := by
  obtain ⟨_, _, rfl, ⟨_, _, rfl, rfl, ⟨_, _, rfl, rfl, ⟨An, cn, rfl, _, h1⟩⟩⟩, ⟨_, _, rfl, ⟨_, _, rfl, rfl, ⟨_, _, rfl, rfl, ⟨_, _, rfl, ⟨At, ct, rfl, _, h2⟩, ⟨Aq, cq, rfl, _, h3⟩⟩⟩⟩, ⟨Aa, ca, rfl, _, h4⟩⟩⟩ := h
  exact ⟨An, cn, At, ct, Aq, cq, Aa, ca, rfl, h1, h2, h3, h4⟩
end Go.Proofs.YtbldolbeijpipaaDoor
