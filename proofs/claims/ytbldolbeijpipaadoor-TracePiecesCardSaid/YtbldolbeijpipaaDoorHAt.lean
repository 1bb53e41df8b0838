import Derived.Test.YtbldolbeijpipaaDoorHBase
namespace Go.Proofs.YtbldolbeijpipaaDoor
open Go.RowKit Go.Proofs.YtbldolbeijpipaaDoorW.PrintWords Go.Proofs.YtbldolbeijpipaaDoorW.PrintLast Go.Proofs.YtbldolbeijpipaaDoorW.PrintMore
set_option linter.unusedVariables false
set_option linter.unusedSimpArgs false

/-- 'at': the place of a task. -/
def atGo (ts : List S90) (id : Int) : Nat → Nat → Int
  | 0, _ => -1
  | k + 1, i => if (rd_T90 ts i).f0 = id then i else atGo ts id k (i + 1)
def atR (ts : List S90) (id : Int) : Int := atGo ts id ts.length 0

set_option maxHeartbeats 800000 in
theorem at_calls (bx : Nat) (A : Option Addr) (c : Nat) (ts : List S90) (id : Int) (w : World)
    (hcell : w.cell? ⟨bx, 2, none⟩ = some (.slice A ts.length c)) (hr0 : Kd.C k90 w A ts.length ts) :
    Calls Tryd.prog 71 #[.pointer (some ⟨bx, 0, none⟩), .int .i64 id] w fun e w' => e = .returned (.int .i64 (atR ts id)) ∧ w' = w := by
  have HR := Aside0.mk hr0
  have hlen : ts.length ≤ 9223372036854775807 := hr0.2.1
  clear hr0
  go_enter Tryd.func71, Tryd.ntmps71
  go_wp2
  go_loop [5] (fun i => ∃ k : Nat, k ≤ ts.length ∧ i = .int .i64 k ∧ Aside0 (atR ts id = atGo ts id (ts.length - k) k)) (fun i => ts.length - (intOf i).toNat)
  case atStart => exact ⟨0, Nat.zero_le _, rfl, ⟨rfl⟩⟩
  case round =>
    obtain ⟨k, hk, rfl, HA⟩ := hrel
    by_cases hlt : k < ts.length
    · obtain ⟨ad, A5, c5, A6, c6, e0, hx0, _⟩ := at_T90 HR.out k (by omega) (by omega)
      cases e0
      rw [Int.toNat_natCast] at hx0
      by_cases heq : (rd_T90 ts k).f0 = id
      · have hb := beq_iff_eq.mpr heq
        have HQ := Aside0.mk heq
        clear heq
        go_wp2
        go_ret
        refine ⟨?_, rfl⟩
        rw [HA.out, show ts.length - k = (ts.length - (k + 1)) + 1 by omega, atGo, if_pos HQ.out]
        rfl
      · have hb := beq_eq_false_iff_ne.mpr heq
        clear heq
        go_wp2
        go_round
        case rel => exact ⟨k + 1, by omega, by go_num, ⟨by rw [HA.out, show ts.length - k = (ts.length - (k + 1)) + 1 by omega, atGo, if_neg (by simpa using hb)]⟩⟩
        case measure => simp [intOf]; omega
    · go_wp2
      go_ret
      refine ⟨?_, rfl⟩
      rw [HA.out, show ts.length - k = 0 by omega]; rfl

theorem atGo_val {ts : List S90} (hid : ∀ i : Nat, i < ts.length → (rd_T90 ts i).f0 = i + 1) (id : Int) : ∀ k i, i + k = ts.length →
    atGo ts id k i = if (i : Int) + 1 ≤ id ∧ id ≤ ts.length then id - 1 else -1 := by
  intro k
  induction k with
  | zero => intro i h; rw [atGo, if_neg (by omega)]
  | succ k ih =>
    intro i h
    rw [atGo, hid i (by omega)]
    by_cases e : (i : Int) + 1 = id
    · rw [if_pos e, if_pos (by omega)]; omega
    · rw [if_neg e, ih (i + 1) (by omega)]
      by_cases e2 : (i : Int) + 1 ≤ id ∧ id ≤ ts.length
      · rw [if_pos e2, if_pos (by omega)]
      · rw [if_neg e2, if_neg (by omega)]
theorem atR_val {ts : List S90} (hid : ∀ i : Nat, i < ts.length → (rd_T90 ts i).f0 = i + 1) (id : Int) : atR ts id = if 1 ≤ id ∧ id ≤ ts.length then id - 1 else -1 := by
  unfold atR
  rw [atGo_val hid id ts.length 0 (by omega)]
  simp

/-- What an executive of the document's holds. -/
structure XS where
  sets : Int
  reload : Int
  AT : Option Addr
  cT : Nat
  ts : List S90
  pol : Int
  mode : Int
  At : Option Addr
  ct : Nat
  th : List Int
  Aq : Option Addr
  cq : Nat
  q : List Int
  bc : Nat
  now : Int
  vL : Value
  l : List S159
  run : Int
  on : Bool
  ld : Bool
  left : Int
  vE : Value
  m : Nat
  es : List Value
  nx : List Value
  vC : Value
  own : List Int
def XS.cells (s : XS) : Array Value := ([.int .i64 s.sets, .int .i64 s.reload, .slice s.AT s.ts.length s.cT, .int .i64 s.pol, .int .i64 s.mode, .slice s.At s.th.length s.ct, .slice s.Aq s.q.length s.cq, .pointer (some ⟨s.bc, 0, none⟩), .int .i64 s.now, s.vL, .int .i64 s.run, .bool s.on, .bool s.ld, .int .i64 s.left, s.vE] ++ s.nx).toArray
/-- All but its own block: what its lists lead to, and its cache. -/
structure XR (w : World) (B : Nat) (s : XS) : Prop where
  nx : s.nx.length = 100 ∧ ∀ v ∈ s.nx, ∃ n, v = .int .i64 n
  ts : Kd.F k90 w (fun k => k < B) s.AT s.ts.length s.ts
  id : ∀ i : Nat, i < s.ts.length → (rd_T90 s.ts i).f0 = i + 1
  six : 1 ≤ s.ts.length ∧ s.ts.length ≤ 6
  ch : ∀ t ∈ s.ts, t.f5.length ≤ 100 ∧ t.f6.length ≤ 100
  cap : s.ts.length ≤ s.cT ∧ s.th.length ≤ s.ct ∧ s.q.length ≤ s.cq
  th : Kd.F (Kd.int .i64) w (fun k => k < B) s.At s.th.length s.th
  thl : s.th.length = s.ts.length
  q : Kd.F (Kd.int .i64) w (fun k => k < B) s.Aq s.q.length s.q
  ql : s.q.length = s.ts.length
  bcB : B ≤ s.bc
  bc : w.heap[s.bc]? = some (.cells #[s.vC] 194 (0, 0))
  own : w.ownsRow B 3 1 s.vC s.own.length (nums .i64 s.own)
  l : Kd.R k159 159 w B (fun _ => True) s.vL s.l
  es : w.ownsRow B 164 5 s.vE s.m s.es
structure XI (w : World) (B bx : Nat) (s : XS) : Prop where
  blk : w.heap[bx]? = some (.cells s.cells 147 (0, 0))
  hB : B ≤ bx
  r : XR w B s
  run : -1 ≤ s.run ∧ s.run < s.l.length
  all : ∀ x ∈ s.l, 1 ≤ x.f0 ∧ x.f0 ≤ s.ts.length ∧ 0 ≤ x.f1 ∧ x.f1 ≤ s.now
  now0 : 0 ≤ s.now
theorem XI.c {w : World} {B bx : Nat} {s : XS} (h : XI w B bx s) (i : Nat) (v : Value) (hv : s.cells[i]? = some v) : w.cell? ⟨bx, i, none⟩ = some v := (blk_cell h.blk i).trans hv
theorem XI.atv {w : World} {B bx : Nat} {s : XS} (h : XI w B bx s) (id : Int) (h1 : 1 ≤ id) (h2 : id ≤ s.ts.length) : atR s.ts id = id - 1 := by rw [atR_val h.r.id, if_pos ⟨h1, h2⟩]

theorem XI.f0 {w : World} {B bx : Nat} {s : XS} (h : XI w B bx s) : w.cell? ⟨bx, 0, none⟩ = some (.int .i64 s.sets) := h.c 0 _ rfl
theorem XI.f1 {w : World} {B bx : Nat} {s : XS} (h : XI w B bx s) : w.cell? ⟨bx, 1, none⟩ = some (.int .i64 s.reload) := h.c 1 _ rfl
theorem XI.f2 {w : World} {B bx : Nat} {s : XS} (h : XI w B bx s) : w.cell? ⟨bx, 2, none⟩ = some (.slice s.AT s.ts.length s.cT) := h.c 2 _ rfl
theorem XI.f3 {w : World} {B bx : Nat} {s : XS} (h : XI w B bx s) : w.cell? ⟨bx, 3, none⟩ = some (.int .i64 s.pol) := h.c 3 _ rfl
theorem XI.f4 {w : World} {B bx : Nat} {s : XS} (h : XI w B bx s) : w.cell? ⟨bx, 4, none⟩ = some (.int .i64 s.mode) := h.c 4 _ rfl
theorem XI.f5 {w : World} {B bx : Nat} {s : XS} (h : XI w B bx s) : w.cell? ⟨bx, 5, none⟩ = some (.slice s.At s.th.length s.ct) := h.c 5 _ rfl
theorem XI.f6 {w : World} {B bx : Nat} {s : XS} (h : XI w B bx s) : w.cell? ⟨bx, 6, none⟩ = some (.slice s.Aq s.q.length s.cq) := h.c 6 _ rfl
theorem XI.f7 {w : World} {B bx : Nat} {s : XS} (h : XI w B bx s) : w.cell? ⟨bx, 7, none⟩ = some (.pointer (some ⟨s.bc, 0, none⟩)) := h.c 7 _ rfl
theorem XI.f8 {w : World} {B bx : Nat} {s : XS} (h : XI w B bx s) : w.cell? ⟨bx, 8, none⟩ = some (.int .i64 s.now) := h.c 8 _ rfl
theorem XI.f9 {w : World} {B bx : Nat} {s : XS} (h : XI w B bx s) : w.cell? ⟨bx, 9, none⟩ = some (s.vL) := h.c 9 _ rfl
theorem XI.f10 {w : World} {B bx : Nat} {s : XS} (h : XI w B bx s) : w.cell? ⟨bx, 10, none⟩ = some (.int .i64 s.run) := h.c 10 _ rfl
theorem XI.f11 {w : World} {B bx : Nat} {s : XS} (h : XI w B bx s) : w.cell? ⟨bx, 11, none⟩ = some (.bool s.on) := h.c 11 _ rfl
theorem XI.f12 {w : World} {B bx : Nat} {s : XS} (h : XI w B bx s) : w.cell? ⟨bx, 12, none⟩ = some (.bool s.ld) := h.c 12 _ rfl
theorem XI.f13 {w : World} {B bx : Nat} {s : XS} (h : XI w B bx s) : w.cell? ⟨bx, 13, none⟩ = some (.int .i64 s.left) := h.c 13 _ rfl
theorem XI.f14 {w : World} {B bx : Nat} {s : XS} (h : XI w B bx s) : w.cell? ⟨bx, 14, none⟩ = some (s.vE) := h.c 14 _ rfl
/-- 'at', for whoever has the executive. -/
theorem XI.at {w : World} {B bx : Nat} {s : XS} (h : XI w B bx s) (id : Int) : ∀ W, Below w.heap.size w W → Calls Tryd.prog 71 #[.pointer (some ⟨bx, 0, none⟩), .int .i64 id] W fun e w' => e = .returned (.int .i64 (atR s.ts id)) ∧ w' = W := by
  intro W hb
  refine at_calls bx s.AT s.cT s.ts id W (pw_cell_below hb h.f2) (Kd.C_below (h.r.ts w (fun _ _ _ => rfl)) hb)

abbrev jobV (x : S159) : Value := .agg #[.int .i64 x.f0, .int .i64 x.f1, .int .i64 x.f2, .int .i64 x.f3, .int .i64 x.f4, .int .i64 x.f5, .int .i64 x.f6, .int .i64 x.f7, .int .u64 x.f8, .int .u64 x.f9, .int .u64 x.f10, .int .u64 x.f11]
abbrev oneV (x : S159) : Value := .agg #[.int .i64 x.f0, .int .i64 x.f1, .int .i64 x.f2, .int .i64 x.f3, .int .i64 x.f4, .int .i64 x.f5, .int .i64 x.f6, .int .i64 x.f7, .int .u64 x.f8, .int .u64 x.f9, .int .u64 x.f10, .int .u64 x.f11, .int .i64 x.f12, .bool x.f13]

set_option maxHeartbeats 800000 in
theorem rank_any (B bx : Nat) (s : XS) (x : S159) (w : World) (h : XI w B bx s) (h1 : 1 ≤ x.f0) (h2 : x.f0 ≤ s.ts.length) :
    Calls Tryd.prog 107 #[.pointer (some ⟨bx, 0, none⟩), oneV x] w (SomeInt w) := by
  have hx5 := h.f5
  have HAT := Aside0.mk (h.at x.f0)
  have hat := h.atv _ h1 h2
  obtain ⟨ad, e5, hx⟩ := Kd.at_int (h.r.th w (fun _ _ _ => rfl)) (x.f0 - 1) (by omega) (by have := h.r.thl; omega)
  have hn : x.f0 - 1 < s.th.length := by have := h.r.thl; omega
  have hn0 : 0 ≤ x.f0 - 1 := by omega
  have hbx := blk_lt h.blk
  rw [e5] at hx5
  rw [show (x.f0 - 1).toNat = x.f0.toNat - 1 by omega] at hx
  have hab := World.block_lt_of_cell? w _ hx
  rw [hat] at HAT
  clear h e5 hat
  cases hb : x.f13
  · go_enter Tryd.func107, Tryd.ntmps107
    go_wp2
    go_ret
    exact ⟨_, rfl, below_alloc (Below.refl _ _) _⟩
  · go_enter Tryd.func107, Tryd.ntmps107
    go_wp2
    go_quiet ((go_at_call 71; exact Calls.quiet_of_same (HAT.out _ (by repeat (first | exact Below.refl _ _ | exact HB.out | apply below_alloc | apply pw_below_drewN | apply below_drew1 | (refine below_set ?_ (Nat.le_refl _)) | (refine below_set ?_ (by simp; done)) | (refine below_set ?_ (by simp; omega)))))))
    go_wp2
    go_ret
    exact ⟨_, rfl, (by repeat (first | exact Below.refl _ _ | exact HB.out | apply below_alloc | apply pw_below_drewN | apply below_drew1 | (refine below_set ?_ (Nat.le_refl _)) | (refine below_set ?_ (by simp; done)) | (refine below_set ?_ (by simp; omega))))⟩
end Go.Proofs.YtbldolbeijpipaaDoor
