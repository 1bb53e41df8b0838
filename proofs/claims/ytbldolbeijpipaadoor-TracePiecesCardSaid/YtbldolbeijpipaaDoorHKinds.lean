import Derived.Test.YtbldolbeijpipaaDoorProg
import Derived.Below
import Derived.Deep.Draws
import Derived.Deep.AppendLies
import Derived.Maps.AppendAt
import Derived.OwnWalk
import Derived.Laws.BytesArg
import Derived.Laws.MakeOwn
import Derived.Laws.OwnMore
import Derived.Deep.OwnRows
import Derived.Tactics
import Derived.Lib.ConvBytes
import Derived.Laws.Slices
import Derived.WalkKit
import Derived.KernelRfl
import Derived.RowKit3
import Derived.Deep.LoopGhost
import Derived.Deep.QuietTactic
import Derived.BigQuiet
import Derived.WideLaws
import Derived.Deep.DeepCutAuto
import Derived.Deep.CutBlock
import Derived.Deep.RegionHeld3
import Derived.Laws.Rows
import Derived.Lib.AppendStr
import Derived.ArgAppend
import Derived.Laws.IdiomCopy
import Derived.OrdersHeld
import Derived.Laws.BitsLemmas
import Derived.RowKit
import Derived.Test.YtbldolbeijpipaaDoorWWords
import Derived.Test.YtbldolbeijpipaaDoorWLast
import Derived.Test.YtbldolbeijpipaaDoorWTab
import Derived.Test.YtbldolbeijpipaaDoorWFour
import Derived.Test.YtbldolbeijpipaaDoorWQPut
import Derived.Test.YtbldolbeijpipaaDoorWApart
import Derived.Test.YtbldolbeijpipaaDoorWArr
import Derived.Test.YtbldolbeijpipaaDoorWZeros
import Derived.Test.YtbldolbeijpipaaDoorWFoot
import Derived.Test.YtbldolbeijpipaaDoorWKept
import Derived.Test.YtbldolbeijpipaaDoorWShare
import Derived.Test.YtbldolbeijpipaaDoorWN
import Derived.Test.YtbldolbeijpipaaDoorWFootNe
import Derived.Test.YtbldolbeijpipaaDoorWAt
import Derived.Test.YtbldolbeijpipaaDoorWEqStruct
import Derived.Test.YtbldolbeijpipaaDoorWRepsOne
import Derived.Test.YtbldolbeijpipaaDoorWInv
import Derived.Test.YtbldolbeijpipaaDoorWInvWords
import Derived.Test.YtbldolbeijpipaaDoorWGuard
import Derived.Test.YtbldolbeijpipaaDoorWNEv
import Derived.Test.YtbldolbeijpipaaDoorWMore
namespace Go.Proofs.YtbldolbeijpipaaDoor
open Go.RowKit Go.Proofs.YtbldolbeijpipaaDoorW.PrintWords Go.Proofs.YtbldolbeijpipaaDoorW.PrintLast Go.Proofs.YtbldolbeijpipaaDoorW.PrintMore
set_option linter.unusedVariables false
set_option linter.unusedSimpArgs false

def rd_L4 (xs : List (List Int)) (i : Int) : (List Int) := xs.getD i.toNat ([] : List Int)
theorem at_L4 {w : World} {A : Option Addr} {n : Nat} {xs : List (List Int)} (h : Kd.C (Kd.slice 3 (Kd.int .i64)) w A n xs) (i : Int) (h0 : 0 ≤ i) (h1 : i < n) : ∃ ad A0 c0, A = some ad ∧ w.cell? (ad.add i.toNat) = some (.slice A0 (rd_L4 xs i).length c0) ∧ (rd_L4 xs i).length ≤ c0 ∧ (Kd.int .i64).C w A0 (rd_L4 xs i).length (rd_L4 xs i) := by
  obtain ⟨ad, c, e, _, hK, hc0⟩ := Kd.C_get h ([] : List Int) i h0 h1
  have hc : ∀ j u, c[j]? = some u → w.cell? (ad.add (i.toNat * 1 + j)) = some u := hc0
  obtain ⟨A0, c0, rfl, l0, g0⟩ := hK
  exact ⟨ad, A0, c0, e, by have hq := hc 0 _ rfl; rwa [Nat.mul_one, Nat.add_zero] at hq, l0, g0⟩

def rd_L5 (xs : List (List Int)) (i : Int) : (List Int) := xs.getD i.toNat ([] : List Int)
theorem at_L5 {w : World} {A : Option Addr} {n : Nat} {xs : List (List Int)} (h : Kd.C (Kd.slice 2 (Kd.int .i64)) w A n xs) (i : Int) (h0 : 0 ≤ i) (h1 : i < n) : ∃ ad A0 c0, A = some ad ∧ w.cell? (ad.add i.toNat) = some (.slice A0 (rd_L5 xs i).length c0) ∧ (rd_L5 xs i).length ≤ c0 ∧ (Kd.int .i64).C w A0 (rd_L5 xs i).length (rd_L5 xs i) := by
  obtain ⟨ad, c, e, _, hK, hc0⟩ := Kd.C_get h ([] : List Int) i h0 h1
  have hc : ∀ j u, c[j]? = some u → w.cell? (ad.add (i.toNat * 1 + j)) = some u := hc0
  obtain ⟨A0, c0, rfl, l0, g0⟩ := hK
  exact ⟨ad, A0, c0, e, by have hq := hc 0 _ rfl; rwa [Nat.mul_one, Nat.add_zero] at hq, l0, g0⟩

/-! #### struct type 43 -/
structure S43 where
  f0 : Int
  f1 : Int
  f2 : Int
  f3 : Int
  f4 : Bool
  f5 : Int
def z43 : S43 := ⟨(0 : Int), (0 : Int), (0 : Int), (0 : Int), false, (0 : Int)⟩
def k43 : Kd S43 := Kd.iso (Kd.pair (Kd.int .i64) (Kd.pair (Kd.int .i64) (Kd.pair (Kd.int .i64) (Kd.pair (Kd.int .i64) (Kd.pair Kd.bool (Kd.int .i64)))))) (fun x : S43 => (x.f0, x.f1, x.f2, x.f3, x.f4, x.f5))
theorem k43_heap : Kd.Heap k43 := Kd.heap_iso _ (Kd.heap_pair (Kd.heap_int .i64) (Kd.heap_pair (Kd.heap_int .i64) (Kd.heap_pair (Kd.heap_int .i64) (Kd.heap_pair (Kd.heap_int .i64) (Kd.heap_pair Kd.heap_bool (Kd.heap_int .i64))))))
theorem k43_open {w : World} {x : S43} {cs : List Value} (h : k43.K w x cs) : cs = [.int .i64 x.f0, .int .i64 x.f1, .int .i64 x.f2, .int .i64 x.f3, .bool x.f4, .int .i64 x.f5] := by
  obtain ⟨_, _, rfl, rfl, ⟨_, _, rfl, rfl, ⟨_, _, rfl, rfl, ⟨_, _, rfl, rfl, ⟨_, _, rfl, rfl, rfl⟩⟩⟩⟩⟩ := h
  exact rfl
theorem k43_openM {w : World} {base : Nat} {ok : Nat → Prop} {x : S43} {cs : List Value} (h : k43.M w base ok x cs) : cs = [.int .i64 x.f0, .int .i64 x.f1, .int .i64 x.f2, .int .i64 x.f3, .bool x.f4, .int .i64 x.f5] := by
  obtain ⟨_, _, rfl, rfl, ⟨_, _, rfl, rfl, ⟨_, _, rfl, rfl, ⟨_, _, rfl, rfl, ⟨_, _, rfl, rfl, rfl⟩⟩⟩⟩⟩ := h
  exact rfl
theorem k43_mk (w : World) (x : S43)  : k43.K w x [.int .i64 x.f0, .int .i64 x.f1, .int .i64 x.f2, .int .i64 x.f3, .bool x.f4, .int .i64 x.f5] := ⟨[.int .i64 x.f0], [.int .i64 x.f1, .int .i64 x.f2, .int .i64 x.f3, .bool x.f4, .int .i64 x.f5], rfl, rfl, ⟨[.int .i64 x.f1], [.int .i64 x.f2, .int .i64 x.f3, .bool x.f4, .int .i64 x.f5], rfl, rfl, ⟨[.int .i64 x.f2], [.int .i64 x.f3, .bool x.f4, .int .i64 x.f5], rfl, rfl, ⟨[.int .i64 x.f3], [.bool x.f4, .int .i64 x.f5], rfl, rfl, ⟨[.bool x.f4], [.int .i64 x.f5], rfl, rfl, rfl⟩⟩⟩⟩⟩
theorem k43_mkM (w : World) (base : Nat) (ok : Nat → Prop) (x : S43)  : k43.M w base ok x [.int .i64 x.f0, .int .i64 x.f1, .int .i64 x.f2, .int .i64 x.f3, .bool x.f4, .int .i64 x.f5] := ⟨[.int .i64 x.f0], [.int .i64 x.f1, .int .i64 x.f2, .int .i64 x.f3, .bool x.f4, .int .i64 x.f5], rfl, rfl, ⟨[.int .i64 x.f1], [.int .i64 x.f2, .int .i64 x.f3, .bool x.f4, .int .i64 x.f5], rfl, rfl, ⟨[.int .i64 x.f2], [.int .i64 x.f3, .bool x.f4, .int .i64 x.f5], rfl, rfl, ⟨[.int .i64 x.f3], [.bool x.f4, .int .i64 x.f5], rfl, rfl, ⟨[.bool x.f4], [.int .i64 x.f5], rfl, rfl, rfl⟩⟩⟩⟩⟩
theorem k43_mkF (W : World) (ok : Nat → Prop) (x : S43) : Kd.FK k43 W ok x [.int .i64 x.f0, .int .i64 x.f1, .int .i64 x.f2, .int .i64 x.f3, .bool x.f4, .int .i64 x.f5] := fun W2 _ => k43_mk W2 x
def rd_T43 (xs : List S43) (i : Int) : S43 := xs.getD i.toNat z43
theorem at_T43 {w : World} {A : Option Addr} {n : Nat} {xs : List S43} (h : Kd.C k43 w A n xs) (i : Int) (h0 : 0 ≤ i) (h1 : i < n) : ∃ ad , A = some ad ∧ w.cell? (ad.add (i.toNat * 6)) = some (.int .i64 (rd_T43 xs i).f0) ∧ w.cell? ⟨(ad.add (i.toNat * 6)).block, (ad.add (i.toNat * 6)).off + 1, none⟩ = some (.int .i64 (rd_T43 xs i).f1) ∧ w.cell? ⟨(ad.add (i.toNat * 6)).block, (ad.add (i.toNat * 6)).off + 2, none⟩ = some (.int .i64 (rd_T43 xs i).f2) ∧ w.cell? ⟨(ad.add (i.toNat * 6)).block, (ad.add (i.toNat * 6)).off + 3, none⟩ = some (.int .i64 (rd_T43 xs i).f3) ∧ w.cell? ⟨(ad.add (i.toNat * 6)).block, (ad.add (i.toNat * 6)).off + 4, none⟩ = some (.bool (rd_T43 xs i).f4) ∧ w.cell? ⟨(ad.add (i.toNat * 6)).block, (ad.add (i.toNat * 6)).off + 5, none⟩ = some (.int .i64 (rd_T43 xs i).f5) := by
  obtain ⟨ad, c, e, _, hK, hc0⟩ := Kd.C_get h z43 i h0 h1
  have hc : ∀ j u, c[j]? = some u → w.cell? (ad.add (i.toNat * 6 + j)) = some u := hc0
  obtain rfl := k43_open hK
  exact ⟨ad, e, hc 0 _ rfl, by rw [← add_field _ _ 1 (by omega)]; exact hc 1 _ rfl, by rw [← add_field _ _ 2 (by omega)]; exact hc 2 _ rfl, by rw [← add_field _ _ 3 (by omega)]; exact hc 3 _ rfl, by rw [← add_field _ _ 4 (by omega)]; exact hc 4 _ rfl, by rw [← add_field _ _ 5 (by omega)]; exact hc 5 _ rfl⟩

/-! #### struct type 90 -/
structure S90 where
  f0 : Int
  f1 : Int
  f2 : Int
  f3 : Int
  f4 : Int
  f5 : (List Int)
  f6 : (List Int)
def z90 : S90 := ⟨(0 : Int), (0 : Int), (0 : Int), (0 : Int), (0 : Int), ([] : List Int), ([] : List Int)⟩
def k90 : Kd S90 := Kd.iso (Kd.pair (Kd.int .i64) (Kd.pair (Kd.int .i64) (Kd.pair (Kd.int .i64) (Kd.pair (Kd.int .i64) (Kd.pair (Kd.int .i64) (Kd.pair (Kd.slice 2 (Kd.int .i64)) (Kd.slice 3 (Kd.int .i64)))))))) (fun x : S90 => (x.f0, x.f1, x.f2, x.f3, x.f4, x.f5, x.f6))
theorem k90_heap : Kd.Heap k90 := Kd.heap_iso _ (Kd.heap_pair (Kd.heap_int .i64) (Kd.heap_pair (Kd.heap_int .i64) (Kd.heap_pair (Kd.heap_int .i64) (Kd.heap_pair (Kd.heap_int .i64) (Kd.heap_pair (Kd.heap_int .i64) (Kd.heap_pair (Kd.heap_slice 2 (Kd.heap_int .i64)) (Kd.heap_slice 3 (Kd.heap_int .i64))))))))
theorem k90_open {w : World} {x : S90} {cs : List Value} (h : k90.K w x cs) : ∃ A5 c5 A6 c6, cs = [.int .i64 x.f0, .int .i64 x.f1, .int .i64 x.f2, .int .i64 x.f3, .int .i64 x.f4, .slice A5 x.f5.length c5, .slice A6 x.f6.length c6] ∧ x.f5.length ≤ c5 ∧ (Kd.int .i64).C w A5 x.f5.length x.f5 ∧ x.f6.length ≤ c6 ∧ (Kd.int .i64).C w A6 x.f6.length x.f6 := by
  obtain ⟨_, _, rfl, rfl, ⟨_, _, rfl, rfl, ⟨_, _, rfl, rfl, ⟨_, _, rfl, rfl, ⟨_, _, rfl, rfl, ⟨_, _, rfl, ⟨A5, c5, rfl, l5, g5⟩, ⟨A6, c6, rfl, l6, g6⟩⟩⟩⟩⟩⟩⟩ := h
  exact ⟨A5, c5, A6, c6, rfl, l5, g5, l6, g6⟩
theorem k90_openM {w : World} {base : Nat} {ok : Nat → Prop} {x : S90} {cs : List Value} (h : k90.M w base ok x cs) : ∃ v5 v6, cs = [.int .i64 x.f0, .int .i64 x.f1, .int .i64 x.f2, .int .i64 x.f3, .int .i64 x.f4, v5, v6] ∧ (Kd.int .i64).R 2 w base ok v5 x.f5 ∧ (Kd.int .i64).R 3 w base ok v6 x.f6 := by
  obtain ⟨_, _, rfl, rfl, ⟨_, _, rfl, rfl, ⟨_, _, rfl, rfl, ⟨_, _, rfl, rfl, ⟨_, _, rfl, rfl, ⟨_, _, rfl, ⟨v5, rfl, g5⟩, ⟨v6, rfl, g6⟩⟩⟩⟩⟩⟩⟩ := h
  exact ⟨v5, v6, rfl, g5, g6⟩
theorem k90_mk (w : World) (x : S90) {A5 : Option Addr} {c5 : Nat} (l5 : x.f5.length ≤ c5) (g5 : (Kd.int .i64).C w A5 x.f5.length x.f5) {A6 : Option Addr} {c6 : Nat} (l6 : x.f6.length ≤ c6) (g6 : (Kd.int .i64).C w A6 x.f6.length x.f6) : k90.K w x [.int .i64 x.f0, .int .i64 x.f1, .int .i64 x.f2, .int .i64 x.f3, .int .i64 x.f4, .slice A5 x.f5.length c5, .slice A6 x.f6.length c6] := ⟨[.int .i64 x.f0], [.int .i64 x.f1, .int .i64 x.f2, .int .i64 x.f3, .int .i64 x.f4, .slice A5 x.f5.length c5, .slice A6 x.f6.length c6], rfl, rfl, ⟨[.int .i64 x.f1], [.int .i64 x.f2, .int .i64 x.f3, .int .i64 x.f4, .slice A5 x.f5.length c5, .slice A6 x.f6.length c6], rfl, rfl, ⟨[.int .i64 x.f2], [.int .i64 x.f3, .int .i64 x.f4, .slice A5 x.f5.length c5, .slice A6 x.f6.length c6], rfl, rfl, ⟨[.int .i64 x.f3], [.int .i64 x.f4, .slice A5 x.f5.length c5, .slice A6 x.f6.length c6], rfl, rfl, ⟨[.int .i64 x.f4], [.slice A5 x.f5.length c5, .slice A6 x.f6.length c6], rfl, rfl, ⟨[.slice A5 x.f5.length c5], [.slice A6 x.f6.length c6], rfl, ⟨A5, c5, rfl, l5, g5⟩, ⟨A6, c6, rfl, l6, g6⟩⟩⟩⟩⟩⟩⟩
theorem k90_mkM (w : World) (base : Nat) (ok : Nat → Prop) (x : S90) {v5 : Value} (g5 : (Kd.int .i64).R 2 w base ok v5 x.f5) {v6 : Value} (g6 : (Kd.int .i64).R 3 w base ok v6 x.f6) : k90.M w base ok x [.int .i64 x.f0, .int .i64 x.f1, .int .i64 x.f2, .int .i64 x.f3, .int .i64 x.f4, v5, v6] := ⟨[.int .i64 x.f0], [.int .i64 x.f1, .int .i64 x.f2, .int .i64 x.f3, .int .i64 x.f4, v5, v6], rfl, rfl, ⟨[.int .i64 x.f1], [.int .i64 x.f2, .int .i64 x.f3, .int .i64 x.f4, v5, v6], rfl, rfl, ⟨[.int .i64 x.f2], [.int .i64 x.f3, .int .i64 x.f4, v5, v6], rfl, rfl, ⟨[.int .i64 x.f3], [.int .i64 x.f4, v5, v6], rfl, rfl, ⟨[.int .i64 x.f4], [v5, v6], rfl, rfl, ⟨[v5], [v6], rfl, ⟨v5, rfl, g5⟩, ⟨v6, rfl, g6⟩⟩⟩⟩⟩⟩⟩
theorem k90_openF {W : World} {ok : Nat → Prop} {x : S90} {cs : List Value} (h : Kd.FK k90 W ok x cs) : ∃ A5 c5 A6 c6, cs = [.int .i64 x.f0, .int .i64 x.f1, .int .i64 x.f2, .int .i64 x.f3, .int .i64 x.f4, .slice A5 x.f5.length c5, .slice A6 x.f6.length c6] ∧ x.f5.length ≤ c5 ∧ Kd.F (Kd.int .i64) W ok A5 x.f5.length x.f5 ∧ x.f6.length ≤ c6 ∧ Kd.F (Kd.int .i64) W ok A6 x.f6.length x.f6 := by
  obtain ⟨A5, c5, A6, c6, rfl, l5, _, l6, _⟩ := k90_open (Kd.FK_now h)
  exact ⟨A5, c5, A6, c6, rfl, l5, (fun W' hW => by obtain ⟨A5_, c5_, A6_, c6_, he, l5_, g5_, l6_, g6_⟩ := k90_open (h W' hW); injection (Option.some.inj (show some (Value.slice A5 x.f5.length c5) = some (Value.slice A5_ x.f5.length c5_) from congrArg (fun l => l[5]?) he)) with ha_ _ _; rw [ha_]; exact g5_), l6, (fun W' hW => by obtain ⟨A5_, c5_, A6_, c6_, he, l5_, g5_, l6_, g6_⟩ := k90_open (h W' hW); injection (Option.some.inj (show some (Value.slice A6 x.f6.length c6) = some (Value.slice A6_ x.f6.length c6_) from congrArg (fun l => l[6]?) he)) with ha_ _ _; rw [ha_]; exact g6_)⟩
theorem k90_mkF (W : World) (ok : Nat → Prop) (x : S90) {A5 : Option Addr} {c5 : Nat} (l5 : x.f5.length ≤ c5) (g5 : Kd.F (Kd.int .i64) W ok A5 x.f5.length x.f5) {A6 : Option Addr} {c6 : Nat} (l6 : x.f6.length ≤ c6) (g6 : Kd.F (Kd.int .i64) W ok A6 x.f6.length x.f6) : Kd.FK k90 W ok x [.int .i64 x.f0, .int .i64 x.f1, .int .i64 x.f2, .int .i64 x.f3, .int .i64 x.f4, .slice A5 x.f5.length c5, .slice A6 x.f6.length c6] := fun W2 hW => k90_mk W2 x l5 (g5 W2 hW) l6 (g6 W2 hW)
def rd_T90 (xs : List S90) (i : Int) : S90 := xs.getD i.toNat z90
theorem at_T90 {w : World} {A : Option Addr} {n : Nat} {xs : List S90} (h : Kd.C k90 w A n xs) (i : Int) (h0 : 0 ≤ i) (h1 : i < n) : ∃ ad A5 c5 A6 c6, A = some ad ∧ w.cell? (ad.add (i.toNat * 7)) = some (.int .i64 (rd_T90 xs i).f0) ∧ w.cell? ⟨(ad.add (i.toNat * 7)).block, (ad.add (i.toNat * 7)).off + 1, none⟩ = some (.int .i64 (rd_T90 xs i).f1) ∧ w.cell? ⟨(ad.add (i.toNat * 7)).block, (ad.add (i.toNat * 7)).off + 2, none⟩ = some (.int .i64 (rd_T90 xs i).f2) ∧ w.cell? ⟨(ad.add (i.toNat * 7)).block, (ad.add (i.toNat * 7)).off + 3, none⟩ = some (.int .i64 (rd_T90 xs i).f3) ∧ w.cell? ⟨(ad.add (i.toNat * 7)).block, (ad.add (i.toNat * 7)).off + 4, none⟩ = some (.int .i64 (rd_T90 xs i).f4) ∧ w.cell? ⟨(ad.add (i.toNat * 7)).block, (ad.add (i.toNat * 7)).off + 5, none⟩ = some (.slice A5 (rd_T90 xs i).f5.length c5) ∧ w.cell? ⟨(ad.add (i.toNat * 7)).block, (ad.add (i.toNat * 7)).off + 6, none⟩ = some (.slice A6 (rd_T90 xs i).f6.length c6) ∧ (rd_T90 xs i).f5.length ≤ c5 ∧ (Kd.int .i64).C w A5 (rd_T90 xs i).f5.length (rd_T90 xs i).f5 ∧ (rd_T90 xs i).f6.length ≤ c6 ∧ (Kd.int .i64).C w A6 (rd_T90 xs i).f6.length (rd_T90 xs i).f6 := by
  obtain ⟨ad, c, e, _, hK, hc0⟩ := Kd.C_get h z90 i h0 h1
  have hc : ∀ j u, c[j]? = some u → w.cell? (ad.add (i.toNat * 7 + j)) = some u := hc0
  obtain ⟨A5, c5, A6, c6, rfl, l5, g5, l6, g6⟩ := k90_open hK
  exact ⟨ad, A5, c5, A6, c6, e, hc 0 _ rfl, by rw [← add_field _ _ 1 (by omega)]; exact hc 1 _ rfl, by rw [← add_field _ _ 2 (by omega)]; exact hc 2 _ rfl, by rw [← add_field _ _ 3 (by omega)]; exact hc 3 _ rfl, by rw [← add_field _ _ 4 (by omega)]; exact hc 4 _ rfl, by rw [← add_field _ _ 5 (by omega)]; exact hc 5 _ rfl, by rw [← add_field _ _ 6 (by omega)]; exact hc 6 _ rfl, l5, g5, l6, g6⟩

/-! #### struct type 159 -/
structure S159 where
  f0 : Int
  f1 : Int
  f2 : Int
  f3 : Int
  f4 : Int
  f5 : Int
  f6 : Int
  f7 : Int
  f8 : Int
  f9 : Int
  f10 : Int
  f11 : Int
  f12 : Int
  f13 : Bool
def z159 : S159 := ⟨(0 : Int), (0 : Int), (0 : Int), (0 : Int), (0 : Int), (0 : Int), (0 : Int), (0 : Int), (0 : Int), (0 : Int), (0 : Int), (0 : Int), (0 : Int), false⟩
def k159 : Kd S159 := Kd.iso (Kd.pair (Kd.int .i64) (Kd.pair (Kd.int .i64) (Kd.pair (Kd.int .i64) (Kd.pair (Kd.int .i64) (Kd.pair (Kd.int .i64) (Kd.pair (Kd.int .i64) (Kd.pair (Kd.int .i64) (Kd.pair (Kd.int .i64) (Kd.pair (Kd.int .u64) (Kd.pair (Kd.int .u64) (Kd.pair (Kd.int .u64) (Kd.pair (Kd.int .u64) (Kd.pair (Kd.int .i64) Kd.bool))))))))))))) (fun x : S159 => (x.f0, x.f1, x.f2, x.f3, x.f4, x.f5, x.f6, x.f7, x.f8, x.f9, x.f10, x.f11, x.f12, x.f13))
theorem k159_heap : Kd.Heap k159 := Kd.heap_iso _ (Kd.heap_pair (Kd.heap_int .i64) (Kd.heap_pair (Kd.heap_int .i64) (Kd.heap_pair (Kd.heap_int .i64) (Kd.heap_pair (Kd.heap_int .i64) (Kd.heap_pair (Kd.heap_int .i64) (Kd.heap_pair (Kd.heap_int .i64) (Kd.heap_pair (Kd.heap_int .i64) (Kd.heap_pair (Kd.heap_int .i64) (Kd.heap_pair (Kd.heap_int .u64) (Kd.heap_pair (Kd.heap_int .u64) (Kd.heap_pair (Kd.heap_int .u64) (Kd.heap_pair (Kd.heap_int .u64) (Kd.heap_pair (Kd.heap_int .i64) Kd.heap_bool)))))))))))))
theorem k159_open {w : World} {x : S159} {cs : List Value} (h : k159.K w x cs) : cs = [.int .i64 x.f0, .int .i64 x.f1, .int .i64 x.f2, .int .i64 x.f3, .int .i64 x.f4, .int .i64 x.f5, .int .i64 x.f6, .int .i64 x.f7, .int .u64 x.f8, .int .u64 x.f9, .int .u64 x.f10, .int .u64 x.f11, .int .i64 x.f12, .bool x.f13] := by
  obtain ⟨_, _, rfl, rfl, ⟨_, _, rfl, rfl, ⟨_, _, rfl, rfl, ⟨_, _, rfl, rfl, ⟨_, _, rfl, rfl, ⟨_, _, rfl, rfl, ⟨_, _, rfl, rfl, ⟨_, _, rfl, rfl, ⟨_, _, rfl, rfl, ⟨_, _, rfl, rfl, ⟨_, _, rfl, rfl, ⟨_, _, rfl, rfl, ⟨_, _, rfl, rfl, rfl⟩⟩⟩⟩⟩⟩⟩⟩⟩⟩⟩⟩⟩ := h
  exact rfl
theorem k159_openM {w : World} {base : Nat} {ok : Nat → Prop} {x : S159} {cs : List Value} (h : k159.M w base ok x cs) : cs = [.int .i64 x.f0, .int .i64 x.f1, .int .i64 x.f2, .int .i64 x.f3, .int .i64 x.f4, .int .i64 x.f5, .int .i64 x.f6, .int .i64 x.f7, .int .u64 x.f8, .int .u64 x.f9, .int .u64 x.f10, .int .u64 x.f11, .int .i64 x.f12, .bool x.f13] := by
  obtain ⟨_, _, rfl, rfl, ⟨_, _, rfl, rfl, ⟨_, _, rfl, rfl, ⟨_, _, rfl, rfl, ⟨_, _, rfl, rfl, ⟨_, _, rfl, rfl, ⟨_, _, rfl, rfl, ⟨_, _, rfl, rfl, ⟨_, _, rfl, rfl, ⟨_, _, rfl, rfl, ⟨_, _, rfl, rfl, ⟨_, _, rfl, rfl, ⟨_, _, rfl, rfl, rfl⟩⟩⟩⟩⟩⟩⟩⟩⟩⟩⟩⟩⟩ := h
  exact rfl
theorem k159_mk (w : World) (x : S159)  : k159.K w x [.int .i64 x.f0, .int .i64 x.f1, .int .i64 x.f2, .int .i64 x.f3, .int .i64 x.f4, .int .i64 x.f5, .int .i64 x.f6, .int .i64 x.f7, .int .u64 x.f8, .int .u64 x.f9, .int .u64 x.f10, .int .u64 x.f11, .int .i64 x.f12, .bool x.f13] := ⟨[.int .i64 x.f0], [.int .i64 x.f1, .int .i64 x.f2, .int .i64 x.f3, .int .i64 x.f4, .int .i64 x.f5, .int .i64 x.f6, .int .i64 x.f7, .int .u64 x.f8, .int .u64 x.f9, .int .u64 x.f10, .int .u64 x.f11, .int .i64 x.f12, .bool x.f13], rfl, rfl, ⟨[.int .i64 x.f1], [.int .i64 x.f2, .int .i64 x.f3, .int .i64 x.f4, .int .i64 x.f5, .int .i64 x.f6, .int .i64 x.f7, .int .u64 x.f8, .int .u64 x.f9, .int .u64 x.f10, .int .u64 x.f11, .int .i64 x.f12, .bool x.f13], rfl, rfl, ⟨[.int .i64 x.f2], [.int .i64 x.f3, .int .i64 x.f4, .int .i64 x.f5, .int .i64 x.f6, .int .i64 x.f7, .int .u64 x.f8, .int .u64 x.f9, .int .u64 x.f10, .int .u64 x.f11, .int .i64 x.f12, .bool x.f13], rfl, rfl, ⟨[.int .i64 x.f3], [.int .i64 x.f4, .int .i64 x.f5, .int .i64 x.f6, .int .i64 x.f7, .int .u64 x.f8, .int .u64 x.f9, .int .u64 x.f10, .int .u64 x.f11, .int .i64 x.f12, .bool x.f13], rfl, rfl, ⟨[.int .i64 x.f4], [.int .i64 x.f5, .int .i64 x.f6, .int .i64 x.f7, .int .u64 x.f8, .int .u64 x.f9, .int .u64 x.f10, .int .u64 x.f11, .int .i64 x.f12, .bool x.f13], rfl, rfl, ⟨[.int .i64 x.f5], [.int .i64 x.f6, .int .i64 x.f7, .int .u64 x.f8, .int .u64 x.f9, .int .u64 x.f10, .int .u64 x.f11, .int .i64 x.f12, .bool x.f13], rfl, rfl, ⟨[.int .i64 x.f6], [.int .i64 x.f7, .int .u64 x.f8, .int .u64 x.f9, .int .u64 x.f10, .int .u64 x.f11, .int .i64 x.f12, .bool x.f13], rfl, rfl, ⟨[.int .i64 x.f7], [.int .u64 x.f8, .int .u64 x.f9, .int .u64 x.f10, .int .u64 x.f11, .int .i64 x.f12, .bool x.f13], rfl, rfl, ⟨[.int .u64 x.f8], [.int .u64 x.f9, .int .u64 x.f10, .int .u64 x.f11, .int .i64 x.f12, .bool x.f13], rfl, rfl, ⟨[.int .u64 x.f9], [.int .u64 x.f10, .int .u64 x.f11, .int .i64 x.f12, .bool x.f13], rfl, rfl, ⟨[.int .u64 x.f10], [.int .u64 x.f11, .int .i64 x.f12, .bool x.f13], rfl, rfl, ⟨[.int .u64 x.f11], [.int .i64 x.f12, .bool x.f13], rfl, rfl, ⟨[.int .i64 x.f12], [.bool x.f13], rfl, rfl, rfl⟩⟩⟩⟩⟩⟩⟩⟩⟩⟩⟩⟩⟩
theorem k159_mkM (w : World) (base : Nat) (ok : Nat → Prop) (x : S159)  : k159.M w base ok x [.int .i64 x.f0, .int .i64 x.f1, .int .i64 x.f2, .int .i64 x.f3, .int .i64 x.f4, .int .i64 x.f5, .int .i64 x.f6, .int .i64 x.f7, .int .u64 x.f8, .int .u64 x.f9, .int .u64 x.f10, .int .u64 x.f11, .int .i64 x.f12, .bool x.f13] := ⟨[.int .i64 x.f0], [.int .i64 x.f1, .int .i64 x.f2, .int .i64 x.f3, .int .i64 x.f4, .int .i64 x.f5, .int .i64 x.f6, .int .i64 x.f7, .int .u64 x.f8, .int .u64 x.f9, .int .u64 x.f10, .int .u64 x.f11, .int .i64 x.f12, .bool x.f13], rfl, rfl, ⟨[.int .i64 x.f1], [.int .i64 x.f2, .int .i64 x.f3, .int .i64 x.f4, .int .i64 x.f5, .int .i64 x.f6, .int .i64 x.f7, .int .u64 x.f8, .int .u64 x.f9, .int .u64 x.f10, .int .u64 x.f11, .int .i64 x.f12, .bool x.f13], rfl, rfl, ⟨[.int .i64 x.f2], [.int .i64 x.f3, .int .i64 x.f4, .int .i64 x.f5, .int .i64 x.f6, .int .i64 x.f7, .int .u64 x.f8, .int .u64 x.f9, .int .u64 x.f10, .int .u64 x.f11, .int .i64 x.f12, .bool x.f13], rfl, rfl, ⟨[.int .i64 x.f3], [.int .i64 x.f4, .int .i64 x.f5, .int .i64 x.f6, .int .i64 x.f7, .int .u64 x.f8, .int .u64 x.f9, .int .u64 x.f10, .int .u64 x.f11, .int .i64 x.f12, .bool x.f13], rfl, rfl, ⟨[.int .i64 x.f4], [.int .i64 x.f5, .int .i64 x.f6, .int .i64 x.f7, .int .u64 x.f8, .int .u64 x.f9, .int .u64 x.f10, .int .u64 x.f11, .int .i64 x.f12, .bool x.f13], rfl, rfl, ⟨[.int .i64 x.f5], [.int .i64 x.f6, .int .i64 x.f7, .int .u64 x.f8, .int .u64 x.f9, .int .u64 x.f10, .int .u64 x.f11, .int .i64 x.f12, .bool x.f13], rfl, rfl, ⟨[.int .i64 x.f6], [.int .i64 x.f7, .int .u64 x.f8, .int .u64 x.f9, .int .u64 x.f10, .int .u64 x.f11, .int .i64 x.f12, .bool x.f13], rfl, rfl, ⟨[.int .i64 x.f7], [.int .u64 x.f8, .int .u64 x.f9, .int .u64 x.f10, .int .u64 x.f11, .int .i64 x.f12, .bool x.f13], rfl, rfl, ⟨[.int .u64 x.f8], [.int .u64 x.f9, .int .u64 x.f10, .int .u64 x.f11, .int .i64 x.f12, .bool x.f13], rfl, rfl, ⟨[.int .u64 x.f9], [.int .u64 x.f10, .int .u64 x.f11, .int .i64 x.f12, .bool x.f13], rfl, rfl, ⟨[.int .u64 x.f10], [.int .u64 x.f11, .int .i64 x.f12, .bool x.f13], rfl, rfl, ⟨[.int .u64 x.f11], [.int .i64 x.f12, .bool x.f13], rfl, rfl, ⟨[.int .i64 x.f12], [.bool x.f13], rfl, rfl, rfl⟩⟩⟩⟩⟩⟩⟩⟩⟩⟩⟩⟩⟩
theorem k159_mkF (W : World) (ok : Nat → Prop) (x : S159) : Kd.FK k159 W ok x [.int .i64 x.f0, .int .i64 x.f1, .int .i64 x.f2, .int .i64 x.f3, .int .i64 x.f4, .int .i64 x.f5, .int .i64 x.f6, .int .i64 x.f7, .int .u64 x.f8, .int .u64 x.f9, .int .u64 x.f10, .int .u64 x.f11, .int .i64 x.f12, .bool x.f13] := fun W2 _ => k159_mk W2 x
def rd_T159 (xs : List S159) (i : Int) : S159 := xs.getD i.toNat z159
theorem at_T159 {w : World} {A : Option Addr} {n : Nat} {xs : List S159} (h : Kd.C k159 w A n xs) (i : Int) (h0 : 0 ≤ i) (h1 : i < n) : ∃ ad , A = some ad ∧ w.cell? (ad.add (i.toNat * 14)) = some (.int .i64 (rd_T159 xs i).f0) ∧ w.cell? ⟨(ad.add (i.toNat * 14)).block, (ad.add (i.toNat * 14)).off + 1, none⟩ = some (.int .i64 (rd_T159 xs i).f1) ∧ w.cell? ⟨(ad.add (i.toNat * 14)).block, (ad.add (i.toNat * 14)).off + 2, none⟩ = some (.int .i64 (rd_T159 xs i).f2) ∧ w.cell? ⟨(ad.add (i.toNat * 14)).block, (ad.add (i.toNat * 14)).off + 3, none⟩ = some (.int .i64 (rd_T159 xs i).f3) ∧ w.cell? ⟨(ad.add (i.toNat * 14)).block, (ad.add (i.toNat * 14)).off + 4, none⟩ = some (.int .i64 (rd_T159 xs i).f4) ∧ w.cell? ⟨(ad.add (i.toNat * 14)).block, (ad.add (i.toNat * 14)).off + 5, none⟩ = some (.int .i64 (rd_T159 xs i).f5) ∧ w.cell? ⟨(ad.add (i.toNat * 14)).block, (ad.add (i.toNat * 14)).off + 6, none⟩ = some (.int .i64 (rd_T159 xs i).f6) ∧ w.cell? ⟨(ad.add (i.toNat * 14)).block, (ad.add (i.toNat * 14)).off + 7, none⟩ = some (.int .i64 (rd_T159 xs i).f7) ∧ w.cell? ⟨(ad.add (i.toNat * 14)).block, (ad.add (i.toNat * 14)).off + 8, none⟩ = some (.int .u64 (rd_T159 xs i).f8) ∧ w.cell? ⟨(ad.add (i.toNat * 14)).block, (ad.add (i.toNat * 14)).off + 9, none⟩ = some (.int .u64 (rd_T159 xs i).f9) ∧ w.cell? ⟨(ad.add (i.toNat * 14)).block, (ad.add (i.toNat * 14)).off + 10, none⟩ = some (.int .u64 (rd_T159 xs i).f10) ∧ w.cell? ⟨(ad.add (i.toNat * 14)).block, (ad.add (i.toNat * 14)).off + 11, none⟩ = some (.int .u64 (rd_T159 xs i).f11) ∧ w.cell? ⟨(ad.add (i.toNat * 14)).block, (ad.add (i.toNat * 14)).off + 12, none⟩ = some (.int .i64 (rd_T159 xs i).f12) ∧ w.cell? ⟨(ad.add (i.toNat * 14)).block, (ad.add (i.toNat * 14)).off + 13, none⟩ = some (.bool (rd_T159 xs i).f13) := by
  obtain ⟨ad, c, e, _, hK, hc0⟩ := Kd.C_get h z159 i h0 h1
  have hc : ∀ j u, c[j]? = some u → w.cell? (ad.add (i.toNat * 14 + j)) = some u := hc0
  obtain rfl := k159_open hK
  exact ⟨ad, e, hc 0 _ rfl, by rw [← add_field _ _ 1 (by omega)]; exact hc 1 _ rfl, by rw [← add_field _ _ 2 (by omega)]; exact hc 2 _ rfl, by rw [← add_field _ _ 3 (by omega)]; exact hc 3 _ rfl, by rw [← add_field _ _ 4 (by omega)]; exact hc 4 _ rfl, by rw [← add_field _ _ 5 (by omega)]; exact hc 5 _ rfl, by rw [← add_field _ _ 6 (by omega)]; exact hc 6 _ rfl, by rw [← add_field _ _ 7 (by omega)]; exact hc 7 _ rfl, by rw [← add_field _ _ 8 (by omega)]; exact hc 8 _ rfl, by rw [← add_field _ _ 9 (by omega)]; exact hc 9 _ rfl, by rw [← add_field _ _ 10 (by omega)]; exact hc 10 _ rfl, by rw [← add_field _ _ 11 (by omega)]; exact hc 11 _ rfl, by rw [← add_field _ _ 12 (by omega)]; exact hc 12 _ rfl, by rw [← add_field _ _ 13 (by omega)]; exact hc 13 _ rfl⟩

/-! #### struct type 139 -/
structure S139 where
  f0 : Int
  f1 : Int
  f2 : Int
  f3 : Int
  f4 : Int
  f5 : (List Int)
def z139 : S139 := ⟨(0 : Int), (0 : Int), (0 : Int), (0 : Int), (0 : Int), ([] : List Int)⟩
def k139 : Kd S139 := Kd.iso (Kd.pair (Kd.int .i64) (Kd.pair (Kd.int .i64) (Kd.pair (Kd.int .i64) (Kd.pair (Kd.int .i64) (Kd.pair (Kd.int .i64) (Kd.slice 3 (Kd.int .i64))))))) (fun x : S139 => (x.f0, x.f1, x.f2, x.f3, x.f4, x.f5))
theorem k139_heap : Kd.Heap k139 := Kd.heap_iso _ (Kd.heap_pair (Kd.heap_int .i64) (Kd.heap_pair (Kd.heap_int .i64) (Kd.heap_pair (Kd.heap_int .i64) (Kd.heap_pair (Kd.heap_int .i64) (Kd.heap_pair (Kd.heap_int .i64) (Kd.heap_slice 3 (Kd.heap_int .i64)))))))
theorem k139_open {w : World} {x : S139} {cs : List Value} (h : k139.K w x cs) : ∃ A5 c5, cs = [.int .i64 x.f0, .int .i64 x.f1, .int .i64 x.f2, .int .i64 x.f3, .int .i64 x.f4, .slice A5 x.f5.length c5] ∧ x.f5.length ≤ c5 ∧ (Kd.int .i64).C w A5 x.f5.length x.f5 := by
  obtain ⟨_, _, rfl, rfl, ⟨_, _, rfl, rfl, ⟨_, _, rfl, rfl, ⟨_, _, rfl, rfl, ⟨_, _, rfl, rfl, ⟨A5, c5, rfl, l5, g5⟩⟩⟩⟩⟩⟩ := h
  exact ⟨A5, c5, rfl, l5, g5⟩
theorem k139_openM {w : World} {base : Nat} {ok : Nat → Prop} {x : S139} {cs : List Value} (h : k139.M w base ok x cs) : ∃ v5, cs = [.int .i64 x.f0, .int .i64 x.f1, .int .i64 x.f2, .int .i64 x.f3, .int .i64 x.f4, v5] ∧ (Kd.int .i64).R 3 w base ok v5 x.f5 := by
  obtain ⟨_, _, rfl, rfl, ⟨_, _, rfl, rfl, ⟨_, _, rfl, rfl, ⟨_, _, rfl, rfl, ⟨_, _, rfl, rfl, ⟨v5, rfl, g5⟩⟩⟩⟩⟩⟩ := h
  exact ⟨v5, rfl, g5⟩
theorem k139_mk (w : World) (x : S139) {A5 : Option Addr} {c5 : Nat} (l5 : x.f5.length ≤ c5) (g5 : (Kd.int .i64).C w A5 x.f5.length x.f5) : k139.K w x [.int .i64 x.f0, .int .i64 x.f1, .int .i64 x.f2, .int .i64 x.f3, .int .i64 x.f4, .slice A5 x.f5.length c5] := ⟨[.int .i64 x.f0], [.int .i64 x.f1, .int .i64 x.f2, .int .i64 x.f3, .int .i64 x.f4, .slice A5 x.f5.length c5], rfl, rfl, ⟨[.int .i64 x.f1], [.int .i64 x.f2, .int .i64 x.f3, .int .i64 x.f4, .slice A5 x.f5.length c5], rfl, rfl, ⟨[.int .i64 x.f2], [.int .i64 x.f3, .int .i64 x.f4, .slice A5 x.f5.length c5], rfl, rfl, ⟨[.int .i64 x.f3], [.int .i64 x.f4, .slice A5 x.f5.length c5], rfl, rfl, ⟨[.int .i64 x.f4], [.slice A5 x.f5.length c5], rfl, rfl, ⟨A5, c5, rfl, l5, g5⟩⟩⟩⟩⟩⟩
theorem k139_mkM (w : World) (base : Nat) (ok : Nat → Prop) (x : S139) {v5 : Value} (g5 : (Kd.int .i64).R 3 w base ok v5 x.f5) : k139.M w base ok x [.int .i64 x.f0, .int .i64 x.f1, .int .i64 x.f2, .int .i64 x.f3, .int .i64 x.f4, v5] := ⟨[.int .i64 x.f0], [.int .i64 x.f1, .int .i64 x.f2, .int .i64 x.f3, .int .i64 x.f4, v5], rfl, rfl, ⟨[.int .i64 x.f1], [.int .i64 x.f2, .int .i64 x.f3, .int .i64 x.f4, v5], rfl, rfl, ⟨[.int .i64 x.f2], [.int .i64 x.f3, .int .i64 x.f4, v5], rfl, rfl, ⟨[.int .i64 x.f3], [.int .i64 x.f4, v5], rfl, rfl, ⟨[.int .i64 x.f4], [v5], rfl, rfl, ⟨v5, rfl, g5⟩⟩⟩⟩⟩⟩
theorem k139_openF {W : World} {ok : Nat → Prop} {x : S139} {cs : List Value} (h : Kd.FK k139 W ok x cs) : ∃ A5 c5, cs = [.int .i64 x.f0, .int .i64 x.f1, .int .i64 x.f2, .int .i64 x.f3, .int .i64 x.f4, .slice A5 x.f5.length c5] ∧ x.f5.length ≤ c5 ∧ Kd.F (Kd.int .i64) W ok A5 x.f5.length x.f5 := by
  obtain ⟨A5, c5, rfl, l5, _⟩ := k139_open (Kd.FK_now h)
  exact ⟨A5, c5, rfl, l5, (fun W' hW => by obtain ⟨A5_, c5_, he, l5_, g5_⟩ := k139_open (h W' hW); injection (Option.some.inj (show some (Value.slice A5 x.f5.length c5) = some (Value.slice A5_ x.f5.length c5_) from congrArg (fun l => l[5]?) he)) with ha_ _ _; rw [ha_]; exact g5_)⟩
theorem k139_mkF (W : World) (ok : Nat → Prop) (x : S139) {A5 : Option Addr} {c5 : Nat} (l5 : x.f5.length ≤ c5) (g5 : Kd.F (Kd.int .i64) W ok A5 x.f5.length x.f5) : Kd.FK k139 W ok x [.int .i64 x.f0, .int .i64 x.f1, .int .i64 x.f2, .int .i64 x.f3, .int .i64 x.f4, .slice A5 x.f5.length c5] := fun W2 hW => k139_mk W2 x l5 (g5 W2 hW)
def rd_T139 (xs : List S139) (i : Int) : S139 := xs.getD i.toNat z139
theorem at_T139 {w : World} {A : Option Addr} {n : Nat} {xs : List S139} (h : Kd.C k139 w A n xs) (i : Int) (h0 : 0 ≤ i) (h1 : i < n) : ∃ ad A5 c5, A = some ad ∧ w.cell? (ad.add (i.toNat * 6)) = some (.int .i64 (rd_T139 xs i).f0) ∧ w.cell? ⟨(ad.add (i.toNat * 6)).block, (ad.add (i.toNat * 6)).off + 1, none⟩ = some (.int .i64 (rd_T139 xs i).f1) ∧ w.cell? ⟨(ad.add (i.toNat * 6)).block, (ad.add (i.toNat * 6)).off + 2, none⟩ = some (.int .i64 (rd_T139 xs i).f2) ∧ w.cell? ⟨(ad.add (i.toNat * 6)).block, (ad.add (i.toNat * 6)).off + 3, none⟩ = some (.int .i64 (rd_T139 xs i).f3) ∧ w.cell? ⟨(ad.add (i.toNat * 6)).block, (ad.add (i.toNat * 6)).off + 4, none⟩ = some (.int .i64 (rd_T139 xs i).f4) ∧ w.cell? ⟨(ad.add (i.toNat * 6)).block, (ad.add (i.toNat * 6)).off + 5, none⟩ = some (.slice A5 (rd_T139 xs i).f5.length c5) ∧ (rd_T139 xs i).f5.length ≤ c5 ∧ (Kd.int .i64).C w A5 (rd_T139 xs i).f5.length (rd_T139 xs i).f5 := by
  obtain ⟨ad, c, e, _, hK, hc0⟩ := Kd.C_get h z139 i h0 h1
  have hc : ∀ j u, c[j]? = some u → w.cell? (ad.add (i.toNat * 6 + j)) = some u := hc0
  obtain ⟨A5, c5, rfl, l5, g5⟩ := k139_open hK
  exact ⟨ad, A5, c5, e, hc 0 _ rfl, by rw [← add_field _ _ 1 (by omega)]; exact hc 1 _ rfl, by rw [← add_field _ _ 2 (by omega)]; exact hc 2 _ rfl, by rw [← add_field _ _ 3 (by omega)]; exact hc 3 _ rfl, by rw [← add_field _ _ 4 (by omega)]; exact hc 4 _ rfl, by rw [← add_field _ _ 5 (by omega)]; exact hc 5 _ rfl, l5, g5⟩

/-! #### struct type 140 -/
structure S140 where
  f0 : Int
  f1 : Int
  f2 : Int
  f3 : Int
  f4 : Int
  f5 : (List Int)
def z140 : S140 := ⟨(0 : Int), (0 : Int), (0 : Int), (0 : Int), (0 : Int), ([] : List Int)⟩
def k140 : Kd S140 := Kd.iso (Kd.pair (Kd.int .i64) (Kd.pair (Kd.int .i64) (Kd.pair (Kd.int .i64) (Kd.pair (Kd.int .i64) (Kd.pair (Kd.int .i64) (Kd.slice 3 (Kd.int .i64))))))) (fun x : S140 => (x.f0, x.f1, x.f2, x.f3, x.f4, x.f5))
theorem k140_heap : Kd.Heap k140 := Kd.heap_iso _ (Kd.heap_pair (Kd.heap_int .i64) (Kd.heap_pair (Kd.heap_int .i64) (Kd.heap_pair (Kd.heap_int .i64) (Kd.heap_pair (Kd.heap_int .i64) (Kd.heap_pair (Kd.heap_int .i64) (Kd.heap_slice 3 (Kd.heap_int .i64)))))))
theorem k140_open {w : World} {x : S140} {cs : List Value} (h : k140.K w x cs) : ∃ A5 c5, cs = [.int .i64 x.f0, .int .i64 x.f1, .int .i64 x.f2, .int .i64 x.f3, .int .i64 x.f4, .slice A5 x.f5.length c5] ∧ x.f5.length ≤ c5 ∧ (Kd.int .i64).C w A5 x.f5.length x.f5 := by
  obtain ⟨_, _, rfl, rfl, ⟨_, _, rfl, rfl, ⟨_, _, rfl, rfl, ⟨_, _, rfl, rfl, ⟨_, _, rfl, rfl, ⟨A5, c5, rfl, l5, g5⟩⟩⟩⟩⟩⟩ := h
  exact ⟨A5, c5, rfl, l5, g5⟩
theorem k140_openM {w : World} {base : Nat} {ok : Nat → Prop} {x : S140} {cs : List Value} (h : k140.M w base ok x cs) : ∃ v5, cs = [.int .i64 x.f0, .int .i64 x.f1, .int .i64 x.f2, .int .i64 x.f3, .int .i64 x.f4, v5] ∧ (Kd.int .i64).R 3 w base ok v5 x.f5 := by
  obtain ⟨_, _, rfl, rfl, ⟨_, _, rfl, rfl, ⟨_, _, rfl, rfl, ⟨_, _, rfl, rfl, ⟨_, _, rfl, rfl, ⟨v5, rfl, g5⟩⟩⟩⟩⟩⟩ := h
  exact ⟨v5, rfl, g5⟩
theorem k140_mk (w : World) (x : S140) {A5 : Option Addr} {c5 : Nat} (l5 : x.f5.length ≤ c5) (g5 : (Kd.int .i64).C w A5 x.f5.length x.f5) : k140.K w x [.int .i64 x.f0, .int .i64 x.f1, .int .i64 x.f2, .int .i64 x.f3, .int .i64 x.f4, .slice A5 x.f5.length c5] := ⟨[.int .i64 x.f0], [.int .i64 x.f1, .int .i64 x.f2, .int .i64 x.f3, .int .i64 x.f4, .slice A5 x.f5.length c5], rfl, rfl, ⟨[.int .i64 x.f1], [.int .i64 x.f2, .int .i64 x.f3, .int .i64 x.f4, .slice A5 x.f5.length c5], rfl, rfl, ⟨[.int .i64 x.f2], [.int .i64 x.f3, .int .i64 x.f4, .slice A5 x.f5.length c5], rfl, rfl, ⟨[.int .i64 x.f3], [.int .i64 x.f4, .slice A5 x.f5.length c5], rfl, rfl, ⟨[.int .i64 x.f4], [.slice A5 x.f5.length c5], rfl, rfl, ⟨A5, c5, rfl, l5, g5⟩⟩⟩⟩⟩⟩
theorem k140_mkM (w : World) (base : Nat) (ok : Nat → Prop) (x : S140) {v5 : Value} (g5 : (Kd.int .i64).R 3 w base ok v5 x.f5) : k140.M w base ok x [.int .i64 x.f0, .int .i64 x.f1, .int .i64 x.f2, .int .i64 x.f3, .int .i64 x.f4, v5] := ⟨[.int .i64 x.f0], [.int .i64 x.f1, .int .i64 x.f2, .int .i64 x.f3, .int .i64 x.f4, v5], rfl, rfl, ⟨[.int .i64 x.f1], [.int .i64 x.f2, .int .i64 x.f3, .int .i64 x.f4, v5], rfl, rfl, ⟨[.int .i64 x.f2], [.int .i64 x.f3, .int .i64 x.f4, v5], rfl, rfl, ⟨[.int .i64 x.f3], [.int .i64 x.f4, v5], rfl, rfl, ⟨[.int .i64 x.f4], [v5], rfl, rfl, ⟨v5, rfl, g5⟩⟩⟩⟩⟩⟩
theorem k140_openF {W : World} {ok : Nat → Prop} {x : S140} {cs : List Value} (h : Kd.FK k140 W ok x cs) : ∃ A5 c5, cs = [.int .i64 x.f0, .int .i64 x.f1, .int .i64 x.f2, .int .i64 x.f3, .int .i64 x.f4, .slice A5 x.f5.length c5] ∧ x.f5.length ≤ c5 ∧ Kd.F (Kd.int .i64) W ok A5 x.f5.length x.f5 := by
  obtain ⟨A5, c5, rfl, l5, _⟩ := k140_open (Kd.FK_now h)
  exact ⟨A5, c5, rfl, l5, (fun W' hW => by obtain ⟨A5_, c5_, he, l5_, g5_⟩ := k140_open (h W' hW); injection (Option.some.inj (show some (Value.slice A5 x.f5.length c5) = some (Value.slice A5_ x.f5.length c5_) from congrArg (fun l => l[5]?) he)) with ha_ _ _; rw [ha_]; exact g5_)⟩
theorem k140_mkF (W : World) (ok : Nat → Prop) (x : S140) {A5 : Option Addr} {c5 : Nat} (l5 : x.f5.length ≤ c5) (g5 : Kd.F (Kd.int .i64) W ok A5 x.f5.length x.f5) : Kd.FK k140 W ok x [.int .i64 x.f0, .int .i64 x.f1, .int .i64 x.f2, .int .i64 x.f3, .int .i64 x.f4, .slice A5 x.f5.length c5] := fun W2 hW => k140_mk W2 x l5 (g5 W2 hW)
def rd_T140 (xs : List S140) (i : Int) : S140 := xs.getD i.toNat z140
theorem at_T140 {w : World} {A : Option Addr} {n : Nat} {xs : List S140} (h : Kd.C k140 w A n xs) (i : Int) (h0 : 0 ≤ i) (h1 : i < n) : ∃ ad A5 c5, A = some ad ∧ w.cell? (ad.add (i.toNat * 6)) = some (.int .i64 (rd_T140 xs i).f0) ∧ w.cell? ⟨(ad.add (i.toNat * 6)).block, (ad.add (i.toNat * 6)).off + 1, none⟩ = some (.int .i64 (rd_T140 xs i).f1) ∧ w.cell? ⟨(ad.add (i.toNat * 6)).block, (ad.add (i.toNat * 6)).off + 2, none⟩ = some (.int .i64 (rd_T140 xs i).f2) ∧ w.cell? ⟨(ad.add (i.toNat * 6)).block, (ad.add (i.toNat * 6)).off + 3, none⟩ = some (.int .i64 (rd_T140 xs i).f3) ∧ w.cell? ⟨(ad.add (i.toNat * 6)).block, (ad.add (i.toNat * 6)).off + 4, none⟩ = some (.int .i64 (rd_T140 xs i).f4) ∧ w.cell? ⟨(ad.add (i.toNat * 6)).block, (ad.add (i.toNat * 6)).off + 5, none⟩ = some (.slice A5 (rd_T140 xs i).f5.length c5) ∧ (rd_T140 xs i).f5.length ≤ c5 ∧ (Kd.int .i64).C w A5 (rd_T140 xs i).f5.length (rd_T140 xs i).f5 := by
  obtain ⟨ad, c, e, _, hK, hc0⟩ := Kd.C_get h z140 i h0 h1
  have hc : ∀ j u, c[j]? = some u → w.cell? (ad.add (i.toNat * 6 + j)) = some u := hc0
  obtain ⟨A5, c5, rfl, l5, g5⟩ := k140_open hK
  exact ⟨ad, A5, c5, e, hc 0 _ rfl, by rw [← add_field _ _ 1 (by omega)]; exact hc 1 _ rfl, by rw [← add_field _ _ 2 (by omega)]; exact hc 2 _ rfl, by rw [← add_field _ _ 3 (by omega)]; exact hc 3 _ rfl, by rw [← add_field _ _ 4 (by omega)]; exact hc 4 _ rfl, by rw [← add_field _ _ 5 (by omega)]; exact hc 5 _ rfl, l5, g5⟩

/-! #### struct type 85 -/
structure S85 where
  f0 : (List Int)
  f1 : Int
def z85 : S85 := ⟨([] : List Int), (0 : Int)⟩
def k85 : Kd S85 := Kd.iso (Kd.pair (Kd.slice 3 (Kd.int .i64)) (Kd.int .i64)) (fun x : S85 => (x.f0, x.f1))
theorem k85_heap : Kd.Heap k85 := Kd.heap_iso _ (Kd.heap_pair (Kd.heap_slice 3 (Kd.heap_int .i64)) (Kd.heap_int .i64))
theorem k85_open {w : World} {x : S85} {cs : List Value} (h : k85.K w x cs) : ∃ A0 c0, cs = [.slice A0 x.f0.length c0, .int .i64 x.f1] ∧ x.f0.length ≤ c0 ∧ (Kd.int .i64).C w A0 x.f0.length x.f0 := by
  obtain ⟨_, _, rfl, ⟨A0, c0, rfl, l0, g0⟩, rfl⟩ := h
  exact ⟨A0, c0, rfl, l0, g0⟩
theorem k85_openM {w : World} {base : Nat} {ok : Nat → Prop} {x : S85} {cs : List Value} (h : k85.M w base ok x cs) : ∃ v0, cs = [v0, .int .i64 x.f1] ∧ (Kd.int .i64).R 3 w base ok v0 x.f0 := by
  obtain ⟨_, _, rfl, ⟨v0, rfl, g0⟩, rfl⟩ := h
  exact ⟨v0, rfl, g0⟩
theorem k85_mk (w : World) (x : S85) {A0 : Option Addr} {c0 : Nat} (l0 : x.f0.length ≤ c0) (g0 : (Kd.int .i64).C w A0 x.f0.length x.f0) : k85.K w x [.slice A0 x.f0.length c0, .int .i64 x.f1] := ⟨[.slice A0 x.f0.length c0], [.int .i64 x.f1], rfl, ⟨A0, c0, rfl, l0, g0⟩, rfl⟩
theorem k85_mkM (w : World) (base : Nat) (ok : Nat → Prop) (x : S85) {v0 : Value} (g0 : (Kd.int .i64).R 3 w base ok v0 x.f0) : k85.M w base ok x [v0, .int .i64 x.f1] := ⟨[v0], [.int .i64 x.f1], rfl, ⟨v0, rfl, g0⟩, rfl⟩
theorem k85_openF {W : World} {ok : Nat → Prop} {x : S85} {cs : List Value} (h : Kd.FK k85 W ok x cs) : ∃ A0 c0, cs = [.slice A0 x.f0.length c0, .int .i64 x.f1] ∧ x.f0.length ≤ c0 ∧ Kd.F (Kd.int .i64) W ok A0 x.f0.length x.f0 := by
  obtain ⟨A0, c0, rfl, l0, _⟩ := k85_open (Kd.FK_now h)
  exact ⟨A0, c0, rfl, l0, (fun W' hW => by obtain ⟨A0_, c0_, he, l0_, g0_⟩ := k85_open (h W' hW); injection (Option.some.inj (show some (Value.slice A0 x.f0.length c0) = some (Value.slice A0_ x.f0.length c0_) from congrArg (fun l => l[0]?) he)) with ha_ _ _; rw [ha_]; exact g0_)⟩
theorem k85_mkF (W : World) (ok : Nat → Prop) (x : S85) {A0 : Option Addr} {c0 : Nat} (l0 : x.f0.length ≤ c0) (g0 : Kd.F (Kd.int .i64) W ok A0 x.f0.length x.f0) : Kd.FK k85 W ok x [.slice A0 x.f0.length c0, .int .i64 x.f1] := fun W2 hW => k85_mk W2 x l0 (g0 W2 hW)
def rd_T85 (xs : List S85) (i : Int) : S85 := xs.getD i.toNat z85
theorem at_T85 {w : World} {A : Option Addr} {n : Nat} {xs : List S85} (h : Kd.C k85 w A n xs) (i : Int) (h0 : 0 ≤ i) (h1 : i < n) : ∃ ad A0 c0, A = some ad ∧ w.cell? (ad.add (i.toNat * 2)) = some (.slice A0 (rd_T85 xs i).f0.length c0) ∧ w.cell? ⟨(ad.add (i.toNat * 2)).block, (ad.add (i.toNat * 2)).off + 1, none⟩ = some (.int .i64 (rd_T85 xs i).f1) ∧ (rd_T85 xs i).f0.length ≤ c0 ∧ (Kd.int .i64).C w A0 (rd_T85 xs i).f0.length (rd_T85 xs i).f0 := by
  obtain ⟨ad, c, e, _, hK, hc0⟩ := Kd.C_get h z85 i h0 h1
  have hc : ∀ j u, c[j]? = some u → w.cell? (ad.add (i.toNat * 2 + j)) = some u := hc0
  obtain ⟨A0, c0, rfl, l0, g0⟩ := k85_open hK
  exact ⟨ad, A0, c0, e, hc 0 _ rfl, by rw [← add_field _ _ 1 (by omega)]; exact hc 1 _ rfl, l0, g0⟩

/-! #### struct type 41 -/
structure S41 where
  f0 : Int
  f1 : Int
  f2 : Int
  f3 : Int
  f4 : Int
def z41 : S41 := ⟨(0 : Int), (0 : Int), (0 : Int), (0 : Int), (0 : Int)⟩
def k41 : Kd S41 := Kd.iso (Kd.pair (Kd.int .i64) (Kd.pair (Kd.int .i64) (Kd.pair (Kd.int .i64) (Kd.pair (Kd.int .i64) (Kd.int .i64))))) (fun x : S41 => (x.f0, x.f1, x.f2, x.f3, x.f4))
theorem k41_heap : Kd.Heap k41 := Kd.heap_iso _ (Kd.heap_pair (Kd.heap_int .i64) (Kd.heap_pair (Kd.heap_int .i64) (Kd.heap_pair (Kd.heap_int .i64) (Kd.heap_pair (Kd.heap_int .i64) (Kd.heap_int .i64)))))
theorem k41_open {w : World} {x : S41} {cs : List Value} (h : k41.K w x cs) : cs = [.int .i64 x.f0, .int .i64 x.f1, .int .i64 x.f2, .int .i64 x.f3, .int .i64 x.f4] := by
  obtain ⟨_, _, rfl, rfl, ⟨_, _, rfl, rfl, ⟨_, _, rfl, rfl, ⟨_, _, rfl, rfl, rfl⟩⟩⟩⟩ := h
  exact rfl
theorem k41_openM {w : World} {base : Nat} {ok : Nat → Prop} {x : S41} {cs : List Value} (h : k41.M w base ok x cs) : cs = [.int .i64 x.f0, .int .i64 x.f1, .int .i64 x.f2, .int .i64 x.f3, .int .i64 x.f4] := by
  obtain ⟨_, _, rfl, rfl, ⟨_, _, rfl, rfl, ⟨_, _, rfl, rfl, ⟨_, _, rfl, rfl, rfl⟩⟩⟩⟩ := h
  exact rfl
theorem k41_mk (w : World) (x : S41)  : k41.K w x [.int .i64 x.f0, .int .i64 x.f1, .int .i64 x.f2, .int .i64 x.f3, .int .i64 x.f4] := ⟨[.int .i64 x.f0], [.int .i64 x.f1, .int .i64 x.f2, .int .i64 x.f3, .int .i64 x.f4], rfl, rfl, ⟨[.int .i64 x.f1], [.int .i64 x.f2, .int .i64 x.f3, .int .i64 x.f4], rfl, rfl, ⟨[.int .i64 x.f2], [.int .i64 x.f3, .int .i64 x.f4], rfl, rfl, ⟨[.int .i64 x.f3], [.int .i64 x.f4], rfl, rfl, rfl⟩⟩⟩⟩
theorem k41_mkM (w : World) (base : Nat) (ok : Nat → Prop) (x : S41)  : k41.M w base ok x [.int .i64 x.f0, .int .i64 x.f1, .int .i64 x.f2, .int .i64 x.f3, .int .i64 x.f4] := ⟨[.int .i64 x.f0], [.int .i64 x.f1, .int .i64 x.f2, .int .i64 x.f3, .int .i64 x.f4], rfl, rfl, ⟨[.int .i64 x.f1], [.int .i64 x.f2, .int .i64 x.f3, .int .i64 x.f4], rfl, rfl, ⟨[.int .i64 x.f2], [.int .i64 x.f3, .int .i64 x.f4], rfl, rfl, ⟨[.int .i64 x.f3], [.int .i64 x.f4], rfl, rfl, rfl⟩⟩⟩⟩
theorem k41_mkF (W : World) (ok : Nat → Prop) (x : S41) : Kd.FK k41 W ok x [.int .i64 x.f0, .int .i64 x.f1, .int .i64 x.f2, .int .i64 x.f3, .int .i64 x.f4] := fun W2 _ => k41_mk W2 x
def rd_T41 (xs : List S41) (i : Int) : S41 := xs.getD i.toNat z41
theorem at_T41 {w : World} {A : Option Addr} {n : Nat} {xs : List S41} (h : Kd.C k41 w A n xs) (i : Int) (h0 : 0 ≤ i) (h1 : i < n) : ∃ ad , A = some ad ∧ w.cell? (ad.add (i.toNat * 5)) = some (.int .i64 (rd_T41 xs i).f0) ∧ w.cell? ⟨(ad.add (i.toNat * 5)).block, (ad.add (i.toNat * 5)).off + 1, none⟩ = some (.int .i64 (rd_T41 xs i).f1) ∧ w.cell? ⟨(ad.add (i.toNat * 5)).block, (ad.add (i.toNat * 5)).off + 2, none⟩ = some (.int .i64 (rd_T41 xs i).f2) ∧ w.cell? ⟨(ad.add (i.toNat * 5)).block, (ad.add (i.toNat * 5)).off + 3, none⟩ = some (.int .i64 (rd_T41 xs i).f3) ∧ w.cell? ⟨(ad.add (i.toNat * 5)).block, (ad.add (i.toNat * 5)).off + 4, none⟩ = some (.int .i64 (rd_T41 xs i).f4) := by
  obtain ⟨ad, c, e, _, hK, hc0⟩ := Kd.C_get h z41 i h0 h1
  have hc : ∀ j u, c[j]? = some u → w.cell? (ad.add (i.toNat * 5 + j)) = some u := hc0
  obtain rfl := k41_open hK
  exact ⟨ad, e, hc 0 _ rfl, by rw [← add_field _ _ 1 (by omega)]; exact hc 1 _ rfl, by rw [← add_field _ _ 2 (by omega)]; exact hc 2 _ rfl, by rw [← add_field _ _ 3 (by omega)]; exact hc 3 _ rfl, by rw [← add_field _ _ 4 (by omega)]; exact hc 4 _ rfl⟩

/-! #### struct type 164 -/
structure S164 where
  f0 : Int
  f1 : Int
  f2 : Int
  f3 : Int
  f4 : Int
def z164 : S164 := ⟨(0 : Int), (0 : Int), (0 : Int), (0 : Int), (0 : Int)⟩
def k164 : Kd S164 := Kd.iso (Kd.pair (Kd.int .i64) (Kd.pair (Kd.int .i64) (Kd.pair (Kd.int .i64) (Kd.pair (Kd.int .i64) (Kd.int .i64))))) (fun x : S164 => (x.f0, x.f1, x.f2, x.f3, x.f4))
theorem k164_heap : Kd.Heap k164 := Kd.heap_iso _ (Kd.heap_pair (Kd.heap_int .i64) (Kd.heap_pair (Kd.heap_int .i64) (Kd.heap_pair (Kd.heap_int .i64) (Kd.heap_pair (Kd.heap_int .i64) (Kd.heap_int .i64)))))
theorem k164_open {w : World} {x : S164} {cs : List Value} (h : k164.K w x cs) : cs = [.int .i64 x.f0, .int .i64 x.f1, .int .i64 x.f2, .int .i64 x.f3, .int .i64 x.f4] := by
  obtain ⟨_, _, rfl, rfl, ⟨_, _, rfl, rfl, ⟨_, _, rfl, rfl, ⟨_, _, rfl, rfl, rfl⟩⟩⟩⟩ := h
  exact rfl
theorem k164_openM {w : World} {base : Nat} {ok : Nat → Prop} {x : S164} {cs : List Value} (h : k164.M w base ok x cs) : cs = [.int .i64 x.f0, .int .i64 x.f1, .int .i64 x.f2, .int .i64 x.f3, .int .i64 x.f4] := by
  obtain ⟨_, _, rfl, rfl, ⟨_, _, rfl, rfl, ⟨_, _, rfl, rfl, ⟨_, _, rfl, rfl, rfl⟩⟩⟩⟩ := h
  exact rfl
theorem k164_mk (w : World) (x : S164)  : k164.K w x [.int .i64 x.f0, .int .i64 x.f1, .int .i64 x.f2, .int .i64 x.f3, .int .i64 x.f4] := ⟨[.int .i64 x.f0], [.int .i64 x.f1, .int .i64 x.f2, .int .i64 x.f3, .int .i64 x.f4], rfl, rfl, ⟨[.int .i64 x.f1], [.int .i64 x.f2, .int .i64 x.f3, .int .i64 x.f4], rfl, rfl, ⟨[.int .i64 x.f2], [.int .i64 x.f3, .int .i64 x.f4], rfl, rfl, ⟨[.int .i64 x.f3], [.int .i64 x.f4], rfl, rfl, rfl⟩⟩⟩⟩
theorem k164_mkM (w : World) (base : Nat) (ok : Nat → Prop) (x : S164)  : k164.M w base ok x [.int .i64 x.f0, .int .i64 x.f1, .int .i64 x.f2, .int .i64 x.f3, .int .i64 x.f4] := ⟨[.int .i64 x.f0], [.int .i64 x.f1, .int .i64 x.f2, .int .i64 x.f3, .int .i64 x.f4], rfl, rfl, ⟨[.int .i64 x.f1], [.int .i64 x.f2, .int .i64 x.f3, .int .i64 x.f4], rfl, rfl, ⟨[.int .i64 x.f2], [.int .i64 x.f3, .int .i64 x.f4], rfl, rfl, ⟨[.int .i64 x.f3], [.int .i64 x.f4], rfl, rfl, rfl⟩⟩⟩⟩
theorem k164_mkF (W : World) (ok : Nat → Prop) (x : S164) : Kd.FK k164 W ok x [.int .i64 x.f0, .int .i64 x.f1, .int .i64 x.f2, .int .i64 x.f3, .int .i64 x.f4] := fun W2 _ => k164_mk W2 x
def rd_T164 (xs : List S164) (i : Int) : S164 := xs.getD i.toNat z164
theorem at_T164 {w : World} {A : Option Addr} {n : Nat} {xs : List S164} (h : Kd.C k164 w A n xs) (i : Int) (h0 : 0 ≤ i) (h1 : i < n) : ∃ ad , A = some ad ∧ w.cell? (ad.add (i.toNat * 5)) = some (.int .i64 (rd_T164 xs i).f0) ∧ w.cell? ⟨(ad.add (i.toNat * 5)).block, (ad.add (i.toNat * 5)).off + 1, none⟩ = some (.int .i64 (rd_T164 xs i).f1) ∧ w.cell? ⟨(ad.add (i.toNat * 5)).block, (ad.add (i.toNat * 5)).off + 2, none⟩ = some (.int .i64 (rd_T164 xs i).f2) ∧ w.cell? ⟨(ad.add (i.toNat * 5)).block, (ad.add (i.toNat * 5)).off + 3, none⟩ = some (.int .i64 (rd_T164 xs i).f3) ∧ w.cell? ⟨(ad.add (i.toNat * 5)).block, (ad.add (i.toNat * 5)).off + 4, none⟩ = some (.int .i64 (rd_T164 xs i).f4) := by
  obtain ⟨ad, c, e, _, hK, hc0⟩ := Kd.C_get h z164 i h0 h1
  have hc : ∀ j u, c[j]? = some u → w.cell? (ad.add (i.toNat * 5 + j)) = some u := hc0
  obtain rfl := k164_open hK
  exact ⟨ad, e, hc 0 _ rfl, by rw [← add_field _ _ 1 (by omega)]; exact hc 1 _ rfl, by rw [← add_field _ _ 2 (by omega)]; exact hc 2 _ rfl, by rw [← add_field _ _ 3 (by omega)]; exact hc 3 _ rfl, by rw [← add_field _ _ 4 (by omega)]; exact hc 4 _ rfl⟩

end Go.Proofs.YtbldolbeijpipaaDoor
