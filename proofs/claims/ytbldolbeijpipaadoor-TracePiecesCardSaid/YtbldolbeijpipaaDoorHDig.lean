import Derived.Test.YtbldolbeijpipaaDoorShelf
import Derived.Shelf.Strings.Builder1
import Derived.Test.YtbldolbeijpipaaDoorHRight
import Derived.Test.YtbldolbeijpipaaDoorHBase
import Derived.Lib.AppendIntMem
import Derived.Lib.ItoaLen
namespace Go.Proofs.YtbldolbeijpipaaDoor
open Go.RowKit
theorem write_string (B b : Nat) (bs : List Value) (s : ByteArray) (w : World) (h : Lib.IsBuilder 95 5 B b bs w) (hlen : bs.length + s.size ≤ 140737488355328) (hBw : B ≤ w.heap.size) :
    Calls Tryd.prog 36 #[.pointer (some ⟨b, 0, none⟩), .string s] w fun e w' => e = .returned (.tuple #[.int .i64 s.size, .nilIface]) ∧ (Lib.BuilderAt 95 5 B b (.pointer (some ⟨b, 0, none⟩)) (bs ++ Lib.strCells s) w' ∧ Below B w w') :=
  Any.Builder_WriteString { Tryd.lays156 with } Tryd.Builder_Extra_156 B b bs s w h hlen hBw
end Go.Proofs.YtbldolbeijpipaaDoor
namespace Go.Proofs.YtbldolbeijpipaaDoor
open Go.RowKit Go.Proofs.YtbldolbeijpipaaDoorW.PrintWords Go.Proofs.YtbldolbeijpipaaDoorW.PrintLast Go.Proofs.YtbldolbeijpipaaDoorW.PrintMore
set_option linter.unusedVariables false
set_option linter.unusedSimpArgs false
/-- The table of the powers of ten lies where it lay when the program began. -/
def T10 (w : World) : Prop := Lib.TabIs Tryd.prog w "internal/strconv.uint64pow10" .u64 Lib.pow10Tab
theorem T10.below {w w1 : World} (h : T10 w) (hb : Below w.heap.size w w1) : T10 w1 := by
  obtain ⟨g, hg⟩ : ∃ g, Tryd.prog.globalNamed "internal/strconv.uint64pow10" = some g := Option.isSome_iff_exists.mp (by kernel_rfl)
  unfold T10 Lib.TabIs at *
  unfold World.var? at *
  rw [hg] at h ⊢
  simp only [bind, Option.bind] at h ⊢
  cases hk : w.heap[g]? with
  | none => rw [hk] at h; cases h
  | some o =>
    rw [hk] at h
    rw [(hb.block g (by rcases Nat.lt_or_ge g w.heap.size with h' | h'; exact h'; simp [Array.getElem?_eq_none h'] at hk)).trans hk]
    exact h
/-- A whole number's digits. -/
def dig (n : Int) : ByteArray := ⟨(Lib.itoa n).toArray⟩
theorem dig_size (n : Int) (h0 : -9223372036854775808 ≤ n) (h1 : n ≤ 9223372036854775807) : (dig n).size ≤ 21 := by
  have := Lib.itoa_length_le n h0 h1
  simpa [dig, ByteArray.size] using this
theorem digits_any (n : Int) (w : World) (h0 : -9223372036854775808 ≤ n) (h1 : n ≤ 9223372036854775807) (ht : T10 w) :
    Calls Tryd.prog 65 #[.int .i64 n] w fun e w' => e = .returned (.string (dig n)) ∧ Below w.heap.size w w' := by
  go_enter Tryd.func65, Tryd.ntmps65
  go_wp2_with fail
  refine (Tryd.strconv_FormatInt_10 n h0 h1 w ht).mono ?_
  rintro e w1 ⟨rfl, k, os, rfl⟩
  have hb := Lib.below_grow w.heap.size w (Nat.le_refl _) k os
  generalize Sort.grow (w.drewN k) os = w1 at hb ⊢
  go_wp2_with fail
  go_ret
  exact ⟨rfl, hb⟩
end Go.Proofs.YtbldolbeijpipaaDoor
