import Derived.Test.YtbldolbeijpipaaDoorHLine
import Derived.Test.YtbldolbeijpipaaDoorPBx3
namespace Go.Proofs.YtbldolbeijpipaaDoor
open Go.RowKit Go.Proofs.YtbldolbeijpipaaDoorW.PrintWords Go.Proofs.YtbldolbeijpipaaDoorW.PrintLast Go.Proofs.YtbldolbeijpipaaDoorW.PrintMore
set_option linter.unusedVariables false
set_option linter.unusedSimpArgs false
/-- Slots that are right: each as it may be, one behind the other. -/
def MayS (x : S43) : Prop := MayOK x.f0 x.f1 x.f2 x.f3 x.f4 x.f5
def RightOK (l : List S43) : Prop := (∀ x ∈ l, MayS x) ∧ ∀ (j : Nat) (x y : S43), l[j]? = some x → l[j + 1]? = some y → y.f0 = x.f0 + 1
theorem RightOK.drop {l : List S43} (h : RightOK l) (k : Nat) : RightOK (l.drop k) :=
  ⟨fun x hx => h.1 x (List.mem_of_mem_drop hx), fun j x y hx hy => h.2 (k + j) x y (by simpa using hx) (by simpa [Nat.add_assoc] using hy)⟩
theorem RightOK.take {l : List S43} (h : RightOK l) (k : Nat) : RightOK (l.take k) :=
  ⟨fun x hx => h.1 x (List.mem_of_mem_take hx), fun j x y hx hy => by
    rw [List.getElem?_take] at hx hy
    split at hx
    · split at hy
      · exact h.2 j x y hx hy
      · cases hy
    · cases hx⟩
theorem may_fk (k : Nat) (x : S43) (h : MayS x) : PB.trace_may.f (k + 1) x.f0 x.f1 x.f2 x.f3 x.f4 x.f5 = some true := by
  induction k with
  | zero => exact may_f _ _ _ _ _ _ h
  | succ k ih => exact PB.trace_may.mono _ _ _ _ _ _ _ _ ih
theorem rd43 (l : List S43) (i : Nat) (x : S43) (h : l[i]? = some x) : rd_T43 l (i : Int) = x := by simp [rd_T43, List.getD, h]
theorem right_l (l : List S43) (h : RightOK l) (hl : l.length ≤ 100000) : ∀ (n i : Nat), l.length = i + n → trace_Right.l0 (n + 2) l l (l.length : Int) (i : Int) = some true
  | 0, i, e => by
    rw [trace_Right.l0]
    rw [if_neg (by omega)]
  | n + 1, i, e => by
    have hi : i < l.length := by omega
    have hx : l[i]? = some l[i] := List.getElem?_eq_getElem hi
    have ih := right_l l h hl n (i + 1) (by omega)
    have hw : wrap64 ((i : Int) + 1) = ((i + 1 : Nat) : Int) := by rw [show wrap64 ((i : Int) + 1) = (i : Int) + 1 by unfold wrap64; omega]; simp
    rw [trace_Right.l0, if_pos (by omega), if_pos (by omega), if_pos (by omega), rd43 l i _ hx, may_fk (n + 1) _ (h.1 _ (List.getElem_mem hi))]
    simp only [Option.bind, if_true]
    by_cases h0 : i = 0
    · subst h0
      rw [if_neg (by simp), hw]
      exact ih
    · have hw1 : wrap64 ((i : Int) - 1) = ((i - 1 : Nat) : Int) := by rw [show wrap64 ((i : Int) - 1) = (i : Int) - 1 by unfold wrap64; omega]; omega
      have hp : i - 1 < l.length := by omega
      have hx1 : l[i - 1]? = some l[i - 1] := List.getElem?_eq_getElem hp
      have hc := h.2 (i - 1) _ _ hx1 (by rw [Nat.sub_add_cancel (by omega)]; exact hx)
      have hb := (h.1 _ (List.getElem_mem hp))
      have hw2 : wrap64 (l[i - 1].f0 + 1) = l[i - 1].f0 + 1 := by have h1 := hb.1; have h2 := hb.2.1; unfold wrap64; omega
      rw [if_pos (by omega), hw1, if_pos (by omega), if_pos (by omega), rd43 l (i - 1) _ hx1, hw2, if_pos hc, hw]
      exact ih
theorem right_any (l : List S43) (A : Option Addr) (c : Nat) (w : World) (h : RightOK l) (hl : l.length ≤ 100000) (hC : k43.C w A l.length l) (hc : l.length ≤ c) :
    Calls Tryd.prog 13 #[.slice A l.length c] w fun e w' => e = .returned (.bool true) ∧ Below w.heap.size w w' :=
  trace_Right.calls (l.length + 2) A c l true w hC hc (by have := right_l l h hl l.length 0 (by omega); simpa [trace_Right.f] using this)
/-- A text, element by element. -/
def txt (f : S43 → List UInt8) (l : List S43) : List UInt8 := (l.map f).flatten
theorem txt_append (f : S43 → List UInt8) (l m : List S43) : txt f (l ++ m) = txt f l ++ txt f m := by simp [txt]
theorem txt_len (f : S43 → List UInt8) (m : Nat) : ∀ l : List S43, (∀ x ∈ l, (f x).length ≤ m) → (txt f l).length ≤ l.length * m
  | [], _ => by simp [txt]
  | x :: l, h => by
    have h1 := txt_len f m l (fun y hy => h y (List.mem_cons_of_mem _ hy))
    have h2 := h x (by simp)
    simp only [txt, List.map_cons, List.flatten_cons, List.length_append, List.length_cons] at h1 ⊢
    rw [Nat.add_mul]
    omega
theorem txt_take (f : S43 → List UInt8) (l : List S43) (k : Nat) (x : S43) (h : l[k]? = some x) : txt f (l.take (k + 1)) = txt f (l.take k) ++ f x := by
  rw [List.take_add_one, h, txt_append]; simp [txt]
/-- A slot's byte in a task's bar. -/
def markB (task : Int) (x : S43) : ByteArray := if x.f1 = task then (if x.f3 = 0 then ⟨#[46]⟩ else if x.f3 = 2 then ⟨#[126]⟩ else ⟨#[35]⟩) else ⟨#[46]⟩
theorem mark_f (task : Int) (x : S43) : PB.trace_mark.f 1 x.f0 x.f1 x.f2 x.f3 x.f4 x.f5 task = some (markB task x) := by
  simp only [PB.trace_mark.f, PB.trace_mark.j0, markB]
  by_cases h1 : x.f1 = task
  · by_cases h3 : x.f3 = 0
    · simp [h1, h3]
    · by_cases h2 : x.f3 = 2 <;> simp [h1, h3, h2]
  · simp [h1]
def markL (task : Int) (x : S43) : List UInt8 := (markB task x).data.toList
def lineS (x : S43) : ByteArray := lineB x.f0 x.f1 x.f2 x.f3 x.f4 x.f5
def lineL (x : S43) : List UInt8 := (lineS x ++ ⟨#[10]⟩).data.toList
theorem lineS_size (x : S43) (h : MayS x) : (lineS x).size ≤ 200 := by
  obtain ⟨h0, h1, h | h⟩ := h
  · have : (dig x.f0 ++ " idle".toUTF8).size = (dig x.f0).size + 5 := by rw [ByteArray.size_append]; rfl
    have := dig_size x.f0 (by omega) (by omega)
    simp only [lineS, lineB, h.2.2.1, if_true]
    omega
  · have h3 : ¬ x.f3 = 0 := by omega
    simp only [lineS, lineB, if_neg h3]
    have := joinB_len _ (lineW_sizes x.f0 x.f1 x.f2 x.f3 x.f4 x.f5 ⟨by omega, by omega⟩ ⟨by omega, by omega⟩ ⟨by omega, by omega⟩ ⟨by omega, by omega⟩) (lineW_len _ _ _ _ _ _).2
    simpa [joinB, ByteArray.size] using this
theorem builder_below {T e : TypeId} {B b : Nat} {bs : List Value} {w w1 : World} (h : Lib.IsBuilder T e B b bs w) (hb : Below w.heap.size w w1) : Lib.IsBuilder T e B b bs w1 := by
  have go : ∀ p, Lib.BuilderAt T e B b p bs w → Lib.BuilderAt T e B b p bs w1 := fun p h => by
    have hlt := h.lt
    obtain ⟨hB, v, hv, hown, hne⟩ := h
    exact ⟨hB, v, (hb.block b hlt).trans hv, hown.kept (row := none) ⟨hb.os, hb.tape, hb.output, hb.size, fun k hk _ => hb.block k hk⟩ (Classical.em _), hne⟩
  exact h.elim (fun x => .inl (go _ x)) (fun x => .inr (go _ x))
theorem lineL_len (x : S43) (h : MayS x) : (lineL x).length ≤ 201 := by
  have h1 := lineS_size x h
  have h2 : (lineS x ++ ⟨#[10]⟩).size = (lineS x).size + 1 := by rw [ByteArray.size_append]; rfl
  have h3 : (lineL x).length = (lineS x ++ ⟨#[10]⟩).size := by unfold lineL; rw [Array.length_toList]; rfl
  omega
set_option maxHeartbeats 800000 in
set_option maxRecDepth 100000 in
theorem text_any (l : List S43) (A : Option Addr) (c : Nat) (w : World) (h : RightOK l) (hl : l.length ≤ 100000) (hC : k43.C w A l.length l) (hc : l.length ≤ c) (ht : T10 w) :
    Calls Tryd.prog 11 #[.slice A l.length c] w fun e w' => e = .returned (.string ⟨(txt lineL l).toArray⟩) ∧ Below w.heap.size w w' := by
  have HC := Aside0.mk hC
  have HL := Aside0.mk h
  have HCC := Aside0.mk hc
  have HT := Aside0.mk ht
  clear hC h hc ht
  go_enter Tryd.func11, Tryd.ntmps11
  go_wp2_with fail
  refine (right_any l A c w HL.out hl HC.out HCC.out).mono ?_
  rintro e w1 ⟨rfl, hb⟩
  have HB := Aside0.mk hb
  go_wp2_with fail
  obtain ⟨b, hbe⟩ : ∃ b, b = w1.heap.size := ⟨_, rfl⟩
  have HI := Aside0.mk (Lib.fresh_isBuilder 95 5 w1)
  replace HB := Aside0.mk (below_alloc HB.out (.cells #[.pointer none, .slice none 0 0] 95))
  have hbw : w.heap.size ≤ b := by rw [hbe]; exact hb.size
  rw [← hbe] at HI ⊢
  generalize w1.alloc (.cells #[.pointer none, .slice none 0 0] 95) = W0 at HI HB ⊢
  clear hbe hb w1
  go_loopw [11] (fun kk wr => ∃ k : Nat, kk = .int .i64 k ∧ k ≤ l.length ∧ Aside0 (Lib.IsBuilder 95 5 b b (Lib.byteCells (txt lineL (l.take k))) wr) ∧ Aside0 (Below w.heap.size w wr)) (fun kk _ => l.length - (intOf kk).toNat)
  case atStart => exact ⟨0, rfl, by omega, by simpa [txt, Lib.byteCells] using HI, HB⟩
  case round =>
    clear HI HB
    obtain ⟨k, rfl, hkl, HI, HB⟩ := hrel
    have hbl : b < wr.heap.size := HI.out.elim (fun h => h.lt) (fun h => h.lt)
    by_cases hin : k < l.length
    · have hin1 : (k : Int) < l.length := by omega
      have hx : l[k]? = some l[k] := List.getElem?_eq_getElem hin
      obtain ⟨x, hxe⟩ : ∃ x, x = l[k] := ⟨_, rfl⟩
      rw [← hxe] at hx
      have HX := Aside0.mk hx
      have HM := Aside0.mk (HL.out.1 x (by rw [hxe]; exact List.getElem_mem hin))
      obtain ⟨ad, ea, p0, p1, p2, p3, p4, p5⟩ := at_T43 HC.out k (by omega) (by omega)
      subst ea
      rw [rd43 l k x hx] at p0 p1 p2 p3 p4 p5
      rw [Int.toNat_natCast] at p0 p1 p2 p3 p4 p5
      clear hx hxe
      have hadb := World.block_lt_of_cell? w _ p0
      replace p0 := (HB.out.cell hadb).trans p0
      replace p1 := (HB.out.cell (p := ⟨(ad.add (k * 6)).block, (ad.add (k * 6)).off + 1, none⟩) hadb).trans p1
      replace p2 := (HB.out.cell (p := ⟨(ad.add (k * 6)).block, (ad.add (k * 6)).off + 2, none⟩) hadb).trans p2
      replace p3 := (HB.out.cell (p := ⟨(ad.add (k * 6)).block, (ad.add (k * 6)).off + 3, none⟩) hadb).trans p3
      replace p4 := (HB.out.cell (p := ⟨(ad.add (k * 6)).block, (ad.add (k * 6)).off + 4, none⟩) hadb).trans p4
      replace p5 := (HB.out.cell (p := ⟨(ad.add (k * 6)).block, (ad.add (k * 6)).off + 5, none⟩) hadb).trans p5
      go_wp2_with fail
      have HA := Aside0.mk (below_alloc (Below.refl wr.heap.size wr) (.cells #[.int .i64 x.f0, .int .i64 x.f1, .int .i64 x.f2, .int .i64 x.f3, .bool x.f4, .int .i64 x.f5] 43))
      refine (line_any x.f0 x.f1 x.f2 x.f3 x.f5 x.f4 _ HM.out ((HT.out.below HB.out).below HA.out)).mono ?_
      rintro e w2 ⟨rfl, hb⟩
      change Below _ _ w2 at hb
      have HI2 := Aside0.mk (builder_below (builder_below HI.out HA.out) hb)
      have HB2 := Aside0.mk (below_then (below_then HB.out HB.out.size HA.out) (Nat.le_trans HB.out.size HA.out.size) hb)
      have hbl2 : b ≤ w2.heap.size := Nat.le_trans (Nat.le_of_lt hbl) (Nat.le_trans HA.out.size hb.size)
      have hls : (lineB x.f0 x.f1 x.f2 x.f3 x.f4 x.f5).size ≤ 200 := lineS_size x HM.out
      have hlen : (txt lineL (l.take k)).length ≤ 100000 * 201 := by
        have h1 := txt_len lineL 201 (l.take k) (fun y hy => lineL_len y (HL.out.1 y (List.mem_of_mem_take hy)))
        have h2 : (l.take k).length ≤ 100000 := by simp; omega
        exact Nat.le_trans h1 (Nat.mul_le_mul_right _ h2)
      have hs1 : (lineB x.f0 x.f1 x.f2 x.f3 x.f4 x.f5 ++ (⟨#[10]⟩ : ByteArray)).size = (lineB x.f0 x.f1 x.f2 x.f3 x.f4 x.f5).size + 1 := by rw [ByteArray.size_append]; rfl
      clear p0 p1 p2 p3 p4 p5 HA hb HI HB hadb
      go_wp2_with fail
      refine (write_string b b _ (lineB x.f0 x.f1 x.f2 x.f3 x.f4 x.f5 ++ (⟨#[10]⟩ : ByteArray)) w2 HI2.out (by rw [Lib.byteCells_length]; omega) hbl2).mono ?_
      rintro e w3 ⟨rfl, hI, hb⟩
      have HI3 := Aside0.mk hI
      have HB3 := Aside0.mk (HB2.out.trans (hb.mono hbw))
      clear hI hb HI2 HB2
      go_wp2_with fail
      go_roundw
      case rel => exact ⟨k + 1, by go_num, by omega, ⟨.inr (by rw [txt_take lineL l k x HX.out, Lib.byteCells_append]; exact HI3.out)⟩, HB3⟩
      case measure => simp [intOf]; omega
    · have hk : k = l.length := by omega
      have hin1 : ¬ (k : Int) < l.length := by omega
      go_wp2_with fail
      refine (Tryd.Builder_String_any b b (txt lineL (l.take k)) wr HI.out (Nat.le_of_lt hbl)).mono ?_
      rintro e w2 ⟨rfl, hb⟩
      have hke := Aside0.mk hk
      clear hk
      go_wp2_with fail
      go_ret
      refine ⟨?_, HB.out.trans (hb.mono hbw)⟩
      rw [hke.out, List.take_length]
      rfl
theorem markB_size (task : Int) (x : S43) : (markB task x).size = 1 := by
  unfold markB
  split
  · split
    · rfl
    · split <;> rfl
  · rfl
theorem markL_len (task : Int) (x : S43) : (markL task x).length = 1 := by
  have := markB_size task x
  unfold markL
  rw [Array.length_toList]
  exact this
set_option maxHeartbeats 800000 in
set_option maxRecDepth 100000 in
theorem bar_any (task : Int) (l : List S43) (A : Option Addr) (c : Nat) (w : World) (h : RightOK l) (hl : l.length ≤ 100000) (hC : k43.C w A l.length l) (hc : l.length ≤ c) :
    Calls Tryd.prog 12 #[.slice A l.length c, .int .i64 task] w fun e w' => e = .returned (.string ⟨(txt (markL task) l).toArray⟩) ∧ Below w.heap.size w w' := by
  have HC := Aside0.mk hC
  have HL := Aside0.mk h
  have HCC := Aside0.mk hc
  clear hC h hc
  go_enter Tryd.func12, Tryd.ntmps12
  go_wp2_with fail
  refine (right_any l A c w HL.out hl HC.out HCC.out).mono ?_
  rintro e w1 ⟨rfl, hb⟩
  have HB := Aside0.mk hb
  go_wp2_with fail
  obtain ⟨b, hbe⟩ : ∃ b, b = w1.heap.size := ⟨_, rfl⟩
  have HI := Aside0.mk (Lib.fresh_isBuilder 95 5 w1)
  replace HB := Aside0.mk (below_alloc HB.out (.cells #[.pointer none, .slice none 0 0] 95))
  have hbw : w.heap.size ≤ b := by rw [hbe]; exact hb.size
  rw [← hbe] at HI ⊢
  generalize w1.alloc (.cells #[.pointer none, .slice none 0 0] 95) = W0 at HI HB ⊢
  clear hbe hb w1
  go_loopw [13] (fun kk wr => ∃ k : Nat, kk = .int .i64 k ∧ k ≤ l.length ∧ Aside0 (Lib.IsBuilder 95 5 b b (Lib.byteCells (txt (markL task) (l.take k))) wr) ∧ Aside0 (Below w.heap.size w wr)) (fun kk _ => l.length - (intOf kk).toNat)
  case atStart => exact ⟨0, rfl, by omega, by simpa [txt, Lib.byteCells] using HI, HB⟩
  case round =>
    clear HI HB
    obtain ⟨k, rfl, hkl, HI, HB⟩ := hrel
    have hbl : b < wr.heap.size := HI.out.elim (fun h => h.lt) (fun h => h.lt)
    by_cases hin : k < l.length
    · have hin1 : (k : Int) < l.length := by omega
      have hx : l[k]? = some l[k] := List.getElem?_eq_getElem hin
      obtain ⟨x, hxe⟩ : ∃ x, x = l[k] := ⟨_, rfl⟩
      rw [← hxe] at hx
      have HX := Aside0.mk hx
      have HM := Aside0.mk (HL.out.1 x (by rw [hxe]; exact List.getElem_mem hin))
      obtain ⟨ad, ea, p0, p1, p2, p3, p4, p5⟩ := at_T43 HC.out k (by omega) (by omega)
      subst ea
      rw [rd43 l k x hx] at p0 p1 p2 p3 p4 p5
      rw [Int.toNat_natCast] at p0 p1 p2 p3 p4 p5
      clear hx hxe
      have hadb := World.block_lt_of_cell? w _ p0
      replace p0 := (HB.out.cell hadb).trans p0
      replace p1 := (HB.out.cell (p := ⟨(ad.add (k * 6)).block, (ad.add (k * 6)).off + 1, none⟩) hadb).trans p1
      replace p2 := (HB.out.cell (p := ⟨(ad.add (k * 6)).block, (ad.add (k * 6)).off + 2, none⟩) hadb).trans p2
      replace p3 := (HB.out.cell (p := ⟨(ad.add (k * 6)).block, (ad.add (k * 6)).off + 3, none⟩) hadb).trans p3
      replace p4 := (HB.out.cell (p := ⟨(ad.add (k * 6)).block, (ad.add (k * 6)).off + 4, none⟩) hadb).trans p4
      replace p5 := (HB.out.cell (p := ⟨(ad.add (k * 6)).block, (ad.add (k * 6)).off + 5, none⟩) hadb).trans p5
      go_wp2_with fail
      have HA := Aside0.mk (below_alloc (Below.refl wr.heap.size wr) (.cells #[.int .i64 x.f0, .int .i64 x.f1, .int .i64 x.f2, .int .i64 x.f3, .bool x.f4, .int .i64 x.f5] 43))
      refine (PB.trace_mark.calls 1 x.f0 x.f1 x.f2 x.f3 x.f4 x.f5 task (markB task x) _ (mark_f task x)).mono ?_
      rintro e w2 ⟨rfl, hb⟩
      change Below _ _ w2 at hb
      have HI2 := Aside0.mk (builder_below (builder_below HI.out HA.out) hb)
      have HB2 := Aside0.mk (below_then (below_then HB.out HB.out.size HA.out) (Nat.le_trans HB.out.size HA.out.size) hb)
      have hbl2 : b ≤ w2.heap.size := Nat.le_trans (Nat.le_of_lt hbl) (Nat.le_trans HA.out.size hb.size)
      have hs1 : (markB task x).size = 1 := markB_size task x
      have hlen : (txt (markL task) (l.take k)).length ≤ 100000 * 1 := by
        have h1 := txt_len (markL task) 1 (l.take k) (fun y hy => Nat.le_of_eq (markL_len task y))
        have h2 : (l.take k).length ≤ 100000 := by simp; omega
        exact Nat.le_trans h1 (Nat.mul_le_mul_right _ h2)
      clear p0 p1 p2 p3 p4 p5 HA hb HI HB hadb
      go_wp2_with fail
      refine (write_string b b _ (markB task x) w2 HI2.out (by rw [Lib.byteCells_length]; omega) hbl2).mono ?_
      rintro e w3 ⟨rfl, hI, hb⟩
      have HI3 := Aside0.mk hI
      have HB3 := Aside0.mk (HB2.out.trans (hb.mono hbw))
      clear hI hb HI2 HB2
      go_wp2_with fail
      go_roundw
      case rel => exact ⟨k + 1, by go_num, by omega, ⟨.inr (by rw [txt_take (markL task) l k x HX.out, Lib.byteCells_append]; exact HI3.out)⟩, HB3⟩
      case measure => simp [intOf]; omega
    · have hk : k = l.length := by omega
      have hin1 : ¬ (k : Int) < l.length := by omega
      go_wp2_with fail
      refine (Tryd.Builder_String_any b b (txt (markL task) (l.take k)) wr HI.out (Nat.le_of_lt hbl)).mono ?_
      rintro e w2 ⟨rfl, hb⟩
      have hke := Aside0.mk hk
      clear hk
      go_wp2_with fail
      go_ret
      refine ⟨?_, HB.out.trans (hb.mono hbw)⟩
      rw [hke.out, List.take_length]
      rfl
end Go.Proofs.YtbldolbeijpipaaDoor
namespace Go.Proofs.YtbldolbeijpipaaDoor
open Go.RowKit Go.Proofs.YtbldolbeijpipaaDoorW.PrintWords Go.Proofs.YtbldolbeijpipaaDoorW.PrintLast Go.Proofs.YtbldolbeijpipaaDoorW.PrintMore
set_option linter.unusedVariables false
set_option linter.unusedSimpArgs false
theorem awake_line : lineB 4 2 1 1 true 0 = ⟨#[52, 32, 119, 111, 114, 107, 32, 50, 32, 49, 32, 100, 111, 110, 101]⟩ := by
  have d (n : Nat) (h : n < 10) : dig (n : Int) = ⟨#[UInt8.ofNat (48 + n)]⟩ := by
    rw [dig, Lib.itoa_nonneg, Lib.decDigits_one h]
  have d4 : dig 4 = ⟨#[52]⟩ := d 4 (by decide)
  have d2 : dig 2 = ⟨#[50]⟩ := d 2 (by decide)
  have d1 : dig 1 = ⟨#[49]⟩ := d 1 (by decide)
  simp only [lineB, lineW, joinB]
  rw [d4, d2, d1]
  rfl
set_option maxHeartbeats 800000 in
theorem awake_any (w : World) (ht : T10 w) : Calls Tryd.prog 9 #[] w fun e w' => e = .returned (.bool true) ∧ Below w.heap.size w w' := by
  go_enter Tryd.func9, Tryd.ntmps9
  go_wp2_with fail
  have hm : MayOK 4 2 1 1 true 0 := by unfold MayOK; omega
  refine (line_any 4 2 1 1 0 true w hm ht).mono ?_
  rintro e w1 ⟨rfl, hb⟩
  rw [awake_line]
  go_wp2_with fail
  refine (right_any [] none 0 w1 ⟨by simp, by simp⟩ (by simp) (Kd.C_nil _ _) (by simp)).mono ?_

  rintro e w2 ⟨rfl, hb2⟩
  go_wp2_with fail

  go_ret
  exact ⟨rfl, below_then hb hb.size hb2⟩
end Go.Proofs.YtbldolbeijpipaaDoor
