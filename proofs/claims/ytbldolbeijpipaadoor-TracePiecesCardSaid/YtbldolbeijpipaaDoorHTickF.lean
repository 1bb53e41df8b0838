import Derived.Test.YtbldolbeijpipaaDoorHRow
import Derived.Test.YtbldolbeijpipaaDoorHStep
import Derived.StillTailTactics
namespace Go.Proofs.YtbldolbeijpipaaDoor
open Go.RowKit Go.Proofs.YtbldolbeijpipaaDoorW.PrintWords Go.Proofs.YtbldolbeijpipaaDoorW.PrintLast Go.Proofs.YtbldolbeijpipaaDoorW.PrintMore
set_option linter.unusedVariables false
set_option linter.unusedSimpArgs false

/-- What is left behind the deletion of a job that is done. -/
def DoneP (B bx : Nat) (s6 : XS) (W W' : World) : Prop := ∃ s' : XS, XI W' B bx s' ∧ s'.ts = s6.ts ∧ s'.now = s6.now ∧ s'.m = s6.m ∧ s'.l.length ≤ s6.l.length ∧ KeptT [147, 3, 159, 164] B W W'
set_option maxHeartbeats 3200000 in
set_option maxRecDepth 1000000 in
theorem tick_f (B bx : Nat) (s6 : XS) (j2 : Int) (W : World) (c1 c2 c3 c5 c6 c7 c8 c9 c10 c11 c12 c13 c14 c15 c16 c17 c18 c19 c20 c21 c22 c23 c24 c25 c26 c27 c28 c29 c30 c31 c32 c33 c34 c35 c36 c37 c38 c39 c40 c41 c42 c43 c44 c45 c46 c47 c48 c49 c50 c51 c52 c53 c54 c55 c56 c57 c58 c59 c60 c61 c62 c63 c64 c65 c66 c67 c68 c69 c70 c71 c72 c73 c74 c75 c76 c77 c78 c79 c80 c81 c82 c83 c84 c85 c86 c87 c88 c89 c90 c91 c92 c93 c94 c95 c96 c97 c98 c99 c100 c101 c102 c103 c104 c105 c106 c107 c108 c109 c110 c111 c112 c113 c114 c115 c116 c117 c118 c119 c120 c121 c122 c123 c124 c125 c126 c127 c128 c129 c130 c131 c132 c133 c134 c135 c136 c137 c138 c139 c140 c141 c142 c143 c144 c145 c146 c147 c148 c149 c150 c151 c152 c153 c154 c155 c156 c157 c158 c159 c160 c161 c162 c163 c164 c165 c166 c167 c168 c169 c170 c171 c172 c173 c174 c175 c176 c177 c178 c179 c180 c181 c182 c183 c184 c185 c186 c187 c188 c189 c190 c191 c192 c193 c194 c195 c196 c197 c198 c199 c200 c201 c202 c203 c204 c205 c206 c207 c208 c209 c210 c211 c212 c213 c214 c215 c216 c217 c218 c219 c220 c221 c222 c223 c224 c225 c226 c227 c228 c229 c230 c231 c232 c233 c234 c235 c236 c237 c238 c239 c240 c241 c242 c243 c244 : Value) (Q1 : Act → World → Prop) (PP : Ending → World → Prop)
    (hX : XI W B bx s6) (h20 : 0 ≤ j2) (h21 : j2 < s6.l.length) (hl : s6.l.length ≤ 1000)
    (hQ : ∀ (d219 d220 d221 d222 d223 d224 d225 d226 d227 d228 d229 d230 d231 d232 d233 d234 d235 d236 d237 d238 d239 d240 d241 d242 d243 : Value) (W' : World), DoneP B bx s6 W W' → Q1 ⟨#[.pointer (some ⟨bx, 0, none⟩), c1, c2, c3, .int .i64 j2, c5, c6, c7, c8, c9, c10, c11, c12, c13, c14, c15, c16, c17, c18, c19, c20, c21, c22, c23, c24, c25, c26, c27, c28, c29, c30, c31, c32, c33, c34, c35, c36, c37, c38, c39, c40, c41, c42, c43, c44, c45, c46, c47, c48, c49, c50, c51, c52, c53, c54, c55, c56, c57, c58, c59, c60, c61, c62, c63, c64, c65, c66, c67, c68, c69, c70, c71, c72, c73, c74, c75, c76, c77, c78, c79, c80, c81, c82, c83, c84, c85, c86, c87, c88, c89, c90, c91, c92, c93, c94, c95, c96, c97, c98, c99, c100, c101, c102, c103, c104, c105, c106, c107, c108, c109, c110, c111, c112, c113, c114, c115, c116, c117, c118, c119, c120, c121, c122, c123, c124, c125, c126, c127, c128, c129, c130, c131, c132, c133, c134, c135, c136, c137, c138, c139, c140, c141, c142, c143, c144, c145, c146, c147, c148, c149, c150, c151, c152, c153, c154, c155, c156, c157, c158, c159, c160, c161, c162, c163, c164, c165, c166, c167, c168, c169, c170, c171, c172, c173, c174, c175, c176, c177, c178, c179, c180, c181, c182, c183, c184, c185, c186, c187, c188, c189, c190, c191, c192, c193, c194, c195, c196, c197, c198, c199, c200, c201, c202, c203, c204, c205, c206, c207, c208, c209, c210, c211, c212, c213, c214, c215, c216, c217, c218, d219, d220, d221, d222, d223, d224, d225, d226, d227, d228, d229, d230, d231, d232, d233, d234, d235, d236, d237, d238, d239, d240, d241, d242, d243, c244], []⟩ W') :
    Code.wp Tryd.prog ((Tryd.f35.body.bind (codeFrom 41)).getD .skip) (Exit.then Q1 (bodyPost Tryd.prog Tryd.f35 PP)) ⟨#[.pointer (some ⟨bx, 0, none⟩), c1, c2, c3, .int .i64 j2, c5, c6, c7, c8, c9, c10, c11, c12, c13, c14, c15, c16, c17, c18, c19, c20, c21, c22, c23, c24, c25, c26, c27, c28, c29, c30, c31, c32, c33, c34, c35, c36, c37, c38, c39, c40, c41, c42, c43, c44, c45, c46, c47, c48, c49, c50, c51, c52, c53, c54, c55, c56, c57, c58, c59, c60, c61, c62, c63, c64, c65, c66, c67, c68, c69, c70, c71, c72, c73, c74, c75, c76, c77, c78, c79, c80, c81, c82, c83, c84, c85, c86, c87, c88, c89, c90, c91, c92, c93, c94, c95, c96, c97, c98, c99, c100, c101, c102, c103, c104, c105, c106, c107, c108, c109, c110, c111, c112, c113, c114, c115, c116, c117, c118, c119, c120, c121, c122, c123, c124, c125, c126, c127, c128, c129, c130, c131, c132, c133, c134, c135, c136, c137, c138, c139, c140, c141, c142, c143, c144, c145, c146, c147, c148, c149, c150, c151, c152, c153, c154, c155, c156, c157, c158, c159, c160, c161, c162, c163, c164, c165, c166, c167, c168, c169, c170, c171, c172, c173, c174, c175, c176, c177, c178, c179, c180, c181, c182, c183, c184, c185, c186, c187, c188, c189, c190, c191, c192, c193, c194, c195, c196, c197, c198, c199, c200, c201, c202, c203, c204, c205, c206, c207, c208, c209, c210, c211, c212, c213, c214, c215, c216, c217, c218, c219, c220, c221, c222, c223, c224, c225, c226, c227, c228, c229, c230, c231, c232, c233, c234, c235, c236, c237, c238, c239, c240, c241, c242, c243, c244], []⟩ W := by
  conv => arg 2; whnf
  have HQ := Aside0.mk hQ
  clear hQ
  obtain ⟨gr, cr, ev1, hcr, hBr, hner, hltr, hfr, ⟨cells, hty⟩, hC1⟩ := hX.row (by omega)
  have z9 : W.cell? ⟨bx, 9, none⟩ = some (.slice (some ⟨gr, 0, none⟩) s6.l.length cr) := by have := hX.f9; rw [ev1] at this; exact this
  have jc : j2 ≤ cr := by omega
  have jl : j2 + 1 ≤ s6.l.length := by omega
  have jc2 : (s6.l.length : Int) ≤ cr := by omega
  have j1 : 0 ≤ j2 + 1 := by omega
  have hw : wrap64 (j2 + 1) = j2 + 1 := by unfold wrap64; omega
  have hw' : IntKind.i64.wrap (j2 + 1) = j2 + 1 := by rw [i64_w]; exact hw
  have HX := Aside0.mk hX
  have HC := Aside0.mk hC1
  clear hX hC1 hfr hty
  go_upto_region 41 with fail
  refine start_ (n := 20) (S := fun w' => w'.cell? ⟨bx, 9, none⟩ = some (.slice (some ⟨gr, 0, none⟩) s6.l.length cr)) (ds := [19]) #[false, false, false, false, false, false, false, false, false, false, false, false, false, false, false, false, false, false, false, false] (by kernel_rfl) rfl rfl z9 (fun hHeld => ?_)
  have hHeld0 := hHeld
  refine pure_ (i := 0) (N := some 219) (v := ?_) (a' := ?_) #[true, false, false, false, false, false, false, false, false, false, false, false, false, false, false, false, false, false, false, false] rfl rfl (by kernel_rfl) (fun _ _ _ h => h) (Or.inl ⟨by rfl, ?_⟩) ?_ ?_
  rotate_left
  · rintro w'
    go_simp
    with_reducible rfl
  rotate_left
  · simp only [Act.put, List.setIfInBounds_toArray, List.set_cons_zero, List.set_cons_succ, i64_w, i32_w]
    rfl
  refine pure_ (i := 2) (N := some 221) (v := ?_) (a' := ?_) #[true, false, true, false, false, false, false, false, false, false, false, false, false, false, false, false, false, false, false, false] rfl rfl (by kernel_rfl) (fun _ _ _ h => h) (Or.inl ⟨by rfl, ?_⟩) ?_ ?_
  rotate_left
  · rintro w'
    go_simp
    with_reducible rfl
  rotate_left
  · simp only [Act.put, List.setIfInBounds_toArray, List.set_cons_zero, List.set_cons_succ, i64_w, i32_w]
    rfl
  refine pure_ (i := 3) (N := some 222) (v := ?_) (a' := ?_) #[true, false, true, true, false, false, false, false, false, false, false, false, false, false, false, false, false, false, false, false] rfl rfl (by kernel_rfl) (fun _ _ _ h => h) (Or.inl ⟨by rfl, ?_⟩) ?_ ?_
  rotate_left
  · rintro w'
    go_simp
    with_reducible rfl
  rotate_left
  · simp only [Act.put, List.setIfInBounds_toArray, List.set_cons_zero, List.set_cons_succ, i64_w, i32_w]
    rfl
  refine pure_ (i := 4) (N := some 223) (v := ?_) (a' := ?_) #[true, false, true, true, true, false, false, false, false, false, false, false, false, false, false, false, false, false, false, false] rfl rfl (by kernel_rfl) (fun _ _ _ h => h) (Or.inl ⟨by rfl, ?_⟩) ?_ ?_
  rotate_left
  · rintro w'
    go_simp
    with_reducible rfl
  rotate_left
  · simp only [Act.put, List.setIfInBounds_toArray, List.set_cons_zero, List.set_cons_succ, i64_w, i32_w]
    rfl
  refine take_ (i := 5) (N := some 224) (v := ?_) (a' := ?_) #[true, false, true, true, true, true, false, false, false, false, false, false, false, false, false, false, false, false, false, false] rfl rfl (by kernel_rfl) (fun _ _ _ h => h) (Or.inl ⟨by rfl, ?_⟩) hHeld ?_ ?_
  rotate_left
  · rintro w' s0
    go_simp
    with_reducible rfl
  rotate_left
  · simp only [Act.put, List.setIfInBounds_toArray, List.set_cons_zero, List.set_cons_succ, i64_w, i32_w]
    rfl
  refine pure_ (i := 6) (N := some 225) (v := ?_) (a' := ?_) #[true, false, true, true, true, true, true, false, false, false, false, false, false, false, false, false, false, false, false, false] rfl rfl (by kernel_rfl) (fun _ _ _ h => h) (Or.inl ⟨by rfl, ?_⟩) ?_ ?_
  rotate_left
  · rintro w'
    go_simp
    with_reducible rfl
  rotate_left
  · simp only [Act.put, List.setIfInBounds_toArray, List.set_cons_zero, List.set_cons_succ, i64_w, i32_w]
    rfl
  refine pure_ (i := 7) (N := some 226) (v := ?_) (a' := ?_) #[true, false, true, true, true, true, true, true, false, false, false, false, false, false, false, false, false, false, false, false] rfl rfl (by kernel_rfl) (fun _ _ _ h => h) (Or.inl ⟨by rfl, ?_⟩) ?_ ?_
  rotate_left
  · rintro w'
    go_simp
    with_reducible rfl
  rotate_left
  · simp only [Act.put, List.setIfInBounds_toArray, List.set_cons_zero, List.set_cons_succ, i64_w, i32_w]
    rfl
  refine pure_ (i := 9) (N := some 228) (v := ?_) (a' := ?_) #[true, false, true, true, true, true, true, true, false, true, false, false, false, false, false, false, false, false, false, false] rfl rfl (by kernel_rfl) (fun _ _ _ h => h) (Or.inl ⟨by rfl, ?_⟩) ?_ ?_
  rotate_left
  · rintro w'
    go_simp
    with_reducible rfl
  rotate_left
  · simp only [Act.put, List.setIfInBounds_toArray, List.set_cons_zero, List.set_cons_succ, i64_w, i32_w]
    rfl
  refine pure_ (i := 10) (N := some 229) (v := ?_) (a' := ?_) #[true, false, true, true, true, true, true, true, false, true, true, false, false, false, false, false, false, false, false, false] rfl rfl (by kernel_rfl) (fun _ _ _ h => h) (Or.inl ⟨by rfl, ?_⟩) ?_ ?_
  rotate_left
  · rintro w'
    go_simp
    with_reducible rfl
  rotate_left
  · simp only [Act.put, List.setIfInBounds_toArray, List.set_cons_zero, List.set_cons_succ, i64_w, i32_w]
    rfl
  refine pure_ (i := 11) (N := some 230) (v := ?_) (a' := ?_) #[true, false, true, true, true, true, true, true, false, true, true, true, false, false, false, false, false, false, false, false] rfl rfl (by kernel_rfl) (fun _ _ _ h => h) (Or.inl ⟨by rfl, ?_⟩) ?_ ?_
  rotate_left
  · rintro w'
    go_simp
    with_reducible rfl
  rotate_left
  · simp only [Act.put, List.setIfInBounds_toArray, List.set_cons_zero, List.set_cons_succ, i64_w, i32_w]
    rfl
  refine take_ (i := 12) (N := some 231) (v := ?_) (a' := ?_) #[true, false, true, true, true, true, true, true, false, true, true, true, true, false, false, false, false, false, false, false] rfl rfl (by kernel_rfl) (fun _ _ _ h => h) (Or.inl ⟨by rfl, ?_⟩) hHeld ?_ ?_
  rotate_left
  · rintro w' s0
    go_simp
    with_reducible rfl
  rotate_left
  · simp only [Act.put, List.setIfInBounds_toArray, List.set_cons_zero, List.set_cons_succ, i64_w, i32_w]
    rfl
  refine pure_ (i := 13) (N := some 232) (v := ?_) (a' := ?_) #[true, false, true, true, true, true, true, true, false, true, true, true, true, true, false, false, false, false, false, false] rfl rfl (by kernel_rfl) (fun _ _ _ h => h) (Or.inl ⟨by rfl, ?_⟩) ?_ ?_
  rotate_left
  · rintro w'
    go_simp
    with_reducible rfl
  rotate_left
  · simp only [Act.put, List.setIfInBounds_toArray, List.set_cons_zero, List.set_cons_succ, i64_w, i32_w]
    rfl
  refine pure_ (i := 14) (N := some 233) (v := ?_) (a' := ?_) #[true, false, true, true, true, true, true, true, false, true, true, true, true, true, true, false, false, false, false, false] rfl rfl (by kernel_rfl) (fun _ _ _ h => h) (Or.inl ⟨by rfl, ?_⟩) ?_ ?_
  rotate_left
  · rintro w'
    go_simp
    with_reducible rfl
  rotate_left
  · simp only [Act.put, List.setIfInBounds_toArray, List.set_cons_zero, List.set_cons_succ, i64_w, i32_w]
    rfl
  refine pure_ (i := 15) (N := some 234) (v := ?_) (a' := ?_) #[true, false, true, true, true, true, true, true, false, true, true, true, true, true, true, true, false, false, false, false] rfl rfl (by kernel_rfl) (fun _ _ _ h => h) (Or.inl ⟨by rfl, ?_⟩) ?_ ?_
  rotate_left
  · rintro w'
    go_simp
    with_reducible rfl
  rotate_left
  · simp only [Act.put, List.setIfInBounds_toArray, List.set_cons_zero, List.set_cons_succ, i64_w, i32_w]
    rfl
  refine one_ (i := 1) (N := some 220) #[true, true, true, true, true, true, true, true, false, true, true, true, true, true, true, true, false, false, false, false] rfl rfl (by kernel_rfl) (by decide) (fun K hK => ?_)
  refine value_ (w1 := ?_) (v := ?_) (by rfl) rfl ?_ ?_
  rotate_left 2
  · go_simp
    constructor
    · rfl
    · rfl
  refine hK.out _ _ (by go_keep) (fun hHeld => ?_)
  clear hK K
  refine norm_ (a' := ?_) ?_ ?_
  rotate_left
  · simp only [Act.put, List.setIfInBounds_toArray, List.set_cons_zero, List.set_cons_succ, i64_w, i32_w]
    rfl
  refine one_ (i := 8) (N := some 227) #[true, true, true, true, true, true, true, true, true, true, true, true, true, true, true, true, false, false, false, false] rfl rfl (by kernel_rfl) (by decide) (fun K hK => ?_)
  have hB5 : Below W.heap.size W (W.alloc (Obj.cells #[] 159)).drew := (by repeat (with_reducible first | exact Below.refl _ _ | apply below_alloc | apply pw_below_drewN | apply below_drew1))
  have b5 : (W.alloc (Obj.cells #[] 159)).drew.heap[W.heap.size]? = some (.cells #[] 159 (0, 0)) := blk_new W _
  have hz5 : W.heap.size < (W.alloc (Obj.cells #[] 159)).drew.heap.size := blk_lt b5
  generalize (W.alloc (Obj.cells #[] 159)).drew = W5 at hB5 b5 hz5 hHeld ⊢
  have hT0 := Kd.C_take HC.out (m := j2.toNat) (by omega)
  have hTl : (s6.l.take j2.toNat).length = j2.toNat := by rw [List.length_take]; omega
  rw [hTl] at hT0
  have hD0 := Kd.C_drop HC.out (m := (j2 + 1).toNat) (c := cr) (by omega) hcr
  have hDl : (s6.l.drop (j2 + 1).toNat).length = s6.l.length - (j2 + 1).toNat := List.length_drop
  rw [hDl, show (some ⟨gr, 0, none⟩ : Option Addr).map (·.add ((j2 + 1).toNat * k159.sz)) = some ⟨gr, (j2 + 1).toNat * 14, none⟩ from congrArg some (add_zero_none gr _)] at hD0
  refine Kd.R_append_rows_step k159 (Rr := k159.K W5) (w0 := W5) (W := W5) B (by rfl) _ _ _ 159 _ 112 (by rfl) Tryd.underlying143 info159 (by rfl) (by decide) (by decide) (.slice (some ⟨W.heap.size, 0, none⟩) 0 0) [] (s6.l.take j2.toNat) (some ⟨gr, 0, none⟩) j2.toNat cr (fun _ => True) (fun _ => False) (by rfl) (by rfl) ⟨fun _ _ => trivial, [], ⟨rfl, .inr ⟨W.heap.size, 0, #[], rfl, HX.out.szB, b5, Nat.le_refl _, by decide, rfl, rfl⟩⟩, Reps.none _ _⟩ (Kd.C_below hT0 hB5) (fun x cs h => k159_KM x cs h) (fun _ h => h.elim) (fun _ _ => trivial) (Below.refl _ _) (by have := HX.out.szB; omega) (by simp only [List.length_nil]; omega) ?_
  intro v1 W6 hR1 _ hg6 hat6
  have hB6 : Below W.heap.size W W6 := hB5.grown hg6 (by omega) (fun k e => by have := own_at e; have := HX.out.szB; omega)
  have o1 : ∀ k, v1.ownBlock = some k → W.heap.size ≤ k := own_from (Nat.le_of_lt hz5) hat6
  have e6 := (HX.out.below hB6).f9
  rw [show s6.vL = _ from ev1] at e6
  have hR1' := hR1
  obtain ⟨A1, c1', rfl⟩ := Kd.R_slice hR1
  refine hK.out _ _ e6 (fun hHeld => ?_)
  clear hK K
  refine norm_ (a' := ?_) ?_ ?_
  rotate_left
  · show Act.put _ (some 227) _ = _
    simp only [Act.put, List.setIfInBounds_toArray, List.set_cons_zero, List.set_cons_succ, i64_w, i32_w]
    rfl
  refine one_ (i := 16) (N := some 235) #[true, true, true, true, true, true, true, true, true, true, true, true, true, true, true, true, true, false, false, false] rfl rfl (by kernel_rfl) (by decide) (fun K hK => ?_)
  refine Kd.R_append_rows_step k159 (Rr := k159.K W6) (w0 := W6) (W := W6) B (by rfl) _ _ _ 159 _ 112 (by rfl) Tryd.underlying143 info159 (by rfl) (by decide) (by decide) _ _ (s6.l.drop (j2 + 1).toNat) _ (s6.l.length - (j2 + 1).toNat) (cr - (j2 + 1).toNat) (fun _ => True) (fun _ => False) (by rfl) (by rfl) hR1' (Kd.C_below hD0 hB6) (fun x cs h => k159_KM x cs h) (fun _ h => h.elim) (fun _ _ => trivial) (Below.refl _ _) (by have := hB6.size; have := HX.out.szB; omega) (by rw [List.length_append, List.length_nil, hTl]; omega) ?_
  intro v2 W7 hR2 _ hg7 _
  have hB7 : Below W.heap.size W W7 := hB6.grown hg7 hB6.size o1
  have X7 := HX.out.below hB7
  have e7 := X7.f9
  rw [show s6.vL = _ from ev1] at e7
  have ef := X7.frz
  have e10 := X7.f10
  have e11 := X7.f11
  have PD := Aside0.mk (X7.doneL hR2 (fun x hx => mem_parts hx))
  have KD := Aside0.mk (KeptT.of_below (T := [147, 3, 159, 164]) hB7 HX.out.szB)
  have hLN : (([] ++ s6.l.take j2.toNat) ++ s6.l.drop (j2 + 1).toNat).length ≤ s6.l.length := by rw [List.length_append, List.length_append, hTl, hDl, List.length_nil]; omega
  have HLN := Aside0.mk hLN
  have HLL : Aside0 ((([] ++ s6.l.take j2.toNat) ++ s6.l.drop (j2 + 1).toNat).length = j2.toNat + (s6.l.length - (j2 + 1).toNat)) := ⟨by rw [List.length_append, List.length_append, hTl, hDl, List.length_nil, Nat.zero_add]⟩
  clear X7 hR1 hR1' hLN hT0 hD0
  obtain ⟨A2, c2', rfl⟩ := Kd.R_slice hR2
  clear hR2
  refine hK.out _ _ e7 (fun hHeld => ?_)
  clear hK K
  refine norm_ (a' := ?_) ?_ ?_
  rotate_left
  · show Act.put _ (some 235) _ = _
    simp only [Act.put, List.setIfInBounds_toArray, List.set_cons_zero, List.set_cons_succ, i64_w, i32_w]
    rfl
  refine pure_ (i := 17) (N := some 236) (v := ?_) (a' := ?_) #[true, true, true, true, true, true, true, true, true, true, true, true, true, true, true, true, true, true, false, false] rfl rfl (by kernel_rfl) (fun _ _ _ h => h) (Or.inl ⟨by rfl, ?_⟩) ?_ ?_
  rotate_left
  · rintro w'
    go_simp
    with_reducible rfl
  rotate_left
  · simp only [Act.put, List.setIfInBounds_toArray, List.set_cons_zero, List.set_cons_succ, i64_w, i32_w]
    rfl
  refine pure_ (i := 18) (N := some 237) (v := ?_) (a' := ?_) #[true, true, true, true, true, true, true, true, true, true, true, true, true, true, true, true, true, true, true, false] rfl rfl (by kernel_rfl) (fun _ _ _ h => h) (Or.inl ⟨by rfl, ?_⟩) ?_ ?_
  rotate_left
  · rintro w'
    go_simp
    with_reducible rfl
  rotate_left
  · simp only [Act.put, List.setIfInBounds_toArray, List.set_cons_zero, List.set_cons_succ, i64_w, i32_w]
    rfl
  refine last_ (i := 19) (N := none) #[true, true, true, true, true, true, true, true, true, true, true, true, true, true, true, true, true, true, true, true] rfl rfl (by kernel_rfl) (by decide) (fun K hK => ?_)
  refine skip_ (w1 := ?_) (by rfl) rfl ?_ ?_
  rotate_left
  · go_simp
    rfl
  refine hK.out _ _ ?_
  clear hK K
  refine done_ (by kernel_rfl) ?_
  go_wp2_with fail
  all_goals (
    have P := PD.out
    rw [HLL.out] at P
    exact HQ.out _ _ _ _ _ _ _ _ _ _ _ _ _ _ _ _ _ _ _ _ _ _ _ _ _ _ ⟨_, P.1, rfl, rfl, rfl, HLN.out, KD.out.trans P.2⟩)
end Go.Proofs.YtbldolbeijpipaaDoor
