import Derived.Test.YtbldolbeijpipaaDoorHRow
import Derived.Test.YtbldolbeijpipaaDoorHStep
import Derived.StillTailTactics
import Derived.Test.YtbldolbeijpipaaDoorHTickE
namespace Go.Proofs.YtbldolbeijpipaaDoor
open Go.RowKit Go.Proofs.YtbldolbeijpipaaDoorW.PrintWords Go.Proofs.YtbldolbeijpipaaDoorW.PrintLast Go.Proofs.YtbldolbeijpipaaDoorW.PrintMore
set_option linter.unusedVariables false
set_option linter.unusedSimpArgs false

set_option maxHeartbeats 3200000 in
set_option maxRecDepth 1000000 in
theorem tick_d (B bx b8 b10 : Nat) (s s3 : XS) (y : S159) (j2 dp d dm db rl u0 u1 u2 u3 : Int) (r : Bool) (w W : World) (c1 c5 c6 c7 c9 c12 c13 c14 c15 c16 c17 c18 c19 c20 c21 c22 c23 c24 c25 c26 c27 c28 c29 c30 c31 c32 c33 c34 c35 c36 c37 c38 c39 c40 c41 c42 c43 c44 c45 c46 c47 c48 c49 c50 c51 c52 c53 c54 c55 c56 c57 c58 c59 c60 c61 c62 c63 c64 c65 c66 c67 c68 c69 c70 c71 c72 c73 c74 c75 c76 c77 c78 c79 c80 c81 c82 c83 c84 c85 c86 c87 c88 c89 c90 c91 c92 c93 c94 c95 c96 c97 c98 c99 c100 c101 c102 c103 c104 c105 c106 c107 c108 c109 c110 c111 c112 c113 c114 c115 c116 c117 c118 c119 c120 c121 c122 c123 c124 c125 c126 c127 c128 c129 c130 c131 c132 c133 c134 c135 c136 c137 c138 c139 c140 c141 c142 c143 c144 c145 c146 c147 c148 c149 c150 c151 c152 c153 c154 c155 c156 c157 c158 c159 c160 c161 c162 c163 c164 c165 c166 c167 c168 c169 c170 c171 c172 c173 c174 c175 c176 c177 c178 c179 c180 c181 c182 c183 c184 c185 c186 c187 c188 c189 c190 c191 c192 c193 c194 c195 c196 c197 c198 c199 c200 c201 c202 c203 c204 c205 c206 c207 c208 c209 c210 c211 c212 c213 c214 c215 c216 c217 c218 c219 c220 c221 c222 c223 c224 c225 c226 c227 c228 c229 c230 c231 c232 c233 c234 c235 c236 c237 c238 c239 c240 c241 c242 c243 c244 : Value)
    (hX0 : B ≤ w.heap.size) (hbx0 : bx < w.heap.size) (hnow0 : 0 ≤ s.now) (hnow : s.now < 1000000) (hX : XI W B bx s3) (hK : KeptT [147, 3, 159, 164] B w W)
    (hb0 : W.heap[w.heap.size]? = some (.cells #[.int .i64 0, .int .i64 0, .int .i64 0, .int .i64 0, .bool false, .int .i64 0] 43 (0, 0)))
    (hb1 : W.heap[w.heap.size + 1]? = some (.cells #[.int .i64 s.now, .int .i64 0, .int .i64 0, .int .i64 0, .bool false, .int .i64 dp] 43 (0, 0)))
    (hb8 : W.heap[b8]? = some (.cells #[.int .i64 y.f0, .int .i64 y.f1, .int .i64 y.f2, .int .i64 y.f3, .int .i64 y.f4, .int .i64 y.f5, .int .i64 y.f6, .int .i64 y.f7, .int .u64 y.f8, .int .u64 y.f9, .int .u64 y.f10, .int .u64 y.f11, .int .i64 y.f12, .bool y.f13] 159 (0, 0))) (hb10 : W.heap[b10]? = some (.cells #[.int .i64 d, .int .i64 dm, .int .i64 db, .int .i64 rl, .int .u64 u0, .int .u64 u1, .int .u64 u2, .int .u64 u3] 155 (0, 0))) (h8 : w.heap.size + 1 < b8) (h10 : b8 < b10) (hnb : some b8 ≠ s3.vL.ownBlock)
    (h20 : 0 ≤ j2) (h21 : j2 < s3.l.length) (hrun : s3.run = j2) (hts : s3.ts = s.ts) (hnw : s3.now = s.now) (hll : s3.l.length ≤ s.l.length) (hl : s.l.length ≤ 1000) (hm3 : s3.m = s.m) (hm : s.m ≤ 1000000)
    (hx : 1 ≤ y.f0 ∧ y.f0 ≤ s.ts.length ∧ 0 ≤ y.f1 ∧ y.f1 ≤ s.now) (hrd : r = true → d ≠ dm) (hdp : 0 ≤ dp ∧ dp ≤ s.ts.length) :
    Code.wp Tryd.prog ((Tryd.f35.body.bind (codeFrom 28)).getD .skip) (bodyPost Tryd.prog Tryd.f35 (TickP w B bx s)) ⟨#[.pointer (some ⟨bx, 0, none⟩), c1, .pointer (some ⟨w.heap.size, 0, none⟩), .pointer (some ⟨w.heap.size + 1, 0, none⟩), .int .i64 j2, c5, c6, c7, .pointer (some ⟨b8, 0, none⟩), c9, .pointer (some ⟨b10, 0, none⟩), .bool r, c12, c13, c14, c15, c16, c17, c18, c19, c20, c21, c22, c23, c24, c25, c26, c27, c28, c29, c30, c31, c32, c33, c34, c35, c36, c37, c38, c39, c40, c41, c42, c43, c44, c45, c46, c47, c48, c49, c50, c51, c52, c53, c54, c55, c56, c57, c58, c59, c60, c61, c62, c63, c64, c65, c66, c67, c68, c69, c70, c71, c72, c73, c74, c75, c76, c77, c78, c79, c80, c81, c82, c83, c84, c85, c86, c87, c88, c89, c90, c91, c92, c93, c94, c95, c96, c97, c98, c99, c100, c101, c102, c103, c104, c105, c106, c107, c108, c109, c110, c111, c112, c113, c114, c115, c116, c117, c118, c119, c120, c121, c122, c123, c124, c125, c126, c127, c128, c129, c130, c131, c132, c133, c134, c135, c136, c137, c138, c139, c140, c141, c142, c143, c144, c145, c146, c147, c148, c149, c150, c151, c152, c153, c154, c155, c156, c157, c158, c159, c160, c161, c162, c163, c164, c165, c166, c167, c168, c169, c170, c171, c172, c173, c174, c175, c176, c177, c178, c179, c180, c181, c182, c183, c184, c185, c186, c187, c188, c189, c190, c191, c192, c193, c194, c195, c196, c197, c198, c199, c200, c201, c202, c203, c204, c205, c206, c207, c208, c209, c210, c211, c212, c213, c214, c215, c216, c217, c218, c219, c220, c221, c222, c223, c224, c225, c226, c227, c228, c229, c230, c231, c232, c233, c234, c235, c236, c237, c238, c239, c240, c241, c242, c243, c244], []⟩ W := by
  conv => arg 2; whnf
  have sb8 := blk_lt hb8
  have sb10 := blk_lt hb10
  have sb1 := blk_lt hb1
  have hne0 : bx ≠ w.heap.size := by omega
  have hne1 : bx ≠ w.heap.size + 1 := by omega
  have G : W.grownBy (((((((((W.setCell ⟨b8, 4, none⟩ (.int .i64 d)).setCell ⟨b8, 5, none⟩ (.int .i64 dm)).setCell ⟨b8, 6, none⟩ (.int .i64 db)).setCell ⟨b8, 7, none⟩ (.int .i64 rl)).setCell ⟨b8, 8, none⟩ (.int .u64 u0)).setCell ⟨b8, 9, none⟩ (.int .u64 u1)).setCell ⟨b8, 10, none⟩ (.int .u64 u2)).setCell ⟨b8, 11, none⟩ (.int .u64 u3)).setCell ⟨b8, 13, none⟩ (.bool true)) (some b8) := ((((((((grown_set W b8 4 (.int .i64 d)).trans (grown_set _ b8 5 (.int .i64 dm))).trans (grown_set _ b8 6 (.int .i64 db))).trans (grown_set _ b8 7 (.int .i64 rl))).trans (grown_set _ b8 8 (.int .u64 u0))).trans (grown_set _ b8 9 (.int .u64 u1))).trans (grown_set _ b8 10 (.int .u64 u2))).trans (grown_set _ b8 11 (.int .u64 u3))).trans (grown_set _ b8 13 (.bool true))
  have X1 := hX.off G hb8 (by omega) (by decide) (by decide) (by decide) (by decide) hnb
  have L8 : w.heap.size ≤ b8 := by omega
  have K1 : KeptT [147, 3, 159, 164] B w (((((((((W.setCell ⟨b8, 4, none⟩ (.int .i64 d)).setCell ⟨b8, 5, none⟩ (.int .i64 dm)).setCell ⟨b8, 6, none⟩ (.int .i64 db)).setCell ⟨b8, 7, none⟩ (.int .i64 rl)).setCell ⟨b8, 8, none⟩ (.int .u64 u0)).setCell ⟨b8, 9, none⟩ (.int .u64 u1)).setCell ⟨b8, 10, none⟩ (.int .u64 u2)).setCell ⟨b8, 11, none⟩ (.int .u64 u3)).setCell ⟨b8, 13, none⟩ (.bool true)) := ((((((((hK.loc hX0 L8 _ _).loc hX0 L8 _ _).loc hX0 L8 _ _).loc hX0 L8 _ _).loc hX0 L8 _ _).loc hX0 L8 _ _).loc hX0 L8 _ _).loc hX0 L8 _ _).loc hX0 L8 _ _
  have b01 := (G.block w.heap.size (blk_lt hb0) (fun e => by injection e with e; omega)).trans hb0
  have b11 := (G.block (w.heap.size + 1) sb1 (fun e => by injection e with e; omega)).trans hb1
  have b101 := (G.block b10 sb10 (fun e => by injection e with e; omega)).trans hb10
  have b81 : ((((((((((W.setCell ⟨b8, 4, none⟩ (.int .i64 d)).setCell ⟨b8, 5, none⟩ (.int .i64 dm)).setCell ⟨b8, 6, none⟩ (.int .i64 db)).setCell ⟨b8, 7, none⟩ (.int .i64 rl)).setCell ⟨b8, 8, none⟩ (.int .u64 u0)).setCell ⟨b8, 9, none⟩ (.int .u64 u1)).setCell ⟨b8, 10, none⟩ (.int .u64 u2)).setCell ⟨b8, 11, none⟩ (.int .u64 u3)).setCell ⟨b8, 13, none⟩ (.bool true))).heap[b8]? = some (.cells #[.int .i64 y.f0, .int .i64 y.f1, .int .i64 y.f2, .int .i64 y.f3, .int .i64 d, .int .i64 dm, .int .i64 db, .int .i64 rl, .int .u64 u0, .int .u64 u1, .int .u64 u2, .int .u64 u3, .int .i64 y.f12, .bool true] 159 (0, 0)) := by simpa using (blk_set (blk_set (blk_set (blk_set (blk_set (blk_set (blk_set (blk_set (blk_set hb8 4 (.int .i64 d)) 5 (.int .i64 dm)) 6 (.int .i64 db)) 7 (.int .i64 rl)) 8 (.int .u64 u0)) 9 (.int .u64 u1)) 10 (.int .u64 u2)) 11 (.int .u64 u3)) 13 (.bool true))
  have y4 : W.cell? ⟨b8, 4, none⟩ = some (.int .i64 y.f4) := (blk_cell hb8 4).trans rfl
  have y5 : W.cell? ⟨b8, 5, none⟩ = some (.int .i64 y.f5) := (blk_cell hb8 5).trans rfl
  have y6 : W.cell? ⟨b8, 6, none⟩ = some (.int .i64 y.f6) := (blk_cell hb8 6).trans rfl
  have y7 : W.cell? ⟨b8, 7, none⟩ = some (.int .i64 y.f7) := (blk_cell hb8 7).trans rfl
  have y8 : W.cell? ⟨b8, 8, none⟩ = some (.int .u64 y.f8) := (blk_cell hb8 8).trans rfl
  have y9 : W.cell? ⟨b8, 9, none⟩ = some (.int .u64 y.f9) := (blk_cell hb8 9).trans rfl
  have y10 : W.cell? ⟨b8, 10, none⟩ = some (.int .u64 y.f10) := (blk_cell hb8 10).trans rfl
  have y11 : W.cell? ⟨b8, 11, none⟩ = some (.int .u64 y.f11) := (blk_cell hb8 11).trans rfl
  have y12 : W.cell? ⟨b8, 12, none⟩ = some (.int .i64 y.f12) := (blk_cell hb8 12).trans rfl
  have y13 : W.cell? ⟨b8, 13, none⟩ = some (.bool y.f13) := (blk_cell hb8 13).trans rfl
  have w0 : W.cell? ⟨b10, 0, none⟩ = some (.int .i64 d) := (blk_cell hb10 0).trans rfl
  have w1 : W.cell? ⟨b10, 1, none⟩ = some (.int .i64 dm) := (blk_cell hb10 1).trans rfl
  have w2 : W.cell? ⟨b10, 2, none⟩ = some (.int .i64 db) := (blk_cell hb10 2).trans rfl
  have w3 : W.cell? ⟨b10, 3, none⟩ = some (.int .i64 rl) := (blk_cell hb10 3).trans rfl
  have w4 : W.cell? ⟨b10, 4, none⟩ = some (.int .u64 u0) := (blk_cell hb10 4).trans rfl
  have w5 : W.cell? ⟨b10, 5, none⟩ = some (.int .u64 u1) := (blk_cell hb10 5).trans rfl
  have w6 : W.cell? ⟨b10, 6, none⟩ = some (.int .u64 u2) := (blk_cell hb10 6).trans rfl
  have w7 : W.cell? ⟨b10, 7, none⟩ = some (.int .u64 u3) := (blk_cell hb10 7).trans rfl
  have f8 : ∀ j, W.frozen? ⟨b8, j, none⟩ = false := fun j => blk_frozen hb8 j
  have HXY := Aside0.mk hx
  have HRD := Aside0.mk hrd
  have HTS := Aside0.mk hts
  have HNW := Aside0.mk hnw
  have HLL := Aside0.mk hll
  have HRUN := Aside0.mk hrun
  have HM := Aside0.mk hm3
  have X1 := Aside0.mk X1
  have K1 := Aside0.mk K1
  have B01 := Aside0.mk b01
  have B11 := Aside0.mk b11
  have B81 := Aside0.mk b81
  have B101 := Aside0.mk b101
  clear hx hrd hts hnw hll hrun hm3 hX hK hb0 hb1 hb8 hb10 b01 b11 b81 b101 G
  go_upto_region 30 with fail
  clear y4 y5 y6 y7 y8 y9 y10 y11 y12 y13 w0 w1 w2 w3 w4 w5 w6 w7 f8
  generalize (((((((((W.setCell ⟨b8, 4, none⟩ (.int .i64 d)).setCell ⟨b8, 5, none⟩ (.int .i64 dm)).setCell ⟨b8, 6, none⟩ (.int .i64 db)).setCell ⟨b8, 7, none⟩ (.int .i64 rl)).setCell ⟨b8, 8, none⟩ (.int .u64 u0)).setCell ⟨b8, 9, none⟩ (.int .u64 u1)).setCell ⟨b8, 10, none⟩ (.int .u64 u2)).setCell ⟨b8, 11, none⟩ (.int .u64 u3)).setCell ⟨b8, 13, none⟩ (.bool true)) = W1 at X1 K1 B01 B11 B81 B101 ⊢
  have e0 : W1.cell? ⟨b8, 0, none⟩ = some (.int .i64 y.f0) := (blk_cell B81.out 0).trans rfl
  have e1 : W1.cell? ⟨b8, 1, none⟩ = some (.int .i64 y.f1) := (blk_cell B81.out 1).trans rfl
  have n18 : w.heap.size + 1 ≠ b8 := by omega
  have n81 : b8 ≠ w.heap.size + 1 := by omega
  have g1 : W1.cell? ⟨w.heap.size + 1, 1, none⟩ = some (.int .i64 0) := (blk_cell B11.out 1).trans rfl
  have g2 : W1.cell? ⟨w.heap.size + 1, 2, none⟩ = some (.int .i64 0) := (blk_cell B11.out 2).trans rfl
  have g3 : W1.cell? ⟨w.heap.size + 1, 3, none⟩ = some (.int .i64 0) := (blk_cell B11.out 3).trans rfl
  have f1 : ∀ j, W1.frozen? ⟨w.heap.size + 1, j, none⟩ = false := fun j => blk_frozen B11.out j
  have fx := X1.out.frz
  have x12 := X1.out.f12
  have hB1 : B ≤ w.heap.size + 1 := by omega
  have n10 : b10 ≠ w.heap.size + 1 := by omega
  have n10x : b10 ≠ bx := by omega
  have n8x : b8 ≠ bx := by omega
  have n00 : w.heap.size ≠ w.heap.size + 1 := by omega
  cases r
  · repeat' ((fail_if_success (first | (with_reducible refine at_seq1 36 ?_) | (with_reducible refine at_seq2 36 ?_) | (with_reducible refine at_seq3 36 ?_))); first | (go_says fail) | go_values | go_skip | go_guarded | go_step | go_upon | go_back | (simp only [Int.not_lt, Int.not_le] at *; go_simp) | (go_values <;> (try go_simp)) | (go_ite <;> go_prune <;> (try go_simp)) | (split <;> (first | (rename_i hx; exact (hx _ rfl).elim) | go_prune)))
    have S1 := X1.out.slot B11.out hB1 1 (.int .i64 y.f0)
    have c1' := blk_set B11.out 1 (.int .i64 y.f0)
    simp only [List.setIfInBounds_toArray, List.set_cons_succ, List.set_cons_zero] at c1'
    have S2 := S1.slot c1' hB1 2 (.int .i64 y.f1)
    have c2' := blk_set c1' 2 (.int .i64 y.f1)
    simp only [List.setIfInBounds_toArray, List.set_cons_succ, List.set_cons_zero] at c2'
    have S3 := S2.slot c2' hB1 3 (.int .i64 1)
    have c3' := blk_set c2' 3 (.int .i64 1)
    simp only [List.setIfInBounds_toArray, List.set_cons_succ, List.set_cons_zero] at c3'
    exact tick_e B bx b8 b10 s _ ⟨y.f0, y.f1, y.f2, y.f3, d, dm, db, rl, u0, u1, u2, u3, y.f12, true⟩ j2 1 dp w _ _ _ _ _ _ _ _ _ _ _ _ _ _ _ _ _ _ _ _ _ _ _ _ _ _ _ _ _ _ _ _ _ _ _ _ _ _ _ _ _ _ _ _ _ _ _ _ _ _ _ _ _ _ _ _ _ _ _ _ _ _ _ _ _ _ _ _ _ _ _ _ _ _ _ _ _ _ _ _ _ _ _ _ _ _ _ _ _ _ _ _ _ _ _ _ _ _ _ _ _ _ _ _ _ _ _ _ _ _ _ _ _ _ _ _ _ _ _ _ _ _ _ _ _ _ _ _ _ _ _ _ _ _ _ _ _ _ _ _ _ _ _ _ _ _ _ _ _ _ _ _ _ _ _ _ _ _ _ _ _ _ _ _ _ _ _ _ _ _ _ _ _ _ _ _ _ _ _ _ _ _ _ _ _ _ _ _ _ _ _ _ _ _ _ _ _ _ _ _ _ _ _ _ _ _ _ _ _ _ _ _ _ _ _ _ _ _ _ _ _ _ _ _ _ _ _ _ _ _ _ _ _ _ _ _ _ _ _ _ hX0 hbx0 hnow0 hnow (S3.setLd false) (S3.ks (((K1.out.loc1 hX0).loc1 hX0).loc1 hX0) (by simp) 12 _)
      (blk_far (blk_far (blk_far (blk_far B01.out n00 _) n00 _) n00 _) (Ne.symm hne0) _) (blk_far c3' (Ne.symm hne1) _) (blk_far (blk_far (blk_far (blk_far B81.out n81 _) n81 _) n81 _) n8x _)
      (blk_far (blk_far (blk_far (blk_far B101.out n10 _) n10 _) n10 _) n10x _) h8 h10 hnb h20 h21 HRUN.out HTS.out HNW.out HLL.out hl HM.out hm HXY.out ⟨Or.inl rfl, fun _ => rfl⟩ hdp
  · repeat' ((fail_if_success (first | (with_reducible refine at_seq1 36 ?_) | (with_reducible refine at_seq2 36 ?_) | (with_reducible refine at_seq3 36 ?_))); first | (go_says fail) | go_values | go_skip | go_guarded | go_step | go_upon | go_back | (simp only [Int.not_lt, Int.not_le] at *; go_simp) | (go_values <;> (try go_simp)) | (go_ite <;> go_prune <;> (try go_simp)) | (split <;> (first | (rename_i hx; exact (hx _ rfl).elim) | go_prune)))
    have S1 := X1.out.slot B11.out hB1 1 (.int .i64 y.f0)
    have c1' := blk_set B11.out 1 (.int .i64 y.f0)
    simp only [List.setIfInBounds_toArray, List.set_cons_succ, List.set_cons_zero] at c1'
    have S2 := S1.slot c1' hB1 2 (.int .i64 y.f1)
    have c2' := blk_set c1' 2 (.int .i64 y.f1)
    simp only [List.setIfInBounds_toArray, List.set_cons_succ, List.set_cons_zero] at c2'
    have S3 := S2.slot c2' hB1 3 (.int .i64 1)
    have c3' := blk_set c2' 3 (.int .i64 1)
    simp only [List.setIfInBounds_toArray, List.set_cons_succ, List.set_cons_zero] at c3'
    have c4' := blk_far (p := ⟨bx, 12, none⟩) c3' (Ne.symm hne1) (.bool true)
    have S4 := (S3.setLd true).slot c4' hB1 3 (.int .i64 2)
    have c5' := blk_set c4' 3 (.int .i64 2)
    simp only [List.setIfInBounds_toArray, List.set_cons_succ, List.set_cons_zero] at c5'
    exact tick_e B bx b8 b10 s _ ⟨y.f0, y.f1, y.f2, y.f3, d, dm, db, rl, u0, u1, u2, u3, y.f12, true⟩ j2 2 dp w _ _ _ _ _ _ _ _ _ _ _ _ _ _ _ _ _ _ _ _ _ _ _ _ _ _ _ _ _ _ _ _ _ _ _ _ _ _ _ _ _ _ _ _ _ _ _ _ _ _ _ _ _ _ _ _ _ _ _ _ _ _ _ _ _ _ _ _ _ _ _ _ _ _ _ _ _ _ _ _ _ _ _ _ _ _ _ _ _ _ _ _ _ _ _ _ _ _ _ _ _ _ _ _ _ _ _ _ _ _ _ _ _ _ _ _ _ _ _ _ _ _ _ _ _ _ _ _ _ _ _ _ _ _ _ _ _ _ _ _ _ _ _ _ _ _ _ _ _ _ _ _ _ _ _ _ _ _ _ _ _ _ _ _ _ _ _ _ _ _ _ _ _ _ _ _ _ _ _ _ _ _ _ _ _ _ _ _ _ _ _ _ _ _ _ _ _ _ _ _ _ _ _ _ _ _ _ _ _ _ _ _ _ _ _ _ _ _ _ _ _ _ _ _ _ _ _ _ _ _ _ _ _ _ _ _ _ _ _ _ hX0 hbx0 hnow0 hnow S4 ((S3.ks (((K1.out.loc1 hX0).loc1 hX0).loc1 hX0) (by simp) 12 _).loc1 hX0)
      (blk_far (blk_far (blk_far (blk_far (blk_far B01.out n00 _) n00 _) n00 _) (Ne.symm hne0) _) n00 _) c5' (blk_far (blk_far (blk_far (blk_far (blk_far B81.out n81 _) n81 _) n81 _) n8x _) n81 _)
      (blk_far (blk_far (blk_far (blk_far (blk_far B101.out n10 _) n10 _) n10 _) n10x _) n10 _) h8 h10 hnb h20 h21 HRUN.out HTS.out HNW.out HLL.out hl HM.out hm HXY.out ⟨Or.inr rfl, fun h => absurd h (HRD.out rfl)⟩ hdp
end Go.Proofs.YtbldolbeijpipaaDoor
