import Derived.Test.YtbldolbeijpipaaDoorHRow
import Derived.Test.YtbldolbeijpipaaDoorHStep
import Derived.StillTailTactics
import Derived.Test.YtbldolbeijpipaaDoorHTickF
namespace Go.Proofs.YtbldolbeijpipaaDoor
open Go.RowKit Go.Proofs.YtbldolbeijpipaaDoorW.PrintWords Go.Proofs.YtbldolbeijpipaaDoorW.PrintLast Go.Proofs.YtbldolbeijpipaaDoorW.PrintMore
set_option linter.unusedVariables false
set_option linter.unusedSimpArgs false

set_option maxHeartbeats 3200000 in
set_option maxRecDepth 1000000 in
theorem tick_e (B bx b8 b10 : Nat) (s s3 : XS) (x : S159) (j2 kd dp : Int) (w W : World) (c1 c5 c6 c7 c9 c11 c12 c13 c14 c15 c16 c17 c18 c19 c20 c21 c22 c23 c24 c25 c26 c27 c28 c29 c30 c31 c32 c33 c34 c35 c36 c37 c38 c39 c40 c41 c42 c43 c44 c45 c46 c47 c48 c49 c50 c51 c52 c53 c54 c55 c56 c57 c58 c59 c60 c61 c62 c63 c64 c65 c66 c67 c68 c69 c70 c71 c72 c73 c74 c75 c76 c77 c78 c79 c80 c81 c82 c83 c84 c85 c86 c87 c88 c89 c90 c91 c92 c93 c94 c95 c96 c97 c98 c99 c100 c101 c102 c103 c104 c105 c106 c107 c108 c109 c110 c111 c112 c113 c114 c115 c116 c117 c118 c119 c120 c121 c122 c123 c124 c125 c126 c127 c128 c129 c130 c131 c132 c133 c134 c135 c136 c137 c138 c139 c140 c141 c142 c143 c144 c145 c146 c147 c148 c149 c150 c151 c152 c153 c154 c155 c156 c157 c158 c159 c160 c161 c162 c163 c164 c165 c166 c167 c168 c169 c170 c171 c172 c173 c174 c175 c176 c177 c178 c179 c180 c181 c182 c183 c184 c185 c186 c187 c188 c189 c190 c191 c192 c193 c194 c195 c196 c197 c198 c199 c200 c201 c202 c203 c204 c205 c206 c207 c208 c209 c210 c211 c212 c213 c214 c215 c216 c217 c218 c219 c220 c221 c222 c223 c224 c225 c226 c227 c228 c229 c230 c231 c232 c233 c234 c235 c236 c237 c238 c239 c240 c241 c242 c243 c244 : Value)
    (hX0 : B ≤ w.heap.size) (hbx0 : bx < w.heap.size) (hnow0 : 0 ≤ s.now) (hnow : s.now < 1000000) (hX : XI W B bx s3) (hK : KeptT [147, 3, 159, 164] B w W)
    (hb0 : W.heap[w.heap.size]? = some (.cells #[.int .i64 0, .int .i64 0, .int .i64 0, .int .i64 0, .bool false, .int .i64 0] 43 (0, 0)))
    (hb1 : W.heap[w.heap.size + 1]? = some (.cells #[.int .i64 s.now, .int .i64 x.f0, .int .i64 x.f1, .int .i64 kd, .bool false, .int .i64 dp] 43 (0, 0)))
    (hb8 : W.heap[b8]? = some (.cells #[.int .i64 x.f0, .int .i64 x.f1, .int .i64 x.f2, .int .i64 x.f3, .int .i64 x.f4, .int .i64 x.f5, .int .i64 x.f6, .int .i64 x.f7, .int .u64 x.f8, .int .u64 x.f9, .int .u64 x.f10, .int .u64 x.f11, .int .i64 x.f12, .bool x.f13] 159 (0, 0))) (hb10 : W.heap[b10]? = some (.cells #[.int .i64 x.f4, .int .i64 x.f5, .int .i64 x.f6, .int .i64 x.f7, .int .u64 x.f8, .int .u64 x.f9, .int .u64 x.f10, .int .u64 x.f11] 155 (0, 0))) (h8 : w.heap.size + 1 < b8) (h10 : b8 < b10) (hnb : some b8 ≠ s3.vL.ownBlock)
    (h20 : 0 ≤ j2) (h21 : j2 < s3.l.length) (hrun : s3.run = j2) (hts : s3.ts = s.ts) (hnw : s3.now = s.now) (hll : s3.l.length ≤ s.l.length) (hl : s.l.length ≤ 1000) (hm3 : s3.m = s.m) (hm : s.m ≤ 1000000)
    (hx : 1 ≤ x.f0 ∧ x.f0 ≤ s.ts.length ∧ 0 ≤ x.f1 ∧ x.f1 ≤ s.now) (hkd : (kd = 1 ∨ kd = 2) ∧ (x.f4 = x.f5 → kd = 1)) (hdp : 0 ≤ dp ∧ dp ≤ s.ts.length) :
    Code.wp Tryd.prog ((Tryd.f35.body.bind (codeFrom 36)).getD .skip) (bodyPost Tryd.prog Tryd.f35 (TickP w B bx s)) ⟨#[.pointer (some ⟨bx, 0, none⟩), c1, .pointer (some ⟨w.heap.size, 0, none⟩), .pointer (some ⟨w.heap.size + 1, 0, none⟩), .int .i64 j2, c5, c6, c7, .pointer (some ⟨b8, 0, none⟩), c9, .pointer (some ⟨b10, 0, none⟩), c11, c12, c13, c14, c15, c16, c17, c18, c19, c20, c21, c22, c23, c24, c25, c26, c27, c28, c29, c30, c31, c32, c33, c34, c35, c36, c37, c38, c39, c40, c41, c42, c43, c44, c45, c46, c47, c48, c49, c50, c51, c52, c53, c54, c55, c56, c57, c58, c59, c60, c61, c62, c63, c64, c65, c66, c67, c68, c69, c70, c71, c72, c73, c74, c75, c76, c77, c78, c79, c80, c81, c82, c83, c84, c85, c86, c87, c88, c89, c90, c91, c92, c93, c94, c95, c96, c97, c98, c99, c100, c101, c102, c103, c104, c105, c106, c107, c108, c109, c110, c111, c112, c113, c114, c115, c116, c117, c118, c119, c120, c121, c122, c123, c124, c125, c126, c127, c128, c129, c130, c131, c132, c133, c134, c135, c136, c137, c138, c139, c140, c141, c142, c143, c144, c145, c146, c147, c148, c149, c150, c151, c152, c153, c154, c155, c156, c157, c158, c159, c160, c161, c162, c163, c164, c165, c166, c167, c168, c169, c170, c171, c172, c173, c174, c175, c176, c177, c178, c179, c180, c181, c182, c183, c184, c185, c186, c187, c188, c189, c190, c191, c192, c193, c194, c195, c196, c197, c198, c199, c200, c201, c202, c203, c204, c205, c206, c207, c208, c209, c210, c211, c212, c213, c214, c215, c216, c217, c218, c219, c220, c221, c222, c223, c224, c225, c226, c227, c228, c229, c230, c231, c232, c233, c234, c235, c236, c237, c238, c239, c240, c241, c242, c243, c244], []⟩ W := by
  conv => arg 2; whnf
  have hw1 : wrap64 (s.now + 1) = s.now + 1 := by unfold wrap64; omega
  have HTS := Aside0.mk hts
  have HLL := Aside0.mk hll
  have HX := Aside0.mk hx
  have HKD := Aside0.mk hkd
  have HDP := Aside0.mk hdp
  have HRUN := Aside0.mk hrun
  have HM := Aside0.mk hm3
  clear hm3
  have y8 := hX.f8
  have gx := hX.frz
  rw [hnw] at y8
  have X1 := hX.setNow (s.now + 1) (by omega)
  have K1 := hX.ks hK (by simp) 8 (.int .i64 (s.now + 1))
  have hne0 : bx ≠ w.heap.size := by omega
  have hne1 : bx ≠ w.heap.size + 1 := by omega
  have b0 := blk_far (p := ⟨bx, 8, none⟩) hb0 (Ne.symm hne0) (.int .i64 (s.now + 1))
  have b1 := blk_far (p := ⟨bx, 8, none⟩) hb1 (Ne.symm hne1) (.int .i64 (s.now + 1))
  have b8' := blk_far (p := ⟨bx, 8, none⟩) hb8 (by show b8 ≠ bx; omega) (.int .i64 (s.now + 1))
  have b10' := blk_far (p := ⟨bx, 8, none⟩) hb10 (by show b10 ≠ bx; omega) (.int .i64 (s.now + 1))
  clear hts hll hx hkd hdp hrun hb0 hb1 hb8 hb10 hX hK hnw
  go_upto_region 37 with fail
  clear y8 gx
  generalize W.setCell ⟨bx, 8, none⟩ (.int .i64 (s.now + 1)) = W1 at X1 K1 b0 b1 b8' b10' ⊢
  obtain ⟨gr, cr, ev1, hcr, hBr, hner, hltr, hfr, ⟨cells, hty⟩, hC1⟩ := X1.row (by show 0 < s3.l.length; omega)
  have x9 : W1.cell? ⟨bx, 9, none⟩ = some (.slice (some ⟨gr, 0, none⟩) s3.l.length cr) := by have := X1.f9; rw [ev1] at this; exact this
  have n8 : gr ≠ b8 := fun e => hnb (by rw [show s3.vL = _ from ev1, e]; rfl)
  have n8' : b8 ≠ gr := Ne.symm n8
  have n0 : gr ≠ w.heap.size := fun e => by subst e; rw [hty] at b0; injection b0 with b0; injection b0 with _ b0; cases b0
  have n1 : gr ≠ w.heap.size + 1 := fun e => by subst e; rw [hty] at b1; injection b1 with b1; injection b1 with _ b1; cases b1
  have n10 : gr ≠ b10 := fun e => by subst e; rw [hty] at b10'; injection b10' with b1; injection b1 with _ b1; cases b1
  have o0 : W1.cell? ⟨b8, 0, none⟩ = some (.int .i64 x.f0) := (blk_cell b8' 0).trans rfl
  have o1 : W1.cell? ⟨b8, 1, none⟩ = some (.int .i64 x.f1) := (blk_cell b8' 1).trans rfl
  have o2 : W1.cell? ⟨b8, 2, none⟩ = some (.int .i64 x.f2) := (blk_cell b8' 2).trans rfl
  have o3 : W1.cell? ⟨b8, 3, none⟩ = some (.int .i64 x.f3) := (blk_cell b8' 3).trans rfl
  have o4 : W1.cell? ⟨b8, 4, none⟩ = some (.int .i64 x.f4) := (blk_cell b8' 4).trans rfl
  have o5 : W1.cell? ⟨b8, 5, none⟩ = some (.int .i64 x.f5) := (blk_cell b8' 5).trans rfl
  have o6 : W1.cell? ⟨b8, 6, none⟩ = some (.int .i64 x.f6) := (blk_cell b8' 6).trans rfl
  have o7 : W1.cell? ⟨b8, 7, none⟩ = some (.int .i64 x.f7) := (blk_cell b8' 7).trans rfl
  have o8 : W1.cell? ⟨b8, 8, none⟩ = some (.int .u64 x.f8) := (blk_cell b8' 8).trans rfl
  have o9 : W1.cell? ⟨b8, 9, none⟩ = some (.int .u64 x.f9) := (blk_cell b8' 9).trans rfl
  have o10 : W1.cell? ⟨b8, 10, none⟩ = some (.int .u64 x.f10) := (blk_cell b8' 10).trans rfl
  have o11 : W1.cell? ⟨b8, 11, none⟩ = some (.int .u64 x.f11) := (blk_cell b8' 11).trans rfl
  have o12 : W1.cell? ⟨b8, 12, none⟩ = some (.int .i64 x.f12) := (blk_cell b8' 12).trans rfl
  have o13 : W1.cell? ⟨b8, 13, none⟩ = some (.bool x.f13) := (blk_cell b8' 13).trans rfl
  have q0 := row_cells hC1 j2 h20 h21 0 _ rfl
  have q1 := row_cells hC1 j2 h20 h21 1 _ rfl
  have q2 := row_cells hC1 j2 h20 h21 2 _ rfl
  have q3 := row_cells hC1 j2 h20 h21 3 _ rfl
  have q4 := row_cells hC1 j2 h20 h21 4 _ rfl
  have q5 := row_cells hC1 j2 h20 h21 5 _ rfl
  have q6 := row_cells hC1 j2 h20 h21 6 _ rfl
  have q7 := row_cells hC1 j2 h20 h21 7 _ rfl
  have q8 := row_cells hC1 j2 h20 h21 8 _ rfl
  have q9 := row_cells hC1 j2 h20 h21 9 _ rfl
  have q10 := row_cells hC1 j2 h20 h21 10 _ rfl
  have q11 := row_cells hC1 j2 h20 h21 11 _ rfl
  have q12 := row_cells hC1 j2 h20 h21 12 _ rfl
  have q13 := row_cells hC1 j2 h20 h21 13 _ rfl
  rw [Nat.add_zero] at q0
  have PR := Aside0.mk (X1.putRow (W1 := W1.setCells gr (j2.toNat * 14 + 0) (jobCells x)) ev1 j2 h20 h21 x 0 (jobCells x) rfl (by simp [jobCells]) rfl (by show 1 ≤ x.f0 ∧ x.f0 ≤ s3.ts.length ∧ 0 ≤ x.f1 ∧ x.f1 ≤ s.now + 1; rw [HTS.out]; have := HX.out; exact ⟨this.1, this.2.1, this.2.2.1, by omega⟩))
  have hbx1 : bx < W1.heap.size := blk_lt X1.blk
  have hb8l := blk_lt b8'
  have hb10l := blk_lt b10'
  refine wp_region_still_tail 7 (by kernel_rfl) (by kernel_rfl) ?_
  change wpStill _ _ (World.drew _) (fun a' => wpList _ _ _ _ a' (World.drew _)) _ _
  simp only [List.take_succ_cons, List.take_zero, List.drop_succ_cons, List.drop_zero]
  repeat still_step
  refine wpStill_nil ?_
  go_upto_region 38 with fail
  change Code.wp _ _ _ _ ((W1.setCells gr (j2.toNat * 14 + 0) (jobCells x)).drew)
  have b82v : (W1.setCells gr (j2.toNat * 14 + 0) (jobCells x)).heap[b8]? = _ := (setCells_far (jobCells x) _ b8 n8').trans b8'
  have b02v := PR.out.2.blk b0 (by simp)
  have b12v := PR.out.2.blk b1 (by simp)
  have b102v := PR.out.2.blk b10' (by simp)
  generalize W1.setCells gr (j2.toNat * 14 + 0) (jobCells x) = V at PR b82v b02v b12v b102v ⊢
  have X2 : XI V.drew B bx _ := PR.out.1.below (below_drew1 (Below.refl _ _))
  have K2 : KeptT [147, 3, 159, 164] B w V.drew := (K1.trans PR.out.2).drew
  have b02 : V.drew.heap[w.heap.size]? = _ := b02v
  have b12 : V.drew.heap[w.heap.size + 1]? = _ := b12v
  have b102 : V.drew.heap[b10]? = _ := b102v
  have b82 : V.drew.heap[b8]? = _ := b82v
  clear b02v b12v b102v b82v
  have hs2 := PR.out.2.bel.size
  clear PR X1 K1 b0 b1 b8' b10' x9 hC1 hty o0 o1 o2 o3 o4 o5 o6 o7 o8 o9 o10 o11 o12 o13 q0 q1 q2 q3 q4 q5 q6 q7 q8 q9 q10 q11 q12 q13 hfr ev1
  generalize V.drew = W2 at X2 K2 b02 b12 b102 b82 ⊢
  have k0 : W2.cell? ⟨w.heap.size + 1, 0, none⟩ = some (.int .i64 s.now) := (blk_cell b12 0).trans rfl
  have k1 : W2.cell? ⟨w.heap.size + 1, 1, none⟩ = some (.int .i64 x.f0) := (blk_cell b12 1).trans rfl
  have k2 : W2.cell? ⟨w.heap.size + 1, 2, none⟩ = some (.int .i64 x.f1) := (blk_cell b12 2).trans rfl
  have k3 : W2.cell? ⟨w.heap.size + 1, 3, none⟩ = some (.int .i64 kd) := (blk_cell b12 3).trans rfl
  have k4 : W2.cell? ⟨w.heap.size + 1, 4, none⟩ = some (.bool false) := (blk_cell b12 4).trans rfl
  have k5 : W2.cell? ⟨w.heap.size + 1, 5, none⟩ = some (.int .i64 dp) := (blk_cell b12 5).trans rfl
  have d0 : W2.cell? ⟨w.heap.size, 0, none⟩ = some (.int .i64 0) := (blk_cell b02 0).trans rfl
  have d1 : W2.cell? ⟨w.heap.size, 1, none⟩ = some (.int .i64 0) := (blk_cell b02 1).trans rfl
  have d2 : W2.cell? ⟨w.heap.size, 2, none⟩ = some (.int .i64 0) := (blk_cell b02 2).trans rfl
  have d3 : W2.cell? ⟨w.heap.size, 3, none⟩ = some (.int .i64 0) := (blk_cell b02 3).trans rfl
  have d4 : W2.cell? ⟨w.heap.size, 4, none⟩ = some (.bool false) := (blk_cell b02 4).trans rfl
  have d5 : W2.cell? ⟨w.heap.size, 5, none⟩ = some (.int .i64 0) := (blk_cell b02 5).trans rfl
  have f0 : ∀ j, W2.frozen? ⟨w.heap.size, j, none⟩ = false := fun j => blk_frozen b02 j
  have f1 : ∀ j, W2.frozen? ⟨w.heap.size + 1, j, none⟩ = false := fun j => blk_frozen b12 j
  have w0 : W2.cell? ⟨b10, 0, none⟩ = some (.int .i64 x.f4) := (blk_cell b102 0).trans rfl
  have w1 : W2.cell? ⟨b10, 1, none⟩ = some (.int .i64 x.f5) := (blk_cell b102 1).trans rfl
  have B0 := Aside0.mk b02
  have B1 := Aside0.mk b12
  have X := Aside0.mk X2
  have K := Aside0.mk K2
  by_cases hdd : x.f4 = x.f5
  · have s10 := blk_lt b102
    have s8 := blk_lt b82
    have n13 : w.heap.size + 1 ≠ b8 := by omega
    have n14 : w.heap.size + 1 ≠ b10 := by omega
    have x8 := X2.f8
    have x14 := X2.f14
    have hkd1 := Aside0.mk (HKD.out.2 hdd)
    go_upto_region 40 with fail
    have X3 := X2.slot B1.out (Nat.le_trans hX0 (Nat.le_succ _)) 4 (.bool true)
    have K3 := K2.loc1 (j := 4) (u := .bool true) hX0
    have b03 := blk_far (p := ⟨w.heap.size + 1, 4, none⟩) B0.out (by show w.heap.size ≠ w.heap.size + 1; omega) (.bool true)
    have b13 := blk_set B1.out 4 (.bool true)
    have b83 := blk_far (p := ⟨w.heap.size + 1, 4, none⟩) b82 (Ne.symm n13) (.bool true)
    have b103 := blk_far (p := ⟨w.heap.size + 1, 4, none⟩) b102 (Ne.symm n14) (.bool true)
    clear k0 k1 k2 k3 k4 k5 d0 d1 d2 d3 d4 d5 f0 f1 w0 w1 B0 B1 X K X2 K2 b02 b12 b82 b102 x8 x14
    generalize W2.setCell ⟨w.heap.size + 1, 4, none⟩ (.bool true) = W3 at X3 K3 b03 b13 b83 b103 ⊢
    have z14 := X3.f14
    have z8 := X3.f8
    have za : W3.cell? ⟨w.heap.size + 1, 1, none⟩ = some (.int .i64 x.f0) := (blk_cell b13 1).trans rfl
    have zb : W3.cell? ⟨w.heap.size + 1, 2, none⟩ = some (.int .i64 x.f1) := (blk_cell b13 2).trans rfl
    have zc : W3.cell? ⟨b10, 3, none⟩ = some (.int .i64 x.f7) := (blk_cell b103 3).trans rfl
    have zd : W3.cell? ⟨b8, 12, none⟩ = some (.int .i64 x.f12) := (blk_cell b83 12).trans rfl
    have X4 : Aside0 (XI W3.drew B bx _) := ⟨X3.below (below_drew1 (Below.refl _ _))⟩
    have K4 : Aside0 (KeptT [147, 3, 159, 164] B w W3.drew) := ⟨K3.drew⟩
    have b04 : Aside0 (W3.drew.heap[w.heap.size]? = _) := ⟨b03⟩
    have b14 : Aside0 (W3.drew.heap[w.heap.size + 1]? = _) := ⟨b13⟩
    have b84 : Aside0 (W3.drew.heap[b8]? = _) := ⟨b83⟩
    have b104 : Aside0 (W3.drew.heap[b10]? = _) := ⟨b103⟩
    clear X3 K3 b03 b13 b83 b103
    refine start_ (n := 23) (S := fun w' => w'.cell? ⟨bx, 14, none⟩ = some s3.vE ∧ w'.cell? ⟨bx, 8, none⟩ = some (.int .i64 (s.now + 1)) ∧ w'.cell? ⟨w.heap.size + 1, 1, none⟩ = some (.int .i64 x.f0) ∧ w'.cell? ⟨w.heap.size + 1, 2, none⟩ = some (.int .i64 x.f1) ∧ w'.cell? ⟨b10, 3, none⟩ = some (.int .i64 x.f7) ∧ w'.cell? ⟨b8, 12, none⟩ = some (.int .i64 x.f12)) (ds := [22]) #[false, false, false, false, false, false, false, false, false, false, false, false, false, false, false, false, false, false, false, false, false, false, false] (by kernel_rfl) rfl rfl ⟨z14, z8, za, zb, zc, zd⟩ (fun hHeld => ?_)
    have hHeld0 := hHeld
    generalize W3.drew = W4 at X4 K4 b04 b14 b84 b104 hHeld hHeld0 ⊢
    refine pure_ (i := 0) (N := some 197) (v := ?_) (a' := ?_) #[true, false, false, false, false, false, false, false, false, false, false, false, false, false, false, false, false, false, false, false, false, false, false] rfl rfl (by kernel_rfl) (fun _ _ _ h => h) (Or.inl ⟨by rfl, ?_⟩) ?_ ?_
    rotate_left
    · rintro w'
      go_simp
      with_reducible rfl
    rotate_left
    · simp only [Act.put, List.setIfInBounds_toArray, List.set_cons_zero, List.set_cons_succ, i64_w, i32_w]
      rfl
    refine pure_ (i := 1) (N := some 198) (v := ?_) (a' := ?_) #[true, true, false, false, false, false, false, false, false, false, false, false, false, false, false, false, false, false, false, false, false, false, false] rfl rfl (by kernel_rfl) (fun _ _ _ h => h) (Or.inl ⟨by rfl, ?_⟩) ?_ ?_
    rotate_left
    · rintro w'
      go_simp
      with_reducible rfl
    rotate_left
    · simp only [Act.put, List.setIfInBounds_toArray, List.set_cons_zero, List.set_cons_succ, i64_w, i32_w]
      rfl
    refine pure_ (i := 2) (N := some 199) (v := ?_) (a' := ?_) #[true, true, true, false, false, false, false, false, false, false, false, false, false, false, false, false, false, false, false, false, false, false, false] rfl rfl (by kernel_rfl) (fun _ _ _ h => h) (Or.inl ⟨by rfl, ?_⟩) ?_ ?_
    rotate_left
    · rintro w'
      go_simp
      with_reducible rfl
    rotate_left
    · simp only [Act.put, List.setIfInBounds_toArray, List.set_cons_zero, List.set_cons_succ, i64_w, i32_w]
      rfl
    refine pure_ (i := 3) (N := some 200) (v := ?_) (a' := ?_) #[true, true, true, true, false, false, false, false, false, false, false, false, false, false, false, false, false, false, false, false, false, false, false] rfl rfl (by kernel_rfl) (fun _ _ _ h => h) (Or.inl ⟨by rfl, ?_⟩) ?_ ?_
    rotate_left
    · rintro w'
      go_simp
      with_reducible rfl
    rotate_left
    · simp only [Act.put, List.setIfInBounds_toArray, List.set_cons_zero, List.set_cons_succ, i64_w, i32_w]
      rfl
    refine take_ (i := 4) (N := some 201) (v := ?_) (a' := ?_) #[true, true, true, true, true, false, false, false, false, false, false, false, false, false, false, false, false, false, false, false, false, false, false] rfl rfl (by kernel_rfl) (fun _ _ _ h => h) (Or.inl ⟨by rfl, ?_⟩) hHeld ?_ ?_
    rotate_left
    · rintro w' ⟨s0, s1, s2, s3, s4, s5⟩
      go_simp
      with_reducible rfl
    rotate_left
    · simp only [Act.put, List.setIfInBounds_toArray, List.set_cons_zero, List.set_cons_succ, i64_w, i32_w]
      rfl
    refine pure_ (i := 5) (N := some 202) (v := ?_) (a' := ?_) #[true, true, true, true, true, true, false, false, false, false, false, false, false, false, false, false, false, false, false, false, false, false, false] rfl rfl (by kernel_rfl) (fun _ _ _ h => h) (Or.inl ⟨by rfl, ?_⟩) ?_ ?_
    rotate_left
    · rintro w'
      go_simp
      with_reducible rfl
    rotate_left
    · simp only [Act.put, List.setIfInBounds_toArray, List.set_cons_zero, List.set_cons_succ, i64_w, i32_w]
      rfl
    refine take_ (i := 6) (N := some 203) (v := ?_) (a' := ?_) #[true, true, true, true, true, true, true, false, false, false, false, false, false, false, false, false, false, false, false, false, false, false, false] rfl rfl (by kernel_rfl) (fun _ _ _ h => h) (Or.inl ⟨by rfl, ?_⟩) hHeld ?_ ?_
    rotate_left
    · rintro w' ⟨s0, s1, s2, s3, s4, s5⟩
      go_simp
      with_reducible rfl
    rotate_left
    · simp only [Act.put, List.setIfInBounds_toArray, List.set_cons_zero, List.set_cons_succ, i64_w, i32_w]
      rfl
    refine pure_ (i := 7) (N := some 204) (v := ?_) (a' := ?_) #[true, true, true, true, true, true, true, true, false, false, false, false, false, false, false, false, false, false, false, false, false, false, false] rfl rfl (by kernel_rfl) (fun _ _ _ h => h) (Or.inl ⟨by rfl, ?_⟩) ?_ ?_
    rotate_left
    · rintro w'
      go_simp
      with_reducible rfl
    rotate_left
    · simp only [Act.put, List.setIfInBounds_toArray, List.set_cons_zero, List.set_cons_succ, i64_w, i32_w]
      rfl
    refine take_ (i := 8) (N := some 205) (v := ?_) (a' := ?_) #[true, true, true, true, true, true, true, true, true, false, false, false, false, false, false, false, false, false, false, false, false, false, false] rfl rfl (by kernel_rfl) (fun _ _ _ h => h) (Or.inl ⟨by rfl, ?_⟩) hHeld ?_ ?_
    rotate_left
    · rintro w' ⟨s0, s1, s2, s3, s4, s5⟩
      go_simp
      with_reducible rfl
    rotate_left
    · simp only [Act.put, List.setIfInBounds_toArray, List.set_cons_zero, List.set_cons_succ, i64_w, i32_w]
      rfl
    refine pure_ (i := 9) (N := some 206) (v := ?_) (a' := ?_) #[true, true, true, true, true, true, true, true, true, true, false, false, false, false, false, false, false, false, false, false, false, false, false] rfl rfl (by kernel_rfl) (fun _ _ _ h => h) (Or.inl ⟨by rfl, ?_⟩) ?_ ?_
    rotate_left
    · rintro w'
      go_simp
      with_reducible rfl
    rotate_left
    · simp only [Act.put, List.setIfInBounds_toArray, List.set_cons_zero, List.set_cons_succ, i64_w, i32_w]
      rfl
    refine pure_ (i := 10) (N := some 207) (v := ?_) (a' := ?_) #[true, true, true, true, true, true, true, true, true, true, true, false, false, false, false, false, false, false, false, false, false, false, false] rfl rfl (by kernel_rfl) (fun _ _ _ h => h) (Or.inl ⟨by rfl, ?_⟩) ?_ ?_
    rotate_left
    · rintro w'
      go_simp
      with_reducible rfl
    rotate_left
    · simp only [Act.put, List.setIfInBounds_toArray, List.set_cons_zero, List.set_cons_succ, i64_w, i32_w]
      rfl
    refine pure_ (i := 11) (N := some 208) (v := ?_) (a' := ?_) #[true, true, true, true, true, true, true, true, true, true, true, true, false, false, false, false, false, false, false, false, false, false, false] rfl rfl (by kernel_rfl) (fun _ _ _ h => h) (Or.inl ⟨by rfl, ?_⟩) ?_ ?_
    rotate_left
    · rintro w'
      go_simp
      with_reducible rfl
    rotate_left
    · simp only [Act.put, List.setIfInBounds_toArray, List.set_cons_zero, List.set_cons_succ, i64_w, i32_w]
      rfl
    refine take_ (i := 12) (N := some 209) (v := ?_) (a' := ?_) #[true, true, true, true, true, true, true, true, true, true, true, true, true, false, false, false, false, false, false, false, false, false, false] rfl rfl (by kernel_rfl) (fun _ _ _ h => h) (Or.inl ⟨by rfl, ?_⟩) hHeld ?_ ?_
    rotate_left
    · rintro w' ⟨s0, s1, s2, s3, s4, s5⟩
      go_simp
      with_reducible rfl
    rotate_left
    · simp only [Act.put, List.setIfInBounds_toArray, List.set_cons_zero, List.set_cons_succ, i64_w, i32_w]
      rfl
    refine pure_ (i := 13) (N := some 210) (v := ?_) (a' := ?_) #[true, true, true, true, true, true, true, true, true, true, true, true, true, true, false, false, false, false, false, false, false, false, false] rfl rfl (by kernel_rfl) (fun _ _ _ h => h) (Or.inl ⟨by rfl, ?_⟩) ?_ ?_
    rotate_left
    · rintro w'
      go_simp
      with_reducible rfl
    rotate_left
    · simp only [Act.put, List.setIfInBounds_toArray, List.set_cons_zero, List.set_cons_succ, i64_w, i32_w]
      rfl
    refine take_ (i := 14) (N := some 211) (v := ?_) (a' := ?_) #[true, true, true, true, true, true, true, true, true, true, true, true, true, true, true, false, false, false, false, false, false, false, false] rfl rfl (by kernel_rfl) (fun _ _ _ h => h) (Or.inl ⟨by rfl, ?_⟩) hHeld ?_ ?_
    rotate_left
    · rintro w' ⟨s0, s1, s2, s3, s4, s5⟩
      go_simp
      with_reducible rfl
    rotate_left
    · simp only [Act.put, List.setIfInBounds_toArray, List.set_cons_zero, List.set_cons_succ, i64_w, i32_w]
      rfl
    refine pure_ (i := 15) (N := some 212) (v := ?_) (a' := ?_) #[true, true, true, true, true, true, true, true, true, true, true, true, true, true, true, true, false, false, false, false, false, false, false] rfl rfl (by kernel_rfl) (fun _ _ _ h => h) (Or.inl ⟨by rfl, ?_⟩) ?_ ?_
    rotate_left
    · rintro w'
      go_simp
      with_reducible rfl
    rotate_left
    · simp only [Act.put, List.setIfInBounds_toArray, List.set_cons_zero, List.set_cons_succ, i64_w, i32_w]
      rfl
    refine take_ (i := 16) (N := some 213) (v := ?_) (a' := ?_) #[true, true, true, true, true, true, true, true, true, true, true, true, true, true, true, true, true, false, false, false, false, false, false] rfl rfl (by kernel_rfl) (fun _ _ _ h => h) (Or.inl ⟨by rfl, ?_⟩) hHeld ?_ ?_
    rotate_left
    · rintro w' ⟨s0, s1, s2, s3, s4, s5⟩
      go_simp
      with_reducible rfl
    rotate_left
    · simp only [Act.put, List.setIfInBounds_toArray, List.set_cons_zero, List.set_cons_succ, i64_w, i32_w]
      rfl
    refine pure_ (i := 17) (N := some 214) (v := ?_) (a' := ?_) #[true, true, true, true, true, true, true, true, true, true, true, true, true, true, true, true, true, true, false, false, false, false, false] rfl rfl (by kernel_rfl) (fun _ _ _ h => h) (Or.inl ⟨by rfl, ?_⟩) ?_ ?_
    rotate_left
    · rintro w'
      go_simp
      with_reducible rfl
    rotate_left
    · simp only [Act.put, List.setIfInBounds_toArray, List.set_cons_zero, List.set_cons_succ, i64_w, i32_w]
      rfl
    refine one_ (i := 18) (N := some 215) #[true, true, true, true, true, true, true, true, true, true, true, true, true, true, true, true, true, true, true, false, false, false, false] rfl rfl (by kernel_rfl) (by decide) (fun K hK => ?_)
    refine value_ (w1 := ?_) (v := ?_) (by rfl) rfl ?_ ?_
    rotate_left 2
    · go_simp
      constructor
      · rfl
      · rfl
    refine hK.out _ _ ⟨by go_keep, by go_keep, by go_keep, by go_keep, by go_keep, by go_keep⟩ (fun hHeld => ?_)
    clear hK K
    refine norm_ (a' := ?_) ?_ ?_
    rotate_left
    · simp only [Act.put, List.setIfInBounds_toArray, List.set_cons_zero, List.set_cons_succ, i64_w, i32_w]
      rfl
    refine one_ (i := 19) (N := some 216) #[true, true, true, true, true, true, true, true, true, true, true, true, true, true, true, true, true, true, true, true, false, false, false] rfl rfl (by kernel_rfl) (by decide) (fun K hK => ?_)
    refine step_append_cells (w0 := W4) (W := W4) B (by rfl) _ _ _ 164 _ 5 40 (by rfl) Tryd.underlying144 info164 (by rfl) (by decide) (by decide) s3.vE s3.m s3.es [.int .i64 x.f0, .int .i64 x.f1, .int .i64 (s.now + 1), .int .i64 x.f7, .int .i64 x.f12] (by rfl) (by rfl) (by rfl) (by simp [Value.oneCell']) X4.out.r.es (Below.refl _ _) X4.out.szB (by have := HM.out; omega) ?_
    intro v1 W5 hown1 hB5 hg5 hat5
    have hE := X4.out.r.es
    have m14 : some bx ≠ s3.vE.ownBlock := own_ne hE X4.out.blk (by decide)
    have e14 : W5.cell? ⟨bx, 14, none⟩ = some s3.vE := hg5.cell hHeld0.1 m14
    have e8 : W5.cell? ⟨bx, 8, none⟩ = some (.int .i64 (s.now + 1)) := hg5.cell hHeld0.2.1 m14
    have ea : W5.cell? ⟨w.heap.size + 1, 1, none⟩ = some (.int .i64 x.f0) := hg5.cell hHeld0.2.2.1 (own_ne hE b14.out (by decide))
    have eb : W5.cell? ⟨w.heap.size + 1, 2, none⟩ = some (.int .i64 x.f1) := hg5.cell hHeld0.2.2.2.1 (own_ne hE b14.out (by decide))
    have ec : W5.cell? ⟨b10, 3, none⟩ = some (.int .i64 x.f7) := hg5.cell hHeld0.2.2.2.2.1 (own_ne hE b104.out (by decide))
    have ed : W5.cell? ⟨b8, 12, none⟩ = some (.int .i64 x.f12) := hg5.cell hHeld0.2.2.2.2.2 (own_ne hE b84.out (by decide))
    have ef : W5.frozen? ⟨bx, 14, none⟩ = false := blk_frozen (blk_grown X4.out.blk hg5 m14) 14
    have P5 := Aside0.mk (X4.out.putE hg5 hown1)
    obtain ⟨A5, c5', rfl⟩ := own_slice hown1
    refine hK.out _ _ ⟨e14, e8, ea, eb, ec, ed⟩ (fun hHeld => ?_)
    clear hK K
    refine norm_ (a' := ?_) ?_ ?_
    rotate_left
    · show Act.put _ (some 216) _ = _
      simp only [Act.put, List.setIfInBounds_toArray, List.set_cons_zero, List.set_cons_succ, i64_w, i32_w]
      rfl
    refine pure_ (i := 20) (N := some 217) (v := ?_) (a' := ?_) #[true, true, true, true, true, true, true, true, true, true, true, true, true, true, true, true, true, true, true, true, true, false, false] rfl rfl (by kernel_rfl) (fun _ _ _ h => h) (Or.inl ⟨by rfl, ?_⟩) ?_ ?_
    rotate_left
    · rintro w'
      go_simp
      with_reducible rfl
    rotate_left
    · simp only [Act.put, List.setIfInBounds_toArray, List.set_cons_zero, List.set_cons_succ, i64_w, i32_w]
      rfl
    refine pure_ (i := 21) (N := some 218) (v := ?_) (a' := ?_) #[true, true, true, true, true, true, true, true, true, true, true, true, true, true, true, true, true, true, true, true, true, true, false] rfl rfl (by kernel_rfl) (fun _ _ _ h => h) (Or.inl ⟨by rfl, ?_⟩) ?_ ?_
    rotate_left
    · rintro w'
      go_simp
      with_reducible rfl
    rotate_left
    · simp only [Act.put, List.setIfInBounds_toArray, List.set_cons_zero, List.set_cons_succ, i64_w, i32_w]
      rfl
    refine last_ (i := 22) (N := none) #[true, true, true, true, true, true, true, true, true, true, true, true, true, true, true, true, true, true, true, true, true, true, true] rfl rfl (by kernel_rfl) (by decide) (fun K hK => ?_)
    refine skip_ (w1 := ?_) (by rfl) rfl ?_ ?_
    rotate_left
    · go_simp
      rfl
    refine hK.out _ _ ?_
    clear hK K
    refine done_ (by kernel_rfl) ?_
    repeat' ((fail_if_success (first | (with_reducible refine at_seq1 41 ?_) | (with_reducible refine at_seq2 41 ?_) | (with_reducible refine at_seq3 41 ?_))); first | (go_says fail) | go_values | go_skip | go_guarded | go_step | go_upon | go_back | (simp only [Int.not_lt, Int.not_le] at *; go_simp) | (go_values <;> (try go_simp)) | (go_ite <;> go_prune <;> (try go_simp)) | (split <;> (first | (rename_i hx; exact (hx _ rfl).elim) | go_prune)))
    have b06 := Aside0.mk (P5.out.2.blk b04.out (by simp))
    have b16 := Aside0.mk (P5.out.2.blk b14.out (by simp))
    have K6 := Aside0.mk (K4.out.trans P5.out.2)
    have hlen : (s3.l.set j2.toNat x).length = s3.l.length := List.length_set
    refine tick_f B bx _ j2 _ _ _ _ _ _ _ _ _ _ _ _ _ _ _ _ _ _ _ _ _ _ _ _ _ _ _ _ _ _ _ _ _ _ _ _ _ _ _ _ _ _ _ _ _ _ _ _ _ _ _ _ _ _ _ _ _ _ _ _ _ _ _ _ _ _ _ _ _ _ _ _ _ _ _ _ _ _ _ _ _ _ _ _ _ _ _ _ _ _ _ _ _ _ _ _ _ _ _ _ _ _ _ _ _ _ _ _ _ _ _ _ _ _ _ _ _ _ _ _ _ _ _ _ _ _ _ _ _ _ _ _ _ _ _ _ _ _ _ _ _ _ _ _ _ _ _ _ _ _ _ _ _ _ _ _ _ _ _ _ _ _ _ _ _ _ _ _ _ _ _ _ _ _ _ _ _ _ _ _ _ _ _ _ _ _ _ _ _ _ _ _ _ _ _ _ _ _ _ _ _ _ _ _ _ _ _ _ _ _ _ _ _ _ _ _ _ _ _ _ _ _ _ _ _ _ _ _ _ _ _ _ _ _ _ _ _ _ _ _ _ _ _ _ _ _ P5.out.1 h20 (by show j2 < ((s3.l.set _ _).length : Int); rw [hlen]; exact h21) (by show (s3.l.set _ _).length ≤ 1000; rw [hlen]; have := HLL.out; omega) ?_
    intro g219 g220 g221 g222 g223 g224 g225 g226 g227 g228 g229 g230 g231 g232 g233 g234 g235 g236 g237 g238 g239 g240 g241 g242 g243 W' hD
    obtain ⟨s', hX', ht', hn', hm', hl', hk'⟩ := hD
    have b07 := hk'.blk b06.out (by simp)
    have b17 := hk'.blk b16.out (by simp)
    have k0 : W'.cell? ⟨w.heap.size + 1, 0, none⟩ = some (.int .i64 s.now) := (blk_cell b17 0).trans rfl
    have k1 : W'.cell? ⟨w.heap.size + 1, 1, none⟩ = some (.int .i64 x.f0) := (blk_cell b17 1).trans rfl
    have k2 : W'.cell? ⟨w.heap.size + 1, 2, none⟩ = some (.int .i64 x.f1) := (blk_cell b17 2).trans rfl
    have k3 : W'.cell? ⟨w.heap.size + 1, 3, none⟩ = some (.int .i64 kd) := (blk_cell b17 3).trans rfl
    have k4 : W'.cell? ⟨w.heap.size + 1, 4, none⟩ = some (.bool true) := (blk_cell b17 4).trans rfl
    have k5 : W'.cell? ⟨w.heap.size + 1, 5, none⟩ = some (.int .i64 dp) := (blk_cell b17 5).trans rfl
    have d0 : W'.cell? ⟨w.heap.size, 0, none⟩ = some (.int .i64 0) := (blk_cell b07 0).trans rfl
    have d1 : W'.cell? ⟨w.heap.size, 1, none⟩ = some (.int .i64 0) := (blk_cell b07 1).trans rfl
    have d2 : W'.cell? ⟨w.heap.size, 2, none⟩ = some (.int .i64 0) := (blk_cell b07 2).trans rfl
    have d3 : W'.cell? ⟨w.heap.size, 3, none⟩ = some (.int .i64 0) := (blk_cell b07 3).trans rfl
    have d4 : W'.cell? ⟨w.heap.size, 4, none⟩ = some (.bool false) := (blk_cell b07 4).trans rfl
    have d5 : W'.cell? ⟨w.heap.size, 5, none⟩ = some (.int .i64 0) := (blk_cell b07 5).trans rfl
    have f0 : ∀ j, W'.frozen? ⟨w.heap.size, j, none⟩ = false := fun j => blk_frozen b07 j
    have B7 := Aside0.mk b07
    have X7 := Aside0.mk hX'
    have K7 := Aside0.mk (K6.out.trans hk')
    have T7 := Aside0.mk ht'
    have N7 := Aside0.mk hn'
    have M7 := Aside0.mk hm'
    have L7 := Aside0.mk hl'
    clear b07 b17 hX' hk' ht' hn' hm' hl'
    go_wp2_with fail
    refine bodyPost_ret (v := slotV ⟨s.now, x.f0, x.f1, kd, true, dp⟩) (results_single rfl (.cell w.heap.size 43 _ (0, 0) _ rfl (fill6 B7.out) Tryd.underlying43 rfl (by kernel_rfl) .nil)) rfl ?_
    have hx := HX.out
    refine ⟨⟨s.now, x.f0, x.f1, kd, true, dp⟩, s', rfl, rfl, ⟨hnow0, Or.inr ⟨hx.1, hx.2.1, hx.2.2.1, hx.2.2.2, HKD.out.1, (fun _ => hkd1.out), HDP.out.1, HDP.out.2⟩⟩, X7.out.slot6 B7.out hX0 _ _ _ _ _ _, T7.out.trans HTS.out, N7.out, ?_, ?_, ((((((K7.out.loc0 hX0).loc0 hX0).loc0 hX0).loc0 hX0).loc0 hX0).loc0 hX0)⟩
    · have h1 : s'.l.length ≤ (s3.l.set j2.toNat x).length := L7.out
      rw [hlen] at h1
      exact Nat.le_trans h1 HLL.out
    · have h1 : s'.m = s3.m + 1 := M7.out
      have := HM.out
      omega
  · clear b02 b12 b82 b102 X2 K2
    go_wp2_with fail
    refine bodyPost_ret (v := slotV ⟨s.now, x.f0, x.f1, kd, false, dp⟩) (results_single rfl (.cell w.heap.size 43 _ (0, 0) _ rfl (fill6 B0.out) Tryd.underlying43 rfl (by kernel_rfl) .nil)) rfl ?_
    have hx := HX.out
    refine ⟨⟨s.now, x.f0, x.f1, kd, false, dp⟩, _, rfl, rfl, ⟨hnow0, Or.inr ⟨hx.1, hx.2.1, hx.2.2.1, hx.2.2.2, HKD.out.1, (fun h => by cases h), HDP.out.1, HDP.out.2⟩⟩, X.out.slot6 B0.out hX0 _ _ _ _ _ _, HTS.out, rfl, ?_, ?_, ((((((K.out.loc0 hX0).loc0 hX0).loc0 hX0).loc0 hX0).loc0 hX0).loc0 hX0)⟩
    · show (s3.l.set _ _).length ≤ _
      rw [List.length_set]
      exact HLL.out
    · show s3.m ≤ _
      rw [HM.out]
      omega
end Go.Proofs.YtbldolbeijpipaaDoor
