import Derived.Test.YtbldolbeijpipaaDoorHRow
import Derived.Test.YtbldolbeijpipaaDoorHStep
import Derived.StillTailTactics
import Derived.Test.YtbldolbeijpipaaDoorHTickD
import Derived.Deep.RegionHeld3
import Derived.Deep.CutRange
import Derived.Deep.DeepCutAuto
namespace Go.Proofs.YtbldolbeijpipaaDoor
open Go.RowKit Go.Proofs.YtbldolbeijpipaaDoorW.PrintWords Go.Proofs.YtbldolbeijpipaaDoorW.PrintLast Go.Proofs.YtbldolbeijpipaaDoorW.PrintMore
set_option linter.unusedVariables false
set_option linter.unusedSimpArgs false

set_option maxHeartbeats 3200000 in
set_option maxRecDepth 1000000 in
theorem tick_c (B bx : Nat) (s s2 : XS) (j2 dp : Int) (w wc0 : World) (c1 c5 c6 c7 c8 c9 c10 c11 c12 c13 c14 c15 c16 c17 c18 c19 c20 c21 c22 c23 c24 c25 c26 c27 c28 c29 c30 c31 c32 c33 c34 c35 c36 c37 c38 c39 c40 c41 c42 c43 c44 c45 c46 c47 c48 c49 c50 c51 c52 c53 c54 c55 c56 c57 c58 c59 c60 c61 c62 c63 c64 c65 c66 c67 c68 c69 c70 c71 c72 c73 c74 c75 c76 c77 c78 c79 c80 c81 c82 c83 c84 c85 c86 c87 c88 c89 c90 c91 c92 c93 c94 c95 c96 c97 c98 c99 c100 c101 c102 c103 c104 c105 c106 c107 c108 c109 c110 c111 c112 c113 c114 c115 c116 c117 c118 c119 c120 c121 c122 c123 c124 c125 c126 c127 c128 c129 c130 c131 c132 c133 c134 c135 c136 c137 c138 c139 c140 c141 c142 c143 c144 c145 c146 c147 c148 c149 c150 c151 c152 c153 c154 c155 c156 c157 c158 c159 c160 c161 c162 c163 c164 c165 c166 c167 c168 c169 c170 c171 c172 c173 c174 c175 c176 c177 c178 c179 c180 c181 c182 c183 c184 c185 c186 c187 c188 c189 c190 c191 c192 c193 c194 c195 c196 c197 c198 c199 c200 c201 c202 c203 c204 c205 c206 c207 c208 c209 c210 c211 c212 c213 c214 c215 c216 c217 c218 c219 c220 c221 c222 c223 c224 c225 c226 c227 c228 c229 c230 c231 c232 c233 c234 c235 c236 c237 c238 c239 c240 c241 c242 c243 c244 : Value)
    (hX0 : B ≤ w.heap.size) (hbx : bx < w.heap.size) (hnow0 : 0 ≤ s.now) (hnow : s.now < 1000000) (h20 : 0 ≤ j2) (h21 : j2 < s2.l.length) (hX : XI wc0 B bx s2) (hts : s2.ts = s.ts) (hnow2 : s2.now = s.now)
    (hll : s2.l.length ≤ s.l.length) (hl : s.l.length ≤ 1000) (hm3 : s2.m = s.m) (hm : s.m ≤ 1000000) (hd0 : 0 ≤ dp) (hd1 : dp ≤ s.ts.length) (hK : KeptT [147, 3, 159, 164] B w wc0)
    (hb0 : wc0.heap[w.heap.size]? = some (.cells #[.int .i64 0, .int .i64 0, .int .i64 0, .int .i64 0, .bool false, .int .i64 0] 43 (0, 0))) (hb1 : wc0.heap[w.heap.size + 1]? = some (.cells #[.int .i64 s.now, .int .i64 0, .int .i64 0, .int .i64 0, .bool false, .int .i64 dp] 43 (0, 0))) :
    Code.wp Tryd.prog ((Tryd.f35.body.bind (codeFrom 24)).getD .skip) (bodyPost Tryd.prog Tryd.f35 (TickP w B bx s)) ⟨#[.pointer (some ⟨bx, 0, none⟩), c1, .pointer (some ⟨w.heap.size, 0, none⟩), .pointer (some ⟨w.heap.size + 1, 0, none⟩), .int .i64 j2, c5, c6, c7, c8, c9, c10, c11, c12, c13, c14, c15, c16, c17, c18, c19, c20, c21, c22, c23, c24, c25, c26, c27, c28, c29, c30, c31, c32, c33, c34, c35, c36, c37, c38, c39, c40, c41, c42, c43, c44, c45, c46, c47, c48, c49, c50, c51, c52, c53, c54, c55, c56, c57, c58, c59, c60, c61, c62, c63, c64, c65, c66, c67, c68, c69, c70, c71, c72, c73, c74, c75, c76, c77, c78, c79, c80, c81, c82, c83, c84, c85, c86, c87, c88, c89, c90, c91, c92, c93, c94, c95, c96, c97, c98, c99, c100, c101, c102, c103, c104, c105, c106, c107, c108, c109, c110, c111, c112, c113, c114, c115, c116, c117, c118, c119, c120, c121, c122, c123, c124, c125, c126, c127, c128, c129, c130, c131, c132, c133, c134, c135, c136, c137, c138, c139, c140, c141, c142, c143, c144, c145, c146, c147, c148, c149, c150, c151, c152, c153, c154, c155, c156, c157, c158, c159, c160, c161, c162, c163, c164, c165, c166, c167, c168, c169, c170, c171, c172, c173, c174, c175, c176, c177, c178, c179, c180, c181, c182, c183, c184, c185, c186, c187, c188, c189, c190, c191, c192, c193, c194, c195, c196, c197, c198, c199, c200, c201, c202, c203, c204, c205, c206, c207, c208, c209, c210, c211, c212, c213, c214, c215, c216, c217, c218, c219, c220, c221, c222, c223, c224, c225, c226, c227, c228, c229, c230, c231, c232, c233, c234, c235, c236, c237, c238, c239, c240, c241, c242, c243, c244], []⟩ wc0 := by
  conv => arg 2; whnf
  have hne : bx ≠ w.heap.size + 1 := by omega
  have hne0 : bx ≠ w.heap.size := by omega
  have HM := Aside0.mk hm3
  clear hm3
  have gx := hX.frz
  have y10 := hX.f10
  have hz5 := hK.bel.size
  have hbw : bx < wc0.heap.size := blk_lt hX.blk
  go_upto_region 25 with fail
  have X1 := hX.setRun j2 ⟨by omega, h21⟩
  have K1 := hX.ks hK (by simp) 10 (.int .i64 j2)
  have b01 : (wc0.setCell ⟨bx, 10, none⟩ (.int .i64 j2)).heap[w.heap.size]? = _ := blk_far hb0 (Ne.symm hne0) _
  have b11 : (wc0.setCell ⟨bx, 10, none⟩ (.int .i64 j2)).heap[w.heap.size + 1]? = _ := blk_far hb1 (Ne.symm hne) _
  have HTS := Aside0.mk hts
  have HNW := Aside0.mk hnow2
  clear gx y10 hX hK hb0 hb1 hz5 hbw hts hnow2
  generalize wc0.setCell ⟨bx, 10, none⟩ (.int .i64 j2) = W1 at X1 K1 b01 b11 ⊢
  have hz1 := blk_lt b11
  obtain ⟨gr, cr, ev1, hcr, hBr, hner, hltr, hfr, ⟨cells, hty⟩, hC1⟩ := X1.row (by show 0 < s2.l.length; omega)
  have x9 : W1.cell? ⟨bx, 9, none⟩ = some (.slice (some ⟨gr, 0, none⟩) s2.l.length cr) := by have := X1.f9; rw [ev1] at this; exact this
  have q0 := row_cells hC1 j2 h20 h21 0 _ rfl
  have q1 := row_cells hC1 j2 h20 h21 1 _ rfl
  have q2 := row_cells hC1 j2 h20 h21 2 _ rfl
  have q3 := row_cells hC1 j2 h20 h21 3 _ rfl
  have q4 := row_cells hC1 j2 h20 h21 4 _ rfl
  have q5 := row_cells hC1 j2 h20 h21 5 _ rfl
  have q6 := row_cells hC1 j2 h20 h21 6 _ rfl
  have q7 := row_cells hC1 j2 h20 h21 7 _ rfl
  have q8 := row_cells hC1 j2 h20 h21 8 _ rfl
  have q9 := row_cells hC1 j2 h20 h21 9 _ rfl
  have q10 := row_cells hC1 j2 h20 h21 10 _ rfl
  have q11 := row_cells hC1 j2 h20 h21 11 _ rfl
  have q12 := row_cells hC1 j2 h20 h21 12 _ rfl
  have q13 := row_cells hC1 j2 h20 h21 13 _ rfl
  rw [Nat.add_zero] at q0
  have m1 : 1 ≤ (rd_T159 s2.l j2).f0 ∧ (rd_T159 s2.l j2).f0 ≤ s2.ts.length ∧ 0 ≤ (rd_T159 s2.l j2).f1 ∧ (rd_T159 s2.l j2).f1 ≤ s2.now := X1.all _ (mem_rd h20 h21)
  have hbx1 : bx < W1.heap.size := blk_lt X1.blk
  have hnb1 : some W1.heap.size ≠ s2.vL.ownBlock := fun e => by obtain ⟨inner, ho⟩ := X1.ownL; have := own_lt ho _ e.symm; omega
  clear hty ev1 hC1
  go_upto_region 26 with fail
  have X2 := Aside0.mk (X1.below (below_alloc (Below.refl _ _) (Obj.cells #[.int .i64 (rd_T159 s2.l j2).f0, .int .i64 (rd_T159 s2.l j2).f1, .int .i64 (rd_T159 s2.l j2).f2, .int .i64 (rd_T159 s2.l j2).f3, .int .i64 (rd_T159 s2.l j2).f4, .int .i64 (rd_T159 s2.l j2).f5, .int .i64 (rd_T159 s2.l j2).f6, .int .i64 (rd_T159 s2.l j2).f7, .int .u64 (rd_T159 s2.l j2).f8, .int .u64 (rd_T159 s2.l j2).f9, .int .u64 (rd_T159 s2.l j2).f10, .int .u64 (rd_T159 s2.l j2).f11, .int .i64 (rd_T159 s2.l j2).f12, .bool (rd_T159 s2.l j2).f13] 159)))
  have K2 := Aside0.mk (K1.alloc X1.szB (Obj.cells #[.int .i64 (rd_T159 s2.l j2).f0, .int .i64 (rd_T159 s2.l j2).f1, .int .i64 (rd_T159 s2.l j2).f2, .int .i64 (rd_T159 s2.l j2).f3, .int .i64 (rd_T159 s2.l j2).f4, .int .i64 (rd_T159 s2.l j2).f5, .int .i64 (rd_T159 s2.l j2).f6, .int .i64 (rd_T159 s2.l j2).f7, .int .u64 (rd_T159 s2.l j2).f8, .int .u64 (rd_T159 s2.l j2).f9, .int .u64 (rd_T159 s2.l j2).f10, .int .u64 (rd_T159 s2.l j2).f11, .int .i64 (rd_T159 s2.l j2).f12, .bool (rd_T159 s2.l j2).f13] 159))
  have b02 := Aside0.mk (blk_alloc b01 (Obj.cells #[.int .i64 (rd_T159 s2.l j2).f0, .int .i64 (rd_T159 s2.l j2).f1, .int .i64 (rd_T159 s2.l j2).f2, .int .i64 (rd_T159 s2.l j2).f3, .int .i64 (rd_T159 s2.l j2).f4, .int .i64 (rd_T159 s2.l j2).f5, .int .i64 (rd_T159 s2.l j2).f6, .int .i64 (rd_T159 s2.l j2).f7, .int .u64 (rd_T159 s2.l j2).f8, .int .u64 (rd_T159 s2.l j2).f9, .int .u64 (rd_T159 s2.l j2).f10, .int .u64 (rd_T159 s2.l j2).f11, .int .i64 (rd_T159 s2.l j2).f12, .bool (rd_T159 s2.l j2).f13] 159))
  have b12 := Aside0.mk (blk_alloc b11 (Obj.cells #[.int .i64 (rd_T159 s2.l j2).f0, .int .i64 (rd_T159 s2.l j2).f1, .int .i64 (rd_T159 s2.l j2).f2, .int .i64 (rd_T159 s2.l j2).f3, .int .i64 (rd_T159 s2.l j2).f4, .int .i64 (rd_T159 s2.l j2).f5, .int .i64 (rd_T159 s2.l j2).f6, .int .i64 (rd_T159 s2.l j2).f7, .int .u64 (rd_T159 s2.l j2).f8, .int .u64 (rd_T159 s2.l j2).f9, .int .u64 (rd_T159 s2.l j2).f10, .int .u64 (rd_T159 s2.l j2).f11, .int .i64 (rd_T159 s2.l j2).f12, .bool (rd_T159 s2.l j2).f13] 159))
  have b82 := blk_new W1 (Obj.cells #[.int .i64 (rd_T159 s2.l j2).f0, .int .i64 (rd_T159 s2.l j2).f1, .int .i64 (rd_T159 s2.l j2).f2, .int .i64 (rd_T159 s2.l j2).f3, .int .i64 (rd_T159 s2.l j2).f4, .int .i64 (rd_T159 s2.l j2).f5, .int .i64 (rd_T159 s2.l j2).f6, .int .i64 (rd_T159 s2.l j2).f7, .int .u64 (rd_T159 s2.l j2).f8, .int .u64 (rd_T159 s2.l j2).f9, .int .u64 (rd_T159 s2.l j2).f10, .int .u64 (rd_T159 s2.l j2).f11, .int .i64 (rd_T159 s2.l j2).f12, .bool (rd_T159 s2.l j2).f13] 159)
  have hzz : W1.heap.size < (W1.alloc (Obj.cells #[.int .i64 (rd_T159 s2.l j2).f0, .int .i64 (rd_T159 s2.l j2).f1, .int .i64 (rd_T159 s2.l j2).f2, .int .i64 (rd_T159 s2.l j2).f3, .int .i64 (rd_T159 s2.l j2).f4, .int .i64 (rd_T159 s2.l j2).f5, .int .i64 (rd_T159 s2.l j2).f6, .int .i64 (rd_T159 s2.l j2).f7, .int .u64 (rd_T159 s2.l j2).f8, .int .u64 (rd_T159 s2.l j2).f9, .int .u64 (rd_T159 s2.l j2).f10, .int .u64 (rd_T159 s2.l j2).f11, .int .i64 (rd_T159 s2.l j2).f12, .bool (rd_T159 s2.l j2).f13] 159)).heap.size := blk_lt b82
  clear x9 q0 q1 q2 q3 q4 q5 q6 q7 q8 q9 q10 q11 q12 q13 hfr hltr hner hcr hBr hbx1 X1 K1 b01 b11
  generalize (W1.alloc (Obj.cells #[.int .i64 (rd_T159 s2.l j2).f0, .int .i64 (rd_T159 s2.l j2).f1, .int .i64 (rd_T159 s2.l j2).f2, .int .i64 (rd_T159 s2.l j2).f3, .int .i64 (rd_T159 s2.l j2).f4, .int .i64 (rd_T159 s2.l j2).f5, .int .i64 (rd_T159 s2.l j2).f6, .int .i64 (rd_T159 s2.l j2).f7, .int .u64 (rd_T159 s2.l j2).f8, .int .u64 (rd_T159 s2.l j2).f9, .int .u64 (rd_T159 s2.l j2).f10, .int .u64 (rd_T159 s2.l j2).f11, .int .i64 (rd_T159 s2.l j2).f12, .bool (rd_T159 s2.l j2).f13] 159)) = W2 at X2 K2 b02 b12 b82 hzz ⊢
  have hb8w : w.heap.size + 1 < W1.heap.size := hz1
  generalize W1.heap.size = b8 at b82 hzz hb8w hnb1 ⊢
  clear hz1
  have y2 := X2.out.f2
  have e80 : W2.cell? ⟨b8, 0, none⟩ = some (.int .i64 (rd_T159 s2.l j2).f0) := (blk_cell b82 0).trans rfl
  have HAT := Aside0.mk (X2.out.at (rd_T159 s2.l j2).f0)
  rw [X2.out.atv _ m1.1 m1.2.1] at HAT
  obtain ⟨adt, A5, c5, A6, c6, et, p0, p1, p2, p3, p4, p5, p6, l5, r5, l6, r6⟩ := at_T90 (X2.out.r.ts W2 (fun _ _ _ => rfl)) ((rd_T159 s2.l j2).f0 - 1) (by omega) (by have := m1.2.1; show _ < (s2.ts.length : Int); omega)
  change s2.AT = some adt at et
  have y2' : W2.cell? ⟨bx, 2, none⟩ = some (.slice (some adt) s2.ts.length s2.cT) := by rw [← et]; exact y2
  clear y2
  have hbx2 : bx < W2.heap.size := blk_lt X2.out.blk
  rw [show ((rd_T159 s2.l j2).f0 - 1).toNat = (rd_T159 s2.l j2).f0.toNat - 1 by omega] at p0 p1 p2 p3 p4 p5 p6
  have hatb := World.block_lt_of_cell? W2 _ p0
  have i0 : 0 ≤ (rd_T159 s2.l j2).f0 - 1 := by omega
  have i1 : (rd_T159 s2.l j2).f0 - 1 < s2.ts.length := by omega
  go_upto_region 26 with fail
  go_cut [9] (fun p9 wx => ∃ b9, p9 = .pointer (some ⟨b9, 0, none⟩) ∧ Below W2.heap.size W2 wx ∧ wx.heap[b9]? = some (.cells #[.int .i64 (rd_T90 s2.ts ((rd_T159 s2.l j2).f0 - 1)).f0, .int .i64 (rd_T90 s2.ts ((rd_T159 s2.l j2).f0 - 1)).f1, .int .i64 (rd_T90 s2.ts ((rd_T159 s2.l j2).f0 - 1)).f2, .int .i64 (rd_T90 s2.ts ((rd_T159 s2.l j2).f0 - 1)).f3, .int .i64 (rd_T90 s2.ts ((rd_T159 s2.l j2).f0 - 1)).f4, .slice A5 (rd_T90 s2.ts ((rd_T159 s2.l j2).f0 - 1)).f5.length c5, .slice A6 (rd_T90 s2.ts ((rd_T159 s2.l j2).f0 - 1)).f6.length c6] 90 (0, 0)) ∧ W2.heap.size ≤ b9)
  case first =>
    go_region_held3 (fun w' => w'.cell? ⟨bx, 2, none⟩ = some (.slice (some adt) s2.ts.length s2.cT) ∧ w'.cell? ⟨b8, 0, none⟩ = some (.int .i64 (rd_T159 s2.l j2).f0) ∧ w'.cell? (adt.add (((rd_T159 s2.l j2).f0.toNat - 1) * 7)) = some (.int .i64 (rd_T90 s2.ts ((rd_T159 s2.l j2).f0 - 1)).f0) ∧ w'.cell? ⟨(adt.add (((rd_T159 s2.l j2).f0.toNat - 1) * 7)).block, (adt.add (((rd_T159 s2.l j2).f0.toNat - 1) * 7)).off + 1, none⟩ = some (.int .i64 (rd_T90 s2.ts ((rd_T159 s2.l j2).f0 - 1)).f1) ∧ w'.cell? ⟨(adt.add (((rd_T159 s2.l j2).f0.toNat - 1) * 7)).block, (adt.add (((rd_T159 s2.l j2).f0.toNat - 1) * 7)).off + 2, none⟩ = some (.int .i64 (rd_T90 s2.ts ((rd_T159 s2.l j2).f0 - 1)).f2) ∧ w'.cell? ⟨(adt.add (((rd_T159 s2.l j2).f0.toNat - 1) * 7)).block, (adt.add (((rd_T159 s2.l j2).f0.toNat - 1) * 7)).off + 3, none⟩ = some (.int .i64 (rd_T90 s2.ts ((rd_T159 s2.l j2).f0 - 1)).f3) ∧ w'.cell? ⟨(adt.add (((rd_T159 s2.l j2).f0.toNat - 1) * 7)).block, (adt.add (((rd_T159 s2.l j2).f0.toNat - 1) * 7)).off + 4, none⟩ = some (.int .i64 (rd_T90 s2.ts ((rd_T159 s2.l j2).f0 - 1)).f4) ∧ w'.cell? ⟨(adt.add (((rd_T159 s2.l j2).f0.toNat - 1) * 7)).block, (adt.add (((rd_T159 s2.l j2).f0.toNat - 1) * 7)).off + 5, none⟩ = some (.slice A5 (rd_T90 s2.ts ((rd_T159 s2.l j2).f0 - 1)).f5.length c5) ∧ w'.cell? ⟨(adt.add (((rd_T159 s2.l j2).f0.toNat - 1) * 7)).block, (adt.add (((rd_T159 s2.l j2).f0.toNat - 1) * 7)).off + 6, none⟩ = some (.slice A6 (rd_T90 s2.ts ((rd_T159 s2.l j2).f0 - 1)).f6.length c6))
      (first | go_keep)
      ((go_at_call 71; refine (HAT.out _ (by repeat (with_reducible first | exact Below.refl _ _ | apply below_alloc | apply pw_below_drewN | apply below_drew1 | apply bset0 | apply bset1 | apply bset2))).mono ?_; rintro e w' ⟨rfl, rfl⟩))
    all_goals (go_wp2_with fail; go_meet; case rel => exact ⟨_, rfl, below_drew1 (below_alloc (Below.refl _ _) _), blk_new W2 _, Nat.le_refl _⟩)
  case rest =>
  obtain ⟨b9, rfl, hBel, hb93, hz9⟩ := hcut
  have hz23 := hBel.size
  have X3 := Aside0.mk (X2.out.below hBel)
  have K3 := Aside0.mk (K2.out.step hBel X2.out.szB)
  have b03 := Aside0.mk (blk_below b02.out hBel)
  have b13 := Aside0.mk (blk_below b12.out hBel)
  have b83 := blk_below b82 hBel
  have r53 := Kd.C_below r5 hBel
  have r63 := Kd.C_below r6 hBel
  clear y2' e80 HAT p0 p1 p2 p3 p4 p5 p6 hatb X2 K2 b02 b12 b82 r5 r6 hbx2 et
  obtain ⟨AC, cC, evC⟩ := own_slice X3.out.r.own
  change s2.vC = .slice AC s2.own.length cC at evC
  have CS : Aside0 (∀ W, Below wc.heap.size wc W → Calls Tryd.prog 74 #[.pointer (some ⟨s2.bc, 0, none⟩), .agg #[.int .i64 (rd_T90 s2.ts ((rd_T159 s2.l j2).f0 - 1)).f0, .int .i64 (rd_T90 s2.ts ((rd_T159 s2.l j2).f0 - 1)).f1, .int .i64 (rd_T90 s2.ts ((rd_T159 s2.l j2).f0 - 1)).f2, .int .i64 (rd_T90 s2.ts ((rd_T159 s2.l j2).f0 - 1)).f3, .int .i64 (rd_T90 s2.ts ((rd_T159 s2.l j2).f0 - 1)).f4, .slice A5 (rd_T90 s2.ts ((rd_T159 s2.l j2).f0 - 1)).f5.length c5, .slice A6 (rd_T90 s2.ts ((rd_T159 s2.l j2).f0 - 1)).f6.length c6], .int .i64 s2.reload, .agg #[.int .i64 (rd_T159 s2.l j2).f4, .int .i64 (rd_T159 s2.l j2).f5, .int .i64 (rd_T159 s2.l j2).f6, .int .i64 (rd_T159 s2.l j2).f7, .int .u64 (rd_T159 s2.l j2).f8, .int .u64 (rd_T159 s2.l j2).f9, .int .u64 (rd_T159 s2.l j2).f10, .int .u64 (rd_T159 s2.l j2).f11]] W (StepP W B s2.vC)) := ⟨fun W hb => by
    rw [evC]
    exact step_any B s2.bc AC cC s2.own (rd_T90 s2.ts ((rd_T159 s2.l j2).f0 - 1)) A5 A6 c5 c6 s2.reload _ _ _ _ _ _ _ _ W (by rw [← evC]; exact blk_below X3.out.r.bc hb) X3.out.r.bcB (by rw [← evC]; exact pw_own_below X3.out.r.own hb) (Kd.C_below r53 hb) l5 (Kd.C_below r63 hb) l6⟩
  clear r53 r63 evC l5 l6
  have X3b := Aside0.mk X3.out.blk
  have B8 := Aside0.mk b83
  have B9 := Aside0.mk hb93
  have HSZ := X3.out.szB
  have sbx : bx < wc.heap.size := blk_lt X3.out.blk
  have sb8 : b8 < wc.heap.size := blk_lt b83
  have sb9 : b9 < wc.heap.size := blk_lt hb93
  have nb1 : bx ≠ wc.heap.size := by omega
  have nb2 : b8 ≠ wc.heap.size := by omega
  have nb3 : b9 ≠ wc.heap.size := by omega
  have nb1' : wc.heap.size ≠ bx := by omega
  have nb2' : wc.heap.size ≠ b8 := by omega
  have nb3' : wc.heap.size ≠ b9 := by omega
  have t0 : wc.cell? ⟨b9, 0, none⟩ = some (.int .i64 (rd_T90 s2.ts ((rd_T159 s2.l j2).f0 - 1)).f0) := (blk_cell hb93 0).trans rfl
  have t1 : wc.cell? ⟨b9, 1, none⟩ = some (.int .i64 (rd_T90 s2.ts ((rd_T159 s2.l j2).f0 - 1)).f1) := (blk_cell hb93 1).trans rfl
  have t2 : wc.cell? ⟨b9, 2, none⟩ = some (.int .i64 (rd_T90 s2.ts ((rd_T159 s2.l j2).f0 - 1)).f2) := (blk_cell hb93 2).trans rfl
  have t3 : wc.cell? ⟨b9, 3, none⟩ = some (.int .i64 (rd_T90 s2.ts ((rd_T159 s2.l j2).f0 - 1)).f3) := (blk_cell hb93 3).trans rfl
  have t4 : wc.cell? ⟨b9, 4, none⟩ = some (.int .i64 (rd_T90 s2.ts ((rd_T159 s2.l j2).f0 - 1)).f4) := (blk_cell hb93 4).trans rfl
  have t5 : wc.cell? ⟨b9, 5, none⟩ = some (.slice A5 (rd_T90 s2.ts ((rd_T159 s2.l j2).f0 - 1)).f5.length c5) := (blk_cell hb93 5).trans rfl
  have t6 : wc.cell? ⟨b9, 6, none⟩ = some (.slice A6 (rd_T90 s2.ts ((rd_T159 s2.l j2).f0 - 1)).f6.length c6) := (blk_cell hb93 6).trans rfl
  have o0 : wc.cell? ⟨b8, 0, none⟩ = some (.int .i64 (rd_T159 s2.l j2).f0) := (blk_cell b83 0).trans rfl
  have o1 : wc.cell? ⟨b8, 1, none⟩ = some (.int .i64 (rd_T159 s2.l j2).f1) := (blk_cell b83 1).trans rfl
  have o2 : wc.cell? ⟨b8, 2, none⟩ = some (.int .i64 (rd_T159 s2.l j2).f2) := (blk_cell b83 2).trans rfl
  have o3 : wc.cell? ⟨b8, 3, none⟩ = some (.int .i64 (rd_T159 s2.l j2).f3) := (blk_cell b83 3).trans rfl
  have o4 : wc.cell? ⟨b8, 4, none⟩ = some (.int .i64 (rd_T159 s2.l j2).f4) := (blk_cell b83 4).trans rfl
  have o5 : wc.cell? ⟨b8, 5, none⟩ = some (.int .i64 (rd_T159 s2.l j2).f5) := (blk_cell b83 5).trans rfl
  have o6 : wc.cell? ⟨b8, 6, none⟩ = some (.int .i64 (rd_T159 s2.l j2).f6) := (blk_cell b83 6).trans rfl
  have o7 : wc.cell? ⟨b8, 7, none⟩ = some (.int .i64 (rd_T159 s2.l j2).f7) := (blk_cell b83 7).trans rfl
  have o8 : wc.cell? ⟨b8, 8, none⟩ = some (.int .u64 (rd_T159 s2.l j2).f8) := (blk_cell b83 8).trans rfl
  have o9 : wc.cell? ⟨b8, 9, none⟩ = some (.int .u64 (rd_T159 s2.l j2).f9) := (blk_cell b83 9).trans rfl
  have o10 : wc.cell? ⟨b8, 10, none⟩ = some (.int .u64 (rd_T159 s2.l j2).f10) := (blk_cell b83 10).trans rfl
  have o11 : wc.cell? ⟨b8, 11, none⟩ = some (.int .u64 (rd_T159 s2.l j2).f11) := (blk_cell b83 11).trans rfl
  have o12 : wc.cell? ⟨b8, 12, none⟩ = some (.int .i64 (rd_T159 s2.l j2).f12) := (blk_cell b83 12).trans rfl
  have o13 : wc.cell? ⟨b8, 13, none⟩ = some (.bool (rd_T159 s2.l j2).f13) := (blk_cell b83 13).trans rfl
  have n1 := X3.out.f1
  have n7 := X3.out.f7
  clear b83 hb93
  go_upto_region 27 with fail
  go_cut [10, 11] (fun p10 vr wx => ∃ (b10 : Nat) (d dm db rl u0 u1 u2 u3 : Int) (r : Bool) (own : List Int), p10 = .pointer (some ⟨b10, 0, none⟩) ∧ vr = .bool r ∧ (r = true → d ≠ dm) ∧ wx.ownsRow B 3 1 s2.vC own.length (nums .i64 own) ∧ KeptT [3] B wc wx ∧ wx.heap[b10]? = some (.cells #[.int .i64 d, .int .i64 dm, .int .i64 db, .int .i64 rl, .int .u64 u0, .int .u64 u1, .int .u64 u2, .int .u64 u3] 155 (0, 0)) ∧ wc.heap.size ≤ b10)
  case first =>
    go_region_held3 (fun w' => w'.cell? ⟨bx, 1, none⟩ = some (.int .i64 s2.reload) ∧ w'.cell? ⟨bx, 7, none⟩ = some (.pointer (some ⟨s2.bc, 0, none⟩)) ∧ w'.cell? ⟨b9, 0, none⟩ = some (.int .i64 (rd_T90 s2.ts ((rd_T159 s2.l j2).f0 - 1)).f0) ∧ w'.cell? ⟨b9, 1, none⟩ = some (.int .i64 (rd_T90 s2.ts ((rd_T159 s2.l j2).f0 - 1)).f1) ∧ w'.cell? ⟨b9, 2, none⟩ = some (.int .i64 (rd_T90 s2.ts ((rd_T159 s2.l j2).f0 - 1)).f2) ∧ w'.cell? ⟨b9, 3, none⟩ = some (.int .i64 (rd_T90 s2.ts ((rd_T159 s2.l j2).f0 - 1)).f3) ∧ w'.cell? ⟨b9, 4, none⟩ = some (.int .i64 (rd_T90 s2.ts ((rd_T159 s2.l j2).f0 - 1)).f4) ∧ w'.cell? ⟨b9, 5, none⟩ = some (.slice A5 (rd_T90 s2.ts ((rd_T159 s2.l j2).f0 - 1)).f5.length c5) ∧ w'.cell? ⟨b9, 6, none⟩ = some (.slice A6 (rd_T90 s2.ts ((rd_T159 s2.l j2).f0 - 1)).f6.length c6) ∧ w'.cell? ⟨b8, 4, none⟩ = some (.int .i64 (rd_T159 s2.l j2).f4) ∧ w'.cell? ⟨b8, 5, none⟩ = some (.int .i64 (rd_T159 s2.l j2).f5) ∧ w'.cell? ⟨b8, 6, none⟩ = some (.int .i64 (rd_T159 s2.l j2).f6) ∧ w'.cell? ⟨b8, 7, none⟩ = some (.int .i64 (rd_T159 s2.l j2).f7) ∧ w'.cell? ⟨b8, 8, none⟩ = some (.int .u64 (rd_T159 s2.l j2).f8) ∧ w'.cell? ⟨b8, 9, none⟩ = some (.int .u64 (rd_T159 s2.l j2).f9) ∧ w'.cell? ⟨b8, 10, none⟩ = some (.int .u64 (rd_T159 s2.l j2).f10) ∧ w'.cell? ⟨b8, 11, none⟩ = some (.int .u64 (rd_T159 s2.l j2).f11))
      (first | go_keep)
      ((go_at_call 74; refine (CS.out _ (by repeat (with_reducible first | exact Below.refl _ _ | apply below_alloc | apply pw_below_drewN | apply below_drew1 | apply bset0 | apply bset1 | apply bset2))).mono ?_; rintro e w4 ⟨d, dm, db, rl, u0, u1, u2, u3, r, own, rfl, hrd, -, hown4, hk4⟩; have HK4 := Aside0.mk hk4; have HO4 := Aside0.mk hown4; have HRD := Aside0.mk hrd; have HK3 : Aside0 (KeptT [3] B wc w4) := ⟨(KeptT.of_below (by repeat (with_reducible first | exact Below.refl _ _ | apply below_alloc | apply pw_below_drewN | apply below_drew1 | apply bset0 | apply bset1 | apply bset2)) HSZ).trans hk4⟩; have hz4 := HK3.out.bel.size; have v1 : w4.cell? ⟨bx, 1, none⟩ = some (.int .i64 s2.reload) := (blk_cell (HK3.out.blk X3b.out (by simp)) 1).trans rfl; have v7 : w4.cell? ⟨bx, 7, none⟩ = some (.pointer (some ⟨s2.bc, 0, none⟩)) := (blk_cell (HK3.out.blk X3b.out (by simp)) 7).trans rfl; have tt0 : w4.cell? ⟨b9, 0, none⟩ = some (.int .i64 (rd_T90 s2.ts ((rd_T159 s2.l j2).f0 - 1)).f0) := (blk_cell (HK3.out.blk B9.out (by simp)) 0).trans rfl; have tt1 : w4.cell? ⟨b9, 1, none⟩ = some (.int .i64 (rd_T90 s2.ts ((rd_T159 s2.l j2).f0 - 1)).f1) := (blk_cell (HK3.out.blk B9.out (by simp)) 1).trans rfl; have tt2 : w4.cell? ⟨b9, 2, none⟩ = some (.int .i64 (rd_T90 s2.ts ((rd_T159 s2.l j2).f0 - 1)).f2) := (blk_cell (HK3.out.blk B9.out (by simp)) 2).trans rfl; have tt3 : w4.cell? ⟨b9, 3, none⟩ = some (.int .i64 (rd_T90 s2.ts ((rd_T159 s2.l j2).f0 - 1)).f3) := (blk_cell (HK3.out.blk B9.out (by simp)) 3).trans rfl; have tt4 : w4.cell? ⟨b9, 4, none⟩ = some (.int .i64 (rd_T90 s2.ts ((rd_T159 s2.l j2).f0 - 1)).f4) := (blk_cell (HK3.out.blk B9.out (by simp)) 4).trans rfl; have tt5 : w4.cell? ⟨b9, 5, none⟩ = some (.slice A5 (rd_T90 s2.ts ((rd_T159 s2.l j2).f0 - 1)).f5.length c5) := (blk_cell (HK3.out.blk B9.out (by simp)) 5).trans rfl; have tt6 : w4.cell? ⟨b9, 6, none⟩ = some (.slice A6 (rd_T90 s2.ts ((rd_T159 s2.l j2).f0 - 1)).f6.length c6) := (blk_cell (HK3.out.blk B9.out (by simp)) 6).trans rfl; have oo4 : w4.cell? ⟨b8, 4, none⟩ = some (.int .i64 (rd_T159 s2.l j2).f4) := (blk_cell (HK3.out.blk B8.out (by simp)) 4).trans rfl; have oo5 : w4.cell? ⟨b8, 5, none⟩ = some (.int .i64 (rd_T159 s2.l j2).f5) := (blk_cell (HK3.out.blk B8.out (by simp)) 5).trans rfl; have oo6 : w4.cell? ⟨b8, 6, none⟩ = some (.int .i64 (rd_T159 s2.l j2).f6) := (blk_cell (HK3.out.blk B8.out (by simp)) 6).trans rfl; have oo7 : w4.cell? ⟨b8, 7, none⟩ = some (.int .i64 (rd_T159 s2.l j2).f7) := (blk_cell (HK3.out.blk B8.out (by simp)) 7).trans rfl; have oo8 : w4.cell? ⟨b8, 8, none⟩ = some (.int .u64 (rd_T159 s2.l j2).f8) := (blk_cell (HK3.out.blk B8.out (by simp)) 8).trans rfl; have oo9 : w4.cell? ⟨b8, 9, none⟩ = some (.int .u64 (rd_T159 s2.l j2).f9) := (blk_cell (HK3.out.blk B8.out (by simp)) 9).trans rfl; have oo10 : w4.cell? ⟨b8, 10, none⟩ = some (.int .u64 (rd_T159 s2.l j2).f10) := (blk_cell (HK3.out.blk B8.out (by simp)) 10).trans rfl; have oo11 : w4.cell? ⟨b8, 11, none⟩ = some (.int .u64 (rd_T159 s2.l j2).f11) := (blk_cell (HK3.out.blk B8.out (by simp)) 11).trans rfl; (try (have zb : w4.heap[wc.heap.size]? = some (.cells #[(.int .i64 0), (.int .i64 0), (.int .i64 0), (.int .i64 0), (.int .u64 0), (.int .u64 0), (.int .u64 0), (.int .u64 0)] 155 (0, 0)) := hk4.blk (blk_new wc _) (by simp); have z0 : w4.cell? ⟨wc.heap.size, 0, none⟩ = some (.int .i64 0) := (blk_cell zb 0).trans rfl; have z1 : w4.cell? ⟨wc.heap.size, 1, none⟩ = some (.int .i64 0) := (blk_cell zb 1).trans rfl; have z2 : w4.cell? ⟨wc.heap.size, 2, none⟩ = some (.int .i64 0) := (blk_cell zb 2).trans rfl; have z3 : w4.cell? ⟨wc.heap.size, 3, none⟩ = some (.int .i64 0) := (blk_cell zb 3).trans rfl; have z4 : w4.cell? ⟨wc.heap.size, 4, none⟩ = some (.int .u64 0) := (blk_cell zb 4).trans rfl; have z5 : w4.cell? ⟨wc.heap.size, 5, none⟩ = some (.int .u64 0) := (blk_cell zb 5).trans rfl; have z6 : w4.cell? ⟨wc.heap.size, 6, none⟩ = some (.int .u64 0) := (blk_cell zb 6).trans rfl; have z7 : w4.cell? ⟨wc.heap.size, 7, none⟩ = some (.int .u64 0) := (blk_cell zb 7).trans rfl; have zf : ∀ j, w4.frozen? ⟨wc.heap.size, j, none⟩ = false := fun j => blk_frozen zb j; have ZB := Aside0.mk zb; clear zb)); clear hk4 hown4 hrd))
    · go_wp2_with fail
      go_meet
      case rel =>
        exact ⟨w4.heap.size, d, dm, db, rl, u0, u1, u2, u3, r, own, rfl, rfl, HRD.out, pw_own_below HO4.out (by repeat (with_reducible first | exact Below.refl _ _ | apply below_alloc | apply pw_below_drewN | apply below_drew1)), HK3.out.step (by repeat (with_reducible first | exact Below.refl _ _ | apply below_alloc | apply pw_below_drewN | apply below_drew1)) (by omega), blk_new w4 _, hz4⟩
    · go_wp2_with fail
      go_meet
      case rel =>
        exact ⟨wc.heap.size, d, dm, db, rl, u0, u1, u2, u3, r, own, rfl, rfl, HRD.out, own_fill8 ZB.out HO4.out _ _ _ _ _ _ _ _, ((((((((HK3.out.loc0 HSZ).loc0 HSZ).loc0 HSZ).loc0 HSZ).loc0 HSZ).loc0 HSZ).loc0 HSZ).loc0 HSZ), fill8 ZB.out, Nat.le_refl _⟩
  case rest =>
  obtain ⟨b10, d, dm, db, rl, u0', u1', u2', u3', r, own', rfl, rfl, hrd, hown, hk3, hb10, hz10⟩ := hcut
  have hz34 := hk3.bel.size
  have X4 := Aside0.mk (X3.out.stepped hk3 hown)
  have K4 := Aside0.mk (K3.out.trans (hk3.wide (by simp)))
  have b04 := hk3.blk b03.out (by simp)
  have b14 := hk3.blk b13.out (by simp)
  have b84 := hk3.blk B8.out (by simp)
  have HRD := Aside0.mk hrd
  have s0b : w.heap.size < b8 := by omega
  clear hk3 hown hrd CS X3b B8 B9 n1 n7 t1 t2 t3 t4 t5 t6 o0 o1 o2 o3 o4 o5 o6 o7 o8 o9 o10 o11 o12 o13 X3 K3 b03 b13 nb1 nb2 nb3 nb1' nb2' nb3'
  have hz5 : b10 < wc.heap.size := blk_lt hb10
  have x81 : bx ≠ b8 := by omega
  have h10 : b8 < b10 := by omega
  repeat' ((fail_if_success (first | (with_reducible refine at_seq1 28 ?_) | (with_reducible refine at_seq2 28 ?_) | (with_reducible refine at_seq3 28 ?_))); first | (go_says fail) | go_values | go_skip | go_guarded | go_step | go_upon | go_back | (simp only [Int.not_lt, Int.not_le] at *; go_simp) | (go_values <;> (try go_simp)) | (go_ite <;> go_prune <;> (try go_simp)) | (split <;> (first | (rename_i hx; exact (hx _ rfl).elim) | go_prune)))
  exact tick_d B bx b8 b10 s _ (rd_T159 s2.l j2) j2 dp d dm db rl u0' u1' u2' u3' r w _ _ _ _ _ _ _ _ _ _ _ _ _ _ _ _ _ _ _ _ _ _ _ _ _ _ _ _ _ _ _ _ _ _ _ _ _ _ _ _ _ _ _ _ _ _ _ _ _ _ _ _ _ _ _ _ _ _ _ _ _ _ _ _ _ _ _ _ _ _ _ _ _ _ _ _ _ _ _ _ _ _ _ _ _ _ _ _ _ _ _ _ _ _ _ _ _ _ _ _ _ _ _ _ _ _ _ _ _ _ _ _ _ _ _ _ _ _ _ _ _ _ _ _ _ _ _ _ _ _ _ _ _ _ _ _ _ _ _ _ _ _ _ _ _ _ _ _ _ _ _ _ _ _ _ _ _ _ _ _ _ _ _ _ _ _ _ _ _ _ _ _ _ _ _ _ _ _ _ _ _ _ _ _ _ _ _ _ _ _ _ _ _ _ _ _ _ _ _ _ _ _ _ _ _ _ _ _ _ _ _ _ _ _ _ _ _ _ _ _ _ _ _ _ _ _ _ _ _ _ _ _ _ _ _ _ _ _ _ hX0 hbx hnow0 hnow X4.out K4.out b04 b14 b84 hb10 hb8w h10 hnb1 h20 h21 rfl HTS.out HNW.out hll hl HM.out hm (by rw [← HTS.out, ← HNW.out]; exact m1) HRD.out ⟨hd0, hd1⟩
end Go.Proofs.YtbldolbeijpipaaDoor
