/-
  Part of the proof in YtifpinhjpbgnoaaDoorBoRowAe.
-/
import Derived.Test.YtifpinhjpbgnoaaDoorBo4
import Derived.Test.YtifpinhjpbgnoaaDoorBo1
namespace Go.Proofs.YtifpinhjpbgnoaaDoor
open Go Go.Sh
set_option maxRecDepth 100000
set_option maxHeartbeats 4000000
set_option linter.unusedSimpArgs false
set_option linter.unusedVariables false
section
variable {w0 w w' : World} {Y Y' : Lay} {D D' : DS} {S b o cp l0 n k : Nat} {f f' : Nat → Int × Int × Bool}
theorem k_ReleaseNo (h : ArS w0 w Y D S b o cp l0 n f) {x : Int} (hx : ∀ k, k < n → x ≠ ((l0 + 32 * k : Nat) : Int)) (K : K1) (hK : ∀ w', Ext w w' → K (.int .i64 5) w') :
    callS Tryd.prog 18 #[stV S, .int .i64 x] w K := by
  refine f18_call _ _ _ _ ?_
  unfold f18_t
  simp (disch := first | omega | simp only [RO] | (simp only [RZ] <;> omega) | fail) only [↓RBp, ↓RA, ↓reduceIte, Nat.reduceAdd, Nat.reduceMul, Nat.reduceEqDiff, RB, RX, RA2]
  refine k_findNo h hx _ (fun w1 e1 => ?_)
  simp (disch := first | omega | simp only [RO] | (simp only [RZ] <;> omega) | fail) only [↓RBp, ↓RA, ↓reduceIte, Nat.reduceAdd, Nat.reduceMul, Nat.reduceEqDiff, RB, RX, RA2]
  exact hK _ e1
theorem k_ReleaseErr (h : ArS w0 w Y D S b o cp l0 n f) (hk : k < n) (he : D.err 0 ≠ 0) (K : K1) (hK : ∀ w', Ext w w' → K (.int .i64 (D.err 0)) w') :
    callS Tryd.prog 18 #[stV S, .int .i64 ((l0 + 32 * k : Nat) : Int)] w K := by
  have her := h.er
  have hs := fun (w1 : World) (e : Ext w w1) => (h.ext e).c0
  generalize D.err 0 = e at *
  refine f18_call _ _ _ _ ?_
  unfold f18_t
  simp (disch := first | omega | simp only [RO] | (simp only [RZ] <;> omega) | fail) only [↓RBp, ↓RA, ↓reduceIte, Nat.reduceAdd, Nat.reduceMul, Nat.reduceEqDiff, RB, RX, RA2]
  refine k_findAt h hk _ (fun w1 e1 => ?_)
  have s0 := hs w1 e1
  simp (disch := first | omega | simp only [RO] | (simp only [RZ] <;> omega) | (with_reducible (repeat (first | assumption | exact Ext.refl _ | refine Ext.alloc ?_ _ | refine Ext.drew ?_ | refine Ext.trans ?_ (by assumption)))) | fail) only [↓RBp, ↓RA, ↓reduceIte, Nat.reduceAdd, Nat.reduceMul, Nat.reduceEqDiff, RB, RX, RA2, s0, her, he]
  exact hK _ e1
theorem k_HoldNo (h : ArS w0 w Y D S b o cp l0 n f) {x : Int} (hx : ∀ k, k < n → x ≠ ((l0 + 32 * k : Nat) : Int)) (on : Bool) (K : K1) (hK : ∀ w', Ext w w' → K (.int .i64 5) w') :
    callS Tryd.prog 19 #[stV S, .int .i64 x, .bool on] w K := by
  refine f19_call _ _ _ _ _ ?_
  unfold f19_t
  simp (disch := first | omega | simp only [RO] | (simp only [RZ] <;> omega) | fail) only [↓RBp, ↓RA, ↓reduceIte, Nat.reduceAdd, Nat.reduceMul, Nat.reduceEqDiff, RB, RX, RA2]
  refine k_findNo h hx _ (fun w1 e1 => ?_)
  simp (disch := first | omega | simp only [RO] | (simp only [RZ] <;> omega) | fail) only [↓RBp, ↓RA, ↓reduceIte, Nat.reduceAdd, Nat.reduceMul, Nat.reduceEqDiff, RB, RX, RA2]
  exact hK _ e1
theorem c_findZ (x : Int) (w : World) (K : K1) : callS Tryd.prog 37 #[.pointer none, .int .i64 x] w K = K (.pointer none) w := by
  refine callS_det (by kernel_rfl) (f37_call _ _ _ _ ?_) K
  unfold f37_t
  simp (disch := first | omega | simp only [RO] | (simp only [RZ] <;> omega) | fail) only [↓RBp, ↓RA, ↓reduceIte, Nat.reduceAdd, Nat.reduceMul, Nat.reduceEqDiff, RB, RX, RA2]
theorem c_ReleaseZ (x : Int) (w : World) (K : K1) : callS Tryd.prog 18 #[.pointer none, .int .i64 x] w K = K (.int .i64 5) w := by
  refine callS_det (by kernel_rfl) (f18_call _ _ _ _ ?_) K
  unfold f18_t
  simp (disch := first | omega | simp only [RO] | (simp only [RZ] <;> omega) | fail) only [↓RBp, ↓RA, ↓reduceIte, Nat.reduceAdd, Nat.reduceMul, Nat.reduceEqDiff, RB, RX, RA2, c_findZ]
theorem c_HoldZ (x : Int) (on : Bool) (w : World) (K : K1) : callS Tryd.prog 19 #[.pointer none, .int .i64 x, .bool on] w K = K (.int .i64 5) w := by
  refine callS_det (by kernel_rfl) (f19_call _ _ _ _ _ ?_) K
  unfold f19_t
  simp (disch := first | omega | simp only [RO] | (simp only [RZ] <;> omega) | fail) only [↓RBp, ↓RA, ↓reduceIte, Nat.reduceAdd, Nat.reduceMul, Nat.reduceEqDiff, RB, RX, RA2, c_findZ]
theorem c_OwnerSZ (x : Int) (w : World) (K : K1) : callS Tryd.prog 21 #[.pointer none, .int .i64 x] w K = K (.int .i64 (-1)) w := by
  refine callS_det (by kernel_rfl) (f21_call _ _ _ _ ?_) K
  unfold f21_t
  simp (disch := first | omega | simp only [RO] | (simp only [RZ] <;> omega) | fail) only [↓RBp, ↓RA, ↓reduceIte, Nat.reduceAdd, Nat.reduceMul, Nat.reduceEqDiff, RB, RX, RA2, c_findZ]
theorem c_LinesSZ (w : World) (K : K1) : callS Tryd.prog 13 #[.pointer none] w K = K (.slice none 0 0) w := by
  refine callS_det (by kernel_rfl) (f13_call _ _ _ ?_) K
  unfold f13_t
  simp (disch := first | omega | simp only [RO] | (simp only [RZ] <;> omega) | fail) only [↓RBp, ↓RA, ↓reduceIte, Nat.reduceAdd, Nat.reduceMul, Nat.reduceEqDiff, RB, RX, RA2]
theorem c_ChunksZ (t c : Int) (w : World) (K : K1) : callS Tryd.prog 20 #[.pointer none, .int .i64 t, .int .i64 c] w K = K (.slice none 0 0) w := by
  refine callS_det (by kernel_rfl) (f20_call _ _ _ _ _ ?_) K
  unfold f20_t
  simp (disch := first | omega | simp only [RO] | (simp only [RZ] <;> omega) | fail) only [↓RBp, ↓RA, ↓reduceIte, Nat.reduceAdd, Nat.reduceMul, Nat.reduceEqDiff, RB, RX, RA2]
theorem c_FreeChunksZ (w : World) (K : K1) : callS Tryd.prog 12 #[.pointer none] w K = K (.int .i64 0) w := by
  refine callS_det (by kernel_rfl) (f12_call _ _ _ ?_) K
  unfold f12_t
  simp (disch := first | omega | simp only [RO] | (simp only [RZ] <;> omega) | fail) only [↓RBp, ↓RA, ↓reduceIte, Nat.reduceAdd, Nat.reduceMul, Nat.reduceEqDiff, RB, RX, RA2]
theorem c_ClaimZ (t c : Int) (w : World) (K : K1) : callS Tryd.prog 17 #[.pointer none, .int .i64 t, .int .i64 c] w K = K (.tuple #[.int .i64 0, .int .i64 5]) w := by
  refine callS_det (by kernel_rfl) (f17_call _ _ _ _ _ ?_) K
  unfold f17_t
  simp (disch := first | omega | simp only [RO] | (simp only [RZ] <;> omega) | fail) only [↓RBp, ↓RA, ↓reduceIte, Nat.reduceAdd, Nat.reduceMul, Nat.reduceEqDiff, RB, RX, RA2]
end
end Go.Proofs.YtifpinhjpbgnoaaDoor
namespace Go.Proofs.YtifpinhjpbgnoaaDoor
open Go Go.Sh
set_option maxRecDepth 100000
set_option linter.unusedVariables false
noncomputable def f4_u : Code × Dec := ((Tryd.f4.body).getD .skip, (.s .o (.s .o (.s .o (.s .o (.s .o (.s .o (.s .o (.s .o (.s .o (.s .o (.s .o (.s .o (.s .o (.x 213760 .o .o)))))))))))))))
abbrev f4_e (K : K1) : KF := endK Tryd.prog Tryd.f4.results.toList K
def f4_k1_o (K : K1) : KF := fun fr w => ∀ σ, cP (pr (pr (pr (pr (pr (pr (pr (pr (pr (pr (pr (pr (pr (pr f4_u)))))))))))))) (f4_e K) (f4_e K) nX (mixF 213760 σ 0 fr) w
def f4_k1 (K : K1) (x8 x9 x14 x16 x17 : Value) (w : World) : Prop := f4_k1_o K (fz 146 0 [(8, x8), (9, x9), (14, x14), (16, x16), (17, x17)]) w
def f4_k1_t (x8 x9 x14 x16 x17 : Value) (K : K1) (w : World) : Prop :=
 ev Tryd.prog (binM .eql 25 (.tmp 124) (.tmp 125) x14 x17) w fun t126 w_1 =>
 gd t126 true (fun k => k x16 w_1) w_1 fun t128 w_2 =>
 gd t126 true (fun k => ev Tryd.prog (binM .eql 25 (.tmp 128) (.const (.int .i64 3)) t128 (.int .i64 3)) w_2 k) w_2 fun t129 w_3 =>
 pickS t126 t129 (.bool false) w_3 fun t130 w_4 =>
 gd t130 true (fun k => k x8 w_4) w_4 fun t132 w_5 =>
 gd t130 true (fun k => ev Tryd.prog (Instr.makeInterface 28 t132) w_5 k) w_5 fun t133 w_6 =>
 gd t130 true (fun k => callS Tryd.prog 10 (pA #[t133, (.int .i64 3), (.int .i64 64)]) w_6 k) w_6 fun t134 w_7 =>
 gd t130 true (fun k => ev Tryd.prog (binM .eql 25 (.tmp 134) (.const (.int .i64 3)) t134 (.int .i64 3)) w_7 k) w_7 fun t135 w_8 =>
 pickS t130 t135 (.bool false) w_8 fun t136 w_9 =>
 gd t136 true (fun k => k x9 w_9) w_9 fun t138 w_10 =>
 gd t136 true (fun k => callS Tryd.prog 18 (pA #[t138, (.int .i64 3)]) w_10 k) w_10 fun t139 w_11 =>
 gd t136 true (fun k => ev Tryd.prog (binM .eql 25 (.tmp 139) (.const (.int .i64 3)) t139 (.int .i64 3)) w_11 k) w_11 fun t140 w_12 =>
 pickS t136 t140 (.bool false) w_12 fun t141 w_13 =>
 gd t141 true (fun k => callS Tryd.prog 10 (pA #[.nilIface, (.int .i64 3), (.int .i64 64)]) w_13 k) w_13 fun t143 w_14 =>
 gd t141 true (fun k => ev Tryd.prog (binM .eql 25 (.tmp 143) (.const (.int .i64 1)) t143 (.int .i64 1)) w_14 k) w_14 fun t144 w_15 =>
 pickS t141 t144 (.bool false) w_15 fun t145 w_16 =>
 K t145 w_16
theorem f4_k1_eq (K : K1) (x8 x9 x14 x16 x17 : Value) (w : World) : f4_k1 K x8 x9 x14 x16 x17 w = f4_k1_t x8 x9 x14 x16 x17 K w := cutE fun σ => by kernel_rfl
def f4_t (x0 x1 x2 : Value) (K : K1) (w : World) : Prop :=
 callS Tryd.prog 5 (pA #[]) w fun t18 w_1 =>
 ev Tryd.prog (Op.unary .not t18) w_1 fun t19 w_2 =>
 cndS t19 (
 K (.bool false) w_2) (
 callS Tryd.prog 16 (pA #[(.int .i64 2)]) w_2 fun t21 w_3 =>
 ev Tryd.prog (Instr.extract t21 0) w_3 fun t22 w_4 =>
 ev Tryd.prog (Instr.extract t21 1) w_4 fun t23 w_5 =>
 ev Tryd.prog (Instr.extract t21 2) w_5 fun t24 w_6 =>
 ev Tryd.prog (binM .eql 34 (.tmp 25) (.const (.pointer none)) t24 (.pointer none)) w_6 fun t26 w_7 =>
 cndS t26 (
 K (.bool false) w_7) (
 callS Tryd.prog 17 (pA #[(.pointer none), x1, x2]) w_7 fun t31 w_8 =>
 ev Tryd.prog (Instr.extract t31 0) w_8 fun t32 w_9 =>
 ev Tryd.prog (Instr.extract t31 1) w_9 fun t33 w_10 =>
 ev Tryd.prog (binM .neq 25 (.tmp 34) (.const (.int .i64 5)) t33 (.int .i64 5)) w_10 fun t35 w_11 =>
 gd t35 false (fun k => k (.pointer none) w_11) w_11 fun t37 w_12 =>
 gd t35 false (fun k => k x0 w_12) w_12 fun t38 w_13 =>
 gd t35 false (fun k => callS Tryd.prog 18 (pA #[t37, t38]) w_13 k) w_13 fun t39 w_14 =>
 gd t35 false (fun k => ev Tryd.prog (binM .neq 25 (.tmp 39) (.const (.int .i64 5)) t39 (.int .i64 5)) w_14 k) w_14 fun t40 w_15 =>
 pickS t35 (.bool true) t40 w_15 fun t41 w_16 =>
 gd t41 false (fun k => k (.pointer none) w_16) w_16 fun t43 w_17 =>
 gd t41 false (fun k => k x0 w_17) w_17 fun t44 w_18 =>
 gd t41 false (fun k => callS Tryd.prog 19 (pA #[t43, t44, (.bool true)]) w_18 k) w_18 fun t45 w_19 =>
 gd t41 false (fun k => ev Tryd.prog (binM .neq 25 (.tmp 45) (.const (.int .i64 5)) t45 (.int .i64 5)) w_19 k) w_19 fun t46 w_20 =>
 pickS t41 (.bool true) t46 w_20 fun t47 w_21 =>
 gd t47 false (fun k => k (.pointer none) w_21) w_21 fun t49 w_22 =>
 gd t47 false (fun k => callS Tryd.prog 13 (pA #[t49]) w_22 k) w_22 fun t50 w_23 =>
 gd t47 false (fun k => bltS Tryd.prog .len #[38] 3 #[false] #[t50] w_23 k) w_23 fun t51 w_24 =>
 gd t47 false (fun k => k (.pointer none) w_24) w_24 fun t52 w_25 =>
 gd t47 false (fun k => k x1 w_25) w_25 fun t53 w_26 =>
 gd t47 false (fun k => k x2 w_26) w_26 fun t54 w_27 =>
 gd t47 false (fun k => callS Tryd.prog 20 (pA #[t52, t53, t54]) w_27 k) w_27 fun t55 w_28 =>
 gd t47 false (fun k => bltS Tryd.prog .len #[38] 3 #[false] #[t55] w_28 k) w_28 fun t56 w_29 =>
 gd t47 false (fun k => ev Tryd.prog (binM .add 3 (.tmp 51) (.tmp 56) t51 t56) w_29 k) w_29 fun t57 w_30 =>
 gd t47 false (fun k => k (.pointer none) w_30) w_30 fun t58 w_31 =>
 gd t47 false (fun k => callS Tryd.prog 12 (pA #[t58]) w_31 k) w_31 fun t59 w_32 =>
 gd t47 false (fun k => ev Tryd.prog (binM .add 3 (.tmp 57) (.tmp 59) t57 t59) w_32 k) w_32 fun t60 w_33 =>
 gd t47 false (fun k => ev Tryd.prog (binM .neq 3 (.tmp 60) (.const (.int .i64 0)) t60 (.int .i64 0)) w_33 k) w_33 fun t61 w_34 =>
 pickS t47 (.bool true) t61 w_34 fun t62 w_35 =>
 gd t62 false (fun k => k (.pointer none) w_35) w_35 fun t64 w_36 =>
 gd t62 false (fun k => k x0 w_36) w_36 fun t65 w_37 =>
 gd t62 false (fun k => callS Tryd.prog 21 (pA #[t64, t65]) w_37 k) w_37 fun t66 w_38 =>
 gd t62 false (fun k => ev Tryd.prog (binM .neq 3 (.tmp 66) (.const (.int .i64 (-1))) t66 (.int .i64 (-1))) w_38 k) w_38 fun t67 w_39 =>
 pickS t62 (.bool true) t67 w_39 fun t68 w_40 =>
 cndS t68 (
 K (.bool false) w_40) (
 ev Tryd.prog (binM .neq 3 (.tmp 69) (.const (.int .i64 3)) x0 (.int .i64 3)) w_40 fun t70 w_41 =>
 gd t70 true (fun k => k x0 w_41) w_41 fun t72 w_42 =>
 gd t70 true (fun k => ev Tryd.prog (binM .neq 3 (.tmp 72) (.const (.int .i64 35)) t72 (.int .i64 35)) w_42 k) w_42 fun t73 w_43 =>
 pickS t70 t73 (.bool false) w_43 fun t74 w_44 =>
 gd t74 true (fun k => k t24 w_44) w_44 fun t76 w_45 =>
 gd t74 true (fun k => k x0 w_45) w_45 fun t77 w_46 =>
 gd t74 true (fun k => callS Tryd.prog 18 (pA #[t76, t77]) w_46 k) w_46 fun t78 w_47 =>
 gd t74 true (fun k => ev Tryd.prog (binM .neq 25 (.tmp 78) (.const (.int .i64 5)) t78 (.int .i64 5)) w_47 k) w_47 fun t79 w_48 =>
 gd t74 true (fun k => k t79 w_48) w_48 fun t80 w_49 =>
 gd t80 false (fun k => k t24 w_49) w_49 fun t81 w_50 =>
 gd t80 false (fun k => k x0 w_50) w_50 fun t82 w_51 =>
 gd t80 false (fun k => callS Tryd.prog 19 (pA #[t81, t82, (.bool true)]) w_51 k) w_51 fun t83 w_52 =>
 gd t80 false (fun k => ev Tryd.prog (binM .neq 25 (.tmp 83) (.const (.int .i64 5)) t83 (.int .i64 5)) w_52 k) w_52 fun t84 w_53 =>
 gd t74 true (fun k => pickS t80 (.bool true) t84 w_53 k) w_53 fun t85 w_54 =>
 gd t74 true (fun k => k t85 w_54) w_54 fun t86 w_55 =>
 gd t86 false (fun k => k t24 w_55) w_55 fun t87 w_56 =>
 gd t86 false (fun k => k x0 w_56) w_56 fun t88 w_57 =>
 gd t86 false (fun k => callS Tryd.prog 21 (pA #[t87, t88]) w_57 k) w_57 fun t89 w_58 =>
 gd t86 false (fun k => ev Tryd.prog (binM .neq 3 (.tmp 89) (.const (.int .i64 (-1))) t89 (.int .i64 (-1))) w_58 k) w_58 fun t90 w_59 =>
 gd t74 true (fun k => pickS t86 (.bool true) t90 w_59 k) w_59 fun t91 w_60 =>
 pickS t74 t91 (.bool false) w_60 fun t92 w_61 =>
 cndS t92 (
 K (.bool false) w_61) (
 callS Tryd.prog 22 (pA #[t22, (.int .i64 0)]) w_61 fun t94 w_62 =>
 callS Tryd.prog 23 (pA #[t23]) w_62 fun t96 w_63 =>
 callS Tryd.prog 17 (pA #[t24, x1, x2]) w_63 fun t101 w_64 =>
 ev Tryd.prog (Instr.extract t101 0) w_64 fun t102 w_65 =>
 ev Tryd.prog (Instr.extract t101 1) w_65 fun t103 w_66 =>
 ev Tryd.prog (Instr.makeInterface 28 t23) w_66 fun t106 w_67 =>
 callS Tryd.prog 11 (pA #[t106, (.int .i64 3), (.int .i64 64)]) w_67 fun t107 w_68 =>
 ev Tryd.prog (Instr.extract t107 0) w_68 fun t108 w_69 =>
 ev Tryd.prog (Instr.extract t107 1) w_69 fun t109 w_70 =>
 ev Tryd.prog (binM .lss 3 (.tmp 110) (.const (.int .i64 0)) x1 (.int .i64 0)) w_70 fun t111 w_71 =>
 gd t111 false (fun k => k x1 w_71) w_71 fun t113 w_72 =>
 gd t111 false (fun k => ev Tryd.prog (binM .gtr 3 (.tmp 113) (.const (.int .i64 7)) t113 (.int .i64 7)) w_72 k) w_72 fun t114 w_73 =>
 pickS t111 (.bool true) t114 w_73 fun t115 w_74 =>
 gd t115 false (fun k => k x2 w_74) w_74 fun t117 w_75 =>
 gd t115 false (fun k => ev Tryd.prog (binM .lss 3 (.tmp 117) (.const (.int .i64 0)) t117 (.int .i64 0)) w_75 k) w_75 fun t118 w_76 =>
 pickS t115 (.bool true) t118 w_76 fun t119 w_77 =>
 gd t119 false (fun k => k x2 w_77) w_77 fun t121 w_78 =>
 gd t119 false (fun k => ev Tryd.prog (binM .gtr 3 (.tmp 121) (.const (.int .i64 4)) t121 (.int .i64 4)) w_78 k) w_78 fun t122 w_79 =>
 pickS t119 (.bool true) t122 w_79 fun t123 w_80 =>
 cndS t123 (
 f4_k1 K t23 t24 t103 t109 (.int .i64 1) w_80) (
 f4_k1 K t23 t24 t103 t109 (.int .i64 3) w_80)))))
theorem f4_call (x0 x1 x2 : Value) (K : K1) (w : World) (h : f4_t x0 x1 x2 K w) : callS Tryd.prog 4 #[x0, x1, x2] w K :=
  call_of_txt (args := [x0, x1, x2]) mixed Tryd.func4 f4_u.2 (by kernel_rfl) (cast (by kernel_rfl) h)
end Go.Proofs.YtifpinhjpbgnoaaDoor
namespace Go.Proofs.YtifpinhjpbgnoaaDoor
open Go Go.Sh
set_option maxRecDepth 100000
set_option maxHeartbeats 4000000
set_option linter.unusedSimpArgs false
set_option linter.unusedVariables false
theorem off_fence {D : DS} (on : On D) (gd : Good D) : ((D.arm 0).fence 0).err 0 = 3 ∧ Good ((D.arm 0).fence 0) ∧ ((D.arm 0).fence 0).n = D.n := by
  have ha : D.arm 0 = { D with armed := true, left := 0 } := by
    unfold DS.arm
    rw [if_neg (by simp [on.off])]; rfl
  have g1 : Good (D.arm 0) := arm_good gd 0 (by omega)
  have g2 := Good.run 0 (by omega) [⟨3, 0, 0⟩] _ g1 (fun i hi => by
    simp only [List.mem_singleton] at hi; subst hi; exact ⟨by decide, by decide⟩)
  have e2 : (D.arm 0).run 0 [⟨3, 0, 0⟩] = (D.arm 0).fence 0 := rfl
  rw [e2] at g2
  have n2 : ((D.arm 0).run 0 [⟨3, 0, 0⟩]).n = (D.arm 0).n := run_n 0 _ _
  rw [e2] at n2
  refine ⟨?_, g2, n2.trans (by rw [ha])⟩
  rw [ha]
  have hc : ({ D with armed := true, left := 0 } : DS).counted 0 true = ({ D with armed := true, left := 0, off := true } : DS).fail 0 3 := by
    unfold DS.counted
    rw [if_neg (by simp [on.off]), if_neg (by simp), if_pos rfl, if_pos rfl]
  unfold DS.fence
  have hr : ({ D with armed := true, left := 0 } : DS).runs true = false := by unfold DS.runs; simp
  rw [hr, hc, if_neg (by simp)]
  unfold DS.fail
  rw [if_pos on.err]
  simp
theorem c_FormatNil (w : World) (K : K1) : callS Tryd.prog 10 #[.nilIface, .int .i64 3, .int .i64 64] w K = K (.int .i64 1) w := by
  have hv : ∀ (w : World) (K : K1), callS Tryd.prog 29 #[.nilIface, .int .i64 3, .int .i64 64] w K = K (.bool false) w := fun w K => by
    refine callS_det (by kernel_rfl) (f29_call _ _ _ _ _ ?_) K
    unfold f29_t
    simp (disch := first | omega | simp only [RO] | (simp only [RZ] <;> omega) | fail) only [↓RBp, ↓RA, ↓reduceIte, Nat.reduceAdd, Nat.reduceMul, Nat.reduceEqDiff, RB, RX, RA2]
  refine callS_det (by kernel_rfl) (f10_call _ _ _ _ _ ?_) K
  unfold f10_t
  simp (disch := first | omega | simp only [RO] | (simp only [RZ] <;> omega) | fail) only [↓RBp, ↓RA, ↓reduceIte, Nat.reduceAdd, Nat.reduceMul, Nat.reduceEqDiff, RB, RX, RA2, hv]
section
variable {w : World}
theorem law_errs (hG : Glob w) (line t c : Int) (h1 : -9223372036854775808 ≤ line) (h2 : line < 9223372036854775808) (K : K1) (hK : ∀ w', Ext w w' → K (.bool true) w') :
    callS Tryd.prog 4 #[.int .i64 line, .int .i64 t, .int .i64 c] w K := by
  obtain ⟨hb, hbn, hbx, hbw⟩ := bg_ok (n := 2) (by omega) (by omega)
  obtain ⟨hE, hg2, hn2⟩ := off_fence hb.on hb.gd
  refine f4_call _ _ _ _ _ ?_
  unfold f4_t
  refine k_awake22 hG _ (fun w1 e1 => ?_)
  simp (disch := first | omega | simp only [RO] | (simp only [RZ] <;> omega) | fail) only [↓RBp, ↓RA, ↓reduceIte, Nat.reduceAdd, Nat.reduceMul, Nat.reduceEqDiff, RB, RX, RA2]
  refine k_begin22 (n := 2) (hG.ext e1) (by omega) (by omega) _ (fun w2 Y S b o cp hS => ?_)
  have e02 : Ext w w2 := e1.trans hS.L.ex
  by_cases hl : line = 3 ∨ line = 35
  · have e3 : Ext w2 w2 := Ext.refl _
    rcases hl with rfl | rfl
    · simp (disch := first | omega | simp only [RO] | (simp only [RZ] <;> omega) | fail) only [↓RBp, ↓RA, ↓reduceIte, Nat.reduceAdd, Nat.reduceMul, Nat.reduceEqDiff, RB, RX, RA2, c_ClaimZ, c_ReleaseZ, c_HoldZ, c_LinesSZ, c_ChunksZ, c_FreeChunksZ, c_OwnerSZ]
      refine k_Arm (hS.L.dv.ext e3) 0 _ (fun w4 st4 => ?_)
      have g1 : Good ((bgD 2).arm 0) := arm_good hb.gd 0 (by omega)
      have hx1 : ((bgD 2).arm 0).exe < 1099511627775 := by have := (arm_co (bgD 2) 0 hb.on.off).2.2.2.2; show ((bgD 2).arm ((0 : Nat) : Int)).exe < _; omega
      simp (disch := first | omega | simp only [RO] | (simp only [RZ] <;> omega) | fail) only [↓RBp, ↓RA, ↓reduceIte, Nat.reduceAdd, Nat.reduceMul, Nat.reduceEqDiff, RB, RX, RA2]
      refine k_Fence st4.dv g1 0 (by omega) hx1 _ (fun w5 Y5 st5 => ?_)
      have st : Stp w2 Y w5 Y5 (((bgD 2).arm 0).fence 0) := Stp.pre e3 (fun x hx => hS.L.dv.lt hx) (st4.trans st5)
      have h5 := hS.step st hg2 hn2
      have tb : Y5.tb 0 = Y.tb 0 := by rw [st.tb]
      have e05 : Ext w w5 := e1.trans h5.L.ex
      have hne : (((bgD 2).arm 0).fence 0).err 0 ≠ 0 := by rw [hE]; decide
      have hvl : vldB (((bgD 2).arm 0).fence 0).n 3 64 = true := by rw [hn2, hbn]; decide
      rw [← tb]
      generalize hD : ((bgD 2).arm 0).fence 0 = D at *
      have hop := fun (w6 : World) (e : Ext w5 w6) (K : K1) hK => k_AOpenErr (h5.L.dv.ext e) hg2 3 64 (by omega) (by omega) (by omega) (by omega) hvl hne K hK
      have hfo := fun (w6 : World) (e : Ext w5 w6) (K : K1) hK => k_AFormatErr (h5.L.dv.ext e) hg2 3 64 (by omega) (by omega) (by omega) (by omega) hvl hne K hK
      have hre := fun (w6 : World) (e : Ext w5 w6) (K : K1) hK => k_ReleaseErr (k := 0) (h5.ext e) (by omega) hne K hK
      have hcl := fun (K : K1) (ht : 0 ≤ t ∧ t < 8 ∧ 0 ≤ c ∧ c < 5) hK => k_ClaimErr h5 ht.1 ht.2.1 ht.2.2.1 ht.2.2.2 hne K hK
      obtain ⟨qq, hqq⟩ : ∃ qq, D.err 0 = qq := ⟨_, rfl⟩
      rw [hqq] at hop hfo hre hcl hE
      have hqd := decide_eq_true hE
      unfold thV at hop hfo
      have fin2 : ∀ (w6 : World) (q r : Int), q = r → Ext w5 w6 → f4_k1 K (.pointer (some ⟨Y5.tb 0, 0, none⟩)) (stV S) (.int .i64 q) (.int .i64 qq) (.int .i64 r) w6 := by
        intro w6 q r hqr e6
        rw [f4_k1_eq]
        unfold f4_k1_t
        have hqr := decide_eq_true hqr
        simp (disch := first | omega | simp only [RO] | (simp only [RZ] <;> omega) | fail) only [↓RBp, ↓RA, ↓reduceIte, Nat.reduceAdd, Nat.reduceMul, Nat.reduceEqDiff, RB, RX, RA2, hqr, hqd]
        refine hfo _ (e6.trans (by repeat (first | (with_reducible first | refine Sh.eB ?_ (by first | omega | (simp only [RZ] <;> omega)) _ | assumption | exact Sh.eR _ | refine Sh.eA ?_ _ | refine Sh.eD ?_ | refine Sh.eT ?_ (by assumption)) | exact Sh.eR _))) _ (fun w7 e7 => ?_)
        have e57 := e6.trans (Ext.trans (by repeat (first | (with_reducible first | refine Sh.eB ?_ (by first | omega | (simp only [RZ] <;> omega)) _ | assumption | exact Sh.eR _ | refine Sh.eA ?_ _ | refine Sh.eD ?_ | refine Sh.eT ?_ (by assumption)) | exact Sh.eR _)) e7)
        simp (disch := first | omega | simp only [RO] | (simp only [RZ] <;> omega) | fail) only [↓RBp, ↓RA, ↓reduceIte, Nat.reduceAdd, Nat.reduceMul, Nat.reduceEqDiff, RB, RX, RA2, hqr, hqd]
        refine hre _ (e57.trans (by repeat (first | (with_reducible first | refine Sh.eB ?_ (by first | omega | (simp only [RZ] <;> omega)) _ | assumption | exact Sh.eR _ | refine Sh.eA ?_ _ | refine Sh.eD ?_ | refine Sh.eT ?_ (by assumption)) | exact Sh.eR _))) _ (fun w8 e8 => ?_)
        have e58 := e57.trans (Ext.trans (by repeat (first | (with_reducible first | refine Sh.eB ?_ (by first | omega | (simp only [RZ] <;> omega)) _ | assumption | exact Sh.eR _ | refine Sh.eA ?_ _ | refine Sh.eD ?_ | refine Sh.eT ?_ (by assumption)) | exact Sh.eR _)) e8)
        simp (disch := first | omega | simp only [RO] | (simp only [RZ] <;> omega) | fail) only [↓RBp, ↓RA, ↓reduceIte, Nat.reduceAdd, Nat.reduceMul, Nat.reduceEqDiff, RB, RX, RA2, c_FormatNil, hqr, hqd]
        exact hK _ (e05.trans (e58.trans (by repeat (first | (with_reducible first | refine Sh.eB ?_ (by first | omega | (simp only [RZ] <;> omega)) _ | assumption | exact Sh.eR _ | refine Sh.eA ?_ _ | refine Sh.eD ?_ | refine Sh.eT ?_ (by assumption)) | exact Sh.eR _))))
      simp (disch := first | omega | simp only [RO] | (simp only [RZ] <;> omega) | fail) only [↓RBp, ↓RA, ↓reduceIte, Nat.reduceAdd, Nat.reduceMul, Nat.reduceEqDiff, RB, RX, RA2]
      by_cases ht : 0 ≤ t ∧ t < 8 ∧ 0 ≤ c ∧ c < 5
      · obtain ⟨t0, t8, c0, c5⟩ := id ht
        refine hcl _ ht (fun w6 e6 => ?_)
        simp (disch := first | omega | simp only [RO] | (simp only [RZ] <;> omega) | fail) only [↓RBp, ↓RA, ↓reduceIte, Nat.reduceAdd, Nat.reduceMul, Nat.reduceEqDiff, RB, RX, RA2]
        refine hop _ (e6.trans (by repeat (first | (with_reducible first | refine Sh.eB ?_ (by first | omega | (simp only [RZ] <;> omega)) _ | assumption | exact Sh.eR _ | refine Sh.eA ?_ _ | refine Sh.eD ?_ | refine Sh.eT ?_ (by assumption)) | exact Sh.eR _))) _ (fun w7 e7 => ?_)
        have z1 : ¬ t < 0 := by omega
        have z2 : ¬ 7 < t := by omega
        have z3 : ¬ c < 0 := by omega
        have z4 : ¬ 4 < c := by omega
        simp (disch := first | omega | simp only [RO] | (simp only [RZ] <;> omega) | fail) only [↓RBp, ↓RA, ↓reduceIte, Nat.reduceAdd, Nat.reduceMul, Nat.reduceEqDiff, RB, RX, RA2, z1, z2, z3, z4]
        have e57 : Ext w5 w7 := e6.trans (Ext.trans (by repeat (first | (with_reducible first | refine Sh.eB ?_ (by first | omega | (simp only [RZ] <;> omega)) _ | assumption | exact Sh.eR _ | refine Sh.eA ?_ _ | refine Sh.eD ?_ | refine Sh.eT ?_ (by assumption)) | exact Sh.eR _)) e7)
        exact fin2 w7 qq 3 hE e57
      · refine k_ClaimBad h5 ht _ (fun w6 e6 => ?_)
        simp (disch := first | omega | simp only [RO] | (simp only [RZ] <;> omega) | fail) only [↓RBp, ↓RA, ↓reduceIte, Nat.reduceAdd, Nat.reduceMul, Nat.reduceEqDiff, RB, RX, RA2]
        refine hop _ (e6.trans (by repeat (first | (with_reducible first | refine Sh.eB ?_ (by first | omega | (simp only [RZ] <;> omega)) _ | assumption | exact Sh.eR _ | refine Sh.eA ?_ _ | refine Sh.eD ?_ | refine Sh.eT ?_ (by assumption)) | exact Sh.eR _))) _ (fun w7 e7 => ?_)
        have e57 := e6.trans (Ext.trans (by repeat (first | (with_reducible first | refine Sh.eB ?_ (by first | omega | (simp only [RZ] <;> omega)) _ | assumption | exact Sh.eR _ | refine Sh.eA ?_ _ | refine Sh.eD ?_ | refine Sh.eT ?_ (by assumption)) | exact Sh.eR _)) e7)
        by_cases z1 : t < 0
        · simp (disch := first | omega | simp only [RO] | (simp only [RZ] <;> omega) | fail) only [↓RBp, ↓RA, ↓reduceIte, Nat.reduceAdd, Nat.reduceMul, Nat.reduceEqDiff, RB, RX, RA2, z1]
          obtain ⟨q1, hq1⟩ : ∃ q1 : Int, (1 : Int) = q1 := ⟨1, rfl⟩; rw [hq1]; exact fin2 w7 q1 q1 rfl e57
        · by_cases z2 : 7 < t
          · simp (disch := first | omega | simp only [RO] | (simp only [RZ] <;> omega) | fail) only [↓RBp, ↓RA, ↓reduceIte, Nat.reduceAdd, Nat.reduceMul, Nat.reduceEqDiff, RB, RX, RA2, z1, z2]
            obtain ⟨q1, hq1⟩ : ∃ q1 : Int, (1 : Int) = q1 := ⟨1, rfl⟩; rw [hq1]; exact fin2 w7 q1 q1 rfl e57
          · by_cases z3 : c < 0
            · simp (disch := first | omega | simp only [RO] | (simp only [RZ] <;> omega) | fail) only [↓RBp, ↓RA, ↓reduceIte, Nat.reduceAdd, Nat.reduceMul, Nat.reduceEqDiff, RB, RX, RA2, z1, z2, z3]
              obtain ⟨q1, hq1⟩ : ∃ q1 : Int, (1 : Int) = q1 := ⟨1, rfl⟩; rw [hq1]; exact fin2 w7 q1 q1 rfl e57
            · have z4 : 4 < c := by omega
              simp (disch := first | omega | simp only [RO] | (simp only [RZ] <;> omega) | fail) only [↓RBp, ↓RA, ↓reduceIte, Nat.reduceAdd, Nat.reduceMul, Nat.reduceEqDiff, RB, RX, RA2, z1, z2, z3, z4]
              obtain ⟨q1, hq1⟩ : ∃ q1 : Int, (1 : Int) = q1 := ⟨1, rfl⟩; rw [hq1]; exact fin2 w7 q1 q1 rfl e57
    · simp (disch := first | omega | simp only [RO] | (simp only [RZ] <;> omega) | fail) only [↓RBp, ↓RA, ↓reduceIte, Nat.reduceAdd, Nat.reduceMul, Nat.reduceEqDiff, RB, RX, RA2, c_ClaimZ, c_ReleaseZ, c_HoldZ, c_LinesSZ, c_ChunksZ, c_FreeChunksZ, c_OwnerSZ]
      refine k_Arm (hS.L.dv.ext e3) 0 _ (fun w4 st4 => ?_)
      have g1 : Good ((bgD 2).arm 0) := arm_good hb.gd 0 (by omega)
      have hx1 : ((bgD 2).arm 0).exe < 1099511627775 := by have := (arm_co (bgD 2) 0 hb.on.off).2.2.2.2; show ((bgD 2).arm ((0 : Nat) : Int)).exe < _; omega
      simp (disch := first | omega | simp only [RO] | (simp only [RZ] <;> omega) | fail) only [↓RBp, ↓RA, ↓reduceIte, Nat.reduceAdd, Nat.reduceMul, Nat.reduceEqDiff, RB, RX, RA2]
      refine k_Fence st4.dv g1 0 (by omega) hx1 _ (fun w5 Y5 st5 => ?_)
      have st : Stp w2 Y w5 Y5 (((bgD 2).arm 0).fence 0) := Stp.pre e3 (fun x hx => hS.L.dv.lt hx) (st4.trans st5)
      have h5 := hS.step st hg2 hn2
      have tb : Y5.tb 0 = Y.tb 0 := by rw [st.tb]
      have e05 : Ext w w5 := e1.trans h5.L.ex
      have hne : (((bgD 2).arm 0).fence 0).err 0 ≠ 0 := by rw [hE]; decide
      have hvl : vldB (((bgD 2).arm 0).fence 0).n 3 64 = true := by rw [hn2, hbn]; decide
      rw [← tb]
      generalize hD : ((bgD 2).arm 0).fence 0 = D at *
      have hop := fun (w6 : World) (e : Ext w5 w6) (K : K1) hK => k_AOpenErr (h5.L.dv.ext e) hg2 3 64 (by omega) (by omega) (by omega) (by omega) hvl hne K hK
      have hfo := fun (w6 : World) (e : Ext w5 w6) (K : K1) hK => k_AFormatErr (h5.L.dv.ext e) hg2 3 64 (by omega) (by omega) (by omega) (by omega) hvl hne K hK
      have hre := fun (w6 : World) (e : Ext w5 w6) (K : K1) hK => k_ReleaseErr (k := 0) (h5.ext e) (by omega) hne K hK
      have hcl := fun (K : K1) (ht : 0 ≤ t ∧ t < 8 ∧ 0 ≤ c ∧ c < 5) hK => k_ClaimErr h5 ht.1 ht.2.1 ht.2.2.1 ht.2.2.2 hne K hK
      obtain ⟨qq, hqq⟩ : ∃ qq, D.err 0 = qq := ⟨_, rfl⟩
      rw [hqq] at hop hfo hre hcl hE
      have hqd := decide_eq_true hE
      unfold thV at hop hfo
      have fin2 : ∀ (w6 : World) (q r : Int), q = r → Ext w5 w6 → f4_k1 K (.pointer (some ⟨Y5.tb 0, 0, none⟩)) (stV S) (.int .i64 q) (.int .i64 qq) (.int .i64 r) w6 := by
        intro w6 q r hqr e6
        rw [f4_k1_eq]
        unfold f4_k1_t
        have hqr := decide_eq_true hqr
        simp (disch := first | omega | simp only [RO] | (simp only [RZ] <;> omega) | fail) only [↓RBp, ↓RA, ↓reduceIte, Nat.reduceAdd, Nat.reduceMul, Nat.reduceEqDiff, RB, RX, RA2, hqr, hqd]
        refine hfo _ (e6.trans (by repeat (first | (with_reducible first | refine Sh.eB ?_ (by first | omega | (simp only [RZ] <;> omega)) _ | assumption | exact Sh.eR _ | refine Sh.eA ?_ _ | refine Sh.eD ?_ | refine Sh.eT ?_ (by assumption)) | exact Sh.eR _))) _ (fun w7 e7 => ?_)
        have e57 := e6.trans (Ext.trans (by repeat (first | (with_reducible first | refine Sh.eB ?_ (by first | omega | (simp only [RZ] <;> omega)) _ | assumption | exact Sh.eR _ | refine Sh.eA ?_ _ | refine Sh.eD ?_ | refine Sh.eT ?_ (by assumption)) | exact Sh.eR _)) e7)
        simp (disch := first | omega | simp only [RO] | (simp only [RZ] <;> omega) | fail) only [↓RBp, ↓RA, ↓reduceIte, Nat.reduceAdd, Nat.reduceMul, Nat.reduceEqDiff, RB, RX, RA2, hqr, hqd]
        refine hre _ (e57.trans (by repeat (first | (with_reducible first | refine Sh.eB ?_ (by first | omega | (simp only [RZ] <;> omega)) _ | assumption | exact Sh.eR _ | refine Sh.eA ?_ _ | refine Sh.eD ?_ | refine Sh.eT ?_ (by assumption)) | exact Sh.eR _))) _ (fun w8 e8 => ?_)
        have e58 := e57.trans (Ext.trans (by repeat (first | (with_reducible first | refine Sh.eB ?_ (by first | omega | (simp only [RZ] <;> omega)) _ | assumption | exact Sh.eR _ | refine Sh.eA ?_ _ | refine Sh.eD ?_ | refine Sh.eT ?_ (by assumption)) | exact Sh.eR _)) e8)
        simp (disch := first | omega | simp only [RO] | (simp only [RZ] <;> omega) | fail) only [↓RBp, ↓RA, ↓reduceIte, Nat.reduceAdd, Nat.reduceMul, Nat.reduceEqDiff, RB, RX, RA2, c_FormatNil, hqr, hqd]
        exact hK _ (e05.trans (e58.trans (by repeat (first | (with_reducible first | refine Sh.eB ?_ (by first | omega | (simp only [RZ] <;> omega)) _ | assumption | exact Sh.eR _ | refine Sh.eA ?_ _ | refine Sh.eD ?_ | refine Sh.eT ?_ (by assumption)) | exact Sh.eR _))))
      simp (disch := first | omega | simp only [RO] | (simp only [RZ] <;> omega) | fail) only [↓RBp, ↓RA, ↓reduceIte, Nat.reduceAdd, Nat.reduceMul, Nat.reduceEqDiff, RB, RX, RA2]
      by_cases ht : 0 ≤ t ∧ t < 8 ∧ 0 ≤ c ∧ c < 5
      · obtain ⟨t0, t8, c0, c5⟩ := id ht
        refine hcl _ ht (fun w6 e6 => ?_)
        simp (disch := first | omega | simp only [RO] | (simp only [RZ] <;> omega) | fail) only [↓RBp, ↓RA, ↓reduceIte, Nat.reduceAdd, Nat.reduceMul, Nat.reduceEqDiff, RB, RX, RA2]
        refine hop _ (e6.trans (by repeat (first | (with_reducible first | refine Sh.eB ?_ (by first | omega | (simp only [RZ] <;> omega)) _ | assumption | exact Sh.eR _ | refine Sh.eA ?_ _ | refine Sh.eD ?_ | refine Sh.eT ?_ (by assumption)) | exact Sh.eR _))) _ (fun w7 e7 => ?_)
        have z1 : ¬ t < 0 := by omega
        have z2 : ¬ 7 < t := by omega
        have z3 : ¬ c < 0 := by omega
        have z4 : ¬ 4 < c := by omega
        simp (disch := first | omega | simp only [RO] | (simp only [RZ] <;> omega) | fail) only [↓RBp, ↓RA, ↓reduceIte, Nat.reduceAdd, Nat.reduceMul, Nat.reduceEqDiff, RB, RX, RA2, z1, z2, z3, z4]
        have e57 : Ext w5 w7 := e6.trans (Ext.trans (by repeat (first | (with_reducible first | refine Sh.eB ?_ (by first | omega | (simp only [RZ] <;> omega)) _ | assumption | exact Sh.eR _ | refine Sh.eA ?_ _ | refine Sh.eD ?_ | refine Sh.eT ?_ (by assumption)) | exact Sh.eR _)) e7)
        exact fin2 w7 qq 3 hE e57
      · refine k_ClaimBad h5 ht _ (fun w6 e6 => ?_)
        simp (disch := first | omega | simp only [RO] | (simp only [RZ] <;> omega) | fail) only [↓RBp, ↓RA, ↓reduceIte, Nat.reduceAdd, Nat.reduceMul, Nat.reduceEqDiff, RB, RX, RA2]
        refine hop _ (e6.trans (by repeat (first | (with_reducible first | refine Sh.eB ?_ (by first | omega | (simp only [RZ] <;> omega)) _ | assumption | exact Sh.eR _ | refine Sh.eA ?_ _ | refine Sh.eD ?_ | refine Sh.eT ?_ (by assumption)) | exact Sh.eR _))) _ (fun w7 e7 => ?_)
        have e57 := e6.trans (Ext.trans (by repeat (first | (with_reducible first | refine Sh.eB ?_ (by first | omega | (simp only [RZ] <;> omega)) _ | assumption | exact Sh.eR _ | refine Sh.eA ?_ _ | refine Sh.eD ?_ | refine Sh.eT ?_ (by assumption)) | exact Sh.eR _)) e7)
        by_cases z1 : t < 0
        · simp (disch := first | omega | simp only [RO] | (simp only [RZ] <;> omega) | fail) only [↓RBp, ↓RA, ↓reduceIte, Nat.reduceAdd, Nat.reduceMul, Nat.reduceEqDiff, RB, RX, RA2, z1]
          obtain ⟨q1, hq1⟩ : ∃ q1 : Int, (1 : Int) = q1 := ⟨1, rfl⟩; rw [hq1]; exact fin2 w7 q1 q1 rfl e57
        · by_cases z2 : 7 < t
          · simp (disch := first | omega | simp only [RO] | (simp only [RZ] <;> omega) | fail) only [↓RBp, ↓RA, ↓reduceIte, Nat.reduceAdd, Nat.reduceMul, Nat.reduceEqDiff, RB, RX, RA2, z1, z2]
            obtain ⟨q1, hq1⟩ : ∃ q1 : Int, (1 : Int) = q1 := ⟨1, rfl⟩; rw [hq1]; exact fin2 w7 q1 q1 rfl e57
          · by_cases z3 : c < 0
            · simp (disch := first | omega | simp only [RO] | (simp only [RZ] <;> omega) | fail) only [↓RBp, ↓RA, ↓reduceIte, Nat.reduceAdd, Nat.reduceMul, Nat.reduceEqDiff, RB, RX, RA2, z1, z2, z3]
              obtain ⟨q1, hq1⟩ : ∃ q1 : Int, (1 : Int) = q1 := ⟨1, rfl⟩; rw [hq1]; exact fin2 w7 q1 q1 rfl e57
            · have z4 : 4 < c := by omega
              simp (disch := first | omega | simp only [RO] | (simp only [RZ] <;> omega) | fail) only [↓RBp, ↓RA, ↓reduceIte, Nat.reduceAdd, Nat.reduceMul, Nat.reduceEqDiff, RB, RX, RA2, z1, z2, z3, z4]
              obtain ⟨q1, hq1⟩ : ∃ q1 : Int, (1 : Int) = q1 := ⟨1, rfl⟩; rw [hq1]; exact fin2 w7 q1 q1 rfl e57
  · have hl3 : ¬ line = 3 := fun h => hl (.inl h)
    have hl35 : ¬ line = 35 := fun h => hl (.inr h)
    have hno : ∀ k, k < 2 → line ≠ ((3 + 32 * k : Nat) : Int) := fun k hk => by
      rcases k with _ | _ | k
      · exact hl3
      · exact hl35
      · omega
    simp (disch := first | omega | simp only [RO] | (simp only [RZ] <;> omega) | fail) only [↓RBp, ↓RA, ↓reduceIte, Nat.reduceAdd, Nat.reduceMul, Nat.reduceEqDiff, RB, RX, RA2, c_ClaimZ, c_ReleaseZ, c_HoldZ, c_LinesSZ, c_ChunksZ, c_FreeChunksZ, c_OwnerSZ, hl3, hl35]
    refine k_ReleaseNo (hS.ext (by repeat (first | (with_reducible first | refine Sh.eB ?_ (by first | omega | (simp only [RZ] <;> omega)) _ | assumption | exact Sh.eR _ | refine Sh.eA ?_ _ | refine Sh.eD ?_ | refine Sh.eT ?_ (by assumption)) | exact Sh.eR _))) hno _ (fun w3 e3 => ?_)
    have e3 : Ext w2 w3 := Ext.trans (by repeat (first | (with_reducible first | refine Sh.eB ?_ (by first | omega | (simp only [RZ] <;> omega)) _ | assumption | exact Sh.eR _ | refine Sh.eA ?_ _ | refine Sh.eD ?_ | refine Sh.eT ?_ (by assumption)) | exact Sh.eR _)) e3
    simp (disch := first | omega | simp only [RO] | (simp only [RZ] <;> omega) | fail) only [↓RBp, ↓RA, ↓reduceIte, Nat.reduceAdd, Nat.reduceMul, Nat.reduceEqDiff, RB, RX, RA2]
    refine k_HoldNo (hS.ext (e3.trans (by repeat (first | (with_reducible first | refine Sh.eB ?_ (by first | omega | (simp only [RZ] <;> omega)) _ | assumption | exact Sh.eR _ | refine Sh.eA ?_ _ | refine Sh.eD ?_ | refine Sh.eT ?_ (by assumption)) | exact Sh.eR _)))) hno _ _ (fun w4 e4 => ?_)
    have e3 : Ext w2 w4 := e3.trans (Ext.trans (by repeat (first | (with_reducible first | refine Sh.eB ?_ (by first | omega | (simp only [RZ] <;> omega)) _ | assumption | exact Sh.eR _ | refine Sh.eA ?_ _ | refine Sh.eD ?_ | refine Sh.eT ?_ (by assumption)) | exact Sh.eR _)) e4)
    simp (disch := first | omega | simp only [RO] | (simp only [RZ] <;> omega) | fail) only [↓RBp, ↓RA, ↓reduceIte, Nat.reduceAdd, Nat.reduceMul, Nat.reduceEqDiff, RB, RX, RA2]
    refine k_OwnerNo (hS.ext (e3.trans (by repeat (first | (with_reducible first | refine Sh.eB ?_ (by first | omega | (simp only [RZ] <;> omega)) _ | assumption | exact Sh.eR _ | refine Sh.eA ?_ _ | refine Sh.eD ?_ | refine Sh.eT ?_ (by assumption)) | exact Sh.eR _)))) hno _ (fun w6 e6 => ?_)
    have e3 : Ext w2 w6 := e3.trans (Ext.trans (by repeat (first | (with_reducible first | refine Sh.eB ?_ (by first | omega | (simp only [RZ] <;> omega)) _ | assumption | exact Sh.eR _ | refine Sh.eA ?_ _ | refine Sh.eD ?_ | refine Sh.eT ?_ (by assumption)) | exact Sh.eR _)) e6)
    simp (disch := first | omega | simp only [RO] | (simp only [RZ] <;> omega) | fail) only [↓RBp, ↓RA, ↓reduceIte, Nat.reduceAdd, Nat.reduceMul, Nat.reduceEqDiff, RB, RX, RA2]
    refine k_Arm (hS.L.dv.ext e3) 0 _ (fun w4 st4 => ?_)
    have g1 : Good ((bgD 2).arm 0) := arm_good hb.gd 0 (by omega)
    have hx1 : ((bgD 2).arm 0).exe < 1099511627775 := by have := (arm_co (bgD 2) 0 hb.on.off).2.2.2.2; show ((bgD 2).arm ((0 : Nat) : Int)).exe < _; omega
    simp (disch := first | omega | simp only [RO] | (simp only [RZ] <;> omega) | fail) only [↓RBp, ↓RA, ↓reduceIte, Nat.reduceAdd, Nat.reduceMul, Nat.reduceEqDiff, RB, RX, RA2]
    refine k_Fence st4.dv g1 0 (by omega) hx1 _ (fun w5 Y5 st5 => ?_)
    have st : Stp w2 Y w5 Y5 (((bgD 2).arm 0).fence 0) := Stp.pre e3 (fun x hx => hS.L.dv.lt hx) (st4.trans st5)
    have h5 := hS.step st hg2 hn2
    have tb : Y5.tb 0 = Y.tb 0 := by rw [st.tb]
    have e05 : Ext w w5 := e1.trans h5.L.ex
    have hne : (((bgD 2).arm 0).fence 0).err 0 ≠ 0 := by rw [hE]; decide
    have hvl : vldB (((bgD 2).arm 0).fence 0).n 3 64 = true := by rw [hn2, hbn]; decide
    rw [← tb]
    generalize hD : ((bgD 2).arm 0).fence 0 = D at *
    have hop := fun (w6 : World) (e : Ext w5 w6) (K : K1) hK => k_AOpenErr (h5.L.dv.ext e) hg2 3 64 (by omega) (by omega) (by omega) (by omega) hvl hne K hK
    have hfo := fun (w6 : World) (e : Ext w5 w6) (K : K1) hK => k_AFormatErr (h5.L.dv.ext e) hg2 3 64 (by omega) (by omega) (by omega) (by omega) hvl hne K hK
    have hre := fun (w6 : World) (e : Ext w5 w6) (K : K1) hK => k_ReleaseErr (k := 0) (h5.ext e) (by omega) hne K hK
    have hcl := fun (K : K1) (ht : 0 ≤ t ∧ t < 8 ∧ 0 ≤ c ∧ c < 5) hK => k_ClaimErr h5 ht.1 ht.2.1 ht.2.2.1 ht.2.2.2 hne K hK
    obtain ⟨qq, hqq⟩ : ∃ qq, D.err 0 = qq := ⟨_, rfl⟩
    rw [hqq] at hop hfo hre hcl hE
    have hqd := decide_eq_true hE
    unfold thV at hop hfo
    have fin2 : ∀ (w6 : World) (q r : Int), q = r → Ext w5 w6 → f4_k1 K (.pointer (some ⟨Y5.tb 0, 0, none⟩)) (stV S) (.int .i64 q) (.int .i64 qq) (.int .i64 r) w6 := by
      intro w6 q r hqr e6
      rw [f4_k1_eq]
      unfold f4_k1_t
      have hqr := decide_eq_true hqr
      simp (disch := first | omega | simp only [RO] | (simp only [RZ] <;> omega) | fail) only [↓RBp, ↓RA, ↓reduceIte, Nat.reduceAdd, Nat.reduceMul, Nat.reduceEqDiff, RB, RX, RA2, hqr, hqd]
      refine hfo _ (e6.trans (by repeat (first | (with_reducible first | refine Sh.eB ?_ (by first | omega | (simp only [RZ] <;> omega)) _ | assumption | exact Sh.eR _ | refine Sh.eA ?_ _ | refine Sh.eD ?_ | refine Sh.eT ?_ (by assumption)) | exact Sh.eR _))) _ (fun w7 e7 => ?_)
      have e57 := e6.trans (Ext.trans (by repeat (first | (with_reducible first | refine Sh.eB ?_ (by first | omega | (simp only [RZ] <;> omega)) _ | assumption | exact Sh.eR _ | refine Sh.eA ?_ _ | refine Sh.eD ?_ | refine Sh.eT ?_ (by assumption)) | exact Sh.eR _)) e7)
      simp (disch := first | omega | simp only [RO] | (simp only [RZ] <;> omega) | fail) only [↓RBp, ↓RA, ↓reduceIte, Nat.reduceAdd, Nat.reduceMul, Nat.reduceEqDiff, RB, RX, RA2, hqr, hqd]
      refine hre _ (e57.trans (by repeat (first | (with_reducible first | refine Sh.eB ?_ (by first | omega | (simp only [RZ] <;> omega)) _ | assumption | exact Sh.eR _ | refine Sh.eA ?_ _ | refine Sh.eD ?_ | refine Sh.eT ?_ (by assumption)) | exact Sh.eR _))) _ (fun w8 e8 => ?_)
      have e58 := e57.trans (Ext.trans (by repeat (first | (with_reducible first | refine Sh.eB ?_ (by first | omega | (simp only [RZ] <;> omega)) _ | assumption | exact Sh.eR _ | refine Sh.eA ?_ _ | refine Sh.eD ?_ | refine Sh.eT ?_ (by assumption)) | exact Sh.eR _)) e8)
      simp (disch := first | omega | simp only [RO] | (simp only [RZ] <;> omega) | fail) only [↓RBp, ↓RA, ↓reduceIte, Nat.reduceAdd, Nat.reduceMul, Nat.reduceEqDiff, RB, RX, RA2, c_FormatNil, hqr, hqd]
      exact hK _ (e05.trans (e58.trans (by repeat (first | (with_reducible first | refine Sh.eB ?_ (by first | omega | (simp only [RZ] <;> omega)) _ | assumption | exact Sh.eR _ | refine Sh.eA ?_ _ | refine Sh.eD ?_ | refine Sh.eT ?_ (by assumption)) | exact Sh.eR _))))
    simp (disch := first | omega | simp only [RO] | (simp only [RZ] <;> omega) | fail) only [↓RBp, ↓RA, ↓reduceIte, Nat.reduceAdd, Nat.reduceMul, Nat.reduceEqDiff, RB, RX, RA2]
    by_cases ht : 0 ≤ t ∧ t < 8 ∧ 0 ≤ c ∧ c < 5
    · obtain ⟨t0, t8, c0, c5⟩ := id ht
      refine hcl _ ht (fun w6 e6 => ?_)
      simp (disch := first | omega | simp only [RO] | (simp only [RZ] <;> omega) | fail) only [↓RBp, ↓RA, ↓reduceIte, Nat.reduceAdd, Nat.reduceMul, Nat.reduceEqDiff, RB, RX, RA2]
      refine hop _ (e6.trans (by repeat (first | (with_reducible first | refine Sh.eB ?_ (by first | omega | (simp only [RZ] <;> omega)) _ | assumption | exact Sh.eR _ | refine Sh.eA ?_ _ | refine Sh.eD ?_ | refine Sh.eT ?_ (by assumption)) | exact Sh.eR _))) _ (fun w7 e7 => ?_)
      have z1 : ¬ t < 0 := by omega
      have z2 : ¬ 7 < t := by omega
      have z3 : ¬ c < 0 := by omega
      have z4 : ¬ 4 < c := by omega
      simp (disch := first | omega | simp only [RO] | (simp only [RZ] <;> omega) | fail) only [↓RBp, ↓RA, ↓reduceIte, Nat.reduceAdd, Nat.reduceMul, Nat.reduceEqDiff, RB, RX, RA2, z1, z2, z3, z4]
      have e57 : Ext w5 w7 := e6.trans (Ext.trans (by repeat (first | (with_reducible first | refine Sh.eB ?_ (by first | omega | (simp only [RZ] <;> omega)) _ | assumption | exact Sh.eR _ | refine Sh.eA ?_ _ | refine Sh.eD ?_ | refine Sh.eT ?_ (by assumption)) | exact Sh.eR _)) e7)
      exact fin2 w7 qq 3 hE e57
    · refine k_ClaimBad h5 ht _ (fun w6 e6 => ?_)
      simp (disch := first | omega | simp only [RO] | (simp only [RZ] <;> omega) | fail) only [↓RBp, ↓RA, ↓reduceIte, Nat.reduceAdd, Nat.reduceMul, Nat.reduceEqDiff, RB, RX, RA2]
      refine hop _ (e6.trans (by repeat (first | (with_reducible first | refine Sh.eB ?_ (by first | omega | (simp only [RZ] <;> omega)) _ | assumption | exact Sh.eR _ | refine Sh.eA ?_ _ | refine Sh.eD ?_ | refine Sh.eT ?_ (by assumption)) | exact Sh.eR _))) _ (fun w7 e7 => ?_)
      have e57 := e6.trans (Ext.trans (by repeat (first | (with_reducible first | refine Sh.eB ?_ (by first | omega | (simp only [RZ] <;> omega)) _ | assumption | exact Sh.eR _ | refine Sh.eA ?_ _ | refine Sh.eD ?_ | refine Sh.eT ?_ (by assumption)) | exact Sh.eR _)) e7)
      by_cases z1 : t < 0
      · simp (disch := first | omega | simp only [RO] | (simp only [RZ] <;> omega) | fail) only [↓RBp, ↓RA, ↓reduceIte, Nat.reduceAdd, Nat.reduceMul, Nat.reduceEqDiff, RB, RX, RA2, z1]
        obtain ⟨q1, hq1⟩ : ∃ q1 : Int, (1 : Int) = q1 := ⟨1, rfl⟩; rw [hq1]; exact fin2 w7 q1 q1 rfl e57
      · by_cases z2 : 7 < t
        · simp (disch := first | omega | simp only [RO] | (simp only [RZ] <;> omega) | fail) only [↓RBp, ↓RA, ↓reduceIte, Nat.reduceAdd, Nat.reduceMul, Nat.reduceEqDiff, RB, RX, RA2, z1, z2]
          obtain ⟨q1, hq1⟩ : ∃ q1 : Int, (1 : Int) = q1 := ⟨1, rfl⟩; rw [hq1]; exact fin2 w7 q1 q1 rfl e57
        · by_cases z3 : c < 0
          · simp (disch := first | omega | simp only [RO] | (simp only [RZ] <;> omega) | fail) only [↓RBp, ↓RA, ↓reduceIte, Nat.reduceAdd, Nat.reduceMul, Nat.reduceEqDiff, RB, RX, RA2, z1, z2, z3]
            obtain ⟨q1, hq1⟩ : ∃ q1 : Int, (1 : Int) = q1 := ⟨1, rfl⟩; rw [hq1]; exact fin2 w7 q1 q1 rfl e57
          · have z4 : 4 < c := by omega
            simp (disch := first | omega | simp only [RO] | (simp only [RZ] <;> omega) | fail) only [↓RBp, ↓RA, ↓reduceIte, Nat.reduceAdd, Nat.reduceMul, Nat.reduceEqDiff, RB, RX, RA2, z1, z2, z3, z4]
            obtain ⟨q1, hq1⟩ : ∃ q1 : Int, (1 : Int) = q1 := ⟨1, rfl⟩; rw [hq1]; exact fin2 w7 q1 q1 rfl e57
end
end Go.Proofs.YtifpinhjpbgnoaaDoor
