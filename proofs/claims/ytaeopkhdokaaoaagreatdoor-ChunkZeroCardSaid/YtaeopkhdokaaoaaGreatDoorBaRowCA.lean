/-
  Part of the proof in YtaeopkhdokaaoaaGreatDoorBaRowC.
-/
import Derived.Test.YtaeopkhdokaaoaaGreatDoorBa1
import Derived.Test.YtaeopkhdokaaoaaGreatDoorBa5
namespace Go.Proofs.YtaeopkhdokaaoaaGreatDoor
open Go Go.Sh
set_option maxRecDepth 100000
set_option linter.unusedVariables false
def f11_t (x0 x1 : Value) (K : K1) (w : World) : Prop :=
 ev Tryz.prog (Instr.box 67 x0) w fun t2 w_1 =>
 callS Tryz.prog 12 (pA #[]) w_1 fun t25 w_2 =>
 ev Tryz.prog (Op.unary .not t25) w_2 fun t26 w_3 =>
 cndS t26 (
 K (.bool false) w_3) (
 ev Tryz.prog (Instr.alloc 58 true (.tuple #[])) w_3 fun t5 w_4 =>
 ldS Tryz.prog 58 t5 w_4 fun t28 w_5 =>
 callS Tryz.prog 43 (pA #[t28]) w_5 fun t29 w_6 =>
 ev Tryz.prog (Instr.extract t29 0) w_6 fun t30 w_7 =>
 ev Tryz.prog (Instr.extract t29 1) w_7 fun t31 w_8 =>
 ldS Tryz.prog 58 t5 w_8 fun t33 w_9 =>
 callS Tryz.prog 55 (pA #[t33, x1, (.int .u8 ((64 : Nat) : Int))]) w_9 fun t35 w_10 =>
 ev Tryz.prog (Instr.extract t35 0) w_10 fun t36 w_11 =>
 ev Tryz.prog (Instr.extract t35 1) w_11 fun t37 w_12 =>
 ldS Tryz.prog 67 t2 w_12 fun t39 w_13 =>
 callS Tryz.prog 33 (pA #[t39]) w_13 fun t40 w_14 =>
 ev Tryz.prog (Instr.extract t40 0) w_14 fun t41 w_15 =>
 ev Tryz.prog (Instr.extract t40 1) w_15 fun t42 w_16 =>
 ev Tryz.prog (Instr.extract t40 2) w_16 fun t43 w_17 =>
 ev Tryz.prog (Instr.alloc 58 true (.tuple #[])) w_17 fun t10 w_18 =>
 stS Tryz.prog 58 t10 t41 w_18 fun w_19 =>
 ev Tryz.prog (binM .eql 48 (.tmp 44) (.const (.pointer none)) t43 (.pointer none)) w_19 fun t45 w_20 =>
 cndS t45 (
 K (.bool false) w_20) (
 ldS Tryz.prog 58 t10 w_20 fun t47 w_21 =>
 callS Tryz.prog 55 (pA #[t47, (.int .i64 0), (.int .u8 ((64 : Nat) : Int))]) w_21 fun t48 w_22 =>
 ev Tryz.prog (Instr.extract t48 0) w_22 fun t49 w_23 =>
 ev Tryz.prog (Instr.extract t48 1) w_23 fun t50 w_24 =>
 callS Tryz.prog 63 (pA #[t42, (.int .i64 0)]) w_24 fun t52 w_25 =>
 callS Tryz.prog 67 (pA #[t43]) w_25 fun t54 w_26 =>
 ldS Tryz.prog 58 t10 w_26 fun t56 w_27 =>
 callS Tryz.prog 55 (pA #[t56, (.int .i64 0), (.int .u8 ((64 : Nat) : Int))]) w_27 fun t57 w_28 =>
 ev Tryz.prog (Instr.extract t57 0) w_28 fun t58 w_29 =>
 ev Tryz.prog (Instr.extract t57 1) w_29 fun t59 w_30 =>
 ldS Tryz.prog 58 t10 w_30 fun t61 w_31 =>
 callS Tryz.prog 58 (pA #[t61, t49]) w_31 fun t63 w_32 =>
 ev Tryz.prog (Instr.extract t63 0) w_32 fun t64 w_33 =>
 ev Tryz.prog (Instr.extract t63 1) w_33 fun t65 w_34 =>
 ldS Tryz.prog 58 t10 w_34 fun t67 w_35 =>
 ev Tryz.prog (Instr.buildSlice 74 1 #[(0, (.int .i64 0))]) w_35 fun t68 w_36 =>
 ev Tryz.prog (Instr.buildSlice 75 1 #[(0, (.int .u8 ((64 : Nat) : Int)))]) w_36 fun t69 w_37 =>
 callS Tryz.prog 37 (pA #[t67, t68, t69, (.slice none 0 0)]) w_37 fun t70 w_38 =>
 ev Tryz.prog (Instr.extract t70 0) w_38 fun t71 w_39 =>
 ev Tryz.prog (Instr.extract t70 1) w_39 fun t72 w_40 =>
 ldS Tryz.prog 58 t10 w_40 fun t74 w_41 =>
 ev Tryz.prog (Instr.buildSlice 74 1 #[(0, (.int .i64 0))]) w_41 fun t75 w_42 =>
 callS Tryz.prog 37 (pA #[t74, t75, (.slice none 0 0), (.slice none 0 0)]) w_42 fun t76 w_43 =>
 ev Tryz.prog (Instr.extract t76 0) w_43 fun t77 w_44 =>
 ev Tryz.prog (Instr.extract t76 1) w_44 fun t78 w_45 =>
 ev Tryz.prog (Instr.makeInterface 48 t43) w_45 fun t81 w_46 =>
 ldS Tryz.prog 67 t2 w_46 fun t82 w_47 =>
 callS Tryz.prog 41 (pA #[t82]) w_47 fun t83 w_48 =>
 callS Tryz.prog 27 (pA #[t81, t83]) w_48 fun t84 w_49 =>
 ev Tryz.prog (Instr.extract t84 0) w_49 fun t85 w_50 =>
 ev Tryz.prog (Instr.extract t84 1) w_50 fun t86 w_51 =>
 ev Tryz.prog (Instr.alloc 58 true (.tuple #[])) w_51 fun t23 w_52 =>
 stS Tryz.prog 58 t23 t85 w_52 fun w_53 =>
 ldS Tryz.prog 58 t5 w_53 fun t87 w_54 =>
 callS Tryz.prog 30 (pA #[t87]) w_54 fun t88 w_55 =>
 ev Tryz.prog (binM .eql 3 (.tmp 88) (.const (.int .i64 0)) t88 (.int .i64 0)) w_55 fun t89 w_56 =>
 gd t89 true (fun k => ldS Tryz.prog 58 t5 w_56 k) w_56 fun t91 w_57 =>
 gd t89 true (fun k => callS Tryz.prog 31 (pA #[t91]) w_57 k) w_57 fun t92 w_58 =>
 gd t89 true (fun k => ev Tryz.prog (binM .eql 3 (.tmp 92) (.const (.int .i64 (-1))) t92 (.int .i64 (-1))) w_58 k) w_58 fun t93 w_59 =>
 pickS t89 t93 (.bool false) w_59 fun t94 w_60 =>
 gd t94 true (fun k => ldS Tryz.prog 58 t5 w_60 k) w_60 fun t96 w_61 =>
 gd t94 true (fun k => callS Tryz.prog 32 (pA #[t96]) w_61 k) w_61 fun t97 w_62 =>
 gd t94 true (fun k => ev Tryz.prog (binM .eql 3 (.tmp 97) (.const (.int .i64 (-1))) t97 (.int .i64 (-1))) w_62 k) w_62 fun t98 w_63 =>
 pickS t94 t98 (.bool false) w_63 fun t99 w_64 =>
 gd t99 true (fun k => ldS Tryz.prog 58 t5 w_64 k) w_64 fun t101 w_65 =>
 gd t99 true (fun k => callS Tryz.prog 45 (pA #[t101]) w_65 k) w_65 fun t102 w_66 =>
 gd t99 true (fun k => ev Tryz.prog (binM .eql 3 (.tmp 102) (.const (.int .i64 0)) t102 (.int .i64 0)) w_66 k) w_66 fun t103 w_67 =>
 pickS t99 t103 (.bool false) w_67 fun t104 w_68 =>
 gd t104 true (fun k => ldS Tryz.prog 58 t5 w_68 k) w_68 fun t106 w_69 =>
 gd t104 true (fun k => k x1 w_69) w_69 fun t107 w_70 =>
 gd t104 true (fun k => callS Tryz.prog 47 (pA #[t106, t107]) w_70 k) w_70 fun t108 w_71 =>
 gd t104 true (fun k => ev Tryz.prog (Op.unary .not t108) w_71 k) w_71 fun t109 w_72 =>
 pickS t104 t109 (.bool false) w_72 fun t110 w_73 =>
 gd t110 true (fun k => ldS Tryz.prog 58 t5 w_73 k) w_73 fun t112 w_74 =>
 gd t110 true (fun k => k x1 w_74) w_74 fun t113 w_75 =>
 gd t110 true (fun k => callS Tryz.prog 49 (pA #[t112, t113]) w_75 k) w_75 fun t114 w_76 =>
 gd t110 true (fun k => ev Tryz.prog (Op.unary .not t114) w_76 k) w_76 fun t115 w_77 =>
 pickS t110 t115 (.bool false) w_77 fun t116 w_78 =>
 gd t116 true (fun k => ldS Tryz.prog 58 t5 w_78 k) w_78 fun t118 w_79 =>
 gd t116 true (fun k => k x1 w_79) w_79 fun t119 w_80 =>
 gd t116 true (fun k => callS Tryz.prog 50 (pA #[t118, t119]) w_80 k) w_80 fun t120 w_81 =>
 gd t116 true (fun k => ev Tryz.prog (binM .eql 3 (.tmp 120) (.const (.int .i64 (-1))) t120 (.int .i64 (-1))) w_81 k) w_81 fun t121 w_82 =>
 pickS t116 t121 (.bool false) w_82 fun t122 w_83 =>
 gd t122 true (fun k => k t31 w_83) w_83 fun t124 w_84 =>
 gd t122 true (fun k => ev Tryz.prog (Op.unary .not t124) w_84 k) w_84 fun t125 w_85 =>
 pickS t122 t125 (.bool false) w_85 fun t126 w_86 =>
 gd t126 true (fun k => k t37 w_86) w_86 fun t128 w_87 =>
 gd t126 true (fun k => ev Tryz.prog (binM .eql 28 (.tmp 128) (.const (.int .i64 2)) t128 (.int .i64 2)) w_87 k) w_87 fun t129 w_88 =>
 pickS t126 t129 (.bool false) w_88 fun t130 w_89 =>
 gd t130 true (fun k => k t50 w_89) w_89 fun t132 w_90 =>
 gd t130 true (fun k => ev Tryz.prog (binM .eql 28 (.tmp 132) (.const (.int .i64 0)) t132 (.int .i64 0)) w_90 k) w_90 fun t133 w_91 =>
 pickS t130 t133 (.bool false) w_91 fun t134 w_92 =>
 gd t134 true (fun k => k t59 w_92) w_92 fun t136 w_93 =>
 gd t134 true (fun k => ev Tryz.prog (binM .eql 28 (.tmp 136) (.const (.int .i64 3)) t136 (.int .i64 3)) w_93 k) w_93 fun t137 w_94 =>
 pickS t134 t137 (.bool false) w_94 fun t138 w_95 =>
 gd t138 true (fun k => k t65 w_95) w_95 fun t140 w_96 =>
 gd t138 true (fun k => ev Tryz.prog (binM .eql 28 (.tmp 140) (.const (.int .i64 3)) t140 (.int .i64 3)) w_96 k) w_96 fun t141 w_97 =>
 pickS t138 t141 (.bool false) w_97 fun t142 w_98 =>
 gd t142 true (fun k => k t72 w_98) w_98 fun t144 w_99 =>
 gd t142 true (fun k => ev Tryz.prog (binM .eql 28 (.tmp 144) (.const (.int .i64 3)) t144 (.int .i64 3)) w_99 k) w_99 fun t145 w_100 =>
 pickS t142 t145 (.bool false) w_100 fun t146 w_101 =>
 gd t146 true (fun k => k t78 w_101) w_101 fun t148 w_102 =>
 gd t146 true (fun k => ev Tryz.prog (binM .eql 28 (.tmp 148) (.const (.int .i64 1)) t148 (.int .i64 1)) w_102 k) w_102 fun t149 w_103 =>
 pickS t146 t149 (.bool false) w_103 fun t150 w_104 =>
 gd t150 true (fun k => k t86 w_104) w_104 fun t152 w_105 =>
 gd t150 true (fun k => ev Tryz.prog (binM .eql 28 (.tmp 152) (.const (.int .i64 3)) t152 (.int .i64 3)) w_105 k) w_105 fun t153 w_106 =>
 pickS t150 t153 (.bool false) w_106 fun t154 w_107 =>
 gd t154 true (fun k => ldS Tryz.prog 58 t10 w_107 k) w_107 fun t156 w_108 =>
 gd t154 true (fun k => callS Tryz.prog 51 (pA #[t156]) w_108 k) w_108 fun t157 w_109 =>
 gd t154 true (fun k => ev Tryz.prog (binM .eql 28 (.tmp 157) (.const (.int .i64 3)) t157 (.int .i64 3)) w_109 k) w_109 fun t158 w_110 =>
 pickS t154 t158 (.bool false) w_110 fun t159 w_111 =>
 K t159 w_111))
theorem f11_call (x0 x1 : Value) (K : K1) (w : World) (h : f11_t x0 x1 K w) : callS Tryz.prog 11 #[x0, x1] w K :=
  call_of_txt (args := [x0, x1]) mixed Tryz.func11 .o (by kernel_rfl) (cast (by kernel_rfl) h)
end Go.Proofs.YtaeopkhdokaaoaaGreatDoor
namespace Go.Proofs.YtaeopkhdokaaoaaGreatDoor
open Go Go.Sh
set_option maxRecDepth 100000
set_option maxHeartbeats 4000000
set_option linter.unusedSimpArgs false
set_option linter.unusedVariables false
section
variable {w w' : World} {Y Y' : Lay} {D D' : DS}
theorem arm_fence {D : DS} (h : On D) : ((D.arm 0).fence 0).err 0 = 3 ∧ ((D.arm 0).fence 0).n = D.n := by
  have h1 : D.arm 0 = { D with armed := true, left := 0 } := by unfold DS.arm; rw [if_neg (by simp [h.off])]; rfl
  have h2 : (D.arm 0).runs true = false := by rw [h1]; simp [DS.runs]
  have h3 : (D.arm 0).fence 0 = (D.arm 0).counted 0 true := by unfold DS.fence; rw [if_neg (by simp [h2])]
  rw [h3, h1]
  unfold DS.counted
  rw [if_neg (by simp [h.off]), if_neg (by simp), if_pos rfl, if_pos rfl]
  unfold DS.fail
  rw [if_pos h.err]
  exact ⟨by simp, rfl⟩
theorem arm_on {D : DS} (h : On D) (g : Good D) : Good (D.arm 0) := by
  have h1 : D.arm 0 = { D with armed := true, left := 0 } := by unfold DS.arm; rw [if_neg (by simp [h.off])]; rfl
  rw [h1]
  exact ⟨g.n0, g.n, g.cur, g.pers, g.hist, g.cnt, ⟨by show (0 : Int) ≤ 0; omega, by show (0 : Int) < 9223372036854775808; omega⟩, g.notes⟩
theorem law_zero (hG : Glob w) (a b c g : Nat) (ha : a < 256) (hb : b < 256) (hc : c < 256) (hg : g < 65536) (i : Int) (K : K1) (hK : ∀ w', Ext w w' → K (.bool true) w') :
    callS Tryz.prog 11 #[fmV a b c g, .int .i64 i] w K := by
  have l8 : a % 9 ≤ 8 := by omega
  have c0 : (0 : Int) ≤ ((b % 5 : Nat) : Int) := by omega
  have c5 : ((b % 5 : Nat) : Int) < 5 := by omega
  have o0 : (0 : Int) ≤ ((c % 8 : Nat) : Int) := by omega
  have o8 : ((c % 8 : Nat) : Int) < 8 := by omega
  have hgn : genN g ≠ 0 ∧ genN g < 65536 := by unfold genN; split <;> omega
  have hfo := fun (w : World) (hG : Glob w) (K : K1) hK => k_fopen hG a b c g ha hb hc hg K hK
  have hli := fun w1 K => c_fline a b c g ha w1 K
  generalize genN g = gg at *
  generalize a % 9 = ll at *
  generalize ((b % 5 : Nat) : Int) = cc at *
  generalize ((c % 8 : Nat) : Int) = oo at *
  have hone := opened_on l8 c0 c5 o0 o8 hgn.2
  have hgood := opened_good l8 c0 c5 o0 o8 hgn.2
  have hexe := (opened_exe l8 c0 c5 oo gg).1
  have hsnd := opened_snd l8 c0 c5 o0 o8 hgn.1 hgn.2
  have hn := opened_n ll cc oo gg
  have hp := perS_in c0 c5
  have hat := fmt_at l8 c0 c5 o0 o8 hgn.2 0 (by omega)
  have hfr : bS (wd (DS.opened ll cc oo gg) ll (offN cc 0)) = 176 ∧ bG (wd (DS.opened ll cc oo gg) ll (offN cc 0)) = gg := by
    rw [hat]; exact ⟨bS_blk hgn.2 (by omega) (by omega), bG_blk hgn.2 (by omega) (by omega)⟩
  have hsb := hsnd.sndB c0 c5 0 (by omega)
  have haf := arm_fence hone.1
  have hao := arm_on hone.1 hgood
  have hxa : ((DS.opened ll cc oo gg).arm 0).exe ≤ 400 := by unfold DS.arm; split <;> exact hexe
  have hgf := hao.fence 0 (by omega)
  have hpo := pOff_bd (l := ll) (c := cc) (i := 0) (by omega) c0 c5 (by omega)
  have hptr := ptr_bd (pOff ll cc 0) gg 64 hpo.2.1 hgn.2 (by omega) hpo.2.2 hpo.1
  have hptO := pO_ptr (pOff ll cc 0) gg 64 hpo.1 hpo.2.1
  generalize hD : DS.opened ll cc oo gg = D at *
  have hPt : ∀ (w1 : World) (Y : Lay) (K : K1), Cx w1 Y D ll cc → (∀ w', Ext w1 w' → K (pE (ptrN (pOff ll cc 0) gg 64) 0) w') → callS Tryz.prog 55 #[chV Y ll cc oo gg, .int .i64 0, .int .u8 ((64 : Nat) : Int)] w1 K := fun w1 Y K x hk => by
    refine k_Pointer x hone.1.err oo gg 0 64 (by omega) K (fun h => absurd ⟨by omega, by omega⟩ h) (fun j hj hp1 hn1 => ?_) (fun j hj hp1 hn1 hs => ?_) (fun j hj hp1 hn1 hs => ?_) (fun j hj hp1 hn1 hs hk => ?_) (fun j hj hp1 hn1 hs hk0 hk1 => ?_)
    all_goals obtain rfl : j = 0 := by omega
    · exact absurd hsb hn1
    · rw [hfr.1] at hs; omega
    · rw [hfr.1] at hs; omega
    · omega
    · rw [hfr.2]; exact hk
  generalize hP : ptrN (pOff ll cc 0) gg 64 = pp at *
  refine f11_call _ _ _ _ ?_
  unfold f11_t
  simp (disch := first | omega | simp only [RO] | (simp only [RZ] <;> omega) | fail) only [↓RBp, ↓RA, ↓reduceIte, Nat.reduceAdd, Nat.reduceMul, Nat.reduceEqDiff, RB, RBr, RW, RS, RA2]
  refine k_awake (hG.ext (by repeat (first | with_reducible refine Ext.setB ?_ (by omega) _ | with_reducible refine Ext.setB ?_ (by simp only [RZ] <;> omega) _ | with_reducible assumption | exact Ext.refl _ | with_reducible refine Ext.alloc ?_ _ | with_reducible refine Ext.drew ?_ | with_reducible refine Ext.trans ?_ (by assumption)))) _ (fun w1 e1 => ?_)
  have e01 : Ext w w1 := (Ext.alloc_self _ _).trans e1
  have eA : Ext (w.alloc (fmO a b c g)) w1 := e1
  simp (disch := first | omega | simp only [RO] | (simp only [RZ] <;> omega) | fail) only [↓RBp, ↓RA, ↓reduceIte, Nat.reduceAdd, Nat.reduceMul, Nat.reduceEqDiff, RB, RBr, RW, RS, RA2, c_NextZ]
  have eB : Ext (w1.alloc chzO) ((w1.alloc chzO).alloc chzO) := Ext.alloc_self _ _
  refine k_PointerZ (hG.ext (e01.trans (by repeat (first | with_reducible refine Ext.setB ?_ (by omega) _ | with_reducible refine Ext.setB ?_ (by simp only [RZ] <;> omega) _ | with_reducible assumption | exact Ext.refl _ | with_reducible refine Ext.alloc ?_ _ | with_reducible refine Ext.drew ?_ | with_reducible refine Ext.trans ?_ (by assumption))))) i 64 _ (fun w2 e2 => ?_)
  have eC : Ext (w1.alloc chzO) w2 := eB.trans e2
  have e12 : Ext w1 w2 := (Ext.alloc_self _ _).trans eC
  have e02 := e01.trans e12
  have ob1 := fmCells (eA.trans e12); have q0 := ob1.1; have q1 := ob1.2.1; have q2 := ob1.2.2.1; have q3 := ob1.2.2.2
  have lt2 : w.heap.size < w2.heap.size := lt_of_cell q0
  simp (disch := first | omega | simp only [RO] | (simp only [RZ] <;> omega) | fail) only [↓RBp, ↓RA, ↓reduceIte, Nat.reduceAdd, Nat.reduceMul, Nat.reduceEqDiff, RB, RBr, RW, RS, RA2, q0, q1, q2, q3]
  refine hfo _ (hG.ext e02) _ (fun w3 Y L3 => ?_)
  have e23 := L3.ex
  have eD := eC.trans e23
  have e03 := e02.trans e23
  have x3 := L3.cx (hG.ext e02) hone.1.off (l := ll) (c := cc) (by omega) c0 c5
  have nt3 : ¬ Y.F w3.heap.size := fun hf => by have := L3.dv.lt hf; omega
  simp (disch := first | omega | simp only [RO] | (simp only [RZ] <;> omega) | fail) only [↓RBp, ↓RA, ↓reduceIte, Nat.reduceAdd, Nat.reduceMul, Nat.reduceEqDiff, RB, RBr, RW, RS, RA2]
  have eE : Ext (w3.alloc (chO Y ll cc oo gg)) (w3.alloc (chO Y ll cc oo gg)) := Ext.refl _
  refine hPt _ Y _ (x3.ext (by repeat (first | with_reducible refine Ext.setB ?_ (by omega) _ | with_reducible refine Ext.setB ?_ (by simp only [RZ] <;> omega) _ | with_reducible assumption | exact Ext.refl _ | with_reducible refine Ext.alloc ?_ _ | with_reducible refine Ext.drew ?_ | with_reducible refine Ext.trans ?_ (by assumption)))) (fun w4 e4 => ?_)
  have e34 : Ext w3 w4 := (Ext.alloc_self _ _).trans e4
  have eF : Ext (w3.alloc (chO Y ll cc oo gg)) w4 := e4
  have L4 := L3.ext e34
  simp (disch := first | omega | simp only [RO] | (simp only [RZ] <;> omega) | fail) only [↓RBp, ↓RA, ↓reduceIte, Nat.reduceAdd, Nat.reduceMul, Nat.reduceEqDiff, RB, RBr, RW, RS, RA2]
  refine k_Arm L4.dv 0 _ (fun w5 st5 => ?_)
  simp (disch := first | omega | simp only [RO] | (simp only [RZ] <;> omega) | fail) only [↓RBp, ↓RA, ↓reduceIte, Nat.reduceAdd, Nat.reduceMul, Nat.reduceEqDiff, RB, RBr, RW, RS, RA2]
  refine k_Fence st5.dv hao 0 (by omega) (by omega) _ (fun w6 Y6 st6 => ?_)
  have st := st5.trans st6
  have L6 := L4.step st hgf
  have tb6 : Y6.tb 0 = Y.tb 0 := by rw [st.tb]
  have e06 := e02.trans L6.ex
  have lt4 : w3.heap.size < w4.heap.size := lt_of_cell (chCells eF).1
  have fc : ∀ i, w6.cell? ⟨w3.heap.size, i, none⟩ = w4.cell? ⟨w3.heap.size, i, none⟩ := fun i => st.frm.cell _ i lt4 nt3
  have ob2 := chCells eF; have r0 := ob2.1; have r1 := ob2.2.1; have r2 := ob2.2.2.1; have r3 := ob2.2.2.2.1; have r4 := ob2.2.2.2.2
  rw [← fc] at r0 r1 r2 r3 r4
  rw [← tb6] at r0
  have lt6 : w3.heap.size < w6.heap.size := Nat.lt_of_lt_of_le lt4 st.frm.size
  have her : erH w6 Y6 3 := by have := L6.dv.er; rw [haf.1] at this; exact this
  have hcg : Cg w6 cc := ⟨hG.ext e06, c0, c5⟩
  simp (disch := first | omega | simp only [RO] | (simp only [RZ] <;> omega) | fail) only [↓RBp, ↓RA, ↓reduceIte, Nat.reduceAdd, Nat.reduceMul, Nat.reduceEqDiff, RB, RBr, RW, RS, RA2, r0, r1, r2, r3, r4]
  refine k_PointerE hcg her (by omega) ll oo gg 0 ⟨by omega, by omega⟩ 64 _ (fun w7 e7 => ?_)
  have s0 := e7.cell_some r0; have s1 := e7.cell_some r1; have s2 := e7.cell_some r2; have s3 := e7.cell_some r3; have s4 := e7.cell_some r4
  simp (disch := first | omega | simp only [RO] | (simp only [RZ] <;> omega) | fail) only [↓RBp, ↓RA, ↓reduceIte, Nat.reduceAdd, Nat.reduceMul, Nat.reduceEqDiff, RB, RBr, RW, RS, RA2, s0, s1, s2, s3, s4]
  refine k_BlockE (hcg.ext e7) (fun w8 K e => her w8 K (e7.trans e)) (by omega) ll (by omega) oo gg pp hptr.1 hptr.2 ⟨0, by omega, hptO⟩ _ (fun w8 e8 => ?_)
  have e78 := e7.trans e8
  have t0 := e8.cell_some s0; have t1 := e8.cell_some s1; have t2 := e8.cell_some s2; have t3 := e8.cell_some s3; have t4 := e8.cell_some s4
  have lt8 : w3.heap.size < w8.heap.size := lt_of_cell t0
  simp (disch := first | omega | simp only [RO] | (simp only [RZ] <;> omega) | fail) only [↓RBp, ↓RA, ↓reduceIte, Nat.reduceAdd, Nat.reduceMul, Nat.reduceEqDiff, RB, RBr, RW, RS, RA2, t0, t1, t2, t3, t4]
  refine k_ActionsE (m := w8.heap.size + 2) (hcg.ext (e78.trans (by repeat (first | with_reducible refine Ext.setB ?_ (by omega) _ | with_reducible refine Ext.setB ?_ (by simp only [RZ] <;> omega) _ | with_reducible assumption | exact Ext.refl _ | with_reducible refine Ext.alloc ?_ _ | with_reducible refine Ext.drew ?_ | with_reducible refine Ext.trans ?_ (by assumption))))) (fun w9 K e => her w9 K (e78.trans (Ext.trans (by repeat (first | with_reducible refine Ext.setB ?_ (by omega) _ | with_reducible refine Ext.setB ?_ (by simp only [RZ] <;> omega) _ | with_reducible assumption | exact Ext.refl _ | with_reducible refine Ext.alloc ?_ _ | with_reducible refine Ext.drew ?_ | with_reducible refine Ext.trans ?_ (by assumption))) e))) (by omega) ll oo gg _ _ ⟨some ⟨w8.heap.size, 0, none⟩, 1, rfl, .inr ⟨_, _, rfl, by omega, ?_⟩⟩ ⟨some ⟨w8.heap.size + 1, 0, none⟩, 1, rfl, .inr ⟨_, _, rfl, by omega, ?_⟩⟩ _ (fun w9 e9 => ?_)
  · intro j u hj
    obtain ⟨rfl, rfl⟩ := one_get hj
    simp (disch := first | omega | simp only [RO] | (simp only [RZ] <;> omega) | fail) only [↓RBp, ↓RA, ↓reduceIte, Nat.reduceAdd, Nat.reduceMul, Nat.reduceEqDiff, RB, RBr, RW, RS, RA2]
  · intro j u hj
    obtain ⟨rfl, rfl⟩ := one_get hj
    simp (disch := first | omega | simp only [RO] | (simp only [RZ] <;> omega) | fail) only [↓RBp, ↓RA, ↓reduceIte, Nat.reduceAdd, Nat.reduceMul, Nat.reduceEqDiff, RB, RBr, RW, RS, RA2]
  have e89 : Ext w8 w9 := Ext.trans (by repeat (first | with_reducible refine Ext.setB ?_ (by omega) _ | with_reducible refine Ext.setB ?_ (by simp only [RZ] <;> omega) _ | with_reducible assumption | exact Ext.refl _ | with_reducible refine Ext.alloc ?_ _ | with_reducible refine Ext.drew ?_ | with_reducible refine Ext.trans ?_ (by assumption))) e9
  have u0 := e89.cell_some t0; have u1 := e89.cell_some t1; have u2 := e89.cell_some t2; have u3 := e89.cell_some t3; have u4 := e89.cell_some t4
  have lt9 : w3.heap.size < w9.heap.size := lt_of_cell u0
  simp (disch := first | omega | simp only [RO] | (simp only [RZ] <;> omega) | fail) only [↓RBp, ↓RA, ↓reduceIte, Nat.reduceAdd, Nat.reduceMul, Nat.reduceEqDiff, RB, RBr, RW, RS, RA2, u0, u1, u2, u3, u4]
  refine k_ActionsL Y6 ll cc oo gg _ _ _ (by omega) (by omega) _ _ (fun w10 e10 => ?_)
  have e910 : Ext w9 w10 := Ext.trans (by repeat (first | with_reducible refine Ext.setB ?_ (by omega) _ | with_reducible refine Ext.setB ?_ (by simp only [RZ] <;> omega) _ | with_reducible assumption | exact Ext.refl _ | with_reducible refine Ext.alloc ?_ _ | with_reducible refine Ext.drew ?_ | with_reducible refine Ext.trans ?_ (by assumption))) e10
  have e6t := (e78.trans e89).trans e910
  have v0 := e910.cell_some u0; have v1 := e910.cell_some u1; have v2 := e910.cell_some u2; have v3 := e910.cell_some u3; have v4 := e910.cell_some u4
  have eG := L6.ex.trans e6t
  have ob3 := fmCells ((eA.trans e12).trans eG); have p0 := ob3.1; have p1 := ob3.2.1; have p2 := ob3.2.2.1; have p3 := ob3.2.2.2
  have ltf : w.heap.size < w10.heap.size := lt_of_cell p0
  simp (disch := first | omega | simp only [RO] | (simp only [RZ] <;> omega) | fail) only [↓RBp, ↓RA, ↓reduceIte, Nat.reduceAdd, Nat.reduceMul, Nat.reduceEqDiff, RB, RBr, RW, RS, RA2, p0, p1, p2, p3, hli]
  rw [← tb6]
  have L10 := L6.ext e6t
  have L10a : Lv w2 (w10.alloc (fmO a b c g)) Y6 _ := L10.ext (Ext.alloc_self _ _)
  refine k_OpenErr (thV Y6) (ll : Int) 3 (by omega) _ (fun w11 K11 e11 h11 => k_LookErr (L10a.dv.ext e11) hgf (by rw [haf.1]; omega) ll (by omega) K11 (by rw [haf.1]; exact h11)) (fun w11 e11 => ?_)
  have e1011 : Ext w10 w11 := Ext.trans (by repeat (first | with_reducible refine Ext.setB ?_ (by omega) _ | with_reducible refine Ext.setB ?_ (by simp only [RZ] <;> omega) _ | with_reducible assumption | exact Ext.refl _ | with_reducible refine Ext.alloc ?_ _ | with_reducible refine Ext.drew ?_ | with_reducible refine Ext.trans ?_ (by assumption))) e11
  have z0 := e1011.cell_some v0; have z1 := e1011.cell_some v1; have z2 := e1011.cell_some v2; have z3 := e1011.cell_some v3; have z4 := e1011.cell_some v4
  have eH := (eC.trans eG).trans e1011
  have ob4 := czCells eH; have y0 := ob4.1; have y1 := ob4.2.1; have y2 := ob4.2.2.1; have y3 := ob4.2.2.2.1; have y4 := ob4.2.2.2.2
  have ltz : w1.heap.size < w11.heap.size := lt_of_cell y0
  have lt11 : w3.heap.size < w11.heap.size := lt_of_cell z0
  have e011 : Ext w w11 := (e02.trans eG).trans e1011
  simp (disch := first | omega | simp only [RO] | (simp only [RZ] <;> omega) | (with_reducible (repeat (first | assumption | exact Ext.refl _ | refine Ext.alloc ?_ _ | refine Ext.drew ?_ | refine Ext.trans ?_ (by assumption)))) | fail) only [↓RBp, ↓RA, ↓reduceIte, Nat.reduceAdd, Nat.reduceMul, Nat.reduceEqDiff, RB, RBr, RW, RS, RA2, y0, y1, y2, y3, y4, c_LineZ, c_ClassZ, c_OwnerZ]
  refine k_CountZ (hG.ext (e011.trans (by repeat (first | with_reducible refine Ext.setB ?_ (by omega) _ | with_reducible refine Ext.setB ?_ (by simp only [RZ] <;> omega) _ | with_reducible assumption | exact Ext.refl _ | with_reducible refine Ext.alloc ?_ _ | with_reducible refine Ext.drew ?_ | with_reducible refine Ext.trans ?_ (by assumption))))) _ (fun w12 fa => ?_)
  have ga : Ext w11 w12 := Ext.trans (by repeat (first | with_reducible refine Ext.setB ?_ (by omega) _ | with_reducible refine Ext.setB ?_ (by simp only [RZ] <;> omega) _ | with_reducible assumption | exact Ext.refl _ | with_reducible refine Ext.alloc ?_ _ | with_reducible refine Ext.drew ?_ | with_reducible refine Ext.trans ?_ (by assumption))) fa
  have y0a := ga.cell_some y0; have y1a := ga.cell_some y1; have y2a := ga.cell_some y2; have y3a := ga.cell_some y3; have y4a := ga.cell_some y4
  simp (disch := first | omega | simp only [RO] | (simp only [RZ] <;> omega) | fail) only [↓RBp, ↓RA, ↓reduceIte, Nat.reduceAdd, Nat.reduceMul, Nat.reduceEqDiff, RB, RBr, RW, RS, RA2, y0a, y1a, y2a, y3a, y4a]
  refine k_TakenZ (hG.ext (e011.trans ga)) i _ (fun w13 fb => ?_)
  have gb : Ext w11 w13 := Ext.trans ga fb
  have y0b := gb.cell_some y0; have y1b := gb.cell_some y1; have y2b := gb.cell_some y2; have y3b := gb.cell_some y3; have y4b := gb.cell_some y4
  simp (disch := first | omega | simp only [RO] | (simp only [RZ] <;> omega) | fail) only [↓RBp, ↓RA, ↓reduceIte, Nat.reduceAdd, Nat.reduceMul, Nat.reduceEqDiff, RB, RBr, RW, RS, RA2, y0b, y1b, y2b, y3b, y4b]
  refine k_SpentZ (hG.ext (e011.trans gb)) i _ (fun w14 fc => ?_)
  have gc : Ext w11 w14 := Ext.trans gb fc
  have y0c := gc.cell_some y0; have y1c := gc.cell_some y1; have y2c := gc.cell_some y2; have y3c := gc.cell_some y3; have y4c := gc.cell_some y4
  simp (disch := first | omega | simp only [RO] | (simp only [RZ] <;> omega) | fail) only [↓RBp, ↓RA, ↓reduceIte, Nat.reduceAdd, Nat.reduceMul, Nat.reduceEqDiff, RB, RBr, RW, RS, RA2, y0c, y1c, y2c, y3c, y4c]
  refine k_FreeZ (hG.ext (e011.trans gc)) i _ (fun w15 fd => ?_)
  have gd : Ext w11 w15 := Ext.trans gc fd
  have y0d := gd.cell_some y0; have y1d := gd.cell_some y1; have y2d := gd.cell_some y2; have y3d := gd.cell_some y3; have y4d := gd.cell_some y4
  have z0d := gd.cell_some z0; have z1d := gd.cell_some z1; have z2d := gd.cell_some z2; have z3d := gd.cell_some z3; have z4d := gd.cell_some z4
  have e6f : Ext w6 w15 := e6t.trans (e1011.trans gd)
  simp (disch := first | omega | simp only [RO] | (simp only [RZ] <;> omega) | fail) only [↓RBp, ↓RA, ↓reduceIte, Nat.reduceAdd, Nat.reduceMul, Nat.reduceEqDiff, RB, RBr, RW, RS, RA2, z0d, z1d, z2d, z3d, z4d]
  refine k_CheckE (fun w16 K e => her w16 K (e6f.trans e)) (by omega) ll cc oo gg _ (fun w16 e16 => ?_)
  simp (disch := first | omega | simp only [RO] | (simp only [RZ] <;> omega) | fail) only [↓RBp, ↓RA, ↓reduceIte, Nat.reduceAdd, Nat.reduceMul, Nat.reduceEqDiff, RB, RBr, RW, RS, RA2]
  exact hK _ (e011.trans (gd.trans e16))
end
end Go.Proofs.YtaeopkhdokaaoaaGreatDoor
