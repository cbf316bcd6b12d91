/-
  Part of the proof in YtaeopkhdokaaoaaGreatDoorBaRowE.
-/
import Derived.Test.YtaeopkhdokaaoaaGreatDoorBa5
import Derived.Test.YtaeopkhdokaaoaaGreatDoorBa1
namespace Go.Proofs.YtaeopkhdokaaoaaGreatDoor
open Go Go.Sh
set_option maxRecDepth 100000
set_option maxHeartbeats 4000000
set_option linter.unusedSimpArgs false
set_option linter.unusedVariables false
def ActsR (m : Nat) (w : World) (v : Value) (al : List (List Int × List Nat × List Int)) : Prop := ∃ a cap, v = .slice a al.length cap ∧ ∀ j x, al[j]? = some x → ∃ b o s1 s2 s3, a = some ⟨b, o, none⟩ ∧ b < m ∧ w.cell? ⟨b, o + j * 3, none⟩ = some s1 ∧ w.cell? ⟨b, o + j * 3 + 1, none⟩ = some s2 ∧ w.cell? ⟨b, o + j * 3 + 2, none⟩ = some s3 ∧ RdS m w s1 (i64L x.1) ∧ RdS m w s2 (u8L x.2.1) ∧ RdS m w s3 (i64L x.2.2)
def actOk (x : List Int × List Nat × List Int) : Prop := x.1.length ≤ maxLen ∧ x.2.1.length ≤ maxLen ∧ x.2.2.length ≤ maxLen ∧ ∀ k ∈ x.2.1, k < 256
section
variable {w w' : World} {Y : Lay} {D : DS} {l m : Nat} {v : Value} {al : List (List Int × List Nat × List Int)}
theorem ActsR.ext (h : ActsR m w v al) (e : Ext w w') : ActsR m w' v al := by
  obtain ⟨a, cap, hv, h⟩ := h
  refine ⟨a, cap, hv, fun j x hx => ?_⟩
  obtain ⟨b, o, s1, s2, s3, ha, hb, c1, c2, c3, r1, r2, r3⟩ := h j x hx
  exact ⟨b, o, s1, s2, s3, ha, hb, e.cell_some c1, e.cell_some c2, e.cell_some c3, r1.ext e, r2.ext e, r3.ext e⟩
theorem elU64 : ElT Tryz.prog 72 72 33 1 8 (.int .u64 0) := el_72_72
def wdL (W : Nat → Nat) (n : Nat) : List Value := (List.range n).map fun j => u64 (W j)
theorem wdL_snoc (W : Nat → Nat) (n : Nat) : wdL W (n + 1) = wdL W n ++ [u64 (W n)] := by simp [wdL, List.range_succ]
theorem wdL_get {W : Nat → Nat} {n j : Nat} (h : j < n) : (wdL W n)[j]? = some (u64 (W j)) := by simp [wdL, h]
theorem Wm.of_sl {W : Nat → Nat} {b o n cap : Nat} (h : SlO w 33 1 (.slice (some ⟨b, o, none⟩) n cap) 256 (wdL W 256)) : Wm w b o W := ⟨fun hi => h.cell rfl (wdL_get hi), fun i => h.frz rfl i⟩
theorem k_words (h : Dv w Y D) (g : Good D) (ho : D.off = false) (hl : l + 32 ≤ D.n) (K : K1) (hK : ∀ b o cap w', SlO w' 33 1 (wsV b o cap) 256 (wdL (wd D l) 256) → Ext w w' → w.heap.size ≤ b → K (wsV b o cap) w') :
    callS Tryz.prog 40 #[.pointer (some ⟨Y.tb 0, 0, none⟩), .int .i64 (l : Int)] w K := by
  have hn := g.n
  have ld : ∀ (i : Nat) (w1 : World) (K : K1), Ext w w1 → i < 256 → callS Tryz.prog 52 #[.pointer (some ⟨Y.tb 0, 0, none⟩), .int .u64 ((l * 64 + i * 8 : Nat) : Int)] w1 K = K (.int .u64 (wd D l i : Int)) w1 := fun i w1 K e hi => by
    rw [c_Load (h.ext e) g 0 (by omega) ho (l * 64 + i * 8) (by omega) (by omega) K, show (l * 64 + i * 8) / 8 = l * 8 + i by omega]; unfold wd; rfl
  refine f40_call _ _ _ _ ?_
  unfold f40_t
  apply f40_l1_rule (I := fun x z w' => ∃ k : Nat, z = .int .i64 (k : Int) ∧ k ≤ 256 ∧ SlO w' 33 1 x k (wdL (wd D l) k) ∧ Frm Nob w w' ∧ NewV w.heap.size x) (μ := fun _ z _ => 256 - (Go.RowKit.intOf z).toNat)
  · exact ⟨0, rfl, by omega, SlO.nil _ _ _, Frm.refl _ _, fun b hb => by cases hb⟩
  · intros; rename_i x5 x7 w1 hI E1 hE
    obtain ⟨k, rfl, hk, hs, hf, hnw⟩ := hI
    have e1 : Ext w w1 := hf.to_ext (fun _ _ h => h)
    by_cases hk2 : k < 256
    · have e8 : (64 * l + 8 * k) = l * 64 + k * 8 := by omega
      have ldk := fun (w1 : World) (K : K1) (e : Ext w w1) => ld k w1 K e hk2
      obtain ⟨pa, pc, rfl, hpc⟩ := hs.isS'
      generalize hx : wd D l k = x at *
      unfold f40_l1_t
      simp (disch := first | omega | simp only [RO] | (simp only [RZ] <;> omega) | (with_reducible (repeat (first | assumption | exact Ext.refl _ | refine Ext.alloc ?_ _ | refine Ext.drew ?_ | refine Ext.trans ?_ (by assumption)))) | fail) only [↓RBp, ↓RA, ↓reduceIte, Nat.reduceAdd, Nat.reduceMul, Nat.reduceEqDiff, RB, RBr, RW, RS, RA2, e8, ldk, Int.toNat_natCast]
      refine app_new elU64 (w0 := w) (hs.ext (by repeat (first | with_reducible refine Ext.setB ?_ (by omega) _ | with_reducible refine Ext.setB ?_ (by simp only [RZ] <;> omega) _ | with_reducible assumption | exact Ext.refl _ | with_reducible refine Ext.alloc ?_ _ | with_reducible refine Ext.drew ?_ | with_reducible refine Ext.trans ?_ (by assumption)))) (hf.ext (by repeat (first | with_reducible refine Ext.setB ?_ (by omega) _ | with_reducible refine Ext.setB ?_ (by simp only [RZ] <;> omega) _ | with_reducible assumption | exact Ext.refl _ | with_reducible refine Ext.alloc ?_ _ | with_reducible refine Ext.drew ?_ | with_reducible refine Ext.trans ?_ (by assumption)))) hnw (m := 1) (news := [u64 x]) rfl ?_ rfl (by omega) (by omega) (by omega) (fun v' w4 hsp hf4 n4 hfr4 hb4 => ?_)
      · intro j u hj
        obtain ⟨rfl, rfl⟩ := one_get hj
        simp (disch := first | omega | simp only [RO] | (simp only [RZ] <;> omega) | fail) only [↓RBp, ↓RA, ↓reduceIte, Nat.reduceAdd, Nat.reduceMul, Nat.reduceEqDiff, RB, RBr, RW, RS, RA2]
      simp (disch := first | omega | simp only [RO] | (simp only [RZ] <;> omega) | fail) only [↓RBp, ↓RA, ↓reduceIte, Nat.reduceAdd, Nat.reduceMul, Nat.reduceEqDiff, RB, RBr, RW, RS, RA2]
      apply hE
      · exact ⟨k + 1, by simp, by omega, by rw [wdL_snoc, hx]; exact hsp, hf4, n4⟩
      · simp [Go.RowKit.intOf]; omega
    · have : k = 256 := by omega
      subst this
      obtain ⟨b, ob, cap, rfl, _⟩ := hs.isS (by omega)
      unfold f40_l1_t
      simp (disch := first | omega | simp only [RO] | (simp only [RZ] <;> omega) | fail) only [↓RBp, ↓RA, ↓reduceIte, Nat.reduceAdd, Nat.reduceMul, Nat.reduceEqDiff, RB, RBr, RW, RS, RA2, f40_k1_eq, f40_k1_t]
      exact hK _ _ _ _ hs e1 (hnw b rfl)
theorem k_same (W : Nat → Nat) (b o cap b' o' cap' : Nat) (h : Wm w b o W) (h' : Wm w b' o' W) (hW : ∀ j, j < 256 → W j < 18446744073709551616) (K : K1) (hK : ∀ w', Ext w w' → K (.bool true) w') :
    callS Tryz.prog 39 #[wsV b o cap, wsV b' o' cap'] w K := by
  refine f39_call _ _ _ _ ?_
  unfold f39_t
  simp (disch := first | omega | simp only [RO] | (simp only [RZ] <;> omega) | fail) only [↓RBp, ↓RA, ↓reduceIte, Nat.reduceAdd, Nat.reduceMul, Nat.reduceEqDiff, RB, RBr, RW, RS, RA2]
  apply f39_l1_rule (I := fun z w' => ∃ k : Nat, z = .int .i64 (k : Int) ∧ k ≤ 256 ∧ Ext w w') (μ := fun z _ => 256 - (Go.RowKit.intOf z).toNat)
  · exact ⟨0, rfl, by omega, Ext.refl _⟩
  · intros; rename_i x13 w1 hI E1 hE
    obtain ⟨k, rfl, hk, e1⟩ := hI
    by_cases hk2 : k < 256
    · have c1 := e1.cell_some (h.cell hk2)
      have c2 := e1.cell_some (h'.cell hk2)
      have hx := hW k hk2
      generalize W k = x at c1 c2 hx
      unfold f39_l1_t
      simp (disch := first | omega | simp only [RO] | (simp only [RZ] <;> omega) | fail) only [↓RBp, ↓RA, ↓reduceIte, Nat.reduceAdd, Nat.reduceMul, Nat.reduceEqDiff, RB, RBr, RW, RS, RA2, c1, c2]
      apply hE
      · exact ⟨k + 1, by simp, by omega, (by repeat (first | with_reducible refine Ext.setB ?_ (by omega) _ | with_reducible refine Ext.setB ?_ (by simp only [RZ] <;> omega) _ | with_reducible assumption | exact Ext.refl _ | with_reducible refine Ext.alloc ?_ _ | with_reducible refine Ext.drew ?_ | with_reducible refine Ext.trans ?_ (by assumption)))⟩
      · simp [Go.RowKit.intOf]; omega
    · unfold f39_l1_t
      simp (disch := first | omega | simp only [RO] | (simp only [RZ] <;> omega) | fail) only [↓RBp, ↓RA, ↓reduceIte, Nat.reduceAdd, Nat.reduceMul, Nat.reduceEqDiff, RB, RBr, RW, RS, RA2, f39_k1_eq, f39_k1_t]
      exact hK _ e1
abbrev acO (s1 s2 s3 : Value) : Obj := .cells #[s1, s2, s3] 77
theorem c_great (a1 a2 a3 : Option Addr) (n1 n2 n3 k1 k2 k3 : Nat) (h1 : n1 < 9223372036854775808) (h2 : n2 < 9223372036854775808) (h3 : n3 < 9223372036854775808) (w : World) (K : K1) :
    callS Tryz.prog 36 #[.agg #[.slice a1 n1 k1, .slice a2 n2 k2, .slice a3 n3 k3]] w K = K (.bool (decide (70 < n1) || (decide (70 < n2) || decide (70 < n3)))) (w.alloc (acO (.slice a1 n1 k1) (.slice a2 n2 k2) (.slice a3 n3 k3))) := by
  refine callS_det (by kernel_rfl) (f36_call _ _ _ ?_) K
  unfold f36_t
  by_cases g1 : 70 < n1
  · have e : (decide (70 < n1) || (decide (70 < n2) || decide (70 < n3))) = true := by simp [g1]
    rw [e]
    simp (disch := first | omega | simp only [RO] | (simp only [RZ] <;> omega) | fail) only [↓RBp, ↓RA, ↓reduceIte, Nat.reduceAdd, Nat.reduceMul, Nat.reduceEqDiff, RB, RBr, RW, RS, RA2]
  · by_cases g2 : 70 < n2
    · have e : (decide (70 < n1) || (decide (70 < n2) || decide (70 < n3))) = true := by simp [g2]
      rw [e]
      simp (disch := first | omega | simp only [RO] | (simp only [RZ] <;> omega) | fail) only [↓RBp, ↓RA, ↓reduceIte, Nat.reduceAdd, Nat.reduceMul, Nat.reduceEqDiff, RB, RBr, RW, RS, RA2]
    · by_cases g3 : 70 < n3
      · have e : (decide (70 < n1) || (decide (70 < n2) || decide (70 < n3))) = true := by simp [g3]
        rw [e]
        simp (disch := first | omega | simp only [RO] | (simp only [RZ] <;> omega) | fail) only [↓RBp, ↓RA, ↓reduceIte, Nat.reduceAdd, Nat.reduceMul, Nat.reduceEqDiff, RB, RBr, RW, RS, RA2]
      · have e : (decide (70 < n1) || (decide (70 < n2) || decide (70 < n3))) = false := by simp [g1, g2, g3]
        rw [e]
        simp (disch := first | omega | simp only [RO] | (simp only [RZ] <;> omega) | fail) only [↓RBp, ↓RA, ↓reduceIte, Nat.reduceAdd, Nat.reduceMul, Nat.reduceEqDiff, RB, RBr, RW, RS, RA2]
end
end Go.Proofs.YtaeopkhdokaaoaaGreatDoor
namespace Go.Proofs.YtaeopkhdokaaoaaGreatDoor
open Go Go.Sh
set_option maxRecDepth 100000
set_option linter.unusedVariables false
noncomputable def f7_u : Code × Dec := ((Tryz.f7.body).getD .skip, (.s .o (.s .o (.s .o (.s .o (.x 680 (.s .o (.b (.l [52] 3377699720528552 9671406552413433770326080 (.s .o (.s .o (.x 7881299347899048 (.b (.s .o (.s .o (.s .o (.s .o (.b (.l [71] 1770895312375464854184 4833342095217081876250624 .o))))))) .o)))))) (.s .o (.s .o (.s .o (.x 458920 (.s .o (.s .o (.s .o (.s .o (.s .o (.s .o (.x 101646504 .o .o))))))) (.x 196776 .o (.s .o (.s .o (.s .o (.x 134742016 (.s .o (.b (.l [215] 26328072917139296674479506920917608079723773850137277813712683048 15541351137805832567303039108753872659790295698575280953855051730210959726031423930432 .o))) .o)))))))))))))))
abbrev f7_e (K : K1) : KF := endK Tryz.prog Tryz.f7.results.toList K
def f7_k1_o (K : K1) : KF := fun fr w => ∀ σ, cP (pr (pr (pr (pr (pr f7_u))))) (f7_e K) (f7_e K) nX (mixF 680 σ 0 fr) w
def f7_k1 (K : K1) (x3 x5 x7 x9 : Value) (w : World) : Prop := f7_k1_o K (fz 289 0 [(3, x3), (5, x5), (7, x7), (9, x9)]) w
def f7_l1 (K : K1) (x3 x5 x7 x9 x50 x51 x52 : Value) (w : World) : Prop := loopT [52] 3377699720528552 (fun E => cP (pl (pl (pr (pl (pr (pr (pr (pr f7_u)))))))) E (f7_e K) (exB 0 (f7_k1_o K) nX)) (fz 289 0 [(3, x3), (5, x5), (7, x7), (9, x9), (50, x50), (51, x51), (52, x52)]) w
def f7_k2_o (K : K1) : KF := fun fr w => ∀ σ, cP (pr (pr (pr (pr (pr (pr (pr (pr (pr f7_u))))))))) (f7_e K) (f7_e K) nX (mixF 458920 σ 0 fr) w
def f7_k2 (K : K1) (x3 x5 x7 x16 x17 x18 : Value) (w : World) : Prop := f7_k2_o K (fz 289 0 [(3, x3), (5, x5), (7, x7), (16, x16), (17, x17), (18, x18)]) w
def f7_k3_o (K : K1) : KF := fun fr w => ∀ σ, cP (pr (pr (pr (pr (pr (pr (pr (pl (pr (pr (pr (pr (pr (pr (pr (pr f7_u)))))))))))))))) (f7_k2_o K) (f7_e K) nX (mixF 101646504 σ 0 fr) w
def f7_k3 (K : K1) (x3 x5 x7 x16 x17 x18 x19 x25 x26 : Value) (w : World) : Prop := f7_k3_o K (fz 289 0 [(3, x3), (5, x5), (7, x7), (16, x16), (17, x17), (18, x18), (19, x19), (25, x25), (26, x26)]) w
def f7_k4_o (K : K1) (E1 : VP1) : KF := fun fr w => ∀ σ, cP (pr (pr (pr (pl (pl (pr (pl (pr (pr (pr (pr f7_u))))))))))) (fun fr w => E1 (sv fr 52) w) (f7_e K) (exB 0 (f7_k1_o K) nX) (mixF 7881299347899048 σ 0 fr) w
def f7_k4 (K : K1) (E1 : VP1) (x3 x5 x7 x9 x50 x51 x52 : Value) (w : World) : Prop := f7_k4_o K E1 (fz 289 0 [(3, x3), (5, x5), (7, x7), (9, x9), (50, x50), (51, x51), (52, x52)]) w
def f7_l2 (K : K1) (E1 : VP1) (x3 x5 x7 x9 x50 x51 x52 x69 x70 x71 : Value) (w : World) : Prop := loopT [71] 1770895312375464854184 (fun E => cP (pl (pl (pr (pr (pr (pr (pl (pl (pr (pr (pl (pl (pr (pl (pr (pr (pr (pr f7_u)))))))))))))))))) E (f7_e K) (exB 2 (f7_k4_o K E1) (exB 1 (f7_k4_o K E1) (exB 0 (f7_k1_o K) nX)))) (fz 289 0 [(3, x3), (5, x5), (7, x7), (9, x9), (50, x50), (51, x51), (52, x52), (69, x69), (70, x70), (71, x71)]) w
def f7_k5_o (K : K1) : KF := fun fr w => ∀ σ, cP (pr (pr (pr (pr (pr (pr (pr (pr (pr (pr f7_u)))))))))) (f7_e K) (f7_e K) nX (mixF 196776 σ 0 fr) w
def f7_k5 (K : K1) (x3 x5 x7 x16 x17 : Value) (w : World) : Prop := f7_k5_o K (fz 289 0 [(3, x3), (5, x5), (7, x7), (16, x16), (17, x17)]) w
def f7_k6_o (K : K1) : KF := fun fr w => ∀ σ, cP (pr (pr (pr (pr (pr (pr (pr (pr (pr (pr (pr (pr (pr (pr f7_u)))))))))))))) (f7_e K) (f7_e K) nX (mixF 134742016 σ 0 fr) w
def f7_k6 (K : K1) (x19 x27 : Value) (w : World) : Prop := f7_k6_o K (fz 289 0 [(19, x19), (27, x27)]) w
def f7_l3 (K : K1) (x3 x5 x16 x17 x19 x27 x214 x215 : Value) (w : World) : Prop := loopT [215] 26328072917139296674479506920917608079723773850137277813712683048 (fun E => cP (pl (pl (pr (pl (pr (pr (pr (pr (pr (pr (pr (pr (pr (pr (pr (pr (pr f7_u))))))))))))))))) E (f7_e K) (exB 5 (f7_k6_o K) nX)) (fz 289 0 [(3, x3), (5, x5), (16, x16), (17, x17), (19, x19), (27, x27), (214, x214), (215, x215)]) w
def f7_k1_t (x3 x5 x7 x9 : Value) (K : K1) (w : World) : Prop :=
 ldS Tryz.prog 67 x3 w fun t83 w_1 =>
 callS Tryz.prog 34 (pA #[t83]) w_1 fun t84 w_2 =>
 ev Tryz.prog (Instr.field 24 t84 0) w_2 fun t85 w_3 =>
 ldS Tryz.prog 67 x3 w_3 fun t87 w_4 =>
 callS Tryz.prog 41 (pA #[t87]) w_4 fun t88 w_5 =>
 callS Tryz.prog 40 (pA #[x9, t88]) w_5 fun t89 w_6 =>
 ldS Tryz.prog 58 x7 w_6 fun t91 w_7 =>
 ev Tryz.prog (Instr.fieldAt 105 x5 0) w_7 fun t92 w_8 =>
 ldS Tryz.prog 3 t92 w_8 fun t93 w_9 =>
 ev Tryz.prog (Instr.fieldAt 105 x5 1) w_9 fun t94 w_10 =>
 ldS Tryz.prog 5 t94 w_10 fun t95 w_11 =>
 callS Tryz.prog 55 (pA #[t91, t93, t95]) w_11 fun t96 w_12 =>
 ev Tryz.prog (Instr.extract t96 0) w_12 fun t97 w_13 =>
 ev Tryz.prog (Instr.extract t96 1) w_13 fun t98 w_14 =>
 rd Tryz.prog (Instr.fieldAt 105 x5 0) w_14.drew fun t99 =>
 ldR Tryz.prog 3 t99 w_14.drew fun t100 =>
 rd Tryz.prog (binM .lss 3 (.tmp 100) (.const (.int .i64 0)) t100 (.int .i64 0)) w_14.drew fun t101 =>
 gdR t101 false (fun k => rd Tryz.prog (Instr.fieldAt 105 x5 0) w_14.drew k) fun t103 =>
 gdR t101 false (fun k => ldR Tryz.prog 3 t103 w_14.drew k) fun t104 =>
 gdR t101 false (fun k => k t85) fun t105 =>
 gd t101 false (fun k => callS Tryz.prog 19 (pA #[t105]) w_14.drew k) w_14.drew fun t106 w_15 =>
 (gq t101 false (ag Tryz.prog (Instr.fieldAt 105 x5 0) w_15 t103)) ∧
 (gq t101 false (ldG Tryz.prog 3 t103 w_15 t104)) ∧
 gdR t101 false (fun k => rd Tryz.prog (binM .geq 3 (.tmp 104) (.tmp 106) t104 t106) w_15 k) fun t107 =>
 pickV t101 (.bool true) t107 fun t108 =>
 cndS t108 (
 ev Tryz.prog (binM .neq 28 (.tmp 109) (.const (.int .i64 2)) t98 (.int .i64 2)) w_15 fun t110 w_16 =>
 gd t110 false (fun k => k t97 w_16) w_16 fun t112 w_17 =>
 gd t110 false (fun k => ev Tryz.prog (binM .neq 103 (.tmp 112) (.const (.int .u64 ((0 : Nat) : Int))) t112 (.int .u64 ((0 : Nat) : Int))) w_17 k) w_17 fun t113 w_18 =>
 pickS t110 (.bool true) t113 w_18 fun t114 w_19 =>
 cndS t114 (
 K (.bool false) w_19) (
 f7_k2 K x3 x5 x7 t85 t89 t97 w_19)) (
 ev Tryz.prog (Instr.fieldAt 105 x5 0) w_15 fun t116 w_20 =>
 ldS Tryz.prog 3 t116 w_20 fun t117 w_21 =>
 callS Tryz.prog 20 (pA #[t85, t117]) w_21 fun t118 w_22 =>
 ev Tryz.prog (Instr.indexAt 72 t89 t118) w_22 fun t122 w_23 =>
 ldS Tryz.prog 33 t122 w_23 fun t123 w_24 =>
 callS Tryz.prog 56 (pA #[t123]) w_24 fun t124 w_25 =>
 ev Tryz.prog (Instr.extract t124 0) w_25 fun t125 w_26 =>
 ev Tryz.prog (Instr.extract t124 1) w_26 fun t126 w_27 =>
 ev Tryz.prog (Instr.extract t124 2) w_27 fun t127 w_28 =>
 ev Tryz.prog (Instr.extract t124 3) w_28 fun t128 w_29 =>
 ev Tryz.prog (binM .eql 44 (.tmp 146) (.const (.int .u32 ((178 : Nat) : Int))) t127 (.int .u32 ((178 : Nat) : Int))) w_29 fun t147 w_30 =>
 cndS t147 (
 f7_k3 K x3 x5 x7 t85 t89 t97 t98 (.int .u64 ((0 : Nat) : Int)) (.int .i64 12) w_30) (
 ev Tryz.prog (binM .eql 44 (.tmp 149) (.const (.int .u32 ((177 : Nat) : Int))) t127 (.int .u32 ((177 : Nat) : Int))) w_30 fun t150 w_31 =>
 cndS t150 (
 ldS Tryz.prog 67 x3 w_31 fun t152 w_32 =>
 callS Tryz.prog 41 (pA #[t152]) w_32 fun t153 w_33 =>
 ev Tryz.prog (convert 3 33 t153) w_33 fun t154 w_34 =>
 ev Tryz.prog (binM .mul 33 (.const (.int .u64 ((64 : Nat) : Int))) (.tmp 154) (.int .u64 ((64 : Nat) : Int)) t154) w_34 fun t155 w_35 =>
 ev Tryz.prog (binM .add 3 (.tmp 156) (.const (.int .i64 1)) t118 (.int .i64 1)) w_35 fun t157 w_36 =>
 ev Tryz.prog (convert 3 33 t157) w_36 fun t158 w_37 =>
 ev Tryz.prog (binM .mul 33 (.const (.int .u64 ((8 : Nat) : Int))) (.tmp 158) (.int .u64 ((8 : Nat) : Int)) t158) w_37 fun t159 w_38 =>
 ev Tryz.prog (binM .add 33 (.tmp 155) (.tmp 159) t155 t159) w_38 fun t160 w_39 =>
 callS Tryz.prog 57 (pA #[t160, t125, t126]) w_39 fun t163 w_40 =>
 ev Tryz.prog (Instr.extract t163 0) w_40 fun t164 w_41 =>
 ev Tryz.prog (Instr.extract t163 1) w_41 fun t165 w_42 =>
 f7_k3 K x3 x5 x7 t85 t89 t97 t98 t164 (.int .i64 0) w_42) (
 ev Tryz.prog (Instr.fieldAt 105 x5 1) w_31 fun t167 w_43 =>
 ldS Tryz.prog 5 t167 w_43 fun t168 w_44 =>
 ev Tryz.prog (binM .eql 5 (.tmp 168) (.const (.int .u8 ((0 : Nat) : Int))) t168 (.int .u8 ((0 : Nat) : Int))) w_44 fun t169 w_45 =>
 gd t169 false (fun k => ev Tryz.prog (Instr.fieldAt 105 x5 1) w_45 k) w_45 fun t171 w_46 =>
 gd t169 false (fun k => ldS Tryz.prog 5 t171 w_46 k) w_46 fun t172 w_47 =>
 gd t169 false (fun k => ev Tryz.prog (binM .gtr 5 (.tmp 172) (.const (.int .u8 ((127 : Nat) : Int))) t172 (.int .u8 ((127 : Nat) : Int))) w_47 k) w_47 fun t173 w_48 =>
 pickS t169 (.bool true) t173 w_48 fun t174 w_49 =>
 cndS t174 (
 f7_k3 K x3 x5 x7 t85 t89 t97 t98 (.int .u64 ((0 : Nat) : Int)) (.int .i64 1) w_49) (
 ldR Tryz.prog 67 x3 w_49.drew fun t130 =>
 rd Tryz.prog (binM .add 3 (.tmp 134) (.const (.int .i64 1)) t118 (.int .i64 1)) w_49.drew fun t135 =>
 rd Tryz.prog (convert 3 33 t135) w_49.drew fun t136 =>
 rd Tryz.prog (binM .mul 33 (.const (.int .u64 ((8 : Nat) : Int))) (.tmp 136) (.int .u64 ((8 : Nat) : Int)) t136) w_49.drew fun t137 =>
 rd Tryz.prog (Instr.fieldAt 105 x5 1) w_49.drew fun t140 =>
 ldR Tryz.prog 5 t140 w_49.drew fun t141 =>
 callS Tryz.prog 41 (pA #[t130]) w_49.drew fun t131 w_50 =>
 (ag Tryz.prog (binM .add 3 (.tmp 134) (.const (.int .i64 1)) t118 (.int .i64 1)) w_50 t135) ∧
 (ag Tryz.prog (convert 3 33 t135) w_50 t136) ∧
 (ag Tryz.prog (binM .mul 33 (.const (.int .u64 ((8 : Nat) : Int))) (.tmp 136) (.int .u64 ((8 : Nat) : Int)) t136) w_50 t137) ∧
 (ag Tryz.prog (Instr.fieldAt 105 x5 1) w_50 t140) ∧
 (ldG Tryz.prog 5 t140 w_50 t141) ∧
 rd Tryz.prog (convert 3 33 t131) w_50 fun t132 =>
 rd Tryz.prog (binM .mul 33 (.const (.int .u64 ((64 : Nat) : Int))) (.tmp 132) (.int .u64 ((64 : Nat) : Int)) t132) w_50 fun t133 =>
 rd Tryz.prog (binM .add 33 (.tmp 133) (.tmp 137) t133 t137) w_50 fun t138 =>
 callS Tryz.prog 57 (pA #[t138, t125, t141]) w_50 fun t142 w_51 =>
 rd Tryz.prog (Instr.extract t142 0) w_51 fun t143 =>
 rd Tryz.prog (Instr.extract t142 1) w_51 fun t144 =>
 f7_k3 K x3 x5 x7 t85 t89 t97 t98 t143 (.int .i64 0) w_51))))
theorem f7_k1_eq (K : K1) (x3 x5 x7 x9 : Value) (w : World) : f7_k1 K x3 x5 x7 x9 w = f7_k1_t x3 x5 x7 x9 K w := cutE fun σ => by kernel_rfl
def f7_l1_t (x3 x5 x7 x9 x50 x51 x52 : Value) (K : K1) (E1 : VP1) (w : World) : Prop :=
 ev Tryz.prog (binM .lss 3 (.tmp 52) (.tmp 51) x52 x51) w fun t53 w_1 =>
 cndS t53 (
 ev Tryz.prog (Instr.indexAt 68 x50 x52) w_1 fun t54 w_2 =>
 ldS Tryz.prog 77 t54 w_2 fun t55 w_3 =>
 ev Tryz.prog (Instr.alloc 77 true (.tuple #[])) w_3 fun t11 w_4 =>
 stS Tryz.prog 77 t11 t55 w_4 fun w_5 =>
 ldS Tryz.prog 77 t11 w_5 fun t56 w_6 =>
 callS Tryz.prog 36 (pA #[t56]) w_6 fun t57 w_7 =>
 cndS t57 (
 K (.bool true) w_7) (
 ldS Tryz.prog 58 x7 w_7 fun t59 w_8 =>
 ev Tryz.prog (Instr.fieldAt 77 t11 0) w_8 fun t60 w_9 =>
 ldS Tryz.prog 74 t60 w_9 fun t61 w_10 =>
 ev Tryz.prog (Instr.fieldAt 77 t11 1) w_10 fun t62 w_11 =>
 ldS Tryz.prog 75 t62 w_11 fun t63 w_12 =>
 ev Tryz.prog (Instr.fieldAt 77 t11 2) w_12 fun t64 w_13 =>
 ldS Tryz.prog 74 t64 w_13 fun t65 w_14 =>
 callS Tryz.prog 37 (pA #[t59, t61, t63, t65]) w_14 fun t66 w_15 =>
 ev Tryz.prog (Instr.extract t66 0) w_15 fun t67 w_16 =>
 ev Tryz.prog (Instr.extract t66 1) w_16 fun t68 w_17 =>
 bltS Tryz.prog .len #[38] 3 #[false] #[t67] w_17 fun t70 w_18 =>
 f7_l2 K E1 x3 x5 x7 x9 x50 x51 x52 t67 t70 (.int .i64 0) w_18)) (
 f7_k1 K x3 x5 x7 x9 w_1)
theorem f7_l1_rule (x3 x5 x7 x9 x50 x51 x52 : Value) (K : K1) (w : World) (I : VP1) (μ : Value → World → Nat) (h0 : I x52 w)
    (hr : ∀ (x52 : Value) (w : World), I x52 w → ∀ E1 : VP1, (∀ (y52 : Value) (w' : World), I y52 w' → μ y52 w' < μ x52 w → E1 y52 w') → f7_l1_t x3 x5 x7 x9 x50 x51 x52 K E1 w) : f7_l1 K x3 x5 x7 x9 x50 x51 x52 w :=
  ⟨I, μ, h0, fun σ w hI E hE => cast (by kernel_rfl) (hr (σ 52) w hI E hE)⟩
def f7_k2_t (x3 x5 x7 x16 x17 x18 : Value) (K : K1) (w : World) : Prop :=
 ev Tryz.prog (Instr.fieldAt 105 x5 3) w fun t183 w_1 =>
 ldS Tryz.prog 4 t183 w_1 fun t184 w_2 =>
 cndS t184 (
 ev Tryz.prog (Instr.fieldAt 105 x5 2) w_2 fun t186 w_3 =>
 stS Tryz.prog 103 t186 x18 w_3 fun w_4 =>
 f7_k5 K x3 x5 x7 x16 x17 w_4) (
 f7_k5 K x3 x5 x7 x16 x17 w_2)
theorem f7_k2_eq (K : K1) (x3 x5 x7 x16 x17 x18 : Value) (w : World) : f7_k2 K x3 x5 x7 x16 x17 x18 w = f7_k2_t x3 x5 x7 x16 x17 x18 K w := cutE fun σ => by kernel_rfl
def f7_k3_t (x3 x5 x7 x16 x17 x18 x19 x25 x26 : Value) (K : K1) (w : World) : Prop :=
 ev Tryz.prog (binM .neq 28 (.tmp 175) (.tmp 176) x19 x26) w fun t177 w_1 =>
 gd t177 false (fun k => k x18 w_1) w_1 fun t179 w_2 =>
 gd t177 false (fun k => k x25 w_2) w_2 fun t180 w_3 =>
 gd t177 false (fun k => ev Tryz.prog (binM .neq 103 (.tmp 179) (.tmp 180) t179 t180) w_3 k) w_3 fun t181 w_4 =>
 pickS t177 (.bool true) t181 w_4 fun t182 w_5 =>
 cndS t182 (
 K (.bool false) w_5) (
 f7_k2 K x3 x5 x7 x16 x17 x18 w_5)
theorem f7_k3_eq (K : K1) (x3 x5 x7 x16 x17 x18 x19 x25 x26 : Value) (w : World) : f7_k3 K x3 x5 x7 x16 x17 x18 x19 x25 x26 w = f7_k3_t x3 x5 x7 x16 x17 x18 x19 x25 x26 K w := cutE fun σ => by kernel_rfl
def f7_k4_t (x3 x5 x7 x9 x50 x51 x52 : Value) (K : K1) (E1 : VP1) (w : World) : Prop :=
 ev Tryz.prog (binM .add 3 (.tmp 52) (.const (.int .i64 1)) x52 (.int .i64 1)) w fun t82 w_1 =>
 E1 t82 w_1
theorem f7_k4_eq (K : K1) (E1 : VP1) (x3 x5 x7 x9 x50 x51 x52 : Value) (w : World) : f7_k4 K E1 x3 x5 x7 x9 x50 x51 x52 w = f7_k4_t x3 x5 x7 x9 x50 x51 x52 K E1 w := cutE fun σ => by kernel_rfl
def f7_l2_t (x3 x5 x7 x9 x50 x51 x52 x69 x70 x71 : Value) (K : K1) (E1 : VP1) (E2 : VP1) (w : World) : Prop :=
 ev Tryz.prog (binM .lss 3 (.tmp 71) (.tmp 70) x71 x70) w fun t72 w_1 =>
 cndS t72 (
 ev Tryz.prog (Instr.indexAt 38 x69 x71) w_1 fun t73 w_2 =>
 ldS Tryz.prog 37 t73 w_2 fun t74 w_3 =>
 ev Tryz.prog (Instr.alloc 37 true (.tuple #[])) w_3 fun t15 w_4 =>
 stS Tryz.prog 37 t15 t74 w_4 fun w_5 =>
 ev Tryz.prog (Instr.fieldAt 37 t15 0) w_5 fun t76 w_6 =>
 ldS Tryz.prog 33 t76 w_6 fun t77 w_7 =>
 ev Tryz.prog (Instr.fieldAt 37 t15 1) w_7 fun t78 w_8 =>
 ldS Tryz.prog 33 t78 w_8 fun t79 w_9 =>
 callS Tryz.prog 25 (pA #[x9, t77, t79]) w_9 fun t80 w_10 =>
 ev Tryz.prog (binM .add 3 (.tmp 71) (.const (.int .i64 1)) x71 (.int .i64 1)) w_10 fun t81 w_11 =>
 E2 t81 w_11) (
 f7_k4 K E1 x3 x5 x7 x9 x50 x51 x52 w_1)
theorem f7_l2_rule (x3 x5 x7 x9 x50 x51 x52 x69 x70 x71 : Value) (K : K1) (E1 : VP1) (w : World) (I : VP1) (μ : Value → World → Nat) (h0 : I x71 w)
    (hr : ∀ (x71 : Value) (w : World), I x71 w → ∀ E2 : VP1, (∀ (y71 : Value) (w' : World), I y71 w' → μ y71 w' < μ x71 w → E2 y71 w') → f7_l2_t x3 x5 x7 x9 x50 x51 x52 x69 x70 x71 K E1 E2 w) : f7_l2 K E1 x3 x5 x7 x9 x50 x51 x52 x69 x70 x71 w :=
  ⟨I, μ, h0, fun σ w hI E hE => cast (by kernel_rfl) (hr (σ 71) w hI E hE)⟩
def f7_k5_t (x3 x5 x7 x16 x17 : Value) (K : K1) (w : World) : Prop :=
 ldS Tryz.prog 58 x7 w fun t188 w_1 =>
 ev Tryz.prog (Instr.fieldAt 105 x5 2) w_1 fun t189 w_2 =>
 ldS Tryz.prog 103 t189 w_2 fun t190 w_3 =>
 callS Tryz.prog 58 (pA #[t188, t190]) w_3 fun t191 w_4 =>
 ev Tryz.prog (Instr.extract t191 0) w_4 fun t192 w_5 =>
 ev Tryz.prog (Instr.extract t191 1) w_5 fun t193 w_6 =>
 ev Tryz.prog (Instr.fieldAt 105 x5 2) w_6 fun t194 w_7 =>
 ldS Tryz.prog 103 t194 w_7 fun t195 w_8 =>
 ev Tryz.prog (binM .eql 103 (.tmp 195) (.const (.int .u64 ((0 : Nat) : Int))) t195 (.int .u64 ((0 : Nat) : Int))) w_8 fun t196 w_9 =>
 cndS t196 (
 ev Tryz.prog (binM .eql 28 (.tmp 197) (.const (.int .i64 1)) t193 (.int .i64 1)) w_9 fun t198 w_10 =>
 gd t198 true (fun k => k t192 w_10) w_10 fun t200 w_11 =>
 gd t198 true (fun k => ev Tryz.prog (binM .eql 3 (.tmp 200) (.const (.int .i64 0)) t200 (.int .i64 0)) w_11 k) w_11 fun t201 w_12 =>
 pickS t198 t201 (.bool false) w_12 fun t202 w_13 =>
 K t202 w_13) (
 ev Tryz.prog (Instr.fieldAt 105 x5 2) w_9 fun t203 w_14 =>
 ldS Tryz.prog 103 t203 w_14 fun t204 w_15 =>
 ev Tryz.prog (binM .shr 103 (.tmp 204) (.const (.int .u64 ((56 : Nat) : Int))) t204 (.int .u64 ((56 : Nat) : Int))) w_15 fun t205 w_16 =>
 ev Tryz.prog (binM .neq 103 (.tmp 205) (.const (.int .u64 ((0 : Nat) : Int))) t205 (.int .u64 ((0 : Nat) : Int))) w_16 fun t206 w_17 =>
 cndS t206 (
 ev Tryz.prog (binM .eql 28 (.tmp 207) (.const (.int .i64 2)) t193 (.int .i64 2)) w_17 fun t208 w_18 =>
 gd t208 true (fun k => k t192 w_18) w_18 fun t210 w_19 =>
 gd t208 true (fun k => ev Tryz.prog (binM .eql 3 (.tmp 210) (.const (.int .i64 0)) t210 (.int .i64 0)) w_19 k) w_19 fun t211 w_20 =>
 pickS t208 t211 (.bool false) w_20 fun t212 w_21 =>
 K t212 w_21) (
 callS Tryz.prog 19 (pA #[x16]) w_17 fun t214 w_22 =>
 f7_l3 K x3 x5 x16 x17 t193 t192 t214 (.int .i64 0) w_22))
theorem f7_k5_eq (K : K1) (x3 x5 x7 x16 x17 : Value) (w : World) : f7_k5 K x3 x5 x7 x16 x17 w = f7_k5_t x3 x5 x7 x16 x17 K w := cutE fun σ => by kernel_rfl
def f7_k6_t (x19 x27 : Value) (K : K1) (w : World) : Prop :=
 ev Tryz.prog (binM .eql 28 (.tmp 283) (.const (.int .i64 2)) x19 (.int .i64 2)) w fun t284 w_1 =>
 gd t284 true (fun k => k x27 w_1) w_1 fun t286 w_2 =>
 gd t284 true (fun k => ev Tryz.prog (binM .eql 3 (.tmp 286) (.const (.int .i64 0)) t286 (.int .i64 0)) w_2 k) w_2 fun t287 w_3 =>
 pickS t284 t287 (.bool false) w_3 fun t288 w_4 =>
 K t288 w_4
theorem f7_k6_eq (K : K1) (x19 x27 : Value) (w : World) : f7_k6 K x19 x27 w = f7_k6_t x19 x27 K w := cutE fun σ => by kernel_rfl
def f7_l3_t (x3 x5 x16 x17 x19 x27 x214 x215 : Value) (K : K1) (E1 : VP1) (w : World) : Prop :=
 ev Tryz.prog (binM .lss 3 (.tmp 215) (.tmp 214) x215 x214) w fun t216 w_1 =>
 cndS t216 (
 callS Tryz.prog 20 (pA #[x16, x215]) w_1 fun t220 w_2 =>
 rd Tryz.prog (Instr.fieldAt 105 x5 2) w_2.drew fun t221 =>
 ldR Tryz.prog 103 t221 w_2.drew fun t222 =>
 ldR Tryz.prog 67 x3 w_2.drew fun t224 =>
 rd Tryz.prog (binM .add 3 (.tmp 228) (.const (.int .i64 1)) t220 (.int .i64 1)) w_2.drew fun t229 =>
 rd Tryz.prog (convert 3 33 t229) w_2.drew fun t230 =>
 rd Tryz.prog (binM .mul 33 (.const (.int .u64 ((8 : Nat) : Int))) (.tmp 230) (.int .u64 ((8 : Nat) : Int)) t230) w_2.drew fun t231 =>
 callS Tryz.prog 59 (pA #[t222]) w_2.drew fun t223 w_3 =>
 (ldG Tryz.prog 67 x3 w_3 t224) ∧
 (ag Tryz.prog (binM .add 3 (.tmp 228) (.const (.int .i64 1)) t220 (.int .i64 1)) w_3 t229) ∧
 (ag Tryz.prog (convert 3 33 t229) w_3 t230) ∧
 (ag Tryz.prog (binM .mul 33 (.const (.int .u64 ((8 : Nat) : Int))) (.tmp 230) (.int .u64 ((8 : Nat) : Int)) t230) w_3 t231) ∧
 callS Tryz.prog 41 (pA #[t224]) w_3 fun t225 w_4 =>
 (ag Tryz.prog (binM .add 3 (.tmp 228) (.const (.int .i64 1)) t220 (.int .i64 1)) w_4 t229) ∧
 (ag Tryz.prog (convert 3 33 t229) w_4 t230) ∧
 (ag Tryz.prog (binM .mul 33 (.const (.int .u64 ((8 : Nat) : Int))) (.tmp 230) (.int .u64 ((8 : Nat) : Int)) t230) w_4 t231) ∧
 rd Tryz.prog (convert 3 33 t225) w_4 fun t226 =>
 rd Tryz.prog (binM .mul 33 (.const (.int .u64 ((64 : Nat) : Int))) (.tmp 226) (.int .u64 ((64 : Nat) : Int)) t226) w_4 fun t227 =>
 rd Tryz.prog (binM .add 33 (.tmp 227) (.tmp 231) t227 t231) w_4 fun t232 =>
 rd Tryz.prog (binM .neq 33 (.tmp 223) (.tmp 232) t223 t232) w_4 fun t233 =>
 cndS t233 (
 ev Tryz.prog (binM .add 3 (.tmp 215) (.const (.int .i64 1)) x215 (.int .i64 1)) w_4 fun t282 w_5 =>
 E1 t282 w_5) (
 ev Tryz.prog (Instr.indexAt 72 x17 t220) w_4 fun t237 w_6 =>
 ldS Tryz.prog 33 t237 w_6 fun t238 w_7 =>
 callS Tryz.prog 56 (pA #[t238]) w_7 fun t239 w_8 =>
 ev Tryz.prog (Instr.extract t239 0) w_8 fun t240 w_9 =>
 ev Tryz.prog (Instr.extract t239 1) w_9 fun t241 w_10 =>
 ev Tryz.prog (Instr.extract t239 2) w_10 fun t242 w_11 =>
 ev Tryz.prog (Instr.extract t239 3) w_11 fun t243 w_12 =>
 callS Tryz.prog 48 (pA #[x17, x16, x215, (.int .u32 ((177 : Nat) : Int))]) w_12 fun t248 w_13 =>
 ev Tryz.prog (Op.unary .not t248) w_13 fun t249 w_14 =>
 gd t249 false (fun k => k t240 w_14) w_14 fun t251 w_15 =>
 gd t249 false (fun k => ev Tryz.prog (Instr.fieldAt 105 x5 2) w_15 k) w_15 fun t252 w_16 =>
 gd t249 false (fun k => ldS Tryz.prog 103 t252 w_16 k) w_16 fun t253 w_17 =>
 gd t249 false (fun k => callS Tryz.prog 60 (pA #[t253]) w_17 k) w_17 fun t254 w_18 =>
 gd t249 false (fun k => ev Tryz.prog (binM .neq 22 (.tmp 251) (.tmp 254) t251 t254) w_18 k) w_18 fun t255 w_19 =>
 pickS t249 (.bool true) t255 w_19 fun t256 w_20 =>
 cndS t256 (
 ev Tryz.prog (binM .eql 28 (.tmp 257) (.const (.int .i64 12)) x19 (.int .i64 12)) w_20 fun t258 w_21 =>
 gd t258 true (fun k => k x27 w_21) w_21 fun t260 w_22 =>
 gd t258 true (fun k => ev Tryz.prog (binM .eql 3 (.tmp 260) (.const (.int .i64 0)) t260 (.int .i64 0)) w_22 k) w_22 fun t261 w_23 =>
 pickS t258 t261 (.bool false) w_23 fun t262 w_24 =>
 K t262 w_24) (
 ev Tryz.prog (Instr.fieldAt 105 x5 2) w_20 fun t265 w_25 =>
 ldS Tryz.prog 103 t265 w_25 fun t266 w_26 =>
 callS Tryz.prog 61 (pA #[t266]) w_26 fun t267 w_27 =>
 ev Tryz.prog (binM .neq 5 (.tmp 264) (.tmp 267) t241 t267) w_27 fun t268 w_28 =>
 cndS t268 (
 ev Tryz.prog (binM .eql 28 (.tmp 269) (.const (.int .i64 13)) x19 (.int .i64 13)) w_28 fun t270 w_29 =>
 gd t270 true (fun k => k x27 w_29) w_29 fun t272 w_30 =>
 gd t270 true (fun k => ev Tryz.prog (binM .eql 3 (.tmp 272) (.const (.int .i64 0)) t272 (.int .i64 0)) w_30 k) w_30 fun t273 w_31 =>
 pickS t270 t273 (.bool false) w_31 fun t274 w_32 =>
 K t274 w_32) (
 ev Tryz.prog (binM .eql 28 (.tmp 275) (.const (.int .i64 0)) x19 (.int .i64 0)) w_28 fun t276 w_33 =>
 gd t276 true (fun k => k x27 w_33) w_33 fun t278 w_34 =>
 gd t276 true (fun k => k x215 w_34) w_34 fun t279 w_35 =>
 gd t276 true (fun k => ev Tryz.prog (binM .eql 3 (.tmp 278) (.tmp 279) t278 t279) w_35 k) w_35 fun t280 w_36 =>
 pickS t276 t280 (.bool false) w_36 fun t281 w_37 =>
 K t281 w_37)))) (
 f7_k6 K x19 x27 w_1)
theorem f7_l3_rule (x3 x5 x16 x17 x19 x27 x214 x215 : Value) (K : K1) (w : World) (I : VP1) (μ : Value → World → Nat) (h0 : I x215 w)
    (hr : ∀ (x215 : Value) (w : World), I x215 w → ∀ E1 : VP1, (∀ (y215 : Value) (w' : World), I y215 w' → μ y215 w' < μ x215 w → E1 y215 w') → f7_l3_t x3 x5 x16 x17 x19 x27 x214 x215 K E1 w) : f7_l3 K x3 x5 x16 x17 x19 x27 x214 x215 w :=
  ⟨I, μ, h0, fun σ w hI E hE => cast (by kernel_rfl) (hr (σ 215) w hI E hE)⟩
def f7_t (x0 x1 x2 : Value) (K : K1) (w : World) : Prop :=
 ev Tryz.prog (Instr.box 67 x0) w fun t3 w_1 =>
 ev Tryz.prog (Instr.box 105 x2) w_1 fun t5 w_2 =>
 callS Tryz.prog 12 (pA #[]) w_2 fun t34 w_3 =>
 ev Tryz.prog (Op.unary .not t34) w_3 fun t35 w_4 =>
 gd t35 false (fun k => k x1 w_4) w_4 fun t37 w_5 =>
 gd t35 false (fun k => bltS Tryz.prog .len #[68] 3 #[false] #[t37] w_5 k) w_5 fun t38 w_6 =>
 gd t35 false (fun k => ev Tryz.prog (binM .gtr 3 (.tmp 38) (.const (.int .i64 6)) t38 (.int .i64 6)) w_6 k) w_6 fun t39 w_7 =>
 pickS t35 (.bool true) t39 w_7 fun t40 w_8 =>
 cndS t40 (
 callS Tryz.prog 12 (pA #[]) w_8 fun t41 w_9 =>
 K t41 w_9) (
 ldS Tryz.prog 67 t3 w_8 fun t43 w_10 =>
 callS Tryz.prog 33 (pA #[t43]) w_10 fun t44 w_11 =>
 ev Tryz.prog (Instr.extract t44 0) w_11 fun t45 w_12 =>
 ev Tryz.prog (Instr.extract t44 1) w_12 fun t46 w_13 =>
 ev Tryz.prog (Instr.extract t44 2) w_13 fun t47 w_14 =>
 ev Tryz.prog (Instr.alloc 58 true (.tuple #[])) w_14 fun t7 w_15 =>
 stS Tryz.prog 58 t7 t45 w_15 fun w_16 =>
 ev Tryz.prog (binM .eql 48 (.tmp 48) (.const (.pointer none)) t47 (.pointer none)) w_16 fun t49 w_17 =>
 cndS t49 (
 K (.bool false) w_17) (
 bltS Tryz.prog .len #[68] 3 #[false] #[x1] w_17 fun t51 w_18 =>
 f7_l1 K t3 t5 t7 t47 x1 t51 (.int .i64 0) w_18))
theorem f7_call (x0 x1 x2 : Value) (K : K1) (w : World) (h : f7_t x0 x1 x2 K w) : callS Tryz.prog 7 #[x0, x1, x2] w K :=
  call_of_txt (args := [x0, x1, x2]) mixed Tryz.func7 f7_u.2 (by kernel_rfl) (cast (by kernel_rfl) h)
end Go.Proofs.YtaeopkhdokaaoaaGreatDoor
namespace Go.Proofs.YtaeopkhdokaaoaaGreatDoor
open Go Go.Sh
set_option maxRecDepth 100000
set_option maxHeartbeats 4000000
set_option linter.unusedSimpArgs false
set_option linter.unusedVariables false
section
variable {w0 w w' : World} {Y Y' : Lay} {D D' : DS} {B l k : Nat} {c o : Int} {g : Nat} {K : K1} {E1 : VP1}
theorem pp_l2 (h : Loc w0 w Y D B l c o g) {ws : List (Nat × Nat)} (hok : ∀ x ∈ ws, x.1 < 18446744073709551616 ∧ x.2 < 18446744073709551616) (hx : D.exe < 1000000000) (hwl : ws.length < 1000) (u : Value) (hu : SlO w 37 2 u ws.length (wrL ws)) (ou : Out w0 Y B u) {T : Nat} (hT : Y.tb 0 = T) (x3 x5 : Value) (x50 x51 x52 : Value)
    (H : ∀ w' Y', Stp w Y w' Y' (D.strs ws) → f7_k4 K E1 x3 x5 (.pointer (some ⟨B, 0, none⟩)) (.pointer (some ⟨T, 0, none⟩)) x50 x51 x52 w') :
    f7_l2 K E1 x3 x5 (.pointer (some ⟨B, 0, none⟩)) (.pointer (some ⟨T, 0, none⟩)) x50 x51 x52 u (.int .i64 (ws.length : Int)) (.int .i64 0) w := by
  subst hT
  have gt : ∀ j, Good (D.strs (ws.take j)) := fun j => strs_good h.L.gd (fun x hx => hok x (mem_take hx))
  have xt : ∀ j, (D.strs (ws.take j)).exe ≤ D.exe + ws.length := fun j => by
    have := strs_exe D (ws.take j); rw [List.length_take] at this
    have := Nat.min_le_right j ws.length; omega
  apply f7_l2_rule (I := fun z w' => ∃ (j : Nat) (Y' : Lay), z = .int .i64 (j : Int) ∧ j ≤ ws.length ∧ Stp w Y w' Y' (D.strs (ws.take j))) (μ := fun z _ => ws.length - (Go.RowKit.intOf z).toNat)
  · exact ⟨0, Y, rfl, by omega, (Stp.refl h.L.dv).to (strs_zero _ _).symm⟩
  · intros; rename_i w1 hI E3 hE
    obtain ⟨j, Y1, rfl, hj, st⟩ := hI
    have tb : Y1.tb 0 = Y.tb 0 := by rw [st.tb]
    by_cases hjl : j < ws.length
    · have hxm := hok ws[j] (List.getElem_mem hjl)
      have htk := strs_take (D := D) (wr_get hjl)
      have xj := xt j
      obtain ⟨_, s1⟩ := ou.step hu st
      obtain ⟨b, ob, cap, rfl, hc1, hc2⟩ := wr_cells s1 hjl
      generalize ws[j] = x at hc1 hc2 hxm htk
      obtain ⟨xo, xv⟩ := x
      simp only at hc1 hc2 hxm htk
      unfold f7_l2_t
      simp (disch := first | omega | simp only [RO] | (simp only [RZ] <;> omega) | fail) only [↓RBp, ↓RA, ↓reduceIte, Nat.reduceAdd, Nat.reduceMul, Nat.reduceEqDiff, RB, RBr, RW, RS, RA2, hc1, hc2]
      have stg := st.grow (Ext.alloc_self w1 (.cells #[.int .u64 (xo : Int), .int .u64 (xv : Int)] 37))
      rw [← tb]
      refine k_Store stg.dv (gt j) 0 (by omega) xo xv (by omega) _ (fun w2 Y2 st2 => ?_)
      simp (disch := first | omega | simp only [RO] | (simp only [RZ] <;> omega) | fail) only [↓RBp, ↓RA, ↓reduceIte, Nat.reduceAdd, Nat.reduceMul, Nat.reduceEqDiff, RB, RBr, RW, RS, RA2]
      apply hE
      · exact ⟨j + 1, Y2, by simp, by omega, by rw [htk]; exact stg.trans st2⟩
      · simp [Go.RowKit.intOf]; omega
    · have : j = ws.length := by omega
      subst this
      rw [List.take_length] at st
      unfold f7_l2_t
      simp (disch := first | omega | simp only [RO] | (simp only [RZ] <;> omega) | fail) only [↓RBp, ↓RA, ↓reduceIte, Nat.reduceAdd, Nat.reduceMul, Nat.reduceEqDiff, RB, RBr, RW, RS, RA2]
      exact H _ _ st
theorem pp_l1 (h : Loc w0 w Y D B l c o g) (hs : Snd D l c o) {T : Nat} (hT : Y.tb 0 = T) {m : Nat} {v : Value} {al : List (List Int × List Nat × List Int)} (hal : ActsR m w0 v al) (hok : ∀ x ∈ al, actOk x) (hln : al.length ≤ 100) (hx : D.exe ≤ 400) (x3 x5 : Value) (hK : ∀ w', Ext w0 w' → K (.bool true) w')
    (H : ∀ w' Y' D', Loc w0 w' Y' D' B l c o g → Y'.tb 0 = T → Snd D' l c o → D'.exe ≤ 400 + 200 * al.length → f7_k1 K x3 x5 (.pointer (some ⟨B, 0, none⟩)) (.pointer (some ⟨T, 0, none⟩)) w') :
    f7_l1 K x3 x5 (.pointer (some ⟨B, 0, none⟩)) (.pointer (some ⟨T, 0, none⟩)) v (.int .i64 (al.length : Int)) (.int .i64 0) w := by
  apply f7_l1_rule (I := fun z w' => ∃ (j : Nat) (Y' : Lay) (D' : DS), z = .int .i64 (j : Int) ∧ j ≤ al.length ∧ Loc w0 w' Y' D' B l c o g ∧ Y'.tb 0 = T ∧ Snd D' l c o ∧ D'.exe ≤ 400 + 200 * j) (μ := fun z _ => al.length - (Go.RowKit.intOf z).toNat)
  · exact ⟨0, Y, D, rfl, by omega, h, hT, hs, by omega⟩
  · intros; rename_i x52 w1 hI E1 hE
    obtain ⟨j, Y1, D1, rfl, hj, h1, hT1, hs1, hx1⟩ := hI
    by_cases hjl : j < al.length
    · have hA := hal.ext h1.L.ex
      obtain ⟨av, ac, rfl, hget⟩ := hA
      obtain ⟨b, ob, s1, s2, s3, rfl, hb, q1, q2, q3, r1, r2, r3⟩ := hget j al[j] (List.getElem?_eq_getElem hjl)
      have hoj := hok al[j] (List.getElem_mem hjl)
      generalize al[j] = x at r1 r2 r3 hoj
      obtain ⟨L, ks, M⟩ := x
      obtain ⟨lL, lk, lM, bk⟩ := hoj
      simp only at r1 r2 r3 lL lk lM bk
      obtain ⟨a1, k1, rfl, _⟩ := id r1
      obtain ⟨a2, k2, rfl, _⟩ := id r2
      obtain ⟨a3, k3, rfl, _⟩ := id r3
      rw [show (i64L L).length = L.length by simp] at r1 q1
      rw [show (u8L ks).length = ks.length by simp] at r2 q2
      rw [show (i64L M).length = M.length by simp] at r3 q3
      have hml : maxLen < 9223372036854775808 := by decide
      have hgr := fun w K => c_great a1 a2 a3 L.length ks.length M.length k1 k2 k3 (by omega) (by omega) (by omega) w K
      have hB1 := h1.ltB
      have ob1 := h1.cells; have c0 := ob1.1; have c1 := ob1.2.1; have c2 := ob1.2.2.1; have c3 := ob1.2.2.2.1; have c4 := ob1.2.2.2.2
      have e01 := h1.L.ex
      have tail : ∀ (ws : List (Nat × Nat)) (u : Value) (w2 : World), Loc w0 w2 Y1 D1 B l c o g → (∀ x ∈ ws, x.1 < 18446744073709551616 ∧ x.2 < 18446744073709551616) → ws.length ≤ 150 → SlO w2 37 2 u ws.length (wrL ws) → Out w0 Y1 B u → Good (D1.strs ws) ∧ On (D1.strs ws) ∧ Snd (D1.strs ws) l c o → f7_l2 K E1 x3 x5 (.pointer (some ⟨B, 0, none⟩)) (.pointer (some ⟨T, 0, none⟩)) (.slice (some ⟨b, ob, none⟩) al.length ac) (.int .i64 (al.length : Int)) (.int .i64 (j : Int)) u (.int .i64 (ws.length : Int)) (.int .i64 0) w2 := by
        intro ws u w2 h2 hwok hwl hu ou hg3
        refine pp_l2 h2 hwok (by omega) (by omega) u hu ou hT1 x3 x5 _ _ _ (fun w3 Y3 st => ?_)
        have h3 := h2.step st hg3.1 hg3.2.1 (strs_n _ _)
        rw [f7_k4_eq]
        unfold f7_k4_t
        simp (disch := first | omega | simp only [RO] | (simp only [RZ] <;> omega) | fail) only [↓RBp, ↓RA, ↓reduceIte, Nat.reduceAdd, Nat.reduceMul, Nat.reduceEqDiff, RB, RBr, RW, RS, RA2]
        apply hE
        · exact ⟨j + 1, Y3, _, by simp, by omega, h3, by rw [st.tb]; exact hT1, hg3.2.2, by have := strs_exe D1 ws; omega⟩
        · simp [Go.RowKit.intOf]; omega
      have hnil : Good (D1.strs []) ∧ On (D1.strs []) ∧ Snd (D1.strs []) l c o := by
        have : D1.strs [] = D1 := strs_zero D1 []
        rw [this]; exact ⟨h1.L.gd, h1.on, hs1⟩
      unfold f7_l1_t
      by_cases hgt : (decide (70 < L.length) || (decide (70 < ks.length) || decide (70 < M.length))) = true
      · rw [hgt] at hgr
        simp (disch := first | omega | simp only [RO] | (simp only [RZ] <;> omega) | fail) only [↓RBp, ↓RA, ↓reduceIte, Nat.reduceAdd, Nat.reduceMul, Nat.reduceEqDiff, RB, RBr, RW, RS, RA2, q1, q2, q3, hgr]
        exact hK _ (e01.trans (by repeat (first | with_reducible refine Ext.setB ?_ (by omega) _ | with_reducible refine Ext.setB ?_ (by simp only [RZ] <;> omega) _ | with_reducible assumption | exact Ext.refl _ | with_reducible refine Ext.alloc ?_ _ | with_reducible refine Ext.drew ?_ | with_reducible refine Ext.trans ?_ (by assumption))))
      · have hgt : (decide (70 < L.length) || (decide (70 < ks.length) || decide (70 < M.length))) = false := by simpa using hgt
        rw [hgt] at hgr
        simp only [Bool.or_eq_false_iff, decide_eq_false_iff_not] at hgt
        simp (disch := first | omega | simp only [RO] | (simp only [RZ] <;> omega) | fail) only [↓RBp, ↓RA, ↓reduceIte, Nat.reduceAdd, Nat.reduceMul, Nat.reduceEqDiff, RB, RBr, RW, RS, RA2, q1, q2, q3, hgr, c0, c1, c2, c3, c4]
        refine k_Actions (h1.ext (by repeat (first | with_reducible refine Ext.setB ?_ (by omega) _ | with_reducible refine Ext.setB ?_ (by simp only [RZ] <;> omega) _ | with_reducible assumption | exact Ext.refl _ | with_reducible refine Ext.alloc ?_ _ | with_reducible refine Ext.drew ?_ | with_reducible refine Ext.trans ?_ (by assumption)))).cx h1.on.err o g L M ks _ _ _ (r1.ext (by repeat (first | with_reducible refine Ext.setB ?_ (by omega) _ | with_reducible refine Ext.setB ?_ (by simp only [RZ] <;> omega) _ | with_reducible assumption | exact Ext.refl _ | with_reducible refine Ext.alloc ?_ _ | with_reducible refine Ext.drew ?_ | with_reducible refine Ext.trans ?_ (by assumption)))) (r2.ext (by repeat (first | with_reducible refine Ext.setB ?_ (by omega) _ | with_reducible refine Ext.setB ?_ (by simp only [RZ] <;> omega) _ | with_reducible assumption | exact Ext.refl _ | with_reducible refine Ext.alloc ?_ _ | with_reducible refine Ext.drew ?_ | with_reducible refine Ext.trans ?_ (by assumption)))) (r3.ext (by repeat (first | with_reducible refine Ext.setB ?_ (by omega) _ | with_reducible refine Ext.setB ?_ (by simp only [RZ] <;> omega) _ | with_reducible assumption | exact Ext.refl _ | with_reducible refine Ext.alloc ?_ _ | with_reducible refine Ext.drew ?_ | with_reducible refine Ext.trans ?_ (by assumption)))) (by omega) (by omega) (by omega) bk _ (fun _ w2 e2 => ?_) (fun _ _ w2 e2 => ?_) (fun ha ws hws v' w2 e2 hnv hsl => ?_)
        · have e12 : Ext w1 w2 := Ext.trans (by repeat (first | with_reducible refine Ext.setB ?_ (by omega) _ | with_reducible refine Ext.setB ?_ (by simp only [RZ] <;> omega) _ | with_reducible assumption | exact Ext.refl _ | with_reducible refine Ext.alloc ?_ _ | with_reducible refine Ext.drew ?_ | with_reducible refine Ext.trans ?_ (by assumption))) e2
          simp (disch := first | omega | simp only [RO] | (simp only [RZ] <;> omega) | fail) only [↓RBp, ↓RA, ↓reduceIte, Nat.reduceAdd, Nat.reduceMul, Nat.reduceEqDiff, RB, RBr, RW, RS, RA2]
          exact tail [] _ _ (h1.ext e12) (fun x hx => by cases hx) (by simp) (SlO.nil _ _ _) (Out.nil _ _ _) hnil
        · have e12 : Ext w1 w2 := Ext.trans (by repeat (first | with_reducible refine Ext.setB ?_ (by omega) _ | with_reducible refine Ext.setB ?_ (by simp only [RZ] <;> omega) _ | with_reducible assumption | exact Ext.refl _ | with_reducible refine Ext.alloc ?_ _ | with_reducible refine Ext.drew ?_ | with_reducible refine Ext.trans ?_ (by assumption))) e2
          simp (disch := first | omega | simp only [RO] | (simp only [RZ] <;> omega) | fail) only [↓RBp, ↓RA, ↓reduceIte, Nat.reduceAdd, Nat.reduceMul, Nat.reduceEqDiff, RB, RBr, RW, RS, RA2]
          exact tail [] _ _ (h1.ext e12) (fun x hx => by cases hx) (by simp) (SlO.nil _ _ _) (Out.nil _ _ _) hnil
        · have e12 : Ext w1 w2 := Ext.trans (by repeat (first | with_reducible refine Ext.setB ?_ (by omega) _ | with_reducible refine Ext.setB ?_ (by simp only [RZ] <;> omega) _ | with_reducible assumption | exact Ext.refl _ | with_reducible refine Ext.alloc ?_ _ | with_reducible refine Ext.drew ?_ | with_reducible refine Ext.trans ?_ (by assumption))) e2
          have hAS := h1.acts hs1 ha hws
          have hn1 := h1.L.gd.n
          obtain ⟨pa, pc, rfl, hpc⟩ := hsl.isS'
          simp (disch := first | omega | simp only [RO] | (simp only [RZ] <;> omega) | fail) only [↓RBp, ↓RA, ↓reduceIte, Nat.reduceAdd, Nat.reduceMul, Nat.reduceEqDiff, RB, RBr, RW, RS, RA2]
          refine tail ws _ _ (h1.ext e12) (fun x hx => by have := hAS.e.ok x hx; omega) (by have := hAS.e.len; omega) hsl (Out.new h1 (fun b hb => Nat.le_trans (by simp only [RZ]; omega) (hnv b hb))) ⟨hAS.gd, hAS.e.on, hAS.snd⟩
    · unfold f7_l1_t
      simp (disch := first | omega | simp only [RO] | (simp only [RZ] <;> omega) | fail) only [↓RBp, ↓RA, ↓reduceIte, Nat.reduceAdd, Nat.reduceMul, Nat.reduceEqDiff, RB, RBr, RW, RS, RA2]
      exact H _ _ _ h1 hT1 hs1 (by omega)
end
end Go.Proofs.YtaeopkhdokaaoaaGreatDoor
namespace Go.Proofs.YtaeopkhdokaaoaaGreatDoor
open Go Go.Sh
set_option maxRecDepth 100000
set_option maxHeartbeats 4000000
set_option linter.unusedSimpArgs false
set_option linter.unusedVariables false
section
variable {w0 w w' : World} {Y Y' : Lay} {D D' : DS} {B l k : Nat} {c o : Int} {g : Nat} {K : K1} {E1 : VP1}
theorem Wm.ext {b ob : Nat} {W : Nat → Nat} (h : Wm w b ob W) (e : Ext w w') : Wm w' b ob W := ⟨fun hi => e.cell_some (h.cell hi), fun i => by
  have hc := h.cell (i := 0) (by omega)
  have hlt := lt_of_cell hc
  have := h.frz i
  unfold World.frozen? at this ⊢
  simp only at this ⊢
  rw [e.blk b hlt]; exact this⟩
theorem Loc.base {wI : World} (h : Loc w0 w Y D B l c o g) (e : Ext wI w0) (hG : Glob wI) : Loc wI w Y D B l c o g := ⟨⟨h.L.dv, h.L.gd, e.trans h.L.ex, fun x hx => Nat.le_trans e.size (h.L.nw x hx)⟩, h.bx, h.nb, h.on, h.lt, hG, h.c0, h.c5⟩
theorem Snd.parts (h : Snd D l c o) {k : Nat} (hk : (k : Int) < perS c) : okP (wd D l (offN c k)) = true ∧ bG (wd D l (offN c k)) = gX (wd D l (offN c k)) ∧ bK (wd D l (offN c k)) = kX (wd D l (offN c k)) ∧ bS (wd D l (offN c k)) = sX (wd D l (offN c k)) := by
  have h1 := h.sl k hk
  have h2 := h.gd k hk
  have e1 : bG (wd D l (offN c k)) = gX (wd D l (offN c k)) := by unfold bG; rw [if_pos h1]
  have e2 : bK (wd D l (offN c k)) = kX (wd D l (offN c k)) := by unfold bK; rw [if_pos h1]
  have e3 : bS (wd D l (offN c k)) = sX (wd D l (offN c k)) := by unfold bS; rw [if_pos h1]
  refine ⟨?_, e1, e2, e3⟩
  rw [e1, e2, e3] at h2
  unfold okP; rw [h1, h2]; rfl
theorem Snd.isR (h : Snd D l c o) (hp : perS c ≤ 64) {k : Nat} (hk : (k : Int) < perS c) : isR (wd D l) c (k : Int) 177 = decide (bS (wd D l (offN c k)) = 177) := by
  obtain ⟨p1, p2, p3, p4⟩ := h.parts hk
  have hb := h.bit k (by omega)
  unfold Go.Proofs.YtaeopkhdokaaoaaGreatDoor.isR
  rw [decide_eq_true (show 0 ≤ (k : Int) ∧ (k : Int) < perS c from ⟨by omega, hk⟩), Int.toNat_natCast, p1, ← p4, hb, decide_eq_true hk]
  by_cases hs : bS (wd D l (offN c k)) = 177
  · simp [hs]
  · simp [hs]
abbrev fmC (w : World) (A a b c g : Nat) : Prop := w.cell? ⟨A, 0, none⟩ = some (.int .u8 (a : Int)) ∧ w.cell? ⟨A, 1, none⟩ = some (.int .u8 (b : Int)) ∧ w.cell? ⟨A, 2, none⟩ = some (.int .u8 (c : Int)) ∧ w.cell? ⟨A, 3, none⟩ = some (.int .u16 (g : Int))
def fF (a b c g : Nat) (j : Nat) : Value := [Value.int .u8 (a : Int), .int .u8 (b : Int), .int .u8 (c : Int), .int .u16 (g : Int)].getD j undef
theorem fF_C {A a b c g : Nat} (h : Cells w A 67 4 (fF a b c g)) : fmC w A a b c g := ⟨h.cell (i := 0) (by omega), h.cell (i := 1) (by omega), h.cell (i := 2) (by omega), h.cell (i := 3) (by omega)⟩
end
end Go.Proofs.YtaeopkhdokaaoaaGreatDoor
namespace Go.Proofs.YtaeopkhdokaaoaaGreatDoor
open Go Go.Sh
set_option maxRecDepth 100000
set_option maxHeartbeats 4000000
set_option linter.unusedSimpArgs false
set_option linter.unusedVariables false
section
variable {w0 w w' : World} {Y Y' : Lay} {D D' : DS} {B l k : Nat} {c o : Int} {g : Nat} {K : K1} {E1 : VP1}
theorem pp_l3 {A Q fa fb fc fg bw ow cw p : Nat} {e i : Int} (hfa : fa < 256) (hl : fa % 9 = l) (hfm : fmC w A fa fb fc fg) (hq : w.cell? ⟨Q, 2, none⟩ = some (u64 p)) (hp : p < 18446744073709551616) (hW : Wm w bw ow (wd D l)) (hWl : ∀ j, j < 256 → wd D l j < 18446744073709551616) (c0 : 0 ≤ c) (c5 : c < 5) (he : 0 ≤ e ∧ e < 100) (hi : 0 ≤ i ∧ i < 100)
    (hN : (∀ k : Nat, (k : Int) < perS c → pO p ≠ pOff l c k) → e = 2 ∧ i = 0)
    (hF : ∀ k : Nat, (k : Int) < perS c → pO p = pOff l c k → if isR (wd D l) c (k : Int) 177 = true ∧ gX (wd D l (offN c k)) = pG p then (if kX (wd D l (offN c k)) = pK p then e = 0 ∧ i = (k : Int) else e = 13 ∧ i = 0) else e = 12 ∧ i = 0)
    (hK : ∀ w', Ext w w' → K (.bool true) w') :
    f7_l3 K (.pointer (some ⟨A, 0, none⟩)) (.pointer (some ⟨Q, 0, none⟩)) (.int .i64 c) (wsV bw ow cw) (.int .i64 e) (.int .i64 i) (.int .i64 (perS c)) (.int .i64 0) w := by
  have hpp := perS_in c0 c5
  obtain ⟨n, hn⟩ : ∃ n : Nat, perS c = (n : Int) := ⟨(perS c).toNat, by omega⟩
  have hg16 : pG p < 65536 := by unfold pG; omega
  have hk8 : pK p < 256 := by unfold pK; omega
  have hoL : pO p < 18446744073709551616 := by unfold pO; omega
  have hli := fun w1 K => c_fline fa fb fc fg hfa w1 K
  rw [hl] at hli
  have hl9 : l < 9 := by omega
  unfold pOff at hN hF
  rw [hn] at hN hF ⊢
  have ltA : A < w.heap.size := lt_of_cell hfm.1
  have ltQ : Q < w.heap.size := lt_of_cell hq
  apply f7_l3_rule (I := fun z w' => ∃ j : Nat, z = .int .i64 (j : Int) ∧ j ≤ n ∧ Ext w w' ∧ ∀ k, k < j → pO p ≠ l * 64 + offN c k * 8 + 8) (μ := fun z _ => n - (Go.RowKit.intOf z).toNat)
  · exact ⟨0, rfl, by omega, Ext.refl _, fun k hk => by omega⟩
  · intros; rename_i w1 hI E1 hE
    obtain ⟨j, rfl, hj, e1, hno⟩ := hI
    by_cases hjn : j < n
    · have bd := offN_bd c0 c5 (i := j) (by omega)
      have hro : ∀ (w : World) (K : K1), callS Tryz.prog 20 #[.int .i64 c, .int .i64 (j : Int)] w K = K (.int .i64 (offN c j : Int)) w := fun w K => by rw [c_rOff c j w K (by omega) (by omega), bd.1]
      have hris : ∀ (w2 : World) (K : K1), Ext w w2 → callS Tryz.prog 48 #[wsV bw ow cw, .int .i64 c, .int .i64 (j : Int), .int .u32 ((177 : Nat) : Int)] w2 K = K (.bool (isR (wd D l) c (j : Int) 177)) w2 := fun w2 K e => c_rIs (hW.ext e) hWl c0 c5 (j : Int) 177 K
      have hcw := fun (w2 : World) (e : Ext w w2) => e.cell_some (hW.cell bd.2.2)
      have hFj := hF j (by omega)
      have hxl := hWl _ bd.2.2
      have hgx : gX (wd D l (offN c j)) < 65536 := by unfold gX; omega
      have hkx : kX (wd D l (offN c j)) < 256 := by unfold kX; omega
      have hsx : sX (wd D l (offN c j)) < 256 := by unfold sX; omega
      have hstep : pO p ≠ l * 64 + offN c j * 8 + 8 → ∀ k, k < j + 1 → pO p ≠ l * 64 + offN c k * 8 + 8 := by
        intro h k hk
        by_cases e : k = j
        · subst e; exact h
        · exact hno k (by omega)
      have rp := fun (w : World) (K : K1) => c_rParts (wd D l (offN c j)) w K hxl
      generalize isR (wd D l) c (j : Int) 177 = rb at *
      generalize wd D l (offN c j) = x at *
      generalize offN c j = q at *
      have a0 := e1.cell_some hfm.1; have a1 := e1.cell_some hfm.2.1; have a2 := e1.cell_some hfm.2.2.1; have a3 := e1.cell_some hfm.2.2.2
      have q2 := e1.cell_some hq
      have ltA1 : A < w1.heap.size := Nat.lt_of_lt_of_le ltA e1.size
      have ltQ1 : Q < w1.heap.size := Nat.lt_of_lt_of_le ltQ e1.size
      have f1 : ((q : Int) + 1) = ((q + 1 : Nat) : Int) := by omega
      have f2 : 64 * l + 8 * (q + 1) = l * 64 + q * 8 + 8 := by omega
      have f3 : 64 * l = l * 64 := by omega
      have hw0 := hcw (w1.alloc (fmO fa fb fc fg)) (e1.trans (Ext.alloc_self _ _))
      have eq1 : Ext w (w1.alloc (fmO fa fb fc fg)) := e1.trans (Ext.alloc_self _ _)
      unfold f7_l3_t
      by_cases hpo : pO p = l * 64 + q * 8 + 8
      · have hFj := hFj hpo
        have hpo' : pO p = 64 * l + 8 * (q + 1) := by omega
        have hK1 : ∀ w2, Ext w1 w2 → K (.bool true) w2 := fun w2 e => hK w2 (e1.trans e)
        cases rb with
        | false =>
          rw [if_neg (by simp)] at hFj
          obtain ⟨rfl, rfl⟩ := hFj
          (repeat' (first | (with_reducible refine brS_mk (fun _ => ?_) (fun _ => ?_)) | (with_reducible refine And.intro ?_ ?_) | (simp (disch := first | omega | simp only [RO] | (simp only [RZ] <;> omega) | (with_reducible (repeat (first | assumption | exact Ext.refl _ | refine Ext.alloc ?_ _ | refine Ext.drew ?_ | refine Ext.trans ?_ (by assumption)))) | fail) only [↓RBp, ↓RA, ↓reduceIte, Nat.reduceAdd, Nat.reduceMul, Nat.reduceEqDiff, RB, RBr, RW, RS, RA2, a0, a1, a2, a3, q2, hro, c_POff, hli, f1, hpo', hw0, rp])))
          simp (disch := first | omega | simp only [RO] | (simp only [RZ] <;> omega) | (with_reducible (repeat (first | assumption | exact Ext.refl _ | refine Ext.alloc ?_ _ | refine Ext.drew ?_ | refine Ext.trans ?_ (by assumption)))) | fail) only [↓RBp, ↓RA, ↓reduceIte, Nat.reduceAdd, Nat.reduceMul, Nat.reduceEqDiff, RB, RBr, RW, RS, RA2, hris]
          exact hK1 _ (by repeat (first | with_reducible refine Ext.setB ?_ (by omega) _ | with_reducible refine Ext.setB ?_ (by simp only [RZ] <;> omega) _ | with_reducible assumption | exact Ext.refl _ | with_reducible refine Ext.alloc ?_ _ | with_reducible refine Ext.drew ?_ | with_reducible refine Ext.trans ?_ (by assumption)))
        | true =>
          by_cases hgg : gX x = pG p
          · rw [if_pos ⟨rfl, hgg⟩] at hFj
            by_cases hkk : kX x = pK p
            · rw [if_pos hkk] at hFj
              obtain ⟨rfl, rfl⟩ := hFj
              (repeat' (first | (with_reducible refine brS_mk (fun _ => ?_) (fun _ => ?_)) | (with_reducible refine And.intro ?_ ?_) | (simp (disch := first | omega | simp only [RO] | (simp only [RZ] <;> omega) | (with_reducible (repeat (first | assumption | exact Ext.refl _ | refine Ext.alloc ?_ _ | refine Ext.drew ?_ | refine Ext.trans ?_ (by assumption)))) | fail) only [↓RBp, ↓RA, ↓reduceIte, Nat.reduceAdd, Nat.reduceMul, Nat.reduceEqDiff, RB, RBr, RW, RS, RA2, a0, a1, a2, a3, q2, hro, c_POff, hli, f1, hpo', hw0, rp])))
              simp (disch := first | omega | simp only [RO] | (simp only [RZ] <;> omega) | (with_reducible (repeat (first | assumption | exact Ext.refl _ | refine Ext.alloc ?_ _ | refine Ext.drew ?_ | refine Ext.trans ?_ (by assumption)))) | fail) only [↓RBp, ↓RA, ↓reduceIte, Nat.reduceAdd, Nat.reduceMul, Nat.reduceEqDiff, RB, RBr, RW, RS, RA2, hris, c_PGen, c_PKind, hgg, hkk, q2]
              exact hK1 _ (by repeat (first | with_reducible refine Ext.setB ?_ (by omega) _ | with_reducible refine Ext.setB ?_ (by simp only [RZ] <;> omega) _ | with_reducible assumption | exact Ext.refl _ | with_reducible refine Ext.alloc ?_ _ | with_reducible refine Ext.drew ?_ | with_reducible refine Ext.trans ?_ (by assumption)))
            · rw [if_neg hkk] at hFj
              obtain ⟨rfl, rfl⟩ := hFj
              (repeat' (first | (with_reducible refine brS_mk (fun _ => ?_) (fun _ => ?_)) | (with_reducible refine And.intro ?_ ?_) | (simp (disch := first | omega | simp only [RO] | (simp only [RZ] <;> omega) | (with_reducible (repeat (first | assumption | exact Ext.refl _ | refine Ext.alloc ?_ _ | refine Ext.drew ?_ | refine Ext.trans ?_ (by assumption)))) | fail) only [↓RBp, ↓RA, ↓reduceIte, Nat.reduceAdd, Nat.reduceMul, Nat.reduceEqDiff, RB, RBr, RW, RS, RA2, a0, a1, a2, a3, q2, hro, c_POff, hli, f1, hpo', hw0, rp])))
              simp (disch := first | omega | simp only [RO] | (simp only [RZ] <;> omega) | (with_reducible (repeat (first | assumption | exact Ext.refl _ | refine Ext.alloc ?_ _ | refine Ext.drew ?_ | refine Ext.trans ?_ (by assumption)))) | fail) only [↓RBp, ↓RA, ↓reduceIte, Nat.reduceAdd, Nat.reduceMul, Nat.reduceEqDiff, RB, RBr, RW, RS, RA2, hris, c_PGen, c_PKind, hgg, hkk, q2]
              exact hK1 _ (by repeat (first | with_reducible refine Ext.setB ?_ (by omega) _ | with_reducible refine Ext.setB ?_ (by simp only [RZ] <;> omega) _ | with_reducible assumption | exact Ext.refl _ | with_reducible refine Ext.alloc ?_ _ | with_reducible refine Ext.drew ?_ | with_reducible refine Ext.trans ?_ (by assumption)))
          · rw [if_neg (fun h => hgg h.2)] at hFj
            obtain ⟨rfl, rfl⟩ := hFj
            (repeat' (first | (with_reducible refine brS_mk (fun _ => ?_) (fun _ => ?_)) | (with_reducible refine And.intro ?_ ?_) | (simp (disch := first | omega | simp only [RO] | (simp only [RZ] <;> omega) | (with_reducible (repeat (first | assumption | exact Ext.refl _ | refine Ext.alloc ?_ _ | refine Ext.drew ?_ | refine Ext.trans ?_ (by assumption)))) | fail) only [↓RBp, ↓RA, ↓reduceIte, Nat.reduceAdd, Nat.reduceMul, Nat.reduceEqDiff, RB, RBr, RW, RS, RA2, a0, a1, a2, a3, q2, hro, c_POff, hli, f1, hpo', hw0, rp])))
            simp (disch := first | omega | simp only [RO] | (simp only [RZ] <;> omega) | (with_reducible (repeat (first | assumption | exact Ext.refl _ | refine Ext.alloc ?_ _ | refine Ext.drew ?_ | refine Ext.trans ?_ (by assumption)))) | fail) only [↓RBp, ↓RA, ↓reduceIte, Nat.reduceAdd, Nat.reduceMul, Nat.reduceEqDiff, RB, RBr, RW, RS, RA2, hris, c_PGen, c_PKind, hgg, q2]
            exact hK1 _ (by repeat (first | with_reducible refine Ext.setB ?_ (by omega) _ | with_reducible refine Ext.setB ?_ (by simp only [RZ] <;> omega) _ | with_reducible assumption | exact Ext.refl _ | with_reducible refine Ext.alloc ?_ _ | with_reducible refine Ext.drew ?_ | with_reducible refine Ext.trans ?_ (by assumption)))
      · have hpo' : ¬ pO p = 64 * l + 8 * (q + 1) := by omega
        (repeat' (first | (with_reducible refine brS_mk (fun _ => ?_) (fun _ => ?_)) | (with_reducible refine And.intro ?_ ?_) | (simp (disch := first | omega | simp only [RO] | (simp only [RZ] <;> omega) | (with_reducible (repeat (first | assumption | exact Ext.refl _ | refine Ext.alloc ?_ _ | refine Ext.drew ?_ | refine Ext.trans ?_ (by assumption)))) | fail) only [↓RBp, ↓RA, ↓reduceIte, Nat.reduceAdd, Nat.reduceMul, Nat.reduceEqDiff, RB, RBr, RW, RS, RA2, a0, a1, a2, a3, q2, hro, c_POff, hli, f1, hpo'])))
        apply hE
        · exact ⟨j + 1, by simp, by omega, (by repeat (first | with_reducible refine Ext.setB ?_ (by omega) _ | with_reducible refine Ext.setB ?_ (by simp only [RZ] <;> omega) _ | with_reducible assumption | exact Ext.refl _ | with_reducible refine Ext.alloc ?_ _ | with_reducible refine Ext.drew ?_ | with_reducible refine Ext.trans ?_ (by assumption))), hstep hpo⟩
        · simp [Go.RowKit.intOf]; omega
    · have hjn : j = n := by omega
      subst hjn
      obtain ⟨rfl, rfl⟩ := hN (fun k hk => hno k (by omega))
      unfold f7_l3_t
      simp (disch := first | omega | simp only [RO] | (simp only [RZ] <;> omega) | fail) only [↓RBp, ↓RA, ↓reduceIte, Nat.reduceAdd, Nat.reduceMul, Nat.reduceEqDiff, RB, RBr, RW, RS, RA2, f7_k6_eq, f7_k6_t]
      exact hK _ e1
def BlkSp (D : DS) (l : Nat) (c : Int) (p : Nat) (i e : Int) : Prop := (p = 0 ∧ e = 1 ∧ i = 0) ∨ (p ≠ 0 ∧ 72057594037927936 ≤ p ∧ e = 2 ∧ i = 0) ∨ (p ≠ 0 ∧ p < 72057594037927936 ∧ (0 ≤ e ∧ e < 100) ∧ (0 ≤ i ∧ i < 100) ∧ ((∀ k : Nat, (k : Int) < perS c → pO p ≠ pOff l c k) → e = 2 ∧ i = 0) ∧
  ∀ k : Nat, (k : Int) < perS c → pO p = pOff l c k → if isR (wd D l) c (k : Int) 177 = true ∧ gX (wd D l (offN c k)) = pG p then (if kX (wd D l (offN c k)) = pK p then e = 0 ∧ i = (k : Int) else e = 13 ∧ i = 0) else e = 12 ∧ i = 0)
theorem k_BlockS (h : Loc w0 w Y D B l c o g) (hs : Snd D l c o) (p : Nat) (hp : p < 18446744073709551616) (K : K1) (hK : ∀ i e w', Ext w w' → BlkSp D l c p i e → K (iE i e) w') :
    callS Tryz.prog 58 #[chV Y l c o g, .int .u64 (p : Int)] w K := by
  have hpp := perS_in h.c0 h.c5
  have inj : ∀ k k' : Nat, pO p = pOff l c k → pO p = pOff l c k' → k = k' := fun k k' e e' => by
    rw [e] at e'; unfold pOff at e'; exact offN_inj h.c0 h.c5 (by omega)
  have live : ∀ k : Nat, (k : Int) < perS c → (liveB D l c k (pG p) ↔ (isR (wd D l) c (k : Int) 177 = true ∧ gX (wd D l (offN c k)) = pG p)) := fun k hk => by
    rw [hs.isR (by omega) hk]
    have hb := hs.bit k (by omega)
    have hpt := hs.parts hk
    unfold liveB
    rw [hs.sl k hk, hb, decide_eq_true hk, hpt.2.1]
    by_cases h7 : bS (wd D l (offN c k)) = 177
    · simp [h7]
    · simp [h7]
  have fnd : ∀ (k : Nat) (i e : Int), (k : Int) < perS c → pO p = pOff l c k → p ≠ 0 → p < 72057594037927936 → (0 ≤ e ∧ e < 100) → (0 ≤ i ∧ i < 100) → (if isR (wd D l) c (k : Int) 177 = true ∧ gX (wd D l (offN c k)) = pG p then (if kX (wd D l (offN c k)) = pK p then e = 0 ∧ i = (k : Int) else e = 13 ∧ i = 0) else e = 12 ∧ i = 0) → BlkSp D l c p i e := fun k i e hk hpk p0 p5 he hi hsp =>
    .inr (.inr ⟨p0, p5, he, hi, fun hn => absurd hpk (hn k hk), fun k' hk' hpk' => by obtain rfl := inj k k' hpk hpk'; exact hsp⟩)
  refine k_Block h.cx h.on.err o g p hp K (fun h0 w' e => hK _ _ w' e (.inl ⟨h0, rfl, rfl⟩)) (fun h0 hr w' e => ?_) (fun h0 h5 k hk hpk hn w' e => ?_) (fun h0 h5 k hk hpk hn hw w' e => ?_) (fun h0 h5 k hk hpk hn hw w' e => ?_)
  · by_cases h5 : 72057594037927936 ≤ p
    · exact hK _ _ w' e (.inr (.inl ⟨h0, h5, rfl, rfl⟩))
    · have hn : ∀ k : Nat, (k : Int) < perS c → pO p ≠ pOff l c k := by
        rcases hr with hr | hr
        · exact absurd hr h5
        · exact hr
      exact hK _ _ w' e (.inr (.inr ⟨h0, by omega, by omega, by omega, fun _ => ⟨rfl, rfl⟩, fun k hk hpk => absurd hpk (hn k hk)⟩))
  · exact hK _ _ w' e (fnd k 0 12 hk hpk h0 h5 (by omega) (by omega) (by rw [if_neg (fun hh => hn ((live k hk).2 hh))]; exact ⟨rfl, rfl⟩))
  · rw [(hs.parts hk).2.2.1] at hw
    exact hK _ _ w' e (fnd k 0 13 hk hpk h0 h5 (by omega) (by omega) (by rw [if_pos ((live k hk).1 hn), if_neg hw]; exact ⟨rfl, rfl⟩))
  · rw [(hs.parts hk).2.2.1] at hw
    exact hK _ _ w' e (fnd k _ 0 hk hpk h0 h5 (by omega) (by omega) (by rw [if_pos ((live k hk).1 hn), if_pos hw]; exact ⟨rfl, rfl⟩))
theorem pp_k5 (h : Loc w0 w Y D B l c o g) (hs : Snd D l c o) {A Q fa fb fc fg bw ow cw p : Nat} (hfa : fa < 256) (hl : fa % 9 = l) (hfm : fmC w A fa fb fc fg) (hq : w.cell? ⟨Q, 2, none⟩ = some (u64 p)) (hp : p < 18446744073709551616) (hW : Wm w bw ow (wd D l))
    (hK : ∀ w', Ext w w' → K (.bool true) w') :
    f7_k5 K (.pointer (some ⟨A, 0, none⟩)) (.pointer (some ⟨Q, 0, none⟩)) (.pointer (some ⟨B, 0, none⟩)) (.int .i64 c) (wsV bw ow cw) w := by
  have hWl : ∀ j, j < 256 → wd D l j < 18446744073709551616 := fun j hj => by unfold wd; exact h.L.gd.cur _ (by have := h.lt; omega)
  have hcc := h.c0; have hc5 := h.c5
  have ltQ : Q < w.heap.size := lt_of_cell hq
  have hd : ∀ q : Nat, q < 72057594037927936 → q / 72057594037927936 = 0 := fun q h => by omega
  have hd2 : ∀ q : Nat, 72057594037927936 ≤ q → ¬ q / 72057594037927936 = 0 := fun q h => by omega
  have ob1 := h.cells; have c0 := ob1.1; have c1 := ob1.2.1; have c2 := ob1.2.2.1; have c3 := ob1.2.2.2.1; have c4 := ob1.2.2.2.2
  rw [f7_k5_eq]
  unfold f7_k5_t
  simp (disch := first | omega | simp only [RO] | (simp only [RZ] <;> omega) | fail) only [↓RBp, ↓RA, ↓reduceIte, Nat.reduceAdd, Nat.reduceMul, Nat.reduceEqDiff, RB, RBr, RW, RS, RA2, c0, c1, c2, c3, c4, hq]
  refine k_BlockS h hs p hp _ (fun i e w2 e2 hsp => ?_)
  have q2 := e2.cell_some hq
  rcases hsp with ⟨rfl, rfl, rfl⟩ | ⟨h0, h5, rfl, rfl⟩ | ⟨h0, h5, he, hi, hN, hF⟩
  · simp (disch := first | omega | simp only [RO] | (simp only [RZ] <;> omega) | fail) only [↓RBp, ↓RA, ↓reduceIte, Nat.reduceAdd, Nat.reduceMul, Nat.reduceEqDiff, RB, RBr, RW, RS, RA2, q2]
    exact hK _ e2
  · have h5' := hd2 p h5
    simp (disch := first | omega | simp only [RO] | (simp only [RZ] <;> omega) | fail) only [↓RBp, ↓RA, ↓reduceIte, Nat.reduceAdd, Nat.reduceMul, Nat.reduceEqDiff, RB, RBr, RW, RS, RA2, q2, h0, h5']
    exact hK _ e2
  · have h5' := hd p h5
    simp (disch := first | omega | simp only [RO] | (simp only [RZ] <;> omega) | fail) only [↓RBp, ↓RA, ↓reduceIte, Nat.reduceAdd, Nat.reduceMul, Nat.reduceEqDiff, RB, RBr, RW, RS, RA2, q2, h0, h5', c_rPer]
    exact pp_l3 hfa hl ⟨e2.cell_some hfm.1, e2.cell_some hfm.2.1, e2.cell_some hfm.2.2.1, e2.cell_some hfm.2.2.2⟩ q2 hp (hW.ext e2) hWl hcc hc5 he hi hN hF (fun w' e => hK w' (e2.trans e))
def qF (i : Int) (k p : Nat) (own : Bool) (j : Nat) : Value := [Value.int .i64 i, .int .u8 (k : Int), .int .u64 (p : Int), .bool own].getD j undef
theorem pp_k2 {wI : World} (h : Loc wI w Y D B l c o g) (hs : Snd D l c o) {A Q fa fb fc fg bw ow cw p0 P : Nat} {qi : Int} {qk : Nat} {own : Bool} (hfa : fa < 256) (hl : fa % 9 = l) (hA : Cells w A 67 4 (fF fa fb fc fg)) (hQ : Cells w Q 105 4 (qF qi qk p0 own)) (hp0 : p0 < 18446744073709551616) (hP : P < 18446744073709551616) (hW : Wm w bw ow (wd D l)) (hQI : wI.heap.size ≤ Q) (hQF : ¬ Y.F Q) (hQB : Q ≠ B) (hQA : Q ≠ A) (hQw : Q ≠ bw)
    (hK : ∀ w', Ext wI w' → K (.bool true) w') :
    f7_k2 K (.pointer (some ⟨A, 0, none⟩)) (.pointer (some ⟨Q, 0, none⟩)) (.pointer (some ⟨B, 0, none⟩)) (.int .i64 c) (wsV bw ow cw) (u64 P) w := by
  have q2 : w.cell? ⟨Q, 2, none⟩ = some (u64 p0) := hQ.cell (i := 2) (by omega)
  have q3 : w.cell? ⟨Q, 3, none⟩ = some (.bool own) := hQ.cell (i := 3) (by omega)
  have ltQ := hQ.lt
  rw [f7_k2_eq]
  unfold f7_k2_t
  cases own with
  | false =>
    simp (disch := first | omega | simp only [RO] | (simp only [RZ] <;> omega) | fail) only [↓RBp, ↓RA, ↓reduceIte, Nat.reduceAdd, Nat.reduceMul, Nat.reduceEqDiff, RB, RBr, RW, RS, RA2, q2, q3]
    exact pp_k5 h hs hfa hl (fF_C hA) q2 hp0 hW (fun w' e => hK w' (h.L.ex.trans e))
  | true =>
    simp (disch := first | omega | simp only [RO] | (simp only [RZ] <;> omega) | fail) only [↓RBp, ↓RA, ↓reduceIte, Nat.reduceAdd, Nat.reduceMul, Nat.reduceEqDiff, RB, RBr, RW, RS, RA2, q2, q3, hQ.frz]
    have fr : Frm (fun b => b = Q) w (w.setCell ⟨Q, 2, none⟩ (u64 P)) := (Frm.refl _ _).set _ (fun _ => rfl)
    have h2 : Loc wI (w.setCell ⟨Q, 2, none⟩ (u64 P)) Y D B l c o g := h.frm fr (fun b hb => by subst hb; exact ⟨hQI, hQF, hQB⟩)
    have hQ2 := hQ.set (u64 P) (i := 2) (by omega)
    have hltw := lt_of_cell (hW.cell (i := 0) (by omega))
    have hW2 : Wm (w.setCell ⟨Q, 2, none⟩ (u64 P)) bw ow (wd D l) := ⟨fun {i} hi => by rw [fr.cell bw _ hltw (fun hb => hQw hb.symm)]; exact hW.cell hi, fun i => by
      have := hW.frz i
      unfold World.frozen? at this ⊢
      simp only at this ⊢
      rw [fr.block bw hltw (fun hb => hQw hb.symm)]; exact this⟩
    refine pp_k5 h2 hs hfa hl (fF_C (hA.frm fr (fun hb => hQA hb.symm))) ?_ hP hW2 (fun w' e => hK w' (h2.L.ex.trans e))
    have := hQ2.cell (i := 2) (by omega)
    simpa using this
theorem pp_k3 {wI : World} (h : Loc wI w Y D B l c o g) (hs : Snd D l c o) {A Q fa fb fc fg bw ow cw p0 P : Nat} {qi : Int} {qk : Nat} {own : Bool} (e : Int) (hfa : fa < 256) (hl : fa % 9 = l) (hA : Cells w A 67 4 (fF fa fb fc fg)) (hQ : Cells w Q 105 4 (qF qi qk p0 own)) (hp0 : p0 < 18446744073709551616) (hP : P < 18446744073709551616) (hW : Wm w bw ow (wd D l)) (hQI : wI.heap.size ≤ Q) (hQF : ¬ Y.F Q) (hQB : Q ≠ B) (hQA : Q ≠ A) (hQw : Q ≠ bw)
    (hK : ∀ w', Ext wI w' → K (.bool true) w') :
    f7_k3 K (.pointer (some ⟨A, 0, none⟩)) (.pointer (some ⟨Q, 0, none⟩)) (.pointer (some ⟨B, 0, none⟩)) (.int .i64 c) (wsV bw ow cw) (u64 P) (.int .i64 e) (u64 P) (.int .i64 e) w := by
  rw [f7_k3_eq]
  unfold f7_k3_t
  simp (disch := first | omega | simp only [RO] | (simp only [RZ] <;> omega) | fail) only [↓RBp, ↓RA, ↓reduceIte, Nat.reduceAdd, Nat.reduceMul, Nat.reduceEqDiff, RB, RBr, RW, RS, RA2]
  exact pp_k2 h hs hfa hl hA hQ hp0 hP hW hQI hQF hQB hQA hQw hK
def PtrSp (D : DS) (l : Nat) (c i : Int) (k p : Nat) (e : Int) : Prop := (¬ (0 ≤ i ∧ i < perS c) ∧ p = 0 ∧ e = 2) ∨ ∃ j : Nat, i = (j : Int) ∧ (j : Int) < perS c ∧
  ((sX (wd D l (offN c j)) = 178 ∧ p = 0 ∧ e = 12) ∨ (sX (wd D l (offN c j)) = 177 ∧ gX (wd D l (offN c j)) ≠ 0 ∧ kX (wd D l (offN c j)) ≠ 0 ∧ kX (wd D l (offN c j)) ≤ 127 ∧ p = ptrN (pOff l c j) (gX (wd D l (offN c j))) (kX (wd D l (offN c j))) ∧ e = 0) ∨ (sX (wd D l (offN c j)) = 176 ∧ (k = 0 ∨ 127 < k) ∧ p = 0 ∧ e = 1) ∨ (sX (wd D l (offN c j)) = 176 ∧ gX (wd D l (offN c j)) ≠ 0 ∧ k ≠ 0 ∧ k ≤ 127 ∧ p = ptrN (pOff l c j) (gX (wd D l (offN c j))) k ∧ e = 0))
theorem k_PointerS (h : Loc w0 w Y D B l c o g) (hs : Snd D l c o) (i : Int) (k : Nat) (hk : k < 256) (K : K1) (hK : ∀ p e w', Ext w w' → p < 18446744073709551616 → PtrSp D l c i k p e → K (pE p e) w') :
    callS Tryz.prog 55 #[chV Y l c o g, .int .i64 i, .int .u8 (k : Int)] w K := by
  have hlt := h.lt
  have hn := h.L.gd.n
  have pbd : ∀ (j gg kk : Nat), (j : Int) < perS c → gg < 65536 → kk ≤ 127 → ptrN (pOff l c j) gg kk < 18446744073709551616 := fun j gg kk hj hg hk => by
    have hpo := pOff_bd (l := l) (c := c) (i := j) (by omega) h.c0 h.c5 hj
    have := ptr_bd (pOff l c j) gg kk hpo.2.1 hg hk hpo.2.2 hpo.1
    omega
  have hg16 : ∀ x, gX x < 65536 := fun x => by unfold gX; omega
  refine k_Pointer h.cx h.on.err o g i k hk K (fun hr w' e => hK _ _ w' e (by omega) (.inl ⟨hr, rfl, rfl⟩)) (fun j hj hp hn w' e => absurd (hs.sndB h.c0 h.c5 j hp) hn) (fun j hj hp _ hst w' e => ?_) (fun j hj hp _ hst w' e => ?_) (fun j hj hp _ hst hk0 w' e => ?_) (fun j hj hp _ hst hk0 hk1 w' e => ?_)
  · have hpt := hs.parts hp
    rw [hpt.2.2.2] at hst
    exact hK _ _ w' e (by omega) (.inr ⟨j, hj, hp, .inl ⟨hst, rfl, rfl⟩⟩)
  · have hpt := hs.parts hp
    have h7 := hs.gd j hp
    rw [hst] at h7
    have g7 := good177 h7
    rw [hpt.2.2.2] at hst
    rw [hpt.2.1, hpt.2.2.1] at g7 ⊢
    exact hK _ _ w' e (pbd _ _ _ hp (hg16 _) g7.2.2) (.inr ⟨j, hj, hp, .inr (.inl ⟨hst, g7.1, g7.2.1, g7.2.2, rfl, rfl⟩)⟩)
  · have hpt := hs.parts hp
    rw [hpt.2.2.2] at hst
    exact hK _ _ w' e (by omega) (.inr ⟨j, hj, hp, .inr (.inr (.inl ⟨hst, hk0, rfl, rfl⟩))⟩)
  · have hpt := hs.parts hp
    have h7 := hs.gd j hp
    rw [hst] at h7
    have g7 := good176 h7
    rw [hpt.2.2.2] at hst
    rw [hpt.2.1] at g7 ⊢
    exact hK _ _ w' e (pbd _ _ _ hp (hg16 _) hk1) (.inr ⟨j, hj, hp, .inr (.inr (.inr ⟨hst, g7.1, hk0, hk1, rfl, rfl⟩))⟩)
end
end Go.Proofs.YtaeopkhdokaaoaaGreatDoor
namespace Go.Proofs.YtaeopkhdokaaoaaGreatDoor
open Go Go.Sh
set_option maxRecDepth 100000
set_option maxHeartbeats 4000000
set_option linter.unusedSimpArgs false
set_option linter.unusedVariables false
section
variable {w0 w w' : World} {Y Y' : Lay} {D D' : DS} {B l k : Nat} {c o : Int} {g : Nat} {K : K1} {E1 : VP1}
abbrev PrtJ (D : DS) (l : Nat) (c : Int) (j q x gg kk ss : Nat) : Prop := (j : Int) < perS c ∧ offN c j = q ∧ wd D l q = x ∧ gX x = gg ∧ kX x = kk ∧ sX x = ss
theorem k_PointerT (h : Loc w0 w Y D B l c o g) (hs : Snd D l c o) (i : Int) (k : Nat) (hk : k < 256) (K : K1)
    (h1 : ∀ w', Ext w w' → ¬ (0 ≤ i ∧ i < perS c) → K (pE 0 2) w')
    (h2 : ∀ (j q x gg kk : Nat) w', Ext w w' → i = (j : Int) → PrtJ D l c j q x gg kk 178 → K (pE 0 12) w')
    (h3 : ∀ (j q x gg kk P : Nat) w', Ext w w' → i = (j : Int) → PrtJ D l c j q x gg kk 177 → gg ≠ 0 → kk ≠ 0 → kk ≤ 127 → P = ptrN (l * 64 + q * 8 + 8) gg kk → P < 18446744073709551616 → K (pE P 0) w')
    (h4 : ∀ (j q x gg kk : Nat) w', Ext w w' → i = (j : Int) → PrtJ D l c j q x gg kk 176 → k = 0 → K (pE 0 1) w')
    (h5 : ∀ (j q x gg kk : Nat) w', Ext w w' → i = (j : Int) → PrtJ D l c j q x gg kk 176 → 127 < k → K (pE 0 1) w')
    (h6 : ∀ (j q x gg kk P : Nat) w', Ext w w' → i = (j : Int) → PrtJ D l c j q x gg kk 176 → gg ≠ 0 → k ≠ 0 → k ≤ 127 → P = ptrN (l * 64 + q * 8 + 8) gg k → P < 18446744073709551616 → K (pE P 0) w') :
    callS Tryz.prog 55 #[chV Y l c o g, .int .i64 i, .int .u8 (k : Int)] w K := by
  refine k_PointerS h hs i k hk K (fun p e w' e' hp hsp => ?_)
  rcases hsp with ⟨hr, rfl, rfl⟩ | ⟨j, rfl, hj, hcase⟩
  · exact h1 w' e' hr
  · rcases hcase with ⟨hx, rfl, rfl⟩ | ⟨hx, g0, k0, k1, hpp, rfl⟩ | ⟨hx, hk0, rfl, rfl⟩ | ⟨hx, g0, k0, k1, hpp, rfl⟩
    · exact h2 j _ _ _ _ w' e' rfl ⟨hj, rfl, rfl, rfl, rfl, hx⟩
    · exact h3 j _ _ _ _ _ w' e' rfl ⟨hj, rfl, rfl, rfl, rfl, hx⟩ g0 k0 k1 hpp hp
    · rcases hk0 with hk0 | hk0
      · exact h4 j _ _ _ _ w' e' rfl ⟨hj, rfl, rfl, rfl, rfl, hx⟩ hk0
      · exact h5 j _ _ _ _ w' e' rfl ⟨hj, rfl, rfl, rfl, rfl, hx⟩ hk0
    · exact h6 j _ _ _ _ _ w' e' rfl ⟨hj, rfl, rfl, rfl, rfl, hx⟩ g0 k0 k1 hpp hp
theorem pp_k1 {wI : World} (h : Loc w0 w Y D B l c o g) (eI : Ext wI w0) (hGI : Glob wI) (hs : Snd D l c o) {T : Nat} (hT : Y.tb 0 = T) {A Q fa fb fc fg p0 : Nat} {qi : Int} {qk : Nat} {own : Bool} (hfa : fa < 256) (hfb : fb < 256) (hfc : fc < 256) (hfg : fg < 65536) (hl : fa % 9 = l) (hcc : ((fb % 5 : Nat) : Int) = c) (hA : Cells w A 67 4 (fF fa fb fc fg)) (hQ : Cells w Q 105 4 (qF qi qk p0 own)) (hp0 : p0 < 18446744073709551616) (hqk : qk < 256) (hQI : wI.heap.size ≤ Q) (hQ0 : Q < w0.heap.size) (hB0 : w0.heap.size ≤ B) (hQA : Q ≠ A)
    (hK : ∀ w', Ext wI w' → K (.bool true) w') :
    f7_k1 K (.pointer (some ⟨A, 0, none⟩)) (.pointer (some ⟨Q, 0, none⟩)) (.pointer (some ⟨B, 0, none⟩)) (.pointer (some ⟨T, 0, none⟩)) w := by
  subst hT
  have hQF : ¬ Y.F Q := fun hf => by have := h.L.nw Q hf; omega
  have hQB : Q ≠ B := by omega
  have hlt := h.lt
  have hn := h.L.gd.n
  have hpp := perS_in h.c0 h.c5
  have hhe := fun w1 K => c_fheader fa fb fc fg hfb hfc hfg w1 K
  have hli := fun w1 K => c_fline fa fb fc fg hfa w1 K
  rw [hl] at hli
  rw [hcc] at hhe
  have hWl : ∀ j, j < 256 → wd D l j < 18446744073709551616 := fun j hj => by unfold wd; exact h.L.gd.cur _ (by omega)
  have hg0 := h.c0; have hg5 := h.c5
  obtain ⟨a0, a1, a2, a3⟩ := fF_C hA
  have ltA := hA.lt
  have ltQ := hQ.lt
  have hl9 : l < 9 := by omega
  have fin : ∀ (w2 : World) (bw ow cw P : Nat) , Ext w w2 → Wm w2 bw ow (wd D l) → w.heap.size ≤ bw → P < 18446744073709551616 → f7_k2 K (.pointer (some ⟨A, 0, none⟩)) (.pointer (some ⟨Q, 0, none⟩)) (.pointer (some ⟨B, 0, none⟩)) (.int .i64 c) (wsV bw ow cw) (u64 P) w2 ∧ ∀ e : Int, f7_k3 K (.pointer (some ⟨A, 0, none⟩)) (.pointer (some ⟨Q, 0, none⟩)) (.pointer (some ⟨B, 0, none⟩)) (.int .i64 c) (wsV bw ow cw) (u64 P) (.int .i64 e) (u64 P) (.int .i64 e) w2 := fun w2 bw ow cw P e2 hW hbw hP =>
    ⟨pp_k2 ((h.ext e2).base eI hGI) hs hfa hl (hA.ext e2) (hQ.ext e2) hp0 hP hW hQI hQF hQB hQA (by omega) hK, fun e => pp_k3 ((h.ext e2).base eI hGI) hs e hfa hl (hA.ext e2) (hQ.ext e2) hp0 hP hW hQI hQF hQB hQA (by omega) hK⟩
  have pfc : ∀ j q x gg kk ss, PrtJ D l c j q x gg kk ss → (q < 256 ∧ x < 18446744073709551616 ∧ gg < 65536 ∧ kk < 256 ∧ ((q : Int) + 1) = ((q + 1 : Nat) : Int)) ∧ (∀ (w : World) (K : K1), callS Tryz.prog 20 #[.int .i64 c, .int .i64 (j : Int)] w K = K (.int .i64 (q : Int)) w) ∧ (∀ (w : World) (K : K1), callS Tryz.prog 56 #[.int .u64 (x : Int)] w K = K (.tuple #[.int .u16 (gg : Int), .int .u8 (kk : Int), .int .u32 (ss : Int), .bool (okP x)]) w) ∧ (∀ (kk : Nat) (w : World) (K : K1), gg ≠ 0 → kk ≠ 0 → kk ≤ 127 → callS Tryz.prog 57 #[.int .u64 ((64 * l + 8 * (q + 1) : Nat) : Int), .int .u16 (gg : Int), .int .u8 (kk : Int)] w K = K (.tuple #[.int .u64 ((ptrN (l * 64 + q * 8 + 8) gg kk : Nat) : Int), .int .i64 0]) w) := fun j q x gg kk ss hP => by
    obtain ⟨hj, rfl, rfl, rfl, rfl, rfl⟩ := hP
    have bd := offN_bd h.c0 h.c5 hj
    have hxl := hWl _ bd.2.2
    have hgx : gX (wd D l (offN c j)) < 65536 := by unfold gX; omega
    have hkx : kX (wd D l (offN c j)) < 256 := by unfold kX; omega
    refine ⟨⟨bd.2.2, hxl, hgx, hkx, by omega⟩, fun w K => by rw [c_rOff c j w K (by omega) (by omega), bd.1], fun w K => c_rParts _ w K hxl, fun kk w K h1 h2 h3 => ?_⟩
    rw [show 64 * l + 8 * (offN c j + 1) = l * 64 + offN c j * 8 + 8 by omega]
    exact c_MakeOk _ _ _ w K (by omega) (by omega) (by omega) h1 hgx h2 h3
  rw [f7_k1_eq]
  unfold f7_k1_t
  simp (disch := first | omega | simp only [RO] | (simp only [RZ] <;> omega) | fail) only [↓RBp, ↓RA, ↓reduceIte, Nat.reduceAdd, Nat.reduceMul, Nat.reduceEqDiff, RB, RBr, RW, RS, RA2, a0, a1, a2, a3, hhe, hli]
  refine k_words (h.ext (by repeat (first | with_reducible refine Ext.setB ?_ (by omega) _ | with_reducible refine Ext.setB ?_ (by simp only [RZ] <;> omega) _ | with_reducible assumption | exact Ext.refl _ | with_reducible refine Ext.alloc ?_ _ | with_reducible refine Ext.drew ?_ | with_reducible refine Ext.trans ?_ (by assumption)))).L.dv h.L.gd h.on.off hlt _ (fun bw ow cw w1 hsl e1 hbw => ?_)
  have e01 : Ext w w1 := Ext.trans (by repeat (first | with_reducible refine Ext.setB ?_ (by omega) _ | with_reducible refine Ext.setB ?_ (by simp only [RZ] <;> omega) _ | with_reducible assumption | exact Ext.refl _ | with_reducible refine Ext.alloc ?_ _ | with_reducible refine Ext.drew ?_ | with_reducible refine Ext.trans ?_ (by assumption))) e1
  have hW := Wm.of_sl hsl
  have hbw' : w.heap.size ≤ bw := by
    have : Ext w (((w.alloc (fmO fa fb fc fg)).alloc (hdO c ((fc % 8 : Nat) : Int) (genN fg))).alloc (fmO fa fb fc fg)) := (by repeat (first | with_reducible refine Ext.setB ?_ (by omega) _ | with_reducible refine Ext.setB ?_ (by simp only [RZ] <;> omega) _ | with_reducible assumption | exact Ext.refl _ | with_reducible refine Ext.alloc ?_ _ | with_reducible refine Ext.drew ?_ | with_reducible refine Ext.trans ?_ (by assumption)))
    exact Nat.le_trans this.size hbw
  have h1 := h.ext e01
  have ob1 := h1.cells; have c0 := ob1.1; have c1 := ob1.2.1; have c2 := ob1.2.2.1; have c3 := ob1.2.2.2.1; have c4 := ob1.2.2.2.2
  have q0 : w1.cell? ⟨Q, 0, none⟩ = some (.int .i64 qi) := (hQ.ext e01).cell (i := 0) (by omega)
  have q1 : w1.cell? ⟨Q, 1, none⟩ = some (.int .u8 (qk : Int)) := (hQ.ext e01).cell (i := 1) (by omega)
  have ltQ1 : Q < w1.heap.size := lt_of_cell q0
  simp (disch := first | omega | simp only [RO] | (simp only [RZ] <;> omega) | fail) only [↓RBp, ↓RA, ↓reduceIte, Nat.reduceAdd, Nat.reduceMul, Nat.reduceEqDiff, RB, RBr, RW, RS, RA2, c0, c1, c2, c3, c4, q0, q1]
  have eF := fun (w2 : World) (e2 : Ext w1 w2) => fF_C (hA.ext (e01.trans e2))
  refine k_PointerT h1 hs qi qk hqk _ (fun w2 e2 hr => ?_) (fun j q x gg kk w2 e2 hij hP => ?_) (fun j q x gg kk P w2 e2 hij hP g0 k0 k1 hPe hpl => ?_) (fun j q x gg kk w2 e2 hij hP hk0 => ?_) (fun j q x gg kk w2 e2 hij hP hk0 => ?_) (fun j q x gg kk P w2 e2 hij hP g0 k0 k1 hPe hpl => ?_)
  · have e02 := e01.trans e2
    have hW2 := hW.ext e2
    have r0 := e2.cell_some q0
    have r1 := e2.cell_some q1
    have ltA2 : A < w2.heap.size := lt_of_cell (eF w2 e2).1
    have ltQ2 : Q < w2.heap.size := lt_of_cell r0
    by_cases h0 : qi < 0
    · (repeat' (first | (with_reducible refine brS_mk (fun _ => ?_) (fun _ => ?_)) | (with_reducible refine And.intro ?_ ?_) | (simp (disch := first | omega | simp only [RO] | (simp only [RZ] <;> omega) | (with_reducible (repeat (first | assumption | exact Ext.refl _ | refine Ext.alloc ?_ _ | refine Ext.drew ?_ | refine Ext.trans ?_ (by assumption)))) | fail) only [↓RBp, ↓RA, ↓reduceIte, Nat.reduceAdd, Nat.reduceMul, Nat.reduceEqDiff, RB, RBr, RW, RS, RA2, r0, r1, c_rPer])))
      exact (fin _ bw ow cw 0 (e02.trans (by repeat (first | with_reducible refine Ext.setB ?_ (by omega) _ | with_reducible refine Ext.setB ?_ (by simp only [RZ] <;> omega) _ | with_reducible assumption | exact Ext.refl _ | with_reducible refine Ext.alloc ?_ _ | with_reducible refine Ext.drew ?_ | with_reducible refine Ext.trans ?_ (by assumption)))) (hW2.ext (by repeat (first | with_reducible refine Ext.setB ?_ (by omega) _ | with_reducible refine Ext.setB ?_ (by simp only [RZ] <;> omega) _ | with_reducible assumption | exact Ext.refl _ | with_reducible refine Ext.alloc ?_ _ | with_reducible refine Ext.drew ?_ | with_reducible refine Ext.trans ?_ (by assumption)))) hbw' (by omega)).1
    · have h1' : perS c ≤ qi := by omega
      (repeat' (first | (with_reducible refine brS_mk (fun _ => ?_) (fun _ => ?_)) | (with_reducible refine And.intro ?_ ?_) | (simp (disch := first | omega | simp only [RO] | (simp only [RZ] <;> omega) | (with_reducible (repeat (first | assumption | exact Ext.refl _ | refine Ext.alloc ?_ _ | refine Ext.drew ?_ | refine Ext.trans ?_ (by assumption)))) | fail) only [↓RBp, ↓RA, ↓reduceIte, Nat.reduceAdd, Nat.reduceMul, Nat.reduceEqDiff, RB, RBr, RW, RS, RA2, r0, r1, c_rPer])))
      exact (fin _ bw ow cw 0 (e02.trans (by repeat (first | with_reducible refine Ext.setB ?_ (by omega) _ | with_reducible refine Ext.setB ?_ (by simp only [RZ] <;> omega) _ | with_reducible assumption | exact Ext.refl _ | with_reducible refine Ext.alloc ?_ _ | with_reducible refine Ext.drew ?_ | with_reducible refine Ext.trans ?_ (by assumption)))) (hW2.ext (by repeat (first | with_reducible refine Ext.setB ?_ (by omega) _ | with_reducible refine Ext.setB ?_ (by simp only [RZ] <;> omega) _ | with_reducible assumption | exact Ext.refl _ | with_reducible refine Ext.alloc ?_ _ | with_reducible refine Ext.drew ?_ | with_reducible refine Ext.trans ?_ (by assumption)))) hbw' (by omega)).1
  · subst hij
    have e02 := e01.trans e2
    have hW2 := hW.ext e2
    have r0 := e2.cell_some q0
    have r1 := e2.cell_some q1
    have ltA2 : A < w2.heap.size := lt_of_cell (eF w2 e2).1
    have ltQ2 : Q < w2.heap.size := lt_of_cell r0
    have hj := hP.1
    have pfb := (pfc _ _ _ _ _ _ hP).1
    have hro := (pfc _ _ _ _ _ _ hP).2.1
    have rp := (pfc _ _ _ _ _ _ hP).2.2.1
    have hcw := hW2.cell pfb.1
    have hqx := hP.2.2.1
    (repeat' (first | (with_reducible refine brS_mk (fun _ => ?_) (fun _ => ?_)) | (with_reducible refine And.intro ?_ ?_) | (simp (disch := first | omega | simp only [RO] | (simp only [RZ] <;> omega) | (with_reducible (repeat (first | assumption | exact Ext.refl _ | refine Ext.alloc ?_ _ | refine Ext.drew ?_ | refine Ext.trans ?_ (by assumption)))) | fail) only [↓RBp, ↓RA, ↓reduceIte, Nat.reduceAdd, Nat.reduceMul, Nat.reduceEqDiff, RB, RBr, RW, RS, RA2, r0, r1, c_rPer, hro, hcw, hqx, rp])))
    exact (fin _ bw ow cw _ (e02.trans (by repeat (first | with_reducible refine Ext.setB ?_ (by omega) _ | with_reducible refine Ext.setB ?_ (by simp only [RZ] <;> omega) _ | with_reducible assumption | exact Ext.refl _ | with_reducible refine Ext.alloc ?_ _ | with_reducible refine Ext.drew ?_ | with_reducible refine Ext.trans ?_ (by assumption)))) (hW2.ext (by repeat (first | with_reducible refine Ext.setB ?_ (by omega) _ | with_reducible refine Ext.setB ?_ (by simp only [RZ] <;> omega) _ | with_reducible assumption | exact Ext.refl _ | with_reducible refine Ext.alloc ?_ _ | with_reducible refine Ext.drew ?_ | with_reducible refine Ext.trans ?_ (by assumption)))) hbw' (by omega)).2 12
  · subst hij
    have e02 := e01.trans e2
    have hW2 := hW.ext e2
    have r0 := e2.cell_some q0
    have r1 := e2.cell_some q1
    have ltA2 : A < w2.heap.size := lt_of_cell (eF w2 e2).1
    have ltQ2 : Q < w2.heap.size := lt_of_cell r0
    have hj := hP.1
    have pfb := (pfc _ _ _ _ _ _ hP).1
    have hro := (pfc _ _ _ _ _ _ hP).2.1
    have rp := (pfc _ _ _ _ _ _ hP).2.2.1
    have hcw := hW2.cell pfb.1
    have hqx := hP.2.2.1
    have hmk := fun w K => (pfc _ _ _ _ _ _ hP).2.2.2 kk w K g0 k0 k1
    have b0 := (eF w2 e2).1
    have b1 := (eF w2 e2).2.1
    have b2 := (eF w2 e2).2.2.1
    have b3 := (eF w2 e2).2.2.2
    have f1 := pfb.2.2.2.2
    rw [← hPe] at hmk
    (repeat' (first | (with_reducible refine brS_mk (fun _ => ?_) (fun _ => ?_)) | (with_reducible refine And.intro ?_ ?_) | (simp (disch := first | omega | simp only [RO] | (simp only [RZ] <;> omega) | (with_reducible (repeat (first | assumption | exact Ext.refl _ | refine Ext.alloc ?_ _ | refine Ext.drew ?_ | refine Ext.trans ?_ (by assumption)))) | fail) only [↓RBp, ↓RA, ↓reduceIte, Nat.reduceAdd, Nat.reduceMul, Nat.reduceEqDiff, RB, RBr, RW, RS, RA2, r0, r1, c_rPer, hro, hcw, hqx, rp, b0, b1, b2, b3, hli, f1, hmk])))
    exact (fin _ bw ow cw _ (e02.trans (by repeat (first | with_reducible refine Ext.setB ?_ (by omega) _ | with_reducible refine Ext.setB ?_ (by simp only [RZ] <;> omega) _ | with_reducible assumption | exact Ext.refl _ | with_reducible refine Ext.alloc ?_ _ | with_reducible refine Ext.drew ?_ | with_reducible refine Ext.trans ?_ (by assumption)))) (hW2.ext (by repeat (first | with_reducible refine Ext.setB ?_ (by omega) _ | with_reducible refine Ext.setB ?_ (by simp only [RZ] <;> omega) _ | with_reducible assumption | exact Ext.refl _ | with_reducible refine Ext.alloc ?_ _ | with_reducible refine Ext.drew ?_ | with_reducible refine Ext.trans ?_ (by assumption)))) hbw' hpl).2 0
  · subst hij
    have e02 := e01.trans e2
    have hW2 := hW.ext e2
    have r0 := e2.cell_some q0
    have r1 := e2.cell_some q1
    have ltA2 : A < w2.heap.size := lt_of_cell (eF w2 e2).1
    have ltQ2 : Q < w2.heap.size := lt_of_cell r0
    have hj := hP.1
    have pfb := (pfc _ _ _ _ _ _ hP).1
    have hro := (pfc _ _ _ _ _ _ hP).2.1
    have rp := (pfc _ _ _ _ _ _ hP).2.2.1
    have hcw := hW2.cell pfb.1
    have hqx := hP.2.2.1
    subst hk0
    (repeat' (first | (with_reducible refine brS_mk (fun _ => ?_) (fun _ => ?_)) | (with_reducible refine And.intro ?_ ?_) | (simp (disch := first | omega | simp only [RO] | (simp only [RZ] <;> omega) | (with_reducible (repeat (first | assumption | exact Ext.refl _ | refine Ext.alloc ?_ _ | refine Ext.drew ?_ | refine Ext.trans ?_ (by assumption)))) | fail) only [↓RBp, ↓RA, ↓reduceIte, Nat.reduceAdd, Nat.reduceMul, Nat.reduceEqDiff, RB, RBr, RW, RS, RA2, r0, r1, c_rPer, hro, hcw, hqx, rp])))
    exact (fin _ bw ow cw _ (e02.trans (by repeat (first | with_reducible refine Ext.setB ?_ (by omega) _ | with_reducible refine Ext.setB ?_ (by simp only [RZ] <;> omega) _ | with_reducible assumption | exact Ext.refl _ | with_reducible refine Ext.alloc ?_ _ | with_reducible refine Ext.drew ?_ | with_reducible refine Ext.trans ?_ (by assumption)))) (hW2.ext (by repeat (first | with_reducible refine Ext.setB ?_ (by omega) _ | with_reducible refine Ext.setB ?_ (by simp only [RZ] <;> omega) _ | with_reducible assumption | exact Ext.refl _ | with_reducible refine Ext.alloc ?_ _ | with_reducible refine Ext.drew ?_ | with_reducible refine Ext.trans ?_ (by assumption)))) hbw' (by omega)).2 1
  · subst hij
    have e02 := e01.trans e2
    have hW2 := hW.ext e2
    have r0 := e2.cell_some q0
    have r1 := e2.cell_some q1
    have ltA2 : A < w2.heap.size := lt_of_cell (eF w2 e2).1
    have ltQ2 : Q < w2.heap.size := lt_of_cell r0
    have hj := hP.1
    have pfb := (pfc _ _ _ _ _ _ hP).1
    have hro := (pfc _ _ _ _ _ _ hP).2.1
    have rp := (pfc _ _ _ _ _ _ hP).2.2.1
    have hcw := hW2.cell pfb.1
    have hqx := hP.2.2.1
    have hk1 : ¬ qk = 0 := by omega
    (repeat' (first | (with_reducible refine brS_mk (fun _ => ?_) (fun _ => ?_)) | (with_reducible refine And.intro ?_ ?_) | (simp (disch := first | omega | simp only [RO] | (simp only [RZ] <;> omega) | (with_reducible (repeat (first | assumption | exact Ext.refl _ | refine Ext.alloc ?_ _ | refine Ext.drew ?_ | refine Ext.trans ?_ (by assumption)))) | fail) only [↓RBp, ↓RA, ↓reduceIte, Nat.reduceAdd, Nat.reduceMul, Nat.reduceEqDiff, RB, RBr, RW, RS, RA2, r0, r1, c_rPer, hro, hcw, hqx, rp])))
    exact (fin _ bw ow cw _ (e02.trans (by repeat (first | with_reducible refine Ext.setB ?_ (by omega) _ | with_reducible refine Ext.setB ?_ (by simp only [RZ] <;> omega) _ | with_reducible assumption | exact Ext.refl _ | with_reducible refine Ext.alloc ?_ _ | with_reducible refine Ext.drew ?_ | with_reducible refine Ext.trans ?_ (by assumption)))) (hW2.ext (by repeat (first | with_reducible refine Ext.setB ?_ (by omega) _ | with_reducible refine Ext.setB ?_ (by simp only [RZ] <;> omega) _ | with_reducible assumption | exact Ext.refl _ | with_reducible refine Ext.alloc ?_ _ | with_reducible refine Ext.drew ?_ | with_reducible refine Ext.trans ?_ (by assumption)))) hbw' (by omega)).2 1
  · subst hij
    have e02 := e01.trans e2
    have hW2 := hW.ext e2
    have r0 := e2.cell_some q0
    have r1 := e2.cell_some q1
    have ltA2 : A < w2.heap.size := lt_of_cell (eF w2 e2).1
    have ltQ2 : Q < w2.heap.size := lt_of_cell r0
    have hj := hP.1
    have pfb := (pfc _ _ _ _ _ _ hP).1
    have hro := (pfc _ _ _ _ _ _ hP).2.1
    have rp := (pfc _ _ _ _ _ _ hP).2.2.1
    have hcw := hW2.cell pfb.1
    have hqx := hP.2.2.1
    have hmk := fun w K => (pfc _ _ _ _ _ _ hP).2.2.2 qk w K g0 k0 k1
    have b0 := (eF w2 e2).1
    have b1 := (eF w2 e2).2.1
    have b2 := (eF w2 e2).2.2.1
    have b3 := (eF w2 e2).2.2.2
    have f1 := pfb.2.2.2.2
    rw [← hPe] at hmk
    (repeat' (first | (with_reducible refine brS_mk (fun _ => ?_) (fun _ => ?_)) | (with_reducible refine And.intro ?_ ?_) | (simp (disch := first | omega | simp only [RO] | (simp only [RZ] <;> omega) | (with_reducible (repeat (first | assumption | exact Ext.refl _ | refine Ext.alloc ?_ _ | refine Ext.drew ?_ | refine Ext.trans ?_ (by assumption)))) | fail) only [↓RBp, ↓RA, ↓reduceIte, Nat.reduceAdd, Nat.reduceMul, Nat.reduceEqDiff, RB, RBr, RW, RS, RA2, r0, r1, c_rPer, hro, hcw, hqx, rp, b0, b1, b2, b3, hli, f1, hmk])))
    exact (fin _ bw ow cw _ (e02.trans (by repeat (first | with_reducible refine Ext.setB ?_ (by omega) _ | with_reducible refine Ext.setB ?_ (by simp only [RZ] <;> omega) _ | with_reducible assumption | exact Ext.refl _ | with_reducible refine Ext.alloc ?_ _ | with_reducible refine Ext.drew ?_ | with_reducible refine Ext.trans ?_ (by assumption)))) (hW2.ext (by repeat (first | with_reducible refine Ext.setB ?_ (by omega) _ | with_reducible refine Ext.setB ?_ (by simp only [RZ] <;> omega) _ | with_reducible assumption | exact Ext.refl _ | with_reducible refine Ext.alloc ?_ _ | with_reducible refine Ext.drew ?_ | with_reducible refine Ext.trans ?_ (by assumption)))) hbw' hpl).2 0
end
end Go.Proofs.YtaeopkhdokaaoaaGreatDoor
namespace Go.Proofs.YtaeopkhdokaaoaaGreatDoor
open Go Go.Sh
set_option maxRecDepth 100000
set_option maxHeartbeats 4000000
set_option linter.unusedSimpArgs false
set_option linter.unusedVariables false
section
variable {w w' : World}
abbrev qrV (qi : Int) (qk p : Nat) (own : Bool) : Value := .agg #[.int .i64 qi, .int .u8 (qk : Int), .int .u64 (p : Int), .bool own]
abbrev qrO (qi : Int) (qk p : Nat) (own : Bool) : Obj := .cells #[.int .i64 qi, .int .u8 (qk : Int), .int .u64 (p : Int), .bool own] 105
theorem law_pointers (hG : Glob w) (a b c g : Nat) (ha : a < 256) (hb : b < 256) (hc : c < 256) (hg : g < 65536) {v : Value} {al : List (List Int × List Nat × List Int)} (hal : ActsR w.heap.size w v al) (hok : ∀ x ∈ al, actOk x) (hln : al.length ≤ maxLen) (qi : Int) (qk p0 : Nat) (own : Bool) (hqk : qk < 256) (hp0 : p0 < 18446744073709551616) (K : K1) (hK : ∀ w', Ext w w' → K (.bool true) w') :
    callS Tryz.prog 7 #[fmV a b c g, v, qrV qi qk p0 own] w K := by
  have l8 : a % 9 ≤ 8 := by omega
  have c0 : (0 : Int) ≤ ((b % 5 : Nat) : Int) := by omega
  have c5 : ((b % 5 : Nat) : Int) < 5 := by omega
  have o0 : (0 : Int) ≤ ((c % 8 : Nat) : Int) := by omega
  have o8 : ((c % 8 : Nat) : Int) < 8 := by omega
  have hgn : genN g ≠ 0 ∧ genN g < 65536 := by unfold genN; split <;> omega
  have hfo := fun (w : World) (hG : Glob w) (K : K1) hK => k_fopen hG a b c g ha hb hc hg K hK
  obtain ⟨va, vc, rfl, _⟩ := id hal
  have hlm : al.length < 9223372036854775808 := by unfold maxLen at hln; omega
  generalize hgg : genN g = gg at *
  generalize hll : a % 9 = ll at *
  generalize hcc : ((b % 5 : Nat) : Int) = cc at *
  generalize hoo : ((c % 8 : Nat) : Int) = oo at *
  have hone := opened_on l8 c0 c5 o0 o8 hgn.2
  have hexe := (opened_exe l8 c0 c5 oo gg).1
  have hsnd := opened_snd l8 c0 c5 o0 o8 hgn.1 hgn.2
  have hn := opened_n ll cc oo gg
  generalize DS.opened ll cc oo gg = D at *
  refine f7_call _ _ _ _ _ ?_
  unfold f7_t
  simp (disch := first | omega | simp only [RO] | (simp only [RZ] <;> omega) | fail) only [↓RBp, ↓RA, ↓reduceIte, Nat.reduceAdd, Nat.reduceMul, Nat.reduceEqDiff, RB, RBr, RW, RS, RA2]
  refine k_awake (hG.ext (by repeat (first | with_reducible refine Ext.setB ?_ (by omega) _ | with_reducible refine Ext.setB ?_ (by simp only [RZ] <;> omega) _ | with_reducible assumption | exact Ext.refl _ | with_reducible refine Ext.alloc ?_ _ | with_reducible refine Ext.drew ?_ | with_reducible refine Ext.trans ?_ (by assumption)))) _ (fun w1 he1 => ?_)
  have eQ : Ext ((w.alloc (fmO a b c g)).alloc (qrO qi qk p0 own)) w1 := he1
  have eA : Ext (w.alloc (fmO a b c g)) w1 := (Ext.alloc_self _ _).trans eQ
  have e01 : Ext w w1 := (Ext.alloc_self _ _).trans eA
  by_cases h6 : 6 < al.length
  · simp (disch := first | omega | simp only [RO] | (simp only [RZ] <;> omega) | fail) only [↓RBp, ↓RA, ↓reduceIte, Nat.reduceAdd, Nat.reduceMul, Nat.reduceEqDiff, RB, RBr, RW, RS, RA2]
    refine k_awake (hG.ext e01) _ (fun w2 he2 => ?_)
    exact hK _ (e01.trans he2)
  · have ob1 := fmCells eA; have q0 := ob1.1; have q1 := ob1.2.1; have q2 := ob1.2.2.1; have q3 := ob1.2.2.2
    have lt1 : w.heap.size < w1.heap.size := lt_of_cell q0
    have hA1 : Cells w1 w.heap.size 67 4 (fF a b c g) := (Cells.new w [Value.int .u8 (a : Int), .int .u8 (b : Int), .int .u8 (c : Int), .int .u16 (g : Int)] 67).ext eA
    have hQ1 : Cells w1 (w.heap.size + 1) 105 4 (qF qi qk p0 own) := by
      have := (Cells.new (w.alloc (fmO a b c g)) [Value.int .i64 qi, .int .u8 (qk : Int), .int .u64 (p0 : Int), .bool own] 105).ext eQ
      rw [size_alloc] at this
      exact this
    have ltQ1 := hQ1.lt
    simp (disch := first | omega | simp only [RO] | (simp only [RZ] <;> omega) | fail) only [↓RBp, ↓RA, ↓reduceIte, Nat.reduceAdd, Nat.reduceMul, Nat.reduceEqDiff, RB, RBr, RW, RS, RA2, q0, q1, q2, q3]
    refine hfo _ (hG.ext e01) _ (fun w2 Y L2 => ?_)
    have eB := eA.trans L2.ex
    have ob2 := fmCells eB; have r0 := ob2.1; have r1 := ob2.2.1; have r2 := ob2.2.2.1; have r3 := ob2.2.2.2
    have lt2 : w.heap.size < w2.heap.size := lt_of_cell r0
    have s12 := L2.ex.size
    have nt : ¬ Y.F w2.heap.size := fun hf => by have := L2.dv.lt hf; omega
    have hloc : Loc w1 (w2.alloc (chO Y ll cc oo gg)) Y D w2.heap.size ll cc oo gg := ⟨L2.ext (Ext.alloc_self _ _), Cells.new w2 [Value.iface 48 (.pointer (some ⟨Y.tb 0, 0, none⟩)), .int .i64 (ll : Int), .int .i64 cc, .int .i64 oo, .int .u16 (gg : Int)] 58, nt, hone.1, by omega, hG.ext e01, c0, c5⟩
    simp (disch := first | omega | simp only [RO] | (simp only [RZ] <;> omega) | fail) only [↓RBp, ↓RA, ↓reduceIte, Nat.reduceAdd, Nat.reduceMul, Nat.reduceEqDiff, RB, RBr, RW, RS, RA2]
    refine pp_l1 (hloc.ext (by repeat (first | with_reducible refine Ext.setB ?_ (by omega) _ | with_reducible refine Ext.setB ?_ (by simp only [RZ] <;> omega) _ | with_reducible assumption | exact Ext.refl _ | with_reducible refine Ext.alloc ?_ _ | with_reducible refine Ext.drew ?_ | with_reducible refine Ext.trans ?_ (by assumption)))) hsnd rfl (hal.ext e01) hok (by omega) hexe _ _ (fun w' e => hK w' (e01.trans e)) (fun w3 Y3 D3 h3 hT3 hs3 hx3 => ?_)
    exact pp_k1 h3 e01 hG hs3 hT3 ha hb hc hg hll hcc (hA1.ext h3.L.ex) (hQ1.ext h3.L.ex) hp0 hqk (by omega) (by omega) (by omega) (by omega) hK
end
end Go.Proofs.YtaeopkhdokaaoaaGreatDoor
