/-
  Part of the proof in YtaeopkhdokaaoaaGreatDoorBaRowF.
-/
import Derived.Test.YtaeopkhdokaaoaaGreatDoorBa5
import Derived.Test.YtaeopkhdokaaoaaGreatDoorBa1
import Derived.Test.YtaeopkhdokaaoaaGreatDoorBa3
import Derived.Laws.BytesString
import Derived.Laws.Strings
namespace Go.Proofs.YtaeopkhdokaaoaaGreatDoor
open Go Go.Sh
set_option maxRecDepth 100000
set_option maxHeartbeats 4000000
set_option linter.unusedSimpArgs false
set_option linter.unusedVariables false
def ActsR (m : Nat) (w : World) (v : Value) (al : List (List Int × List Nat × List Int)) : Prop := ∃ a cap, v = .slice a al.length cap ∧ ∀ j x, al[j]? = some x → ∃ b o s1 s2 s3, a = some ⟨b, o, none⟩ ∧ b < m ∧ w.cell? ⟨b, o + j * 3, none⟩ = some s1 ∧ w.cell? ⟨b, o + j * 3 + 1, none⟩ = some s2 ∧ w.cell? ⟨b, o + j * 3 + 2, none⟩ = some s3 ∧ RdS m w s1 (i64L x.1) ∧ RdS m w s2 (u8L x.2.1) ∧ RdS m w s3 (i64L x.2.2)
def actOk (x : List Int × List Nat × List Int) : Prop := x.1.length ≤ maxLen ∧ x.2.1.length ≤ maxLen ∧ x.2.2.length ≤ maxLen ∧ ∀ k ∈ x.2.1, k < 256
section
variable {w w' : World} {Y : Lay} {D : DS} {l m : Nat} {v : Value} {al : List (List Int × List Nat × List Int)}
theorem ActsR.ext (h : ActsR m w v al) (e : Ext w w') : ActsR m w' v al := by
  obtain ⟨a, cap, hv, h⟩ := h
  refine ⟨a, cap, hv, fun j x hx => ?_⟩
  obtain ⟨b, o, s1, s2, s3, ha, hb, c1, c2, c3, r1, r2, r3⟩ := h j x hx
  exact ⟨b, o, s1, s2, s3, ha, hb, e.cell_some c1, e.cell_some c2, e.cell_some c3, r1.ext e, r2.ext e, r3.ext e⟩
theorem elU64 : ElT Tryz.prog 72 72 33 1 8 (.int .u64 0) := el_72_72
def wdL (W : Nat → Nat) (n : Nat) : List Value := (List.range n).map fun j => u64 (W j)
theorem wdL_snoc (W : Nat → Nat) (n : Nat) : wdL W (n + 1) = wdL W n ++ [u64 (W n)] := by simp [wdL, List.range_succ]
theorem wdL_get {W : Nat → Nat} {n j : Nat} (h : j < n) : (wdL W n)[j]? = some (u64 (W j)) := by simp [wdL, h]
theorem Wm.of_sl {W : Nat → Nat} {b o n cap : Nat} (h : SlO w 33 1 (.slice (some ⟨b, o, none⟩) n cap) 256 (wdL W 256)) : Wm w b o W := ⟨fun hi => h.cell rfl (wdL_get hi), fun i => h.frz rfl i⟩
theorem k_words (h : Dv w Y D) (g : Good D) (ho : D.off = false) (hl : l + 32 ≤ D.n) (K : K1) (hK : ∀ b o cap w', SlO w' 33 1 (wsV b o cap) 256 (wdL (wd D l) 256) → Ext w w' → w.heap.size ≤ b → K (wsV b o cap) w') :
    callS Tryz.prog 40 #[.pointer (some ⟨Y.tb 0, 0, none⟩), .int .i64 (l : Int)] w K := by
  have hn := g.n
  have ld : ∀ (i : Nat) (w1 : World) (K : K1), Ext w w1 → i < 256 → callS Tryz.prog 52 #[.pointer (some ⟨Y.tb 0, 0, none⟩), .int .u64 ((l * 64 + i * 8 : Nat) : Int)] w1 K = K (.int .u64 (wd D l i : Int)) w1 := fun i w1 K e hi => by
    rw [c_Load (h.ext e) g 0 (by omega) ho (l * 64 + i * 8) (by omega) (by omega) K, show (l * 64 + i * 8) / 8 = l * 8 + i by omega]; unfold wd; rfl
  refine f40_call _ _ _ _ ?_
  unfold f40_t
  apply f40_l1_rule (I := fun x z w' => ∃ k : Nat, z = .int .i64 (k : Int) ∧ k ≤ 256 ∧ SlO w' 33 1 x k (wdL (wd D l) k) ∧ Frm Nob w w' ∧ NewV w.heap.size x) (μ := fun _ z _ => 256 - (Go.RowKit.intOf z).toNat)
  · exact ⟨0, rfl, by omega, SlO.nil _ _ _, Frm.refl _ _, fun b hb => by cases hb⟩
  · intros; rename_i x5 x7 w1 hI E1 hE
    obtain ⟨k, rfl, hk, hs, hf, hnw⟩ := hI
    have e1 : Ext w w1 := hf.to_ext (fun _ _ h => h)
    by_cases hk2 : k < 256
    · have e8 : (64 * l + 8 * k) = l * 64 + k * 8 := by omega
      have ldk := fun (w1 : World) (K : K1) (e : Ext w w1) => ld k w1 K e hk2
      obtain ⟨pa, pc, rfl, hpc⟩ := hs.isS'
      generalize hx : wd D l k = x at *
      unfold f40_l1_t
      simp (disch := first | omega | simp only [RO] | (simp only [RZ] <;> omega) | (with_reducible (repeat (first | assumption | exact Ext.refl _ | refine Ext.alloc ?_ _ | refine Ext.drew ?_ | refine Ext.trans ?_ (by assumption)))) | fail) only [↓RBp, ↓RA, ↓reduceIte, Nat.reduceAdd, Nat.reduceMul, Nat.reduceEqDiff, RB, RBr, RW, RS, RA2, e8, ldk, Int.toNat_natCast]
      refine app_new elU64 (w0 := w) (hs.ext (by repeat (first | with_reducible refine Ext.setB ?_ (by omega) _ | with_reducible refine Ext.setB ?_ (by simp only [RZ] <;> omega) _ | with_reducible assumption | exact Ext.refl _ | with_reducible refine Ext.alloc ?_ _ | with_reducible refine Ext.drew ?_ | with_reducible refine Ext.trans ?_ (by assumption)))) (hf.ext (by repeat (first | with_reducible refine Ext.setB ?_ (by omega) _ | with_reducible refine Ext.setB ?_ (by simp only [RZ] <;> omega) _ | with_reducible assumption | exact Ext.refl _ | with_reducible refine Ext.alloc ?_ _ | with_reducible refine Ext.drew ?_ | with_reducible refine Ext.trans ?_ (by assumption)))) hnw (m := 1) (news := [u64 x]) rfl ?_ rfl (by omega) (by omega) (by omega) (fun v' w4 hsp hf4 n4 hfr4 hb4 => ?_)
      · intro j u hj
        obtain ⟨rfl, rfl⟩ := one_get hj
        simp (disch := first | omega | simp only [RO] | (simp only [RZ] <;> omega) | fail) only [↓RBp, ↓RA, ↓reduceIte, Nat.reduceAdd, Nat.reduceMul, Nat.reduceEqDiff, RB, RBr, RW, RS, RA2]
      simp (disch := first | omega | simp only [RO] | (simp only [RZ] <;> omega) | fail) only [↓RBp, ↓RA, ↓reduceIte, Nat.reduceAdd, Nat.reduceMul, Nat.reduceEqDiff, RB, RBr, RW, RS, RA2]
      apply hE
      · exact ⟨k + 1, by simp, by omega, by rw [wdL_snoc, hx]; exact hsp, hf4, n4⟩
      · simp [Go.RowKit.intOf]; omega
    · have : k = 256 := by omega
      subst this
      obtain ⟨b, ob, cap, rfl, _⟩ := hs.isS (by omega)
      unfold f40_l1_t
      simp (disch := first | omega | simp only [RO] | (simp only [RZ] <;> omega) | fail) only [↓RBp, ↓RA, ↓reduceIte, Nat.reduceAdd, Nat.reduceMul, Nat.reduceEqDiff, RB, RBr, RW, RS, RA2, f40_k1_eq, f40_k1_t]
      exact hK _ _ _ _ hs e1 (hnw b rfl)
theorem k_same (W : Nat → Nat) (b o cap b' o' cap' : Nat) (h : Wm w b o W) (h' : Wm w b' o' W) (hW : ∀ j, j < 256 → W j < 18446744073709551616) (K : K1) (hK : ∀ w', Ext w w' → K (.bool true) w') :
    callS Tryz.prog 39 #[wsV b o cap, wsV b' o' cap'] w K := by
  refine f39_call _ _ _ _ ?_
  unfold f39_t
  simp (disch := first | omega | simp only [RO] | (simp only [RZ] <;> omega) | fail) only [↓RBp, ↓RA, ↓reduceIte, Nat.reduceAdd, Nat.reduceMul, Nat.reduceEqDiff, RB, RBr, RW, RS, RA2]
  apply f39_l1_rule (I := fun z w' => ∃ k : Nat, z = .int .i64 (k : Int) ∧ k ≤ 256 ∧ Ext w w') (μ := fun z _ => 256 - (Go.RowKit.intOf z).toNat)
  · exact ⟨0, rfl, by omega, Ext.refl _⟩
  · intros; rename_i x13 w1 hI E1 hE
    obtain ⟨k, rfl, hk, e1⟩ := hI
    by_cases hk2 : k < 256
    · have c1 := e1.cell_some (h.cell hk2)
      have c2 := e1.cell_some (h'.cell hk2)
      have hx := hW k hk2
      generalize W k = x at c1 c2 hx
      unfold f39_l1_t
      simp (disch := first | omega | simp only [RO] | (simp only [RZ] <;> omega) | fail) only [↓RBp, ↓RA, ↓reduceIte, Nat.reduceAdd, Nat.reduceMul, Nat.reduceEqDiff, RB, RBr, RW, RS, RA2, c1, c2]
      apply hE
      · exact ⟨k + 1, by simp, by omega, (by repeat (first | with_reducible refine Ext.setB ?_ (by omega) _ | with_reducible refine Ext.setB ?_ (by simp only [RZ] <;> omega) _ | with_reducible assumption | exact Ext.refl _ | with_reducible refine Ext.alloc ?_ _ | with_reducible refine Ext.drew ?_ | with_reducible refine Ext.trans ?_ (by assumption)))⟩
      · simp [Go.RowKit.intOf]; omega
    · unfold f39_l1_t
      simp (disch := first | omega | simp only [RO] | (simp only [RZ] <;> omega) | fail) only [↓RBp, ↓RA, ↓reduceIte, Nat.reduceAdd, Nat.reduceMul, Nat.reduceEqDiff, RB, RBr, RW, RS, RA2, f39_k1_eq, f39_k1_t]
      exact hK _ e1
abbrev acO (s1 s2 s3 : Value) : Obj := .cells #[s1, s2, s3] 77
theorem c_great (a1 a2 a3 : Option Addr) (n1 n2 n3 k1 k2 k3 : Nat) (h1 : n1 < 9223372036854775808) (h2 : n2 < 9223372036854775808) (h3 : n3 < 9223372036854775808) (w : World) (K : K1) :
    callS Tryz.prog 36 #[.agg #[.slice a1 n1 k1, .slice a2 n2 k2, .slice a3 n3 k3]] w K = K (.bool (decide (70 < n1) || (decide (70 < n2) || decide (70 < n3)))) (w.alloc (acO (.slice a1 n1 k1) (.slice a2 n2 k2) (.slice a3 n3 k3))) := by
  refine callS_det (by kernel_rfl) (f36_call _ _ _ ?_) K
  unfold f36_t
  by_cases g1 : 70 < n1
  · have e : (decide (70 < n1) || (decide (70 < n2) || decide (70 < n3))) = true := by simp [g1]
    rw [e]
    simp (disch := first | omega | simp only [RO] | (simp only [RZ] <;> omega) | fail) only [↓RBp, ↓RA, ↓reduceIte, Nat.reduceAdd, Nat.reduceMul, Nat.reduceEqDiff, RB, RBr, RW, RS, RA2]
  · by_cases g2 : 70 < n2
    · have e : (decide (70 < n1) || (decide (70 < n2) || decide (70 < n3))) = true := by simp [g2]
      rw [e]
      simp (disch := first | omega | simp only [RO] | (simp only [RZ] <;> omega) | fail) only [↓RBp, ↓RA, ↓reduceIte, Nat.reduceAdd, Nat.reduceMul, Nat.reduceEqDiff, RB, RBr, RW, RS, RA2]
    · by_cases g3 : 70 < n3
      · have e : (decide (70 < n1) || (decide (70 < n2) || decide (70 < n3))) = true := by simp [g3]
        rw [e]
        simp (disch := first | omega | simp only [RO] | (simp only [RZ] <;> omega) | fail) only [↓RBp, ↓RA, ↓reduceIte, Nat.reduceAdd, Nat.reduceMul, Nat.reduceEqDiff, RB, RBr, RW, RS, RA2]
      · have e : (decide (70 < n1) || (decide (70 < n2) || decide (70 < n3))) = false := by simp [g1, g2, g3]
        rw [e]
        simp (disch := first | omega | simp only [RO] | (simp only [RZ] <;> omega) | fail) only [↓RBp, ↓RA, ↓reduceIte, Nat.reduceAdd, Nat.reduceMul, Nat.reduceEqDiff, RB, RBr, RW, RS, RA2]
end
end Go.Proofs.YtaeopkhdokaaoaaGreatDoor
namespace Go.Proofs.YtaeopkhdokaaoaaGreatDoor
open Go Go.Sh
set_option maxRecDepth 100000
set_option linter.unusedVariables false
noncomputable def f6_u : Code × Dec := ((Tryz.f6.body).getD .skip, (.s .o (.s .o (.s .o (.s .o (.x 680 (.s .o (.b (.l [45] 26388279067304 75557863690729951377472 (.s .o (.s .o (.x 61572651156136 (.b (.s .o (.s .o (.s .o (.s .o (.b (.l [64] 13835119627933319848 37760485118883452190720 .o))))))) .o)))))) (.s .o (.x 197288 .o (.s .o (.x 459432 (.s .o (.b (.l [18, 93] 4951760157141521099596694184 2658455981666311431524571921371627520 (.s .o (.s .o (.x 14855280471424563298789950120 (.b (.s .o (.s .o (.s .o (.b (.l [18, 108] 14855280471424563298790736552 1328903477231257446177023904262127616 .o)))))) .o)))))) (.s .o (.s .o (.x 4457096 (.s .o (.b (.l [137] 87112285931760246646623899502532666655368 748288838139197722256766141057489107058772196458496 (.s .o (.s .o (.x 261336857795280739939871698507597990920840 (.b (.s .o (.s .o (.x 261336857795280739939871698507598016086664 (.s .o (.b (.l [24, 25] 261336857795280739939871698507597999309448 45670532370015808029918805039991803841704099840 .o))) .o)))) .o)))))) .o)))))))))))))
abbrev f6_e (K : K1) : KF := endK Tryz.prog Tryz.f6.results.toList K
def f6_k1_o (K : K1) : KF := fun fr w => ∀ σ, cP (pr (pr (pr (pr (pr f6_u))))) (f6_e K) (f6_e K) nX (mixF 680 σ 0 fr) w
def f6_k1 (K : K1) (x3 x5 x7 x9 : Value) (w : World) : Prop := f6_k1_o K (fz 194 0 [(3, x3), (5, x5), (7, x7), (9, x9)]) w
def f6_l1 (K : K1) (x3 x5 x7 x9 x43 x44 x45 : Value) (w : World) : Prop := loopT [45] 26388279067304 (fun E => cP (pl (pl (pr (pl (pr (pr (pr (pr f6_u)))))))) E (f6_e K) (exB 0 (f6_k1_o K) nX)) (fz 194 0 [(3, x3), (5, x5), (7, x7), (9, x9), (43, x43), (44, x44), (45, x45)]) w
def f6_k2_o (K : K1) : KF := fun fr w => ∀ σ, cP (pr (pr (pr (pr (pr (pr (pr f6_u))))))) (f6_e K) (f6_e K) nX (mixF 197288 σ 0 fr) w
def f6_k2 (K : K1) (x3 x5 x7 x9 x16 x17 : Value) (w : World) : Prop := f6_k2_o K (fz 194 0 [(3, x3), (5, x5), (7, x7), (9, x9), (16, x16), (17, x17)]) w
def f6_k3_o (K : K1) (E1 : VP1) : KF := fun fr w => ∀ σ, cP (pr (pr (pr (pl (pl (pr (pl (pr (pr (pr (pr f6_u))))))))))) (fun fr w => E1 (sv fr 45) w) (f6_e K) (exB 0 (f6_k1_o K) nX) (mixF 61572651156136 σ 0 fr) w
def f6_k3 (K : K1) (E1 : VP1) (x3 x5 x7 x9 x43 x44 x45 : Value) (w : World) : Prop := f6_k3_o K E1 (fz 194 0 [(3, x3), (5, x5), (7, x7), (9, x9), (43, x43), (44, x44), (45, x45)]) w
def f6_l2 (K : K1) (E1 : VP1) (x3 x5 x7 x9 x43 x44 x45 x62 x63 x64 : Value) (w : World) : Prop := loopT [64] 13835119627933319848 (fun E => cP (pl (pl (pr (pr (pr (pr (pl (pl (pr (pr (pl (pl (pr (pl (pr (pr (pr (pr f6_u)))))))))))))))))) E (f6_e K) (exB 2 (f6_k3_o K E1) (exB 1 (f6_k3_o K E1) (exB 0 (f6_k1_o K) nX)))) (fz 194 0 [(3, x3), (5, x5), (7, x7), (9, x9), (43, x43), (44, x44), (45, x45), (62, x62), (63, x63), (64, x64)]) w
def f6_k4_o (K : K1) : KF := fun fr w => ∀ σ, cP (pr (pr (pr (pr (pr (pr (pr (pr (pr f6_u))))))))) (f6_e K) (f6_e K) nX (mixF 459432 σ 0 fr) w
def f6_k4 (K : K1) (x3 x5 x7 x9 x16 x17 x18 : Value) (w : World) : Prop := f6_k4_o K (fz 194 0 [(3, x3), (5, x5), (7, x7), (9, x9), (16, x16), (17, x17), (18, x18)]) w
def f6_l3 (K : K1) (x3 x5 x7 x9 x16 x17 x18 x92 x93 : Value) (w : World) : Prop := loopT [18, 93] 4951760157141521099596694184 (fun E => cP (pl (pl (pr (pl (pr (pr (pr (pr (pr (pr (pr (pr f6_u)))))))))))) E (f6_e K) (exB 4 (f6_k4_o K) nX)) (fz 194 0 [(3, x3), (5, x5), (7, x7), (9, x9), (16, x16), (17, x17), (18, x18), (92, x92), (93, x93)]) w
def f6_k5_o (K : K1) : KF := fun fr w => ∀ σ, cP (pr (pr (pr (pr (pr (pr (pr (pr (pr (pr (pr (pr f6_u)))))))))))) (f6_e K) (f6_e K) nX (mixF 4457096 σ 0 fr) w
def f6_k5 (K : K1) (x3 x7 x9 x18 x22 : Value) (w : World) : Prop := f6_k5_o K (fz 194 0 [(3, x3), (7, x7), (9, x9), (18, x18), (22, x22)]) w
def f6_l4 (K : K1) (x3 x7 x9 x16 x18 x22 x136 x137 : Value) (w : World) : Prop := loopT [137] 87112285931760246646623899502532666655368 (fun E => cP (pl (pl (pr (pl (pr (pr (pr (pr (pr (pr (pr (pr (pr (pr (pr f6_u))))))))))))))) E (f6_e K) (exB 8 (f6_k5_o K) nX)) (fz 194 0 [(3, x3), (7, x7), (9, x9), (16, x16), (18, x18), (22, x22), (136, x136), (137, x137)]) w
def f6_k6_o (K : K1) (E1 : VP2) : KF := fun fr w => ∀ σ, cP (pr (pr (pr (pl (pl (pr (pl (pr (pr (pr (pr (pr (pr (pr (pr f6_u))))))))))))))) (fun fr w => E1 (sv fr 18) (sv fr 93) w) (f6_e K) (exB 4 (f6_k4_o K) nX) (mixF 14855280471424563298789950120 σ 0 fr) w
def f6_k6 (K : K1) (E1 : VP2) (x3 x5 x7 x9 x16 x17 x18 x92 x93 : Value) (w : World) : Prop := f6_k6_o K E1 (fz 194 0 [(3, x3), (5, x5), (7, x7), (9, x9), (16, x16), (17, x17), (18, x18), (92, x92), (93, x93)]) w
def f6_l5 (K : K1) (E1 : VP2) (x3 x5 x7 x9 x16 x17 x18 x20 x92 x93 x108 : Value) (w : World) : Prop := loopT [18, 108] 14855280471424563298790736552 (fun E => cP (pl (pl (pr (pr (pr (pl (pl (pr (pr (pl (pl (pr (pl (pr (pr (pr (pr (pr (pr (pr (pr f6_u))))))))))))))))))))) E (f6_e K) (exB 6 (f6_k6_o K E1) (exB 5 (f6_k6_o K E1) (exB 4 (f6_k4_o K) nX)))) (fz 194 0 [(3, x3), (5, x5), (7, x7), (9, x9), (16, x16), (17, x17), (18, x18), (20, x20), (92, x92), (93, x93), (108, x108)]) w
def f6_k7_o (K : K1) (E1 : VP1) : KF := fun fr w => ∀ σ, cP (pr (pr (pr (pl (pl (pr (pl (pr (pr (pr (pr (pr (pr (pr (pr (pr (pr (pr f6_u)))))))))))))))))) (fun fr w => E1 (sv fr 137) w) (f6_e K) (exB 8 (f6_k5_o K) nX) (mixF 261336857795280739939871698507597990920840 σ 0 fr) w
def f6_k7 (K : K1) (E1 : VP1) (x3 x7 x9 x16 x18 x22 x136 x137 : Value) (w : World) : Prop := f6_k7_o K E1 (fz 194 0 [(3, x3), (7, x7), (9, x9), (16, x16), (18, x18), (22, x22), (136, x136), (137, x137)]) w
def f6_k8_o (K : K1) (E1 : VP1) : KF := fun fr w => ∀ σ, cP (pr (pr (pr (pl (pl (pr (pr (pl (pl (pr (pl (pr (pr (pr (pr (pr (pr (pr (pr (pr (pr (pr f6_u)))))))))))))))))))))) (f6_k7_o K E1) (f6_e K) (exB 9 (f6_k7_o K E1) (exB 8 (f6_k5_o K) nX)) (mixF 261336857795280739939871698507598016086664 σ 0 fr) w
def f6_k8 (K : K1) (E1 : VP1) (x3 x7 x9 x16 x18 x22 x23 x24 x136 x137 : Value) (w : World) : Prop := f6_k8_o K E1 (fz 194 0 [(3, x3), (7, x7), (9, x9), (16, x16), (18, x18), (22, x22), (23, x23), (24, x24), (136, x136), (137, x137)]) w
def f6_l6 (K : K1) (E1 : VP1) (x3 x7 x9 x16 x18 x22 x23 x24 x25 x136 x137 : Value) (w : World) : Prop := loopT [24, 25] 261336857795280739939871698507597999309448 (fun E => cP (pl (pl (pr (pl (pr (pr (pl (pl (pr (pr (pl (pl (pr (pl (pr (pr (pr (pr (pr (pr (pr (pr (pr (pr (pr f6_u))))))))))))))))))))))))) E (f6_e K) (exB 10 (f6_k8_o K E1) (exB 9 (f6_k7_o K E1) (exB 8 (f6_k5_o K) nX)))) (fz 194 0 [(3, x3), (7, x7), (9, x9), (16, x16), (18, x18), (22, x22), (23, x23), (24, x24), (25, x25), (136, x136), (137, x137)]) w
def f6_k1_t (x3 x5 x7 x9 : Value) (K : K1) (w : World) : Prop :=
 ev Tryz.prog (Instr.fieldAt 97 x5 0) w fun t76 w_1 =>
 ldS Tryz.prog 5 t76 w_1 fun t77 w_2 =>
 ev Tryz.prog (binM .gtr 5 (.tmp 77) (.const (.int .u8 ((0 : Nat) : Int))) t77 (.int .u8 ((0 : Nat) : Int))) w_2 fun t78 w_3 =>
 cndS t78 (
 ldR Tryz.prog 67 x3 w_3.drew fun t79 =>
 rd Tryz.prog (Instr.fieldAt 97 x5 0) w_3.drew fun t82 =>
 ldR Tryz.prog 5 t82 w_3.drew fun t83 =>
 rd Tryz.prog (binM .sub 5 (.tmp 83) (.const (.int .u8 ((1 : Nat) : Int))) t83 (.int .u8 ((1 : Nat) : Int))) w_3.drew fun t84 =>
 rd Tryz.prog (convert 5 3 t84) w_3.drew fun t85 =>
 ldR Tryz.prog 67 x3 w_3.drew fun t86 =>
 callS Tryz.prog 34 (pA #[t79]) w_3.drew fun t80 w_4 =>
 (ag Tryz.prog (Instr.fieldAt 97 x5 0) w_4 t82) ∧
 (ldG Tryz.prog 5 t82 w_4 t83) ∧
 (ag Tryz.prog (binM .sub 5 (.tmp 83) (.const (.int .u8 ((1 : Nat) : Int))) t83 (.int .u8 ((1 : Nat) : Int))) w_4 t84) ∧
 (ag Tryz.prog (convert 5 3 t84) w_4 t85) ∧
 (ldG Tryz.prog 67 x3 w_4 t86) ∧
 rd Tryz.prog (Instr.field 24 t80 0) w_4 fun t81 =>
 callS Tryz.prog 34 (pA #[t86]) w_4 fun t87 w_5 =>
 (ag Tryz.prog (Instr.field 24 t80 0) w_5 t81) ∧
 (ag Tryz.prog (Instr.fieldAt 97 x5 0) w_5 t82) ∧
 (ldG Tryz.prog 5 t82 w_5 t83) ∧
 (ag Tryz.prog (binM .sub 5 (.tmp 83) (.const (.int .u8 ((1 : Nat) : Int))) t83 (.int .u8 ((1 : Nat) : Int))) w_5 t84) ∧
 (ag Tryz.prog (convert 5 3 t84) w_5 t85) ∧
 rd Tryz.prog (Instr.field 24 t87 0) w_5 fun t88 =>
 callS Tryz.prog 19 (pA #[t88]) w_5 fun t89 w_6 =>
 (ag Tryz.prog (Instr.field 24 t80 0) w_6 t81) ∧
 (ag Tryz.prog (Instr.fieldAt 97 x5 0) w_6 t82) ∧
 (ldG Tryz.prog 5 t82 w_6 t83) ∧
 (ag Tryz.prog (binM .sub 5 (.tmp 83) (.const (.int .u8 ((1 : Nat) : Int))) t83 (.int .u8 ((1 : Nat) : Int))) w_6 t84) ∧
 (ag Tryz.prog (convert 5 3 t84) w_6 t85) ∧
 rd Tryz.prog (binM .rem 3 (.tmp 85) (.tmp 89) t85 t89) w_6 fun t90 =>
 callS Tryz.prog 20 (pA #[t81, t90]) w_6 fun t91 w_7 =>
 f6_k2 K x3 x5 x7 x9 t91 (.int .i64 1) w_7) (
 f6_k2 K x3 x5 x7 x9 (.int .i64 0) (.int .i64 8) w_3)
theorem f6_k1_eq (K : K1) (x3 x5 x7 x9 : Value) (w : World) : f6_k1 K x3 x5 x7 x9 w = f6_k1_t x3 x5 x7 x9 K w := cutE fun σ => by kernel_rfl
def f6_l1_t (x3 x5 x7 x9 x43 x44 x45 : Value) (K : K1) (E1 : VP1) (w : World) : Prop :=
 ev Tryz.prog (binM .lss 3 (.tmp 45) (.tmp 44) x45 x44) w fun t46 w_1 =>
 cndS t46 (
 ev Tryz.prog (Instr.indexAt 68 x43 x45) w_1 fun t47 w_2 =>
 ldS Tryz.prog 77 t47 w_2 fun t48 w_3 =>
 ev Tryz.prog (Instr.alloc 77 true (.tuple #[])) w_3 fun t11 w_4 =>
 stS Tryz.prog 77 t11 t48 w_4 fun w_5 =>
 ldS Tryz.prog 77 t11 w_5 fun t49 w_6 =>
 callS Tryz.prog 36 (pA #[t49]) w_6 fun t50 w_7 =>
 cndS t50 (
 K (.bool true) w_7) (
 ldS Tryz.prog 58 x7 w_7 fun t52 w_8 =>
 ev Tryz.prog (Instr.fieldAt 77 t11 0) w_8 fun t53 w_9 =>
 ldS Tryz.prog 74 t53 w_9 fun t54 w_10 =>
 ev Tryz.prog (Instr.fieldAt 77 t11 1) w_10 fun t55 w_11 =>
 ldS Tryz.prog 75 t55 w_11 fun t56 w_12 =>
 ev Tryz.prog (Instr.fieldAt 77 t11 2) w_12 fun t57 w_13 =>
 ldS Tryz.prog 74 t57 w_13 fun t58 w_14 =>
 callS Tryz.prog 37 (pA #[t52, t54, t56, t58]) w_14 fun t59 w_15 =>
 ev Tryz.prog (Instr.extract t59 0) w_15 fun t60 w_16 =>
 ev Tryz.prog (Instr.extract t59 1) w_16 fun t61 w_17 =>
 bltS Tryz.prog .len #[38] 3 #[false] #[t60] w_17 fun t63 w_18 =>
 f6_l2 K E1 x3 x5 x7 x9 x43 x44 x45 t60 t63 (.int .i64 0) w_18)) (
 f6_k1 K x3 x5 x7 x9 w_1)
theorem f6_l1_rule (x3 x5 x7 x9 x43 x44 x45 : Value) (K : K1) (w : World) (I : VP1) (μ : Value → World → Nat) (h0 : I x45 w)
    (hr : ∀ (x45 : Value) (w : World), I x45 w → ∀ E1 : VP1, (∀ (y45 : Value) (w' : World), I y45 w' → μ y45 w' < μ x45 w → E1 y45 w') → f6_l1_t x3 x5 x7 x9 x43 x44 x45 K E1 w) : f6_l1 K x3 x5 x7 x9 x43 x44 x45 w :=
  ⟨I, μ, h0, fun σ w hI E hE => cast (by kernel_rfl) (hr (σ 45) w hI E hE)⟩
def f6_k2_t (x3 x5 x7 x9 x16 x17 : Value) (K : K1) (w : World) : Prop :=
 f6_l3 K x3 x5 x7 x9 x16 x17 (.slice none 0 0) x17 (.int .i64 0) w
theorem f6_k2_eq (K : K1) (x3 x5 x7 x9 x16 x17 : Value) (w : World) : f6_k2 K x3 x5 x7 x9 x16 x17 w = f6_k2_t x3 x5 x7 x9 x16 x17 K w := cutE fun σ => by kernel_rfl
def f6_k3_t (x3 x5 x7 x9 x43 x44 x45 : Value) (K : K1) (E1 : VP1) (w : World) : Prop :=
 ev Tryz.prog (binM .add 3 (.tmp 45) (.const (.int .i64 1)) x45 (.int .i64 1)) w fun t75 w_1 =>
 E1 t75 w_1
theorem f6_k3_eq (K : K1) (E1 : VP1) (x3 x5 x7 x9 x43 x44 x45 : Value) (w : World) : f6_k3 K E1 x3 x5 x7 x9 x43 x44 x45 w = f6_k3_t x3 x5 x7 x9 x43 x44 x45 K E1 w := cutE fun σ => by kernel_rfl
def f6_l2_t (x3 x5 x7 x9 x43 x44 x45 x62 x63 x64 : Value) (K : K1) (E1 : VP1) (E2 : VP1) (w : World) : Prop :=
 ev Tryz.prog (binM .lss 3 (.tmp 64) (.tmp 63) x64 x63) w fun t65 w_1 =>
 cndS t65 (
 ev Tryz.prog (Instr.indexAt 38 x62 x64) w_1 fun t66 w_2 =>
 ldS Tryz.prog 37 t66 w_2 fun t67 w_3 =>
 ev Tryz.prog (Instr.alloc 37 true (.tuple #[])) w_3 fun t15 w_4 =>
 stS Tryz.prog 37 t15 t67 w_4 fun w_5 =>
 ev Tryz.prog (Instr.fieldAt 37 t15 0) w_5 fun t69 w_6 =>
 ldS Tryz.prog 33 t69 w_6 fun t70 w_7 =>
 ev Tryz.prog (Instr.fieldAt 37 t15 1) w_7 fun t71 w_8 =>
 ldS Tryz.prog 33 t71 w_8 fun t72 w_9 =>
 callS Tryz.prog 25 (pA #[x9, t70, t72]) w_9 fun t73 w_10 =>
 ev Tryz.prog (binM .add 3 (.tmp 64) (.const (.int .i64 1)) x64 (.int .i64 1)) w_10 fun t74 w_11 =>
 E2 t74 w_11) (
 f6_k3 K E1 x3 x5 x7 x9 x43 x44 x45 w_1)
theorem f6_l2_rule (x3 x5 x7 x9 x43 x44 x45 x62 x63 x64 : Value) (K : K1) (E1 : VP1) (w : World) (I : VP1) (μ : Value → World → Nat) (h0 : I x64 w)
    (hr : ∀ (x64 : Value) (w : World), I x64 w → ∀ E2 : VP1, (∀ (y64 : Value) (w' : World), I y64 w' → μ y64 w' < μ x64 w → E2 y64 w') → f6_l2_t x3 x5 x7 x9 x43 x44 x45 x62 x63 x64 K E1 E2 w) : f6_l2 K E1 x3 x5 x7 x9 x43 x44 x45 x62 x63 x64 w :=
  ⟨I, μ, h0, fun σ w hI E hE => cast (by kernel_rfl) (hr (σ 64) w hI E hE)⟩
def f6_k4_t (x3 x5 x7 x9 x16 x17 x18 : Value) (K : K1) (w : World) : Prop :=
 rd Tryz.prog (Instr.fieldAt 97 x5 1) w.drew fun t122 =>
 ldR Tryz.prog 22 t122 w.drew fun t123 =>
 rd Tryz.prog (convert 22 3 t123) w.drew fun t124 =>
 rd Tryz.prog (binM .mul 3 (.const (.int .i64 64)) (.tmp 125) (.int .i64 64) x17) w.drew fun t126 =>
 rd Tryz.prog (binM .rem 3 (.tmp 124) (.tmp 126) t124 t126) w.drew fun t127 =>
 rd Tryz.prog (Instr.fieldAt 97 x5 2) w.drew fun t128 =>
 ldR Tryz.prog 44 t128 w.drew fun t129 =>
 callS Tryz.prog 53 (pA #[x18, t127, t129]) w.drew fun t130 w_1 =>
 bltS Tryz.prog .len #[75] 3 #[false] #[t130] w_1 fun t132 w_2 =>
 bltS Tryz.prog .len #[75] 3 #[false] #[x18] w_2 fun t134 w_3 =>
 ev Tryz.prog (binM .neq 3 (.tmp 132) (.tmp 134) t132 t134) w_3 fun t135 w_4 =>
 cndS t135 (
 K (.bool false) w_4) (
 f6_l4 K x3 x7 x9 x16 x18 t130 x17 (.int .i64 0) w_4)
theorem f6_k4_eq (K : K1) (x3 x5 x7 x9 x16 x17 x18 : Value) (w : World) : f6_k4 K x3 x5 x7 x9 x16 x17 x18 w = f6_k4_t x3 x5 x7 x9 x16 x17 x18 K w := cutE fun σ => by kernel_rfl
def f6_l3_t (x3 x5 x7 x9 x16 x17 x18 x92 x93 : Value) (K : K1) (E1 : VP2) (w : World) : Prop :=
 ev Tryz.prog (binM .lss 3 (.tmp 93) (.tmp 92) x93 x92) w fun t94 w_1 =>
 cndS t94 (
 ldS Tryz.prog 67 x3 w_1 fun t97 w_2 =>
 callS Tryz.prog 41 (pA #[t97]) w_2 fun t98 w_3 =>
 ev Tryz.prog (convert 3 33 t98) w_3 fun t99 w_4 =>
 ev Tryz.prog (binM .mul 33 (.const (.int .u64 ((64 : Nat) : Int))) (.tmp 99) (.int .u64 ((64 : Nat) : Int)) t99) w_4 fun t100 w_5 =>
 ev Tryz.prog (binM .add 3 (.tmp 101) (.tmp 102) x16 x93) w_5 fun t103 w_6 =>
 ev Tryz.prog (convert 3 33 t103) w_6 fun t104 w_7 =>
 ev Tryz.prog (binM .mul 33 (.const (.int .u64 ((8 : Nat) : Int))) (.tmp 104) (.int .u64 ((8 : Nat) : Int)) t104) w_7 fun t105 w_8 =>
 ev Tryz.prog (binM .add 33 (.tmp 100) (.tmp 105) t100 t105) w_8 fun t106 w_9 =>
 callS Tryz.prog 52 (pA #[x9, t106]) w_9 fun t107 w_10 =>
 f6_l5 K E1 x3 x5 x7 x9 x16 x17 x18 t107 x92 x93 (.int .i64 0) w_10) (
 f6_k4 K x3 x5 x7 x9 x16 x17 x18 w_1)
theorem f6_l3_rule (x3 x5 x7 x9 x16 x17 x18 x92 x93 : Value) (K : K1) (w : World) (I : VP2) (μ : Value → Value → World → Nat) (h0 : I x18 x93 w)
    (hr : ∀ (x18 x93 : Value) (w : World), I x18 x93 w → ∀ E1 : VP2, (∀ (y18 y93 : Value) (w' : World), I y18 y93 w' → μ y18 y93 w' < μ x18 x93 w → E1 y18 y93 w') → f6_l3_t x3 x5 x7 x9 x16 x17 x18 x92 x93 K E1 w) : f6_l3 K x3 x5 x7 x9 x16 x17 x18 x92 x93 w :=
  ⟨I, μ, h0, fun σ w hI E hE => cast (by kernel_rfl) (hr (σ 18) (σ 93) w hI E hE)⟩
def f6_k5_t (x3 x7 x9 x18 x22 : Value) (K : K1) (w : World) : Prop :=
 ldR Tryz.prog 67 x3 w.drew fun t170 =>
 ldR Tryz.prog 67 x3 w.drew fun t173 =>
 ldR Tryz.prog 67 x3 w.drew fun t176 =>
 callS Tryz.prog 41 (pA #[t170]) w.drew fun t171 w_1 =>
 (ldG Tryz.prog 67 x3 w_1 t173) ∧
 (ldG Tryz.prog 67 x3 w_1 t176) ∧
 callS Tryz.prog 40 (pA #[x9, t171]) w_1 fun t172 w_2 =>
 (ldG Tryz.prog 67 x3 w_2 t173) ∧
 (ldG Tryz.prog 67 x3 w_2 t176) ∧
 callS Tryz.prog 34 (pA #[t173]) w_2 fun t174 w_3 =>
 (ldG Tryz.prog 67 x3 w_3 t176) ∧
 rd Tryz.prog (Instr.field 24 t174 0) w_3 fun t175 =>
 callS Tryz.prog 34 (pA #[t176]) w_3 fun t177 w_4 =>
 (ag Tryz.prog (Instr.field 24 t174 0) w_4 t175) ∧
 rd Tryz.prog (Instr.field 24 t177 1) w_4 fun t178 =>
 callS Tryz.prog 54 (pA #[t172, t175, t178]) w_4 fun t179 w_5 =>
 ldS Tryz.prog 58 x7 w_5 fun t180 w_6 =>
 callS Tryz.prog 51 (pA #[t180]) w_6 fun t181 w_7 =>
 ev Tryz.prog (binM .eql 3 (.tmp 181) (.tmp 182) t181 t179) w_7 fun t183 w_8 =>
 gd t183 true (fun k => k t179 w_8) w_8 fun t185 w_9 =>
 gd t183 true (fun k => ev Tryz.prog (binM .eql 3 (.tmp 185) (.const (.int .i64 0)) t185 (.int .i64 0)) w_9 k) w_9 fun t186 w_10 =>
 gd t183 true (fun k => k x18 w_10) w_10 fun t187 w_11 =>
 gd t183 true (fun k => ev Tryz.prog (convert 75 9 t187) w_11 k) w_11 fun t188 w_12 =>
 gd t183 true (fun k => k x22 w_12) w_12 fun t189 w_13 =>
 gd t183 true (fun k => ev Tryz.prog (convert 75 9 t189) w_13 k) w_13 fun t190 w_14 =>
 gd t183 true (fun k => ev Tryz.prog (binM .eql 9 (.tmp 188) (.tmp 190) t188 t190) w_14 k) w_14 fun t191 w_15 =>
 gd t183 true (fun k => ev Tryz.prog (binM .eql 4 (.tmp 186) (.tmp 191) t186 t191) w_15 k) w_15 fun t192 w_16 =>
 pickS t183 t192 (.bool false) w_16 fun t193 w_17 =>
 K t193 w_17
theorem f6_k5_eq (K : K1) (x3 x7 x9 x18 x22 : Value) (w : World) : f6_k5 K x3 x7 x9 x18 x22 w = f6_k5_t x3 x7 x9 x18 x22 K w := cutE fun σ => by kernel_rfl
def f6_l4_t (x3 x7 x9 x16 x18 x22 x136 x137 : Value) (K : K1) (E1 : VP1) (w : World) : Prop :=
 ev Tryz.prog (binM .lss 3 (.tmp 137) (.tmp 136) x137 x136) w fun t138 w_1 =>
 cndS t138 (
 f6_l6 K E1 x3 x7 x9 x16 x18 x22 x137 (.int .u64 ((0 : Nat) : Int)) (.int .i64 7) x136 x137 w_1) (
 f6_k5 K x3 x7 x9 x18 x22 w_1)
theorem f6_l4_rule (x3 x7 x9 x16 x18 x22 x136 x137 : Value) (K : K1) (w : World) (I : VP1) (μ : Value → World → Nat) (h0 : I x137 w)
    (hr : ∀ (x137 : Value) (w : World), I x137 w → ∀ E1 : VP1, (∀ (y137 : Value) (w' : World), I y137 w' → μ y137 w' < μ x137 w → E1 y137 w') → f6_l4_t x3 x7 x9 x16 x18 x22 x136 x137 K E1 w) : f6_l4 K x3 x7 x9 x16 x18 x22 x136 x137 w :=
  ⟨I, μ, h0, fun σ w hI E hE => cast (by kernel_rfl) (hr (σ 137) w hI E hE)⟩
def f6_k6_t (x3 x5 x7 x9 x16 x17 x18 x92 x93 : Value) (K : K1) (E1 : VP2) (w : World) : Prop :=
 ev Tryz.prog (binM .add 3 (.tmp 93) (.const (.int .i64 1)) x93 (.int .i64 1)) w fun t120 w_1 =>
 E1 x18 t120 w_1
theorem f6_k6_eq (K : K1) (E1 : VP2) (x3 x5 x7 x9 x16 x17 x18 x92 x93 : Value) (w : World) : f6_k6 K E1 x3 x5 x7 x9 x16 x17 x18 x92 x93 w = f6_k6_t x3 x5 x7 x9 x16 x17 x18 x92 x93 K E1 w := cutE fun σ => by kernel_rfl
def f6_l5_t (x3 x5 x7 x9 x16 x17 x18 x20 x92 x93 x108 : Value) (K : K1) (E1 : VP2) (E2 : VP2) (w : World) : Prop :=
 ev Tryz.prog (binM .lss 3 (.tmp 108) (.const (.int .i64 8)) x108 (.int .i64 8)) w fun t109 w_1 =>
 cndS t109 (
 ev Tryz.prog (binM .mul 3 (.const (.int .i64 8)) (.tmp 113) (.int .i64 8) x108) w_1 fun t114 w_2 =>
 ev Tryz.prog (binM .shr 33 (.tmp 112) (.tmp 114) x20 t114) w_2 fun t115 w_3 =>
 ev Tryz.prog (convert 33 5 t115) w_3 fun t116 w_4 =>
 ev Tryz.prog (Instr.buildSlice 75 1 #[(0, t116)]) w_4 fun t117 w_5 =>
 bltS Tryz.prog .append #[75, 75] 75 #[false, false] (pA #[x18, t117]) w_5 fun t118 w_6 =>
 ev Tryz.prog (binM .add 3 (.tmp 108) (.const (.int .i64 1)) x108 (.int .i64 1)) w_6 fun t119 w_7 =>
 E2 t118 t119 w_7) (
 f6_k6 K E1 x3 x5 x7 x9 x16 x17 x18 x92 x93 w_1)
theorem f6_l5_rule (x3 x5 x7 x9 x16 x17 x18 x20 x92 x93 x108 : Value) (K : K1) (E1 : VP2) (w : World) (I : VP2) (μ : Value → Value → World → Nat) (h0 : I x18 x108 w)
    (hr : ∀ (x18 x108 : Value) (w : World), I x18 x108 w → ∀ E2 : VP2, (∀ (y18 y108 : Value) (w' : World), I y18 y108 w' → μ y18 y108 w' < μ x18 x108 w → E2 y18 y108 w') → f6_l5_t x3 x5 x7 x9 x16 x17 x18 x20 x92 x93 x108 K E1 E2 w) : f6_l5 K E1 x3 x5 x7 x9 x16 x17 x18 x20 x92 x93 x108 w :=
  ⟨I, μ, h0, fun σ w hI E hE => cast (by kernel_rfl) (hr (σ 18) (σ 108) w hI E hE)⟩
def f6_k7_t (x3 x7 x9 x16 x18 x22 x136 x137 : Value) (K : K1) (E1 : VP1) (w : World) : Prop :=
 ev Tryz.prog (binM .add 3 (.tmp 137) (.const (.int .i64 1)) x137 (.int .i64 1)) w fun t168 w_1 =>
 E1 t168 w_1
theorem f6_k7_eq (K : K1) (E1 : VP1) (x3 x7 x9 x16 x18 x22 x136 x137 : Value) (w : World) : f6_k7 K E1 x3 x7 x9 x16 x18 x22 x136 x137 w = f6_k7_t x3 x7 x9 x16 x18 x22 x136 x137 K E1 w := cutE fun σ => by kernel_rfl
def f6_k8_t (x3 x7 x9 x16 x18 x22 x23 x24 x136 x137 : Value) (K : K1) (E1 : VP1) (w : World) : Prop :=
 ldS Tryz.prog 67 x3 w fun t156 w_1 =>
 callS Tryz.prog 41 (pA #[t156]) w_1 fun t157 w_2 =>
 ev Tryz.prog (convert 3 33 t157) w_2 fun t158 w_3 =>
 ev Tryz.prog (binM .mul 33 (.const (.int .u64 ((64 : Nat) : Int))) (.tmp 158) (.int .u64 ((64 : Nat) : Int)) t158) w_3 fun t159 w_4 =>
 ev Tryz.prog (binM .add 3 (.tmp 160) (.tmp 161) x16 x23) w_4 fun t162 w_5 =>
 ev Tryz.prog (convert 3 33 t162) w_5 fun t163 w_6 =>
 ev Tryz.prog (binM .mul 33 (.const (.int .u64 ((8 : Nat) : Int))) (.tmp 163) (.int .u64 ((8 : Nat) : Int)) t163) w_6 fun t164 w_7 =>
 ev Tryz.prog (binM .add 33 (.tmp 159) (.tmp 164) t159 t164) w_7 fun t165 w_8 =>
 callS Tryz.prog 25 (pA #[x9, t165, x24]) w_8 fun t167 w_9 =>
 f6_k7 K E1 x3 x7 x9 x16 x18 x22 x136 x137 w_9
theorem f6_k8_eq (K : K1) (E1 : VP1) (x3 x7 x9 x16 x18 x22 x23 x24 x136 x137 : Value) (w : World) : f6_k8 K E1 x3 x7 x9 x16 x18 x22 x23 x24 x136 x137 w = f6_k8_t x3 x7 x9 x16 x18 x22 x23 x24 x136 x137 K E1 w := cutE fun σ => by kernel_rfl
def f6_l6_t (x3 x7 x9 x16 x18 x22 x23 x24 x25 x136 x137 : Value) (K : K1) (E1 : VP1) (E2 : VP2) (w : World) : Prop :=
 ev Tryz.prog (binM .geq 3 (.tmp 140) (.const (.int .i64 0)) x25 (.int .i64 0)) w fun t141 w_1 =>
 cndS t141 (
 ev Tryz.prog (binM .shl 33 (.tmp 144) (.const (.int .u64 ((8 : Nat) : Int))) x24 (.int .u64 ((8 : Nat) : Int))) w_1 fun t145 w_2 =>
 ev Tryz.prog (binM .mul 3 (.const (.int .i64 8)) (.tmp 147) (.int .i64 8) x23) w_2 fun t148 w_3 =>
 ev Tryz.prog (binM .add 3 (.tmp 148) (.tmp 149) t148 x25) w_3 fun t150 w_4 =>
 ev Tryz.prog (Instr.indexAt 75 x22 t150) w_4 fun t151 w_5 =>
 ldS Tryz.prog 5 t151 w_5 fun t152 w_6 =>
 ev Tryz.prog (convert 5 33 t152) w_6 fun t153 w_7 =>
 ev Tryz.prog (binM .add 33 (.tmp 145) (.tmp 153) t145 t153) w_7 fun t154 w_8 =>
 ev Tryz.prog (binM .sub 3 (.tmp 142) (.const (.int .i64 1)) x25 (.int .i64 1)) w_8 fun t143 w_9 =>
 E2 t154 t143 w_9) (
 f6_k8 K E1 x3 x7 x9 x16 x18 x22 x23 x24 x136 x137 w_1)
theorem f6_l6_rule (x3 x7 x9 x16 x18 x22 x23 x24 x25 x136 x137 : Value) (K : K1) (E1 : VP1) (w : World) (I : VP2) (μ : Value → Value → World → Nat) (h0 : I x24 x25 w)
    (hr : ∀ (x24 x25 : Value) (w : World), I x24 x25 w → ∀ E2 : VP2, (∀ (y24 y25 : Value) (w' : World), I y24 y25 w' → μ y24 y25 w' < μ x24 x25 w → E2 y24 y25 w') → f6_l6_t x3 x7 x9 x16 x18 x22 x23 x24 x25 x136 x137 K E1 E2 w) : f6_l6 K E1 x3 x7 x9 x16 x18 x22 x23 x24 x25 x136 x137 w :=
  ⟨I, μ, h0, fun σ w hI E hE => cast (by kernel_rfl) (hr (σ 24) (σ 25) w hI E hE)⟩
def f6_t (x0 x1 x2 : Value) (K : K1) (w : World) : Prop :=
 ev Tryz.prog (Instr.box 67 x0) w fun t3 w_1 =>
 ev Tryz.prog (Instr.box 97 x2) w_1 fun t5 w_2 =>
 callS Tryz.prog 12 (pA #[]) w_2 fun t27 w_3 =>
 ev Tryz.prog (Op.unary .not t27) w_3 fun t28 w_4 =>
 gd t28 false (fun k => k x1 w_4) w_4 fun t30 w_5 =>
 gd t28 false (fun k => bltS Tryz.prog .len #[68] 3 #[false] #[t30] w_5 k) w_5 fun t31 w_6 =>
 gd t28 false (fun k => ev Tryz.prog (binM .gtr 3 (.tmp 31) (.const (.int .i64 4)) t31 (.int .i64 4)) w_6 k) w_6 fun t32 w_7 =>
 pickS t28 (.bool true) t32 w_7 fun t33 w_8 =>
 cndS t33 (
 callS Tryz.prog 12 (pA #[]) w_8 fun t34 w_9 =>
 K t34 w_9) (
 ldS Tryz.prog 67 t3 w_8 fun t36 w_10 =>
 callS Tryz.prog 33 (pA #[t36]) w_10 fun t37 w_11 =>
 ev Tryz.prog (Instr.extract t37 0) w_11 fun t38 w_12 =>
 ev Tryz.prog (Instr.extract t37 1) w_12 fun t39 w_13 =>
 ev Tryz.prog (Instr.extract t37 2) w_13 fun t40 w_14 =>
 ev Tryz.prog (Instr.alloc 58 true (.tuple #[])) w_14 fun t7 w_15 =>
 stS Tryz.prog 58 t7 t38 w_15 fun w_16 =>
 ev Tryz.prog (binM .eql 48 (.tmp 41) (.const (.pointer none)) t40 (.pointer none)) w_16 fun t42 w_17 =>
 cndS t42 (
 K (.bool false) w_17) (
 bltS Tryz.prog .len #[68] 3 #[false] #[x1] w_17 fun t44 w_18 =>
 f6_l1 K t3 t5 t7 t40 x1 t44 (.int .i64 0) w_18))
theorem f6_call (x0 x1 x2 : Value) (K : K1) (w : World) (h : f6_t x0 x1 x2 K w) : callS Tryz.prog 6 #[x0, x1, x2] w K :=
  call_of_txt (args := [x0, x1, x2]) mixed Tryz.func6 f6_u.2 (by kernel_rfl) (cast (by kernel_rfl) h)
end Go.Proofs.YtaeopkhdokaaoaaGreatDoor
namespace Go.Proofs.YtaeopkhdokaaoaaGreatDoor
open Go Go.Sh
set_option maxRecDepth 100000
set_option maxHeartbeats 4000000
set_option linter.unusedSimpArgs false
set_option linter.unusedVariables false
section
variable {w0 w w' : World} {Y Y' : Lay} {D D' : DS} {B l k : Nat} {c o : Int} {g : Nat} {K : K1} {E1 : VP1}
theorem bu_l2 (h : Loc w0 w Y D B l c o g) {ws : List (Nat × Nat)} (hok : ∀ x ∈ ws, x.1 < 18446744073709551616 ∧ x.2 < 18446744073709551616) (hx : D.exe < 1000000000) (hwl : ws.length < 1000) (u : Value) (hu : SlO w 37 2 u ws.length (wrL ws)) (ou : Out w0 Y B u) {T : Nat} (hT : Y.tb 0 = T) (x3 x5 : Value) (x50 x51 x52 : Value)
    (H : ∀ w' Y', Stp w Y w' Y' (D.strs ws) → f6_k3 K E1 x3 x5 (.pointer (some ⟨B, 0, none⟩)) (.pointer (some ⟨T, 0, none⟩)) x50 x51 x52 w') :
    f6_l2 K E1 x3 x5 (.pointer (some ⟨B, 0, none⟩)) (.pointer (some ⟨T, 0, none⟩)) x50 x51 x52 u (.int .i64 (ws.length : Int)) (.int .i64 0) w := by
  subst hT
  have gt : ∀ j, Good (D.strs (ws.take j)) := fun j => strs_good h.L.gd (fun x hx => hok x (mem_take hx))
  have xt : ∀ j, (D.strs (ws.take j)).exe ≤ D.exe + ws.length := fun j => by
    have := strs_exe D (ws.take j); rw [List.length_take] at this
    have := Nat.min_le_right j ws.length; omega
  apply f6_l2_rule (I := fun z w' => ∃ (j : Nat) (Y' : Lay), z = .int .i64 (j : Int) ∧ j ≤ ws.length ∧ Stp w Y w' Y' (D.strs (ws.take j))) (μ := fun z _ => ws.length - (Go.RowKit.intOf z).toNat)
  · exact ⟨0, Y, rfl, by omega, (Stp.refl h.L.dv).to (strs_zero _ _).symm⟩
  · intros; rename_i w1 hI E3 hE
    obtain ⟨j, Y1, rfl, hj, st⟩ := hI
    have tb : Y1.tb 0 = Y.tb 0 := by rw [st.tb]
    by_cases hjl : j < ws.length
    · have hxm := hok ws[j] (List.getElem_mem hjl)
      have htk := strs_take (D := D) (wr_get hjl)
      have xj := xt j
      obtain ⟨_, s1⟩ := ou.step hu st
      obtain ⟨b, ob, cap, rfl, hc1, hc2⟩ := wr_cells s1 hjl
      generalize ws[j] = x at hc1 hc2 hxm htk
      obtain ⟨xo, xv⟩ := x
      simp only at hc1 hc2 hxm htk
      unfold f6_l2_t
      simp (disch := first | omega | simp only [RO] | (simp only [RZ] <;> omega) | fail) only [↓RBp, ↓RA, ↓reduceIte, Nat.reduceAdd, Nat.reduceMul, Nat.reduceEqDiff, RB, RBr, RW, RS, RA2, hc1, hc2]
      have stg := st.grow (Ext.alloc_self w1 (.cells #[.int .u64 (xo : Int), .int .u64 (xv : Int)] 37))
      rw [← tb]
      refine k_Store stg.dv (gt j) 0 (by omega) xo xv (by omega) _ (fun w2 Y2 st2 => ?_)
      simp (disch := first | omega | simp only [RO] | (simp only [RZ] <;> omega) | fail) only [↓RBp, ↓RA, ↓reduceIte, Nat.reduceAdd, Nat.reduceMul, Nat.reduceEqDiff, RB, RBr, RW, RS, RA2]
      apply hE
      · exact ⟨j + 1, Y2, by simp, by omega, by rw [htk]; exact stg.trans st2⟩
      · simp [Go.RowKit.intOf]; omega
    · have : j = ws.length := by omega
      subst this
      rw [List.take_length] at st
      unfold f6_l2_t
      simp (disch := first | omega | simp only [RO] | (simp only [RZ] <;> omega) | fail) only [↓RBp, ↓RA, ↓reduceIte, Nat.reduceAdd, Nat.reduceMul, Nat.reduceEqDiff, RB, RBr, RW, RS, RA2]
      exact H _ _ st
theorem bu_l1 (h : Loc w0 w Y D B l c o g) (hs : Snd D l c o) {T : Nat} (hT : Y.tb 0 = T) {m : Nat} {v : Value} {al : List (List Int × List Nat × List Int)} (hal : ActsR m w0 v al) (hok : ∀ x ∈ al, actOk x) (hln : al.length ≤ 100) (hx : D.exe ≤ 400) (x3 x5 : Value) (hK : ∀ w', Ext w0 w' → K (.bool true) w')
    (H : ∀ w' Y' D', Loc w0 w' Y' D' B l c o g → Y'.tb 0 = T → Snd D' l c o → D'.exe ≤ 400 + 200 * al.length → f6_k1 K x3 x5 (.pointer (some ⟨B, 0, none⟩)) (.pointer (some ⟨T, 0, none⟩)) w') :
    f6_l1 K x3 x5 (.pointer (some ⟨B, 0, none⟩)) (.pointer (some ⟨T, 0, none⟩)) v (.int .i64 (al.length : Int)) (.int .i64 0) w := by
  apply f6_l1_rule (I := fun z w' => ∃ (j : Nat) (Y' : Lay) (D' : DS), z = .int .i64 (j : Int) ∧ j ≤ al.length ∧ Loc w0 w' Y' D' B l c o g ∧ Y'.tb 0 = T ∧ Snd D' l c o ∧ D'.exe ≤ 400 + 200 * j) (μ := fun z _ => al.length - (Go.RowKit.intOf z).toNat)
  · exact ⟨0, Y, D, rfl, by omega, h, hT, hs, by omega⟩
  · intros; rename_i x52 w1 hI E1 hE
    obtain ⟨j, Y1, D1, rfl, hj, h1, hT1, hs1, hx1⟩ := hI
    by_cases hjl : j < al.length
    · have hA := hal.ext h1.L.ex
      obtain ⟨av, ac, rfl, hget⟩ := hA
      obtain ⟨b, ob, s1, s2, s3, rfl, hb, q1, q2, q3, r1, r2, r3⟩ := hget j al[j] (List.getElem?_eq_getElem hjl)
      have hoj := hok al[j] (List.getElem_mem hjl)
      generalize al[j] = x at r1 r2 r3 hoj
      obtain ⟨L, ks, M⟩ := x
      obtain ⟨lL, lk, lM, bk⟩ := hoj
      simp only at r1 r2 r3 lL lk lM bk
      obtain ⟨a1, k1, rfl, _⟩ := id r1
      obtain ⟨a2, k2, rfl, _⟩ := id r2
      obtain ⟨a3, k3, rfl, _⟩ := id r3
      rw [show (i64L L).length = L.length by simp] at r1 q1
      rw [show (u8L ks).length = ks.length by simp] at r2 q2
      rw [show (i64L M).length = M.length by simp] at r3 q3
      have hml : maxLen < 9223372036854775808 := by decide
      have hgr := fun w K => c_great a1 a2 a3 L.length ks.length M.length k1 k2 k3 (by omega) (by omega) (by omega) w K
      have hB1 := h1.ltB
      have ob1 := h1.cells; have c0 := ob1.1; have c1 := ob1.2.1; have c2 := ob1.2.2.1; have c3 := ob1.2.2.2.1; have c4 := ob1.2.2.2.2
      have e01 := h1.L.ex
      have tail : ∀ (ws : List (Nat × Nat)) (u : Value) (w2 : World), Loc w0 w2 Y1 D1 B l c o g → (∀ x ∈ ws, x.1 < 18446744073709551616 ∧ x.2 < 18446744073709551616) → ws.length ≤ 150 → SlO w2 37 2 u ws.length (wrL ws) → Out w0 Y1 B u → Good (D1.strs ws) ∧ On (D1.strs ws) ∧ Snd (D1.strs ws) l c o → f6_l2 K E1 x3 x5 (.pointer (some ⟨B, 0, none⟩)) (.pointer (some ⟨T, 0, none⟩)) (.slice (some ⟨b, ob, none⟩) al.length ac) (.int .i64 (al.length : Int)) (.int .i64 (j : Int)) u (.int .i64 (ws.length : Int)) (.int .i64 0) w2 := by
        intro ws u w2 h2 hwok hwl hu ou hg3
        refine bu_l2 h2 hwok (by omega) (by omega) u hu ou hT1 x3 x5 _ _ _ (fun w3 Y3 st => ?_)
        have h3 := h2.step st hg3.1 hg3.2.1 (strs_n _ _)
        rw [f6_k3_eq]
        unfold f6_k3_t
        simp (disch := first | omega | simp only [RO] | (simp only [RZ] <;> omega) | fail) only [↓RBp, ↓RA, ↓reduceIte, Nat.reduceAdd, Nat.reduceMul, Nat.reduceEqDiff, RB, RBr, RW, RS, RA2]
        apply hE
        · exact ⟨j + 1, Y3, _, by simp, by omega, h3, by rw [st.tb]; exact hT1, hg3.2.2, by have := strs_exe D1 ws; omega⟩
        · simp [Go.RowKit.intOf]; omega
      have hnil : Good (D1.strs []) ∧ On (D1.strs []) ∧ Snd (D1.strs []) l c o := by
        have : D1.strs [] = D1 := strs_zero D1 []
        rw [this]; exact ⟨h1.L.gd, h1.on, hs1⟩
      unfold f6_l1_t
      by_cases hgt : (decide (70 < L.length) || (decide (70 < ks.length) || decide (70 < M.length))) = true
      · rw [hgt] at hgr
        simp (disch := first | omega | simp only [RO] | (simp only [RZ] <;> omega) | fail) only [↓RBp, ↓RA, ↓reduceIte, Nat.reduceAdd, Nat.reduceMul, Nat.reduceEqDiff, RB, RBr, RW, RS, RA2, q1, q2, q3, hgr]
        exact hK _ (e01.trans (by repeat (first | with_reducible refine Ext.setB ?_ (by omega) _ | with_reducible refine Ext.setB ?_ (by simp only [RZ] <;> omega) _ | with_reducible assumption | exact Ext.refl _ | with_reducible refine Ext.alloc ?_ _ | with_reducible refine Ext.drew ?_ | with_reducible refine Ext.trans ?_ (by assumption))))
      · have hgt : (decide (70 < L.length) || (decide (70 < ks.length) || decide (70 < M.length))) = false := by simpa using hgt
        rw [hgt] at hgr
        simp only [Bool.or_eq_false_iff, decide_eq_false_iff_not] at hgt
        simp (disch := first | omega | simp only [RO] | (simp only [RZ] <;> omega) | fail) only [↓RBp, ↓RA, ↓reduceIte, Nat.reduceAdd, Nat.reduceMul, Nat.reduceEqDiff, RB, RBr, RW, RS, RA2, q1, q2, q3, hgr, c0, c1, c2, c3, c4]
        refine k_Actions (h1.ext (by repeat (first | with_reducible refine Ext.setB ?_ (by omega) _ | with_reducible refine Ext.setB ?_ (by simp only [RZ] <;> omega) _ | with_reducible assumption | exact Ext.refl _ | with_reducible refine Ext.alloc ?_ _ | with_reducible refine Ext.drew ?_ | with_reducible refine Ext.trans ?_ (by assumption)))).cx h1.on.err o g L M ks _ _ _ (r1.ext (by repeat (first | with_reducible refine Ext.setB ?_ (by omega) _ | with_reducible refine Ext.setB ?_ (by simp only [RZ] <;> omega) _ | with_reducible assumption | exact Ext.refl _ | with_reducible refine Ext.alloc ?_ _ | with_reducible refine Ext.drew ?_ | with_reducible refine Ext.trans ?_ (by assumption)))) (r2.ext (by repeat (first | with_reducible refine Ext.setB ?_ (by omega) _ | with_reducible refine Ext.setB ?_ (by simp only [RZ] <;> omega) _ | with_reducible assumption | exact Ext.refl _ | with_reducible refine Ext.alloc ?_ _ | with_reducible refine Ext.drew ?_ | with_reducible refine Ext.trans ?_ (by assumption)))) (r3.ext (by repeat (first | with_reducible refine Ext.setB ?_ (by omega) _ | with_reducible refine Ext.setB ?_ (by simp only [RZ] <;> omega) _ | with_reducible assumption | exact Ext.refl _ | with_reducible refine Ext.alloc ?_ _ | with_reducible refine Ext.drew ?_ | with_reducible refine Ext.trans ?_ (by assumption)))) (by omega) (by omega) (by omega) bk _ (fun _ w2 e2 => ?_) (fun _ _ w2 e2 => ?_) (fun ha ws hws v' w2 e2 hnv hsl => ?_)
        · have e12 : Ext w1 w2 := Ext.trans (by repeat (first | with_reducible refine Ext.setB ?_ (by omega) _ | with_reducible refine Ext.setB ?_ (by simp only [RZ] <;> omega) _ | with_reducible assumption | exact Ext.refl _ | with_reducible refine Ext.alloc ?_ _ | with_reducible refine Ext.drew ?_ | with_reducible refine Ext.trans ?_ (by assumption))) e2
          simp (disch := first | omega | simp only [RO] | (simp only [RZ] <;> omega) | fail) only [↓RBp, ↓RA, ↓reduceIte, Nat.reduceAdd, Nat.reduceMul, Nat.reduceEqDiff, RB, RBr, RW, RS, RA2]
          exact tail [] _ _ (h1.ext e12) (fun x hx => by cases hx) (by simp) (SlO.nil _ _ _) (Out.nil _ _ _) hnil
        · have e12 : Ext w1 w2 := Ext.trans (by repeat (first | with_reducible refine Ext.setB ?_ (by omega) _ | with_reducible refine Ext.setB ?_ (by simp only [RZ] <;> omega) _ | with_reducible assumption | exact Ext.refl _ | with_reducible refine Ext.alloc ?_ _ | with_reducible refine Ext.drew ?_ | with_reducible refine Ext.trans ?_ (by assumption))) e2
          simp (disch := first | omega | simp only [RO] | (simp only [RZ] <;> omega) | fail) only [↓RBp, ↓RA, ↓reduceIte, Nat.reduceAdd, Nat.reduceMul, Nat.reduceEqDiff, RB, RBr, RW, RS, RA2]
          exact tail [] _ _ (h1.ext e12) (fun x hx => by cases hx) (by simp) (SlO.nil _ _ _) (Out.nil _ _ _) hnil
        · have e12 : Ext w1 w2 := Ext.trans (by repeat (first | with_reducible refine Ext.setB ?_ (by omega) _ | with_reducible refine Ext.setB ?_ (by simp only [RZ] <;> omega) _ | with_reducible assumption | exact Ext.refl _ | with_reducible refine Ext.alloc ?_ _ | with_reducible refine Ext.drew ?_ | with_reducible refine Ext.trans ?_ (by assumption))) e2
          have hAS := h1.acts hs1 ha hws
          have hn1 := h1.L.gd.n
          obtain ⟨pa, pc, rfl, hpc⟩ := hsl.isS'
          simp (disch := first | omega | simp only [RO] | (simp only [RZ] <;> omega) | fail) only [↓RBp, ↓RA, ↓reduceIte, Nat.reduceAdd, Nat.reduceMul, Nat.reduceEqDiff, RB, RBr, RW, RS, RA2]
          refine tail ws _ _ (h1.ext e12) (fun x hx => by have := hAS.e.ok x hx; omega) (by have := hAS.e.len; omega) hsl (Out.new h1 (fun b hb => Nat.le_trans (by simp only [RZ]; omega) (hnv b hb))) ⟨hAS.gd, hAS.e.on, hAS.snd⟩
    · unfold f6_l1_t
      simp (disch := first | omega | simp only [RO] | (simp only [RZ] <;> omega) | fail) only [↓RBp, ↓RA, ↓reduceIte, Nat.reduceAdd, Nat.reduceMul, Nat.reduceEqDiff, RB, RBr, RW, RS, RA2]
      exact H _ _ _ h1 hT1 hs1 (by omega)
end
end Go.Proofs.YtaeopkhdokaaoaaGreatDoor
namespace Go.Proofs.YtaeopkhdokaaoaaGreatDoor
open Go Go.Sh
set_option maxRecDepth 100000
set_option maxHeartbeats 4000000
set_option linter.unusedSimpArgs false
set_option linter.unusedVariables false
section
variable {w0 w w' : World} {Y Y' : Lay} {D D' : DS} {B l k : Nat} {c o : Int} {g : Nat} {K : K1} {E1 : VP1}
theorem Wm.ext {b ob : Nat} {W : Nat → Nat} (h : Wm w b ob W) (e : Ext w w') : Wm w' b ob W := ⟨fun hi => e.cell_some (h.cell hi), fun i => by
  have hc := h.cell (i := 0) (by omega)
  have hlt := lt_of_cell hc
  have := h.frz i
  unfold World.frozen? at this ⊢
  simp only at this ⊢
  rw [e.blk b hlt]; exact this⟩
theorem Loc.base {wI : World} (h : Loc w0 w Y D B l c o g) (e : Ext wI w0) (hG : Glob wI) : Loc wI w Y D B l c o g := ⟨⟨h.L.dv, h.L.gd, e.trans h.L.ex, fun x hx => Nat.le_trans e.size (h.L.nw x hx)⟩, h.bx, h.nb, h.on, h.lt, hG, h.c0, h.c5⟩
theorem Snd.parts (h : Snd D l c o) {k : Nat} (hk : (k : Int) < perS c) : okP (wd D l (offN c k)) = true ∧ bG (wd D l (offN c k)) = gX (wd D l (offN c k)) ∧ bK (wd D l (offN c k)) = kX (wd D l (offN c k)) ∧ bS (wd D l (offN c k)) = sX (wd D l (offN c k)) := by
  have h1 := h.sl k hk
  have h2 := h.gd k hk
  have e1 : bG (wd D l (offN c k)) = gX (wd D l (offN c k)) := by unfold bG; rw [if_pos h1]
  have e2 : bK (wd D l (offN c k)) = kX (wd D l (offN c k)) := by unfold bK; rw [if_pos h1]
  have e3 : bS (wd D l (offN c k)) = sX (wd D l (offN c k)) := by unfold bS; rw [if_pos h1]
  refine ⟨?_, e1, e2, e3⟩
  rw [e1, e2, e3] at h2
  unfold okP; rw [h1, h2]; rfl
theorem Snd.isR (h : Snd D l c o) (hp : perS c ≤ 64) {k : Nat} (hk : (k : Int) < perS c) : isR (wd D l) c (k : Int) 177 = decide (bS (wd D l (offN c k)) = 177) := by
  obtain ⟨p1, p2, p3, p4⟩ := h.parts hk
  have hb := h.bit k (by omega)
  unfold Go.Proofs.YtaeopkhdokaaoaaGreatDoor.isR
  rw [decide_eq_true (show 0 ≤ (k : Int) ∧ (k : Int) < perS c from ⟨by omega, hk⟩), Int.toNat_natCast, p1, ← p4, hb, decide_eq_true hk]
  by_cases hs : bS (wd D l (offN c k)) = 177
  · simp [hs]
  · simp [hs]
abbrev fmC (w : World) (A a b c g : Nat) : Prop := w.cell? ⟨A, 0, none⟩ = some (.int .u8 (a : Int)) ∧ w.cell? ⟨A, 1, none⟩ = some (.int .u8 (b : Int)) ∧ w.cell? ⟨A, 2, none⟩ = some (.int .u8 (c : Int)) ∧ w.cell? ⟨A, 3, none⟩ = some (.int .u16 (g : Int))
def fF (a b c g : Nat) (j : Nat) : Value := [Value.int .u8 (a : Int), .int .u8 (b : Int), .int .u8 (c : Int), .int .u16 (g : Int)].getD j undef
theorem fF_C {A a b c g : Nat} (h : Cells w A 67 4 (fF a b c g)) : fmC w A a b c g := ⟨h.cell (i := 0) (by omega), h.cell (i := 1) (by omega), h.cell (i := 2) (by omega), h.cell (i := 3) (by omega)⟩
end
end Go.Proofs.YtaeopkhdokaaoaaGreatDoor
namespace Go.Sh
open Go
set_option linter.unusedVariables false
theorem run_eq_str {P : Program} (t : TypeId) (x y : Operand) (a b : ByteArray) (w : World) : (binM .eql t x y (.string a) (.string b)).run P w = .ok (.bool (a.toList == b.toList)) w := by
  unfold binM
  rw [Sem.run_bind]
  have : (eqGuard .eql t x y (.string a) (.string b)).run P w = .ok () w := rfl
  rw [this, Result.andThen_ok, binOp_string_eql]; rfl
def bstr (l : List Nat) : ByteArray := (l.map fun (n : Nat) => (n : Int)).foldl (fun r n => r.push (UInt8.ofNat n.toNat)) ByteArray.empty
theorem bstr_data : ∀ (l : List Nat) (s : ByteArray), ((l.map fun (n : Nat) => (n : Int)).foldl (fun r n => r.push (UInt8.ofNat n.toNat)) s).data.toList = s.data.toList ++ l.map UInt8.ofNat := by
  intro l
  induction l with
  | nil => intro s; simp
  | cons x l ih =>
    intro s
    simp only [List.map_cons, List.foldl_cons]
    rw [ih]
    simp [ByteArray.push]
theorem map_inj8 : ∀ {l l' : List Nat}, (∀ x ∈ l, x < 256) → (∀ x ∈ l', x < 256) → l.map UInt8.ofNat = l'.map UInt8.ofNat → l = l' := by
  intro l
  induction l with
  | nil => intro l' _ _ h; cases l' with
    | nil => rfl
    | cons => simp at h
  | cons x l ih =>
    intro l' h1 h2 h
    cases l' with
    | nil => simp at h
    | cons y l' =>
      simp only [List.map_cons, List.cons.injEq] at h
      have hx := h1 x (by simp); have hy := h2 y (by simp)
      have e := congrArg UInt8.toNat h.1
      rw [UInt8.toNat_ofNat', UInt8.toNat_ofNat'] at e
      rw [show x = y by omega, ih (fun z hz => h1 z (by simp [hz])) (fun z hz => h2 z (by simp [hz])) h.2]
theorem bstr_eq {l l' : List Nat} (h1 : ∀ x ∈ l, x < 256) (h2 : ∀ x ∈ l', x < 256) : ((bstr l).toList == (bstr l').toList) = decide (l = l') := by
  have e1 := bstr_data l ByteArray.empty
  have e2 := bstr_data l' ByteArray.empty
  rw [ByteArray.toList_eq, ByteArray.toList_eq]
  unfold bstr
  rw [e1, e2]
  by_cases h : l = l'
  · subst h; simp
  · rw [decide_eq_false h]
    have : ¬ l.map UInt8.ofNat = l'.map UInt8.ofNat := fun e => h (map_inj8 h1 h2 e)
    simpa using this
theorem run_b2s {P : Program} {src dst e : TypeId} (hs : P.underlying src = some (.slice e)) (he : P.underlying e = some (.int .u8)) (hd : P.underlying dst = some .string) {b o n cap : Nat} (l : List Nat) {w : World} (h : cellsFrom w b o n = some (l.map fun (x : Nat) => Value.int .u8 (x : Int))) :
    (convert src dst (.slice (some ⟨b, o, none⟩) n cap)).run P w = .ok (.string (bstr l)) w := by
  rw [run_convert_bytes_string w src dst e _ n cap hs he hd]
  have h2 : (l.map fun (x : Nat) => Value.int .u8 (x : Int)) = (l.map fun (n : Nat) => (n : Int)).map (Value.int .u8) := by simp [List.map_map, Function.comp_def]
  rw [h2] at h
  have h3 := run_loadCellsFrom (P := P) (w := w) (b := b) (o := o) n 0 #[] _ h
  simp only [Array.empty_append] at h3
  exact run_bytesToString w _ n cap _ h3
theorem cellsFrom_of {w : World} {b : Nat} : ∀ {l : List Value} {o : Nat}, (∀ j u, l[j]? = some u → w.cell? ⟨b, o + j, none⟩ = some u) → cellsFrom w b o l.length = some l := by
  intro l
  induction l with
  | nil => intro o _; rfl
  | cons x l ih =>
    intro o h
    simp only [List.length_cons]
    unfold cellsFrom
    have h0 := h 0 x rfl
    simp only [Nat.add_zero] at h0
    rw [h0]
    simp only
    rw [ih (o := o + 1) (fun j u hj => by rw [show o + 1 + j = o + (j + 1) by omega]; exact h (j + 1) u (by simpa using hj))]
theorem blt_copyN {P : Program} {t tx e ty : TypeId} {bytes : Nat} {zv : Value} (E : ElT P t t e 1 bytes zv) {cs : Array Bool} {w : World} {b n c : Nat} {f : Nat → Value} (hb : Cells w b e n f) (hn : 0 < n) {v : Value} {L : List Value} (hv : SlO w e 1 v n L) (h1 : allOne L = true) {k : K1} (h : ∀ w', Cells w' b e n (fun i => L.getD i undef) → Frm (fun x => x = b) w w' → k (.int .i64 (n : Int)) w') :
    bltS P .copy #[t, tx] ty cs #[.slice (some ⟨b, 0, none⟩) n c, v] w k := by
  obtain ⟨a, hh, ha, _⟩ := hb
  have hvi := hv.isS hn
  obtain ⟨xb, xo, xc, rfl, _⟩ := hvi
  have hL := hv.1
  rw [Nat.mul_one] at hL
  have hmin : Nat.min n n = n := Nat.min_self n
  rw [blt_copy E hh (news := L) (by rw [hmin, hL, Nat.mul_one]) (fun j u hj => hv.cell rfl hj) h1 (by omega) k, hmin]
  refine h _ ⟨_, setRow_heap_eq hh _, ?_, fun i hi => ?_⟩ ⟨rfl, rfl, rfl, by simp, fun x _ hx => setRow_heap_ne _ hx⟩
  · simp only [List.take_zero, List.nil_append, List.size_toArray, List.length_append, List.length_drop, Array.length_toList, Nat.zero_add]; omega
  · simp only [List.take_zero, List.nil_append, List.getElem?_toArray]
    rw [List.getElem?_append_left (by omega), List.getElem?_eq_getElem (by omega), List.getD_eq_getElem?_getD, List.getElem?_eq_getElem (by omega)]; rfl
end Go.Sh
namespace Go.Proofs.YtaeopkhdokaaoaaGreatDoor
theorem bs_inv {c r : Nat} (h : bs c = r) (hr : r < 2147483648) (hc : c < 4294967296) : c = 2 * r := by
  unfold bs at h
  split at h
  · rename_i h1
    have hb : (c / 2 ^^^ 2197175160).testBit 31 = true := by
      rw [Nat.testBit_xor, Nat.testBit_lt_two_pow (show c / 2 < 2 ^ 31 by omega)]; rfl
    rw [h, Nat.testBit_lt_two_pow (show r < 2 ^ 31 by omega)] at hb
    exact absurd hb (by simp)
  · omega
theorem bsN_inv : ∀ (m y z : Nat), m ≤ 32 → y < 4294967296 → bsN m y = z → z < 2 ^ (32 - m) → y = z * 2 ^ m := by
  intro m
  induction m with
  | zero => intro y z _ _ h _; simp only [bsN] at h; omega
  | succ m ih =>
    intro y z hm hy h hz
    simp only [bsN] at h
    have h1 := ih (bs y) z (by omega) (bs_lt y hy) h (Nat.lt_of_lt_of_le hz (Nat.pow_le_pow_right (by omega) (by omega)))
    have h2 : z * 2 ^ m < 2147483648 := by
      have h3 : z * 2 ^ m < 2 ^ (32 - (m + 1)) * 2 ^ m := (Nat.mul_lt_mul_right (Nat.pow_pos (by omega))).2 hz
      rw [← Nat.pow_add, show 32 - (m + 1) + m = 31 by omega] at h3
      omega
    have h3 := bs_inv h1 h2 hy
    rw [h3, Nat.pow_succ]; ac_rfl
theorem bsN_zero (n : Nat) : bsN n 0 = 0 := by
  have := bsN_shift n 0
  simpa using this
theorem burst_lin (pat k : Nat) (hp : pat < 4294967296) (hd : pat * 2 ^ k % 18446744073709551616 / 4294967296 = bsN 32 (pat * 2 ^ k % 18446744073709551616 % 4294967296)) : pat * 2 ^ k % 18446744073709551616 = 0 := by
  by_cases hk : 32 ≤ k
  · have hz : pat * 2 ^ k % 18446744073709551616 % 4294967296 = 0 := by
      rw [show k = 32 + (k - 32) by omega, Nat.pow_add, show pat * (2 ^ 32 * 2 ^ (k - 32)) = 4294967296 * (pat * 2 ^ (k - 32)) by rw [show (2 : Nat) ^ 32 = 4294967296 from rfl]; ac_rfl]
      omega
    rw [hz, bsN_zero] at hd
    omega
  · have hlt : pat * 2 ^ k < 18446744073709551616 := by
      have h1 : (2 : Nat) ^ k ≤ 2 ^ 31 := Nat.pow_le_pow_right (by omega) (by omega)
      have : pat * 2 ^ k ≤ pat * 2 ^ 31 := Nat.mul_le_mul_left _ h1
      omega
    rw [Nat.mod_eq_of_lt hlt] at hd ⊢
    have hpos : 0 < (2 : Nat) ^ k := Nat.pow_pos (by omega)
    have hposm : 0 < (2 : Nat) ^ (32 - k) := Nat.pow_pos (by omega)
    have e32 : (2 : Nat) ^ k * 2 ^ (32 - k) = 4294967296 := by rw [← Nat.pow_add, show k + (32 - k) = 32 by omega]
    have hlo : pat * 2 ^ k % 4294967296 = 2 ^ k * (pat % 2 ^ (32 - k)) := by
      rw [Nat.mul_comm pat, ← e32, Nat.mul_mod_mul_left]
    have hhi : pat * 2 ^ k / 4294967296 = pat / 2 ^ (32 - k) := by
      rw [Nat.mul_comm pat, ← e32, Nat.mul_div_mul_left _ _ hpos]
    rw [hlo, hhi, show 32 = k + (32 - k) by omega, bsN_add, bsN_shift] at hd
    rw [show k + (32 - k) - k = 32 - k by omega] at hd
    have hml : pat % 2 ^ (32 - k) < 2 ^ (32 - k) := Nat.mod_lt _ hposm
    have hm32 : (2 : Nat) ^ (32 - k) ≤ 2 ^ 32 := Nat.pow_le_pow_right (by omega) (by omega)
    have hhl : pat / 2 ^ (32 - k) < 2 ^ k := by
      rw [Nat.div_lt_iff_lt_mul hposm, e32]; exact hp
    have hi := bsN_inv (32 - k) (pat % 2 ^ (32 - k)) (pat / 2 ^ (32 - k)) (by omega) (by omega) hd.symm (by rw [show 32 - (32 - k) = k by omega]; exact hhl)
    have hq : pat / 2 ^ (32 - k) = 0 := by
      rcases Nat.eq_zero_or_pos (pat / 2 ^ (32 - k)) with h | h
      · exact h
      · have : 1 * 2 ^ (32 - k) ≤ pat / 2 ^ (32 - k) * 2 ^ (32 - k) := Nat.mul_le_mul_right _ h
        omega
    have hp0 : pat = 0 := by
      rw [hq, Nat.zero_mul] at hi
      have := Nat.div_add_mod pat (2 ^ (32 - k))
      rw [hq, hi] at this; omega
    rw [hp0]; simp
theorem xor_cancel (a b c : Nat) (h : a ^^^ b = a ^^^ c) : b = c := by
  have := congrArg (a ^^^ ·) h
  simpa [← Nat.xor_assoc] using this
theorem xor_mod32 (a b : Nat) : (a ^^^ b) % 4294967296 = a % 4294967296 ^^^ b % 4294967296 := Nat.xor_mod_two_pow (n := 32)
theorem xor_div32 (a b : Nat) : (a ^^^ b) / 4294967296 = a / 4294967296 ^^^ b / 4294967296 := by
  have := Nat.shiftRight_xor_distrib (a := a) (b := b) (i := 32)
  simpa [Nat.shiftRight_eq_div_pow] using this
theorem seal_burst {x B : Nat} (h : sealN (x % 4294967296) = x) (h' : sealN ((x ^^^ B) % 4294967296) = x ^^^ B) (pat k : Nat) (hp : pat < 4294967296) (hB : B = pat * 2 ^ k % 18446744073709551616) : B = 0 := by
  have d1 : x / 4294967296 = sumN (x % 4294967296) := by
    have := congrArg (· / 4294967296) h
    simp only [sealN] at this
    omega
  have d2 : (x ^^^ B) / 4294967296 = sumN ((x ^^^ B) % 4294967296) := by
    have := congrArg (· / 4294967296) h'
    simp only [sealN] at this
    omega
  rw [xor_div32, xor_mod32, d1] at d2
  have hl : B / 4294967296 = bsN 32 (B % 4294967296) := by
    unfold sumN at d2
    have e1 : bsN 32 (4294967295 ^^^ (x % 4294967296 ^^^ B % 4294967296)) = bsN 32 (4294967295 ^^^ x % 4294967296) ^^^ bsN 32 (B % 4294967296) := by
      rw [← Nat.xor_assoc]; exact bsN_xor 32 (4294967295 ^^^ x % 4294967296) (B % 4294967296)
    rw [e1] at d2
    generalize bsN 32 (4294967295 ^^^ x % 4294967296) = A at d2
    generalize bsN 32 (B % 4294967296) = C at d2 ⊢
    rw [Nat.xor_assoc A C, Nat.xor_comm C, ← Nat.xor_assoc A] at d2
    exact xor_cancel _ _ _ d2
  rw [hB] at hl ⊢
  exact burst_lin pat k hp hl
def wB (W : Nat → Nat) (i : Nat) : Nat := W (i / 8) / 2 ^ (8 * (i % 8)) % 256
def pB (P i : Nat) : Nat := P / 2 ^ (8 * i) % 256
def qW (W : Nat → Nat) (P k : Nat) : Nat := W k ^^^ (P / 2 ^ (64 * k) % 18446744073709551616)
def qB (W : Nat → Nat) (P i : Nat) : Nat := wB W i ^^^ pB P i
theorem xor_byte (a b j : Nat) : (a ^^^ b) / 2 ^ j % 256 = (a / 2 ^ j % 256) ^^^ (b / 2 ^ j % 256) := by
  rw [← Nat.shiftRight_eq_div_pow, ← Nat.shiftRight_eq_div_pow, ← Nat.shiftRight_eq_div_pow, Nat.shiftRight_xor_distrib]
  exact Nat.xor_mod_two_pow (n := 8)
theorem pB_word (P k j : Nat) (hj : j < 8) : pB P (8 * k + j) = P / 2 ^ (64 * k) % 18446744073709551616 / 2 ^ (8 * j) % 256 := by
  unfold pB
  rw [show 8 * (8 * k + j) = 64 * k + 8 * j by omega, Nat.pow_add, ← Nat.div_div_eq_div_mul]
  generalize P / 2 ^ (64 * k) = x
  match j, hj with
  | 0, _ => simp only [Nat.mul_zero, Nat.pow_zero, Nat.div_one]; omega
  | 1, _ => show x / 256 % 256 = x % 18446744073709551616 / 256 % 256; omega
  | 2, _ => show x / 65536 % 256 = x % 18446744073709551616 / 65536 % 256; omega
  | 3, _ => show x / 16777216 % 256 = x % 18446744073709551616 / 16777216 % 256; omega
  | 4, _ => show x / 4294967296 % 256 = x % 18446744073709551616 / 4294967296 % 256; omega
  | 5, _ => show x / 1099511627776 % 256 = x % 18446744073709551616 / 1099511627776 % 256; omega
  | 6, _ => show x / 281474976710656 % 256 = x % 18446744073709551616 / 281474976710656 % 256; omega
  | 7, _ => show x / 72057594037927936 % 256 = x % 18446744073709551616 / 72057594037927936 % 256; omega
theorem qB_word (W : Nat → Nat) (P k j : Nat) (hj : j < 8) : qB W P (8 * k + j) = qW W P k / 2 ^ (8 * j) % 256 := by
  unfold qB qW wB
  rw [xor_byte, pB_word P k j hj, show (8 * k + j) / 8 = k by omega, show (8 * k + j) % 8 = j by omega]
theorem qW_lt (W : Nat → Nat) (P k : Nat) (h : W k < 18446744073709551616) : qW W P k < 18446744073709551616 := Nat.xor_lt_two_pow (n := 64) h (Nat.mod_lt _ (by omega))
theorem qB_lt (W : Nat → Nat) (P i : Nat) : qB W P i < 256 := Nat.xor_lt_two_pow (n := 8) (Nat.mod_lt _ (by omega)) (Nat.mod_lt _ (by omega))
theorem byte_step (X j : Nat) : X / 2 ^ (8 * (j + 1)) * 256 + X / 2 ^ (8 * j) % 256 = X / 2 ^ (8 * j) := by
  rw [show 8 * (j + 1) = 8 * j + 8 by omega, Nat.pow_add, ← Nat.div_div_eq_div_mul]
  generalize X / 2 ^ (8 * j) = x
  show x / 256 * 256 + x % 256 = x
  omega
theorem qB_zero (W : Nat → Nat) (i : Nat) : qB W 0 i = wB W i := by unfold qB pB; simp
theorem pat_no {pat j : Nat} (h : pat / 2 ^ j % 2 = 0) : pat % 2 ^ (j + 1) = pat % 2 ^ j := by
  rw [Nat.pow_succ, Nat.mod_mul, h]; simp
theorem pat_yes {pat j : Nat} (h : pat / 2 ^ j % 2 = 1) : pat % 2 ^ (j + 1) = pat % 2 ^ j + 2 ^ j := by
  rw [Nat.pow_succ, Nat.mod_mul, h]; simp
theorem tb_pB (m bit i t : Nat) : (pB (m * 2 ^ bit) i).testBit t = (decide (t < 8) && (decide (bit ≤ 8 * i + t) && m.testBit (8 * i + t - bit))) := by
  unfold pB
  rw [show 256 = 2 ^ 8 from rfl, Nat.testBit_mod_two_pow, Nat.testBit_div_two_pow, Nat.mul_comm, Nat.testBit_two_pow_mul, Nat.add_comm t]
theorem pB_step {pat j : Nat} (bit i : Nat) (h : pat / 2 ^ j % 2 = 1) : pB (pat % 2 ^ (j + 1) * 2 ^ bit) i = pB (pat % 2 ^ j * 2 ^ bit) i ^^^ (if i = (bit + j) / 8 then 2 ^ ((bit + j) % 8) else 0) := by
  apply Nat.eq_of_testBit_eq
  intro t
  have hb : pat.testBit j = true := by rw [Nat.testBit_eq_decide_div_mod_eq, h]; rfl
  rw [Nat.testBit_xor, tb_pB, tb_pB, Nat.testBit_mod_two_pow, Nat.testBit_mod_two_pow]
  by_cases ht : t < 8
  · rw [decide_eq_true ht]
    by_cases hk : bit ≤ 8 * i + t
    · rw [decide_eq_true hk]
      by_cases he : 8 * i + t = bit + j
      · rw [if_pos (by omega), Nat.testBit_two_pow, decide_eq_true (show (bit + j) % 8 = t by omega)]
        rw [show 8 * i + t - bit = j by omega, hb]; simp
      · have hx : (if i = (bit + j) / 8 then 2 ^ ((bit + j) % 8) else 0).testBit t = false := by
          split
          · rw [Nat.testBit_two_pow]; simp; omega
          · simp
        rw [hx, Bool.xor_false]
        by_cases hl : 8 * i + t - bit < j
        · rw [decide_eq_true hl, decide_eq_true (show 8 * i + t - bit < j + 1 by omega)]
        · rw [decide_eq_false hl, decide_eq_false (show ¬ 8 * i + t - bit < j + 1 by omega)]
    · rw [decide_eq_false hk]
      have hx : (if i = (bit + j) / 8 then 2 ^ ((bit + j) % 8) else 0).testBit t = false := by
        split
        · rw [Nat.testBit_two_pow]; simp; omega
        · simp
      rw [hx]; rfl
  · rw [decide_eq_false ht]
    have hx : (if i = (bit + j) / 8 then 2 ^ ((bit + j) % 8) else 0).testBit t = false := by
      split
      · rw [Nat.testBit_two_pow]; simp; omega
      · simp
    rw [hx]; rfl
theorem qW_all {W : Nat → Nat} {P k : Nat} (hW : W k < 18446744073709551616) (h : ∀ j, j < 8 → qB W P (8 * k + j) = wB W (8 * k + j)) : P / 2 ^ (64 * k) % 18446744073709551616 = 0 := by
  have hz : ∀ j, j < 8 → pB P (8 * k + j) = 0 := fun j hj => by
    have h1 := h j hj
    unfold qB at h1
    have : wB W (8 * k + j) ^^^ pB P (8 * k + j) = wB W (8 * k + j) ^^^ 0 := by rw [h1, Nat.xor_zero]
    exact xor_cancel _ _ _ this
  have z0 := hz 0 (by omega); have z1 := hz 1 (by omega); have z2 := hz 2 (by omega); have z3 := hz 3 (by omega)
  have z4 := hz 4 (by omega); have z5 := hz 5 (by omega); have z6 := hz 6 (by omega); have z7 := hz 7 (by omega)
  rw [pB_word _ _ _ (by omega)] at z0 z1 z2 z3 z4 z5 z6 z7
  generalize P / 2 ^ (64 * k) = x at *
  simp only [Nat.mul_zero, Nat.pow_zero, Nat.div_one] at z0
  have w1 : x % 18446744073709551616 / 256 % 256 = 0 := z1
  have w2 : x % 18446744073709551616 / 65536 % 256 = 0 := z2
  have w3 : x % 18446744073709551616 / 16777216 % 256 = 0 := z3
  have w4 : x % 18446744073709551616 / 4294967296 % 256 = 0 := z4
  have w5 : x % 18446744073709551616 / 1099511627776 % 256 = 0 := z5
  have w6 : x % 18446744073709551616 / 281474976710656 % 256 = 0 := z6
  have w7 : x % 18446744073709551616 / 72057594037927936 % 256 = 0 := z7
  omega
end Go.Proofs.YtaeopkhdokaaoaaGreatDoor
namespace Go.Proofs.YtaeopkhdokaaoaaGreatDoor
open Go Go.Sh
set_option maxRecDepth 100000
set_option maxHeartbeats 4000000
set_option linter.unusedSimpArgs false
set_option linter.unusedVariables false
def byL (f : Nat → Nat) (n : Nat) : List Value := (List.range n).map fun i => Value.int .u8 ((f i : Nat) : Int)
theorem byL_snoc (f : Nat → Nat) (n : Nat) : byL f (n + 1) = byL f n ++ [.int .u8 ((f n : Nat) : Int)] := by simp [byL, List.range_succ]
theorem byL_get {f : Nat → Nat} {n j : Nat} (h : j < n) : (byL f n)[j]? = some (.int .u8 ((f j : Nat) : Int)) := by simp [byL, h]
theorem byL_one (f : Nat → Nat) (n : Nat) : allOne (byL f n) = true := by
  unfold byL
  induction List.range n with
  | nil => rfl
  | cons x l ih => simp only [List.map_cons, allOne]; exact ih
section
variable {w w' : World}
theorem run_neg {P : Program} (n : Int) (w : World) (h0 : 0 ≤ n) (h1 : n < 9223372036854775808) : (Op.unary .neg (.int .i64 n)).run P w = .ok (.int .i64 (-n)) w := by
  have h := run_sub (P := P) 0 (.tmp 0) (.tmp 0) .i64 0 n w
  rw [run_binM_int] at h
  have e : (Op.unary .neg (.int .i64 n)).run P w = (binOp .sub 0 (.int .i64 0) (.int .i64 n)).run P w := rfl
  rw [e, h, wrap_i64 (by omega) (by omega), show 0 - n = -n by omega]
theorem k_Burst {n : Nat} {v : Value} {Lf : Nat → Nat} (hv : SlO w 5 1 v n (byL Lf n)) (hn : 0 < n) (hn' : n ≤ 64) (hL : ∀ i, Lf i < 256) (bit pat : Nat) (hb : bit < 8 * n) (hp : pat < 4294967296) (K : K1)
    (hK : ∀ b w', Ext w w' → w.heap.size ≤ b → Cells w' b 5 n (fun i => .int .u8 ((Lf i ^^^ pB (pat * 2 ^ bit) i : Nat) : Int)) → K (.slice (some ⟨b, 0, none⟩) n n) w') :
    callS Tryz.prog 53 #[v, .int .i64 (bit : Int), .int .u32 (pat : Int)] w K := by
  obtain ⟨xb, xo, xc, rfl, _⟩ := hv.isS hn
  refine f53_call _ _ _ _ _ ?_
  unfold f53_t
  simp (disch := first | omega | simp only [RO] | (simp only [RZ] <;> omega) | fail) only [↓RBp, ↓RA, ↓reduceIte, Nat.reduceAdd, Nat.reduceMul, Nat.reduceEqDiff, RB, RBr, RW, RS, RA2]
  refine blt_copyN el_75_75 (f := fun i => (Value.int .u8 0).cells[i % (Value.int .u8 0).cells.size]!) ?_ hn (hv.ext (by repeat (first | with_reducible refine Ext.setB ?_ (by omega) _ | with_reducible refine Ext.setB ?_ (by simp only [RZ] <;> omega) _ | with_reducible assumption | exact Ext.refl _ | with_reducible refine Ext.alloc ?_ _ | with_reducible refine Ext.drew ?_ | with_reducible refine Ext.trans ?_ (by assumption)))) (byL_one _ _) (fun w1 hC hF => ?_)
  · have := zrow_cells w (.int .u8 0) n 5
    simpa using this
  have e1 : Ext w w1 := Ext.frm (Ext.alloc_self w _) hF (fun x hx => by subst hx; exact Nat.le_refl _)
  simp (disch := first | omega | simp only [RO] | (simp only [RZ] <;> omega) | fail) only [↓RBp, ↓RA, ↓reduceIte, Nat.reduceAdd, Nat.reduceMul, Nat.reduceEqDiff, RB, RBr, RW, RS, RA2, Int.toNat_natCast]
  generalize hBB : w.heap.size = B at hC hF hK ⊢
  have hB : B ≤ B := Nat.le_refl _
  apply f53_l1_rule (I := fun z w' => ∃ j : Nat, z = .int .i64 (j : Int) ∧ j ≤ 32 ∧ Ext w w' ∧ Cells w' B 5 n (fun i => .int .u8 ((Lf i ^^^ pB (pat % 2 ^ j * 2 ^ bit) i : Nat) : Int))) (μ := fun z _ => 32 - (Go.RowKit.intOf z).toNat)
  · refine ⟨0, rfl, by omega, e1, hC.congr (fun i hi => ?_)⟩
    rw [List.getD_eq_getElem?_getD, byL_get hi]
    simp [pB, Nat.mod_one]
  · intros; rename_i w2 hI E1 hE
    obtain ⟨j, rfl, hj, e2, hC2⟩ := hI
    by_cases hj2 : j < 32
    · have hlt2 := hC2.lt
      have hq := Nat.mod_two_eq_zero_or_one (pat / 2 ^ j)
      have hand : pat / 2 ^ j &&& 1 = pat / 2 ^ j % 2 := Nat.and_one_is_mod _
      have hple : pat / 2 ^ j < 4294967296 := Nat.lt_of_le_of_lt (Nat.div_le_self _ _) hp
      have hcut : ∀ i, i < n → (Lf i ^^^ pB (pat % 2 ^ j * 2 ^ bit) i) < 256 := fun i hi => Nat.xor_lt_two_pow (n := 8) (hL i) (Nat.mod_lt _ (by omega))
      rcases hq with hq | hq
      · have hno := pat_no hq
        rw [hq] at hand
        rw [← hno] at hC2
        generalize hy : pat / 2 ^ j = y at *
        unfold f53_l1_t
        simp (disch := first | omega | simp only [RO] | (simp only [RZ] <;> omega) | fail) only [↓RBp, ↓RA, ↓reduceIte, Nat.reduceAdd, Nat.reduceMul, Nat.reduceEqDiff, RB, RBr, RW, RS, RA2, hy, hand, Int.toNat_natCast, f53_k2_eq, f53_k2_t]
        apply hE
        · exact ⟨j + 1, by simp, by omega, e2, hC2⟩
        · simp [Go.RowKit.intOf]; omega
      · have hst := fun i => pB_step bit i hq
        rw [hq] at hand
        have hng : ∀ (w : World) (k : K1), ev Tryz.prog (Op.unary UnOp.neg (.int .i64 (j : Int))) w k = k (.int .i64 (-(j : Int))) w := fun w k => ev_of_run (run_neg _ w (by omega) (by omega)) k
        have hneg : ¬ ((bit : Int) < -(j : Int)) := by omega
        have f1 : ((bit : Int) + (j : Int)) = ((bit + j : Nat) : Int) := by omega
        have f2 : ((bit : Int) / 8) = ((bit / 8 : Nat) : Int) := by omega
        have f3 : (((bit + j : Nat) : Int) / 8) = (((bit + j) / 8 : Nat) : Int) := by omega
        have f4 : (((bit + j : Nat) : Int) % 8) = (((bit + j) % 8 : Nat) : Int) := by omega
        have hb8 : bit / 8 < n := by omega
        by_cases hin : (bit + j) / 8 < n
        · have hc := hC2.cell hin
          have hcl := hcut _ hin
          have hpw : 2 ^ ((bit + j) % 8) < 256 := Nat.lt_of_lt_of_le (Nat.pow_lt_pow_right (by omega) (show (bit + j) % 8 < 8 by omega)) (by omega)
          have hC3 := fun v => hC2.set v hin
          have hfz := hC2.frz
          have hr8 : (bit + j) % 8 < 8 := by omega
          have hsti := hst ((bit + j) / 8)
          rw [if_pos rfl] at hsti
          have key : (Lf ((bit + j) / 8) ^^^ pB (pat % 2 ^ j * 2 ^ bit) ((bit + j) / 8)) ^^^ 2 ^ ((bit + j) % 8) = Lf ((bit + j) / 8) ^^^ pB (pat % 2 ^ (j + 1) * 2 ^ bit) ((bit + j) / 8) := by rw [hsti, Nat.xor_assoc]
          have oth : ∀ i, i ≠ (bit + j) / 8 → Lf i ^^^ pB (pat % 2 ^ j * 2 ^ bit) i = Lf i ^^^ pB (pat % 2 ^ (j + 1) * 2 ^ bit) i := fun i hi => by rw [hst i, if_neg hi, Nat.xor_zero]
          unfold f53_l1_t
          generalize Lf ((bit + j) / 8) ^^^ pB (pat % 2 ^ j * 2 ^ bit) ((bit + j) / 8) = cv at *
          generalize hy : pat / 2 ^ j = y at *
          generalize (bit + j) % 8 = r at *
          generalize hd : (bit + j) / 8 = d at *
          have hpe : 1 * 2 ^ r % 256 = 2 ^ r := by rw [Nat.one_mul]; exact Nat.mod_eq_of_lt hpw
          simp (disch := first | omega | simp only [RO] | (simp only [RZ] <;> omega) | fail) only [↓RBp, ↓RA, ↓reduceIte, Nat.reduceAdd, Nat.reduceMul, Nat.reduceEqDiff, RB, RBr, RW, RS, RA2, hy, hand, Int.toNat_natCast, hng, hneg, f1, f2, f3, f4, hc, hfz]
          simp (disch := first | omega | simp only [RO] | (simp only [RZ] <;> omega) | fail) only [↓RBp, ↓RA, ↓reduceIte, Nat.reduceAdd, Nat.reduceMul, Nat.reduceEqDiff, RB, RBr, RW, RS, RA2, f53_k2_eq, f53_k2_t]
          apply hE
          · refine ⟨j + 1, by simp, by omega, (by repeat (first | with_reducible refine Ext.setB ?_ (by omega) _ | with_reducible refine Ext.setB ?_ (by simp only [RZ] <;> omega) _ | with_reducible assumption | exact Ext.refl _ | with_reducible refine Ext.alloc ?_ _ | with_reducible refine Ext.drew ?_ | with_reducible refine Ext.trans ?_ (by assumption))), (hC3 _).congr (fun i hi => ?_)⟩
            by_cases hid : i = d
            · subst hid
              rw [if_pos rfl, hpe, key]
            · rw [if_neg hid, oth i hid]
          · simp [Go.RowKit.intOf]; omega
        · have oth : ∀ i, i < n → Lf i ^^^ pB (pat % 2 ^ j * 2 ^ bit) i = Lf i ^^^ pB (pat % 2 ^ (j + 1) * 2 ^ bit) i := fun i hi => by rw [hst i, if_neg (by omega), Nat.xor_zero]
          generalize hy : pat / 2 ^ j = y at *
          unfold f53_l1_t
          simp (disch := first | omega | simp only [RO] | (simp only [RZ] <;> omega) | fail) only [↓RBp, ↓RA, ↓reduceIte, Nat.reduceAdd, Nat.reduceMul, Nat.reduceEqDiff, RB, RBr, RW, RS, RA2, hy, hand, Int.toNat_natCast, hng, hneg, f1, f2, f3, f4, f53_k2_eq, f53_k2_t]
          apply hE
          · exact ⟨j + 1, by simp, by omega, e2, hC2.congr (fun i hi => by rw [oth i hi])⟩
          · simp [Go.RowKit.intOf]; omega
    · have : j = 32 := by omega
      subst this
      have hm : pat % 2 ^ 32 = pat := Nat.mod_eq_of_lt hp
      rw [hm] at hC2
      unfold f53_l1_t
      simp (disch := first | omega | simp only [RO] | (simp only [RZ] <;> omega) | fail) only [↓RBp, ↓RA, ↓reduceIte, Nat.reduceAdd, Nat.reduceMul, Nat.reduceEqDiff, RB, RBr, RW, RS, RA2, f53_k1_eq, f53_k1_t]
      exact hK B w2 e2 (by omega) hC2
end
end Go.Proofs.YtaeopkhdokaaoaaGreatDoor
namespace Go.Proofs.YtaeopkhdokaaoaaGreatDoor
open Go Go.Sh
set_option maxRecDepth 100000
set_option maxHeartbeats 8000000
set_option linter.unusedSimpArgs false
set_option linter.unusedVariables false
section
variable {w w' : World} {Y Y' : Lay} {D D' : DS} {c o : Int} {g : Nat}
theorem eqHd (x y : Operand) (a b : Int) (c : Nat) (w : World) : (binM .eql 24 x y (.agg #[.int .i64 a, .int .i64 b, .int .u16 (c : Int)]) (.agg #[.int .i64 a, .int .i64 b, .int .u16 (c : Int)])).run Tryz.prog w = .ok (.bool true) w := by
  have h := run_st_eql (P := Tryz.prog) (t := 24) (n := 3) (by kernel_rfl) x y [.int .i64 a, .int .i64 b, .int .u16 (c : Int)] [.int .i64 a, .int .i64 b, .int .u16 (c : Int)] rfl (by simp [kin]) w
  have e : eqL [Value.int .i64 a, .int .i64 b, .int .u16 (c : Int)] [.int .i64 a, .int .i64 b, .int .u16 (c : Int)] = true := by simp [eqL]
  rw [e] at h
  exact h
theorem eqRh (x y : Operand) (a b : Int) (c : Nat) (w : World) : (binM .eql 35 x y (.agg #[.int .i64 a, .int .i64 b, .int .u16 (c : Int)]) (.agg #[.int .i64 a, .int .i64 b, .int .u16 (c : Int)])).run Tryz.prog w = .ok (.bool true) w := by
  have h := run_st_eql (P := Tryz.prog) (t := 35) (n := 3) (by kernel_rfl) x y [.int .i64 a, .int .i64 b, .int .u16 (c : Int)] [.int .i64 a, .int .i64 b, .int .u16 (c : Int)] rfl (by simp [kin]) w
  have e : eqL [Value.int .i64 a, .int .i64 b, .int .u16 (c : Int)] [.int .i64 a, .int .i64 b, .int .u16 (c : Int)] = true := by simp [eqL]
  rw [e] at h
  exact h
theorem evHd (x y : Operand) (a b : Int) (c : Nat) (w : World) (k : K1) : ev Tryz.prog (binM .eql 24 x y (.agg #[.int .i64 a, .int .i64 b, .int .u16 (c : Int)]) (.agg #[.int .i64 a, .int .i64 b, .int .u16 (c : Int)])) w k = k (.bool true) w := ev_of_run (eqHd x y a b c w) k
theorem evRh (x y : Operand) (a b : Int) (c : Nat) (w : World) (k : K1) : ev Tryz.prog (binM .eql 35 x y (.agg #[.int .i64 a, .int .i64 b, .int .u16 (c : Int)]) (.agg #[.int .i64 a, .int .i64 b, .int .u16 (c : Int)])) w k = k (.bool true) w := ev_of_run (eqRh x y a b c w) k
theorem rdRh (x y : Operand) (a b : Int) (c : Nat) (w : World) (k : Value → Prop) : rd Tryz.prog (binM .eql 35 x y (.agg #[.int .i64 a, .int .i64 b, .int .u16 (c : Int)]) (.agg #[.int .i64 a, .int .i64 b, .int .u16 (c : Int)])) w k = k (.bool true) := rd_of_run (eqRh x y a b c w) k
theorem rl_eq (x : Nat) (hx : x < 18446744073709551616) : hdOk x = (rightB (hC x) (hO x) (gX x) && decide (x = sealN (hdX (hC x) (hO x) (gX x)))) := by
  have hg : gX x < 65536 := by unfold gX; omega
  have hc : -1 ≤ hC x ∧ hC x ≤ 14 := by unfold hC; omega
  have ho : -1 ≤ hO x ∧ hO x ≤ 14 := by unfold hO; omega
  cases hb : (rightB (hC x) (hO x) (gX x) && decide (x = sealN (hdX (hC x) (hO x) (gX x)))) with
  | true =>
    simp only [Bool.and_eq_true, decide_eq_true_eq] at hb
    obtain ⟨hr, hs⟩ := hb
    simp only [rightB, Bool.and_eq_true, Bool.not_eq_true', decide_eq_false_iff_not, Bool.or_eq_true, decide_eq_true_eq] at hr
    obtain ⟨hg0, hr⟩ := hr
    rw [hs]
    rcases hr with ⟨h1, h2⟩ | h
    · rw [h1, h2]; exact (hd_free hg0 hg).1
    · simp only [fmtB, Bool.and_eq_true, decide_eq_true_eq] at h
      exact (hd_ok h.1.1.1 h.1.1.2 h.1.2 h.2 hg0 hg).1
  | false =>
    cases hh : hdOk x with
    | false => rfl
    | true =>
      exfalso
      simp only [hdOk, Bool.and_eq_true, Bool.not_eq_true', decide_eq_false_iff_not, Bool.or_eq_true, decide_eq_true_eq] at hh
      obtain ⟨⟨⟨h1, h2⟩, h3⟩, h4⟩ := hh
      have hS : sealN (x % 4294967296) = x := by simpa [isS] using h1
      have hy : x % 4294967296 = hdX (hC x) (hO x) (gX x) := by
        unfold hdX
        rcases h4 with ⟨a, b⟩ | h
        · rw [if_neg (by omega)]
          unfold hC at a; unfold hO at b; unfold sX at h2; unfold gX
          omega
        · simp only [fmtB, Bool.and_eq_true, decide_eq_true_eq] at h
          rw [if_pos h.1.1.1]
          unfold sX at h2
          unfold hC hO gX
          omega
      rw [hy] at hS
      have hr : rightB (hC x) (hO x) (gX x) = true := by
        rcases h4 with ⟨a, b⟩ | h
        · have a' : hC x = -1 := by omega
          have b' : hO x = -1 := by omega
          simp [rightB, h3, a', b']
        · simp [rightB, h3, h]
      rw [hr, ← hS] at hb
      simp only [Bool.true_and, decide_eq_false_iff_not] at hb
      apply hb
      rw [hS]; exact hS.symm
theorem k_rLook (x : Nat) (hx : x < 18446744073709551616) (K : K1) (hK : ∀ w', Ext w w' → K (.tuple #[.agg #[.int .i64 (hC x), .int .i64 (hO x), .int .u16 (gX x : Int)], .bool (hdOk x)]) w') : callS Tryz.prog 29 #[.int .u64 (x : Int)] w K := by
  have e1 : ((x / 2 ^ 16 % 16 : Nat) : Int) - 1 = hC x := rfl
  have e2 : ((x / 2 ^ 20 % 16 : Nat) : Int) - 1 = hO x := rfl
  have e3 : x % 65536 = gX x := rfl
  have hg : gX x < 65536 := by unfold gX; omega
  rw [rl_eq x hx] at hK
  have hr : ∀ (w2 : World) (K : K1), callS Tryz.prog 18 #[.agg #[.int .i64 (hC x), .int .i64 (hO x), .int .u16 (gX x : Int)]] w2 K = K (.bool (rightB (hC x) (hO x) (gX x))) (w2.alloc (rhO (hC x) (hO x) (gX x))) := fun w2 K => c_rRight _ _ _ w2 K
  have hf : rightB (hC x) (hO x) (gX x) = true → ∀ (w2 : World) (K : K1), callS Tryz.prog 16 #[.agg #[.int .i64 (hC x), .int .i64 (hO x), .int .u16 (gX x : Int)]] w2 K = K (.int .u64 ((sealN (hdX (hC x) (hO x) (gX x)) : Nat) : Int)) (w2.alloc (rhO (hC x) (hO x) (gX x))) := fun h w2 K => by
    refine c_rFirst _ _ _ w2 K hg ?_
    simp only [rightB, fmtB, Bool.and_eq_true, Bool.not_eq_true', decide_eq_false_iff_not, Bool.or_eq_true, decide_eq_true_eq] at h
    rcases h.2 with h | h
    · exact .inl h
    · exact .inr ⟨h.1.1.1, h.1.1.2, h.1.2, h.2⟩
  have b1 : -1 ≤ hC x ∧ hC x ≤ 14 := by unfold hC; omega
  have b2 : -1 ≤ hO x ∧ hO x ≤ 14 := by unfold hO; omega
  refine f29_call _ _ _ ?_
  unfold f29_t
  generalize hC x = cc at *
  generalize hO x = oo at *
  generalize gX x = gg at *
  cases hrb : rightB cc oo gg with
  | false =>
    rw [hrb] at hr hK
    rw [Bool.false_and] at hK
    (repeat' (first | (with_reducible refine brS_mk (fun _ => ?_) (fun _ => ?_)) | (with_reducible refine And.intro ?_ ?_) | (simp (disch := first | omega | simp only [RO] | (simp only [RZ] <;> omega) | (with_reducible (repeat (first | assumption | exact Ext.refl _ | refine Ext.alloc ?_ _ | refine Ext.drew ?_ | refine Ext.trans ?_ (by assumption)))) | fail) only [↓RBp, ↓RA, ↓reduceIte, Nat.reduceAdd, Nat.reduceMul, Nat.reduceEqDiff, RB, RBr, RW, RS, RA2, e1, e2, e3, hr])))
    exact hK _ (by repeat (first | with_reducible refine Ext.setB ?_ (by omega) _ | with_reducible refine Ext.setB ?_ (by simp only [RZ] <;> omega) _ | with_reducible assumption | exact Ext.refl _ | with_reducible refine Ext.alloc ?_ _ | with_reducible refine Ext.drew ?_ | with_reducible refine Ext.trans ?_ (by assumption)))
  | true =>
    have hf := hf hrb
    rw [hrb] at hr hK
    rw [Bool.true_and] at hK
    (repeat' (first | (with_reducible refine brS_mk (fun _ => ?_) (fun _ => ?_)) | (with_reducible refine And.intro ?_ ?_) | (simp (disch := first | omega | simp only [RO] | (simp only [RZ] <;> omega) | (with_reducible (repeat (first | assumption | exact Ext.refl _ | refine Ext.alloc ?_ _ | refine Ext.drew ?_ | refine Ext.trans ?_ (by assumption)))) | fail) only [↓RBp, ↓RA, ↓reduceIte, Nat.reduceAdd, Nat.reduceMul, Nat.reduceEqDiff, RB, RBr, RW, RS, RA2, e1, e2, e3, hr, hf])))
    exact hK _ (by repeat (first | with_reducible refine Ext.setB ?_ (by omega) _ | with_reducible refine Ext.setB ?_ (by simp only [RZ] <;> omega) _ | with_reducible assumption | exact Ext.refl _ | with_reducible refine Ext.alloc ?_ _ | with_reducible refine Ext.drew ?_ | with_reducible refine Ext.trans ?_ (by assumption)))
end
end Go.Proofs.YtaeopkhdokaaoaaGreatDoor
namespace Go.Proofs.YtaeopkhdokaaoaaGreatDoor
open Go Go.Sh
set_option maxRecDepth 100000
set_option maxHeartbeats 4000000
set_option linter.unusedSimpArgs false
set_option linter.unusedVariables false
section
variable {w w' : World} {D : DS} {l b ob cap : Nat} {c o : Int}
theorem okP_iff (x : Nat) : okP x = true ↔ isS x = true ∧ goodB (bG x) (bK x) (bS x) = true := by
  unfold okP bG bK bS
  cases h : isS x with
  | true => simp
  | false => simp
theorem bS_of {x : Nat} (h : isS x = true) : bS x = sX x := by unfold bS; rw [if_pos h]
theorem Snd.bl (h : Snd D l c o) {i : Nat} (hi : (i : Int) < perS c) : okP (wd D l (offN c i)) = true ∧ (bitB (wd D l 1) i = !decide (sX (wd D l (offN c i)) = 176)) := by
  have h1 := h.sl i hi
  refine ⟨(okP_iff _).2 ⟨h1, h.gd i hi⟩, ?_⟩
  by_cases h6 : i < 64
  · rw [h.bit i h6, decide_eq_true hi, bS_of h1]; rfl
  · have : perS c ≤ 62 := by
      by_cases hc : 0 ≤ c ∧ c < 5
      · exact (perS_in hc.1 hc.2).2.2
      · unfold perS; rw [wordsS_out hc]; simp
    omega
theorem hi_bits {x n : Nat} (hx : x < 18446744073709551616) : x / 2 ^ n = 0 ↔ ∀ i, n ≤ i → i < 64 → bitB x i = false := by
  constructor
  · intro h i hi _
    have hlt : x < 2 ^ n := by
      rcases (Nat.div_eq_zero_iff).1 h with h | h
      · have := Nat.pow_pos (n := n) (show 0 < 2 by omega); omega
      · exact h
    rw [bit_tb]
    exact Nat.testBit_lt_two_pow (Nat.lt_of_lt_of_le hlt (Nat.pow_le_pow_right (by omega) hi))
  · intro h
    apply Nat.eq_of_testBit_eq
    intro i
    rw [Nat.testBit_div_two_pow, Nat.zero_testBit]
    by_cases h6 : i + n < 64
    · rw [← bit_tb]; exact h _ (by omega) h6
    · have p : 2 ^ 64 ≤ 2 ^ (i + n) := Nat.pow_le_pow_right (by omega) (by omega)
      exact Nat.testBit_lt_two_pow (Nat.lt_of_lt_of_le hx (by simpa using p))
theorem snd_iff (c0 : 0 ≤ c) (c5 : c < 5) (h1 : wd D l 1 < 18446744073709551616) : Snd D l c o ↔ (hdOk (wd D l 0) = true ∧ hC (wd D l 0) = c ∧ hO (wd D l 0) = o) ∧ (∀ j, 2 ≤ j → j < 8 → wd D l j = 0) ∧ (∀ i : Nat, (i : Int) < perS c → okP (wd D l (offN c i)) = true ∧ (bitB (wd D l 1) i = !decide (sX (wd D l (offN c i)) = 176))) ∧ wd D l 1 / 2 ^ (perS c).toNat = 0 := by
  have hp := perS_in c0 c5
  constructor
  · intro h
    refine ⟨⟨h.hd, h.hc, h.ho⟩, h.zer, fun i hi => h.bl hi, (hi_bits h1).2 (fun i hi h6 => ?_)⟩
    rw [h.bit i h6, decide_eq_false (by omega), Bool.false_and]
  · intro ⟨⟨a, b', d⟩, z, bl, hz⟩
    refine ⟨a, b', d, z, fun i hi => ((okP_iff _).1 (bl i hi).1).1, fun i hi => ((okP_iff _).1 (bl i hi).1).2, fun i h6 => ?_⟩
    by_cases hi : (i : Int) < perS c
    · rw [decide_eq_true hi, (bl i hi).2, bS_of ((okP_iff _).1 (bl i hi).1).1]; rfl
    · rw [decide_eq_false hi, Bool.false_and]
      exact (hi_bits h1).1 hz i (by omega) h6
theorem zerN_iff : ∀ (n : Nat), zerN D l n = true ↔ ∀ i, i < n → wd D l (i + 2) = 0 := by
  intro n
  constructor
  · intro h i hi
    by_cases h0 : wd D l (i + 2) = 0
    · exact h0
    · rw [zerN_no hi h0] at h; cases h
  · exact zerN_all n
theorem gdN_iff (n : Nat) : gdN D l c n = true ↔ ∀ i, i < n → okP (wd D l (offN c i)) = true := by
  constructor
  · intro h i hi
    rw [okP_iff]
    cases hh : (isS (wd D l (offN c i)) && goodB (bG (wd D l (offN c i))) (bK (wd D l (offN c i))) (bS (wd D l (offN c i)))) with
    | true => simpa using hh
    | false => rw [gdN_no hi hh] at h; cases h
  · intro h
    exact gdN_all n (fun i hi => (okP_iff _).1 (h i hi))
theorem con_iff (hg : Good D) (hl : l + 32 ≤ D.n) (c0 : 0 ≤ c) (c5 : c < 5) : conB D l c o = true ↔ Snd D l c o := by
  constructor
  · intro h
    have hw : wd D l 1 < 18446744073709551616 := by unfold wd; exact hg.cur _ (by omega)
    have hp := perS_in c0 c5
    unfold conB at h
    simp only [Bool.and_eq_true, decide_eq_true_eq] at h
    obtain ⟨a, b', d, z, gd, e⟩ := h
    rw [gdN_iff] at gd
    rw [zerN_iff] at z
    refine (snd_iff c0 c5 hw).2 ⟨⟨a, b', d⟩, fun j h2 h8 => ?_, fun i hi => ⟨gd i (by omega), ?_⟩, (hi_bits hw).2 (fun i hi h6 => ?_)⟩
    · have := z (j - 2) (by omega)
      rwa [show j - 2 + 2 = j by omega] at this
    · rw [e, bit_mskN, decide_eq_true (by omega), bS_of ((okP_iff _).1 (gd i (by omega))).1]; rfl
    · rw [e, bit_mskN, decide_eq_false (by omega), Bool.false_and]
  · intro h; exact h.con hg hl c0 c5
theorem k_rCheck (hW : Wm w b ob (wd D l)) (hWl : ∀ j, j < 256 → wd D l j < 18446744073709551616) (c0 : 0 ≤ c) (c5 : c < 5) (K : K1) (hy : Snd D l c o → ∀ w', Ext w w' → K (.int .i64 0) w') (hn : ¬ Snd D l c o → ∀ w', Ext w w' → K (.int .i64 11) w') :
    callS Tryz.prog 54 #[wsV b ob cap, .int .i64 c, .int .i64 o] w K := by
  rw [snd_iff c0 c5 (hWl 1 (by omega))] at hy hn
  have hp := perS_in c0 c5
  obtain ⟨n, hnn⟩ : ∃ n : Nat, perS c = (n : Int) := ⟨(perS c).toNat, by omega⟩
  rw [hnn, Int.toNat_natCast] at hy hn
  refine f54_call _ _ _ _ _ ?_
  unfold f54_t
  have x0 := hWl 0 (by omega)
  have cc0 : w.cell? ⟨b, ob, none⟩ = some (u64 (wd D l 0)) := hW.cell (i := 0) (by omega)
  have hlo : ∀ j, j < 8 → wd D l j < 18446744073709551616 := fun j hj => hWl j (by omega)
  simp (disch := first | omega | simp only [RO] | (simp only [RZ] <;> omega) | fail) only [↓RBp, ↓RA, ↓reduceIte, Nat.reduceAdd, Nat.reduceMul, Nat.reduceEqDiff, RB, RBr, RW, RS, RA2, cc0, Int.reduceToNat, Nat.add_zero]
  refine k_rLook (wd D l 0) x0 _ (fun w1 e1 => ?_)
  have hfin : ∀ w2, Ext w w2 → (hdOk (wd D l 0) = true ∧ hC (wd D l 0) = c ∧ hO (wd D l 0) = o) → f54_l1 K (wsV b ob cap) (.int .i64 c) (.int .i64 2) w2 := by
    intro w2 e2 hd
    apply f54_l1_rule (I := fun z w' => ∃ j : Nat, z = .int .i64 (j : Int) ∧ 2 ≤ j ∧ j ≤ 8 ∧ Ext w w' ∧ ∀ i, 2 ≤ i → i < j → wd D l i = 0) (μ := fun z _ => 8 - (Go.RowKit.intOf z).toNat)
    · exact ⟨2, rfl, by omega, by omega, e2, fun i _ _ => by omega⟩
    · intros; rename_i w3 hI E1 hE
      obtain ⟨j, rfl, hj2, hj8, e3, hz⟩ := hI
      by_cases hj : j < 8
      · have cj := e3.cell_some (hW.cell (i := j) (by omega))
        by_cases hx : wd D l j = 0
        · rw [hx] at cj
          unfold f54_l1_t
          simp (disch := first | omega | simp only [RO] | (simp only [RZ] <;> omega) | fail) only [↓RBp, ↓RA, ↓reduceIte, Nat.reduceAdd, Nat.reduceMul, Nat.reduceEqDiff, RB, RBr, RW, RS, RA2, cj]
          apply hE
          · exact ⟨j + 1, by simp, by omega, by omega, (by repeat (first | with_reducible refine Ext.setB ?_ (by omega) _ | with_reducible refine Ext.setB ?_ (by simp only [RZ] <;> omega) _ | with_reducible assumption | exact Ext.refl _ | with_reducible refine Ext.alloc ?_ _ | with_reducible refine Ext.drew ?_ | with_reducible refine Ext.trans ?_ (by assumption))), fun i h2 hi => by
              by_cases e : i = j
              · subst e; exact hx
              · exact hz i h2 (by omega)⟩
          · simp [Go.RowKit.intOf]; omega
        · have hxl := hWl j (by omega)
          have hno := hn (fun h => hx (h.2.1 j hj2 hj))
          generalize wd D l j = x at cj hx hxl
          unfold f54_l1_t
          simp (disch := first | omega | simp only [RO] | (simp only [RZ] <;> omega) | fail) only [↓RBp, ↓RA, ↓reduceIte, Nat.reduceAdd, Nat.reduceMul, Nat.reduceEqDiff, RB, RBr, RW, RS, RA2, cj]
          exact hno _ e3
      · have hj8 : j = 8 := by omega
        subst hj8
        unfold f54_l1_t
        simp (disch := first | omega | simp only [RO] | (simp only [RZ] <;> omega) | fail) only [↓RBp, ↓RA, ↓reduceIte, Nat.reduceAdd, Nat.reduceMul, Nat.reduceEqDiff, RB, RBr, RW, RS, RA2, f54_k1_eq, f54_k1_t, c_rPer, hnn]
        apply f54_l2_rule (I := fun z w' => ∃ j : Nat, z = .int .i64 (j : Int) ∧ j ≤ n ∧ Ext w w' ∧ ∀ i, i < j → okP (wd D l (offN c i)) = true ∧ (bitB (wd D l 1) i = !decide (sX (wd D l (offN c i)) = 176))) (μ := fun z _ => n - (Go.RowKit.intOf z).toNat)
        · exact ⟨0, rfl, by omega, e3, fun i hi => by omega⟩
        · intros; rename_i w4 hI E2 hE2
          obtain ⟨j, rfl, hjn, e4, hbl⟩ := hI
          by_cases hj : j < n
          · have bd := offN_bd c0 c5 (i := j) (by omega)
            have hro : ∀ (w : World) (K : K1), callS Tryz.prog 20 #[.int .i64 c, .int .i64 (j : Int)] w K = K (.int .i64 (offN c j : Int)) w := fun w K => by rw [c_rOff c j w K (by omega) (by omega), bd.1]
            have hxl := hWl _ bd.2.2
            have cx := e4.cell_some (hW.cell bd.2.2)
            have rp := fun (w : World) (K : K1) => c_rParts (wd D l (offN c j)) w K hxl
            have rb : ∀ (w5 : World) (K : K1), Ext w w5 → callS Tryz.prog 42 #[wsV b ob cap, .int .i64 (j : Int)] w5 K = K (.bool (bitB (wd D l 1) j)) w5 := fun w5 K e5 => c_rBit (hW.ext e5) (hWl 1 (by omega)) j (by omega) K
            have hno : ¬ (okP (wd D l (offN c j)) = true ∧ (bitB (wd D l 1) j = !decide (sX (wd D l (offN c j)) = 176))) → ∀ w', Ext w w' → K (.int .i64 11) w' := fun hh => hn (fun h => hh (h.2.2.1 j (by omega)))
            have hyes : (okP (wd D l (offN c j)) = true ∧ (bitB (wd D l 1) j = !decide (sX (wd D l (offN c j)) = 176))) → ∀ i, i < j + 1 → okP (wd D l (offN c i)) = true ∧ (bitB (wd D l 1) i = !decide (sX (wd D l (offN c i)) = 176)) := fun hh i hi => by
              by_cases e : i = j
              · subst e; exact hh
              · exact hbl i (by omega)
            generalize okP (wd D l (offN c j)) = ok at *
            generalize bitB (wd D l 1) j = bt at *
            have hs3 : sX (wd D l (offN c j)) < 256 := by unfold sX; omega
            generalize sX (wd D l (offN c j)) = ss at *
            generalize gX (wd D l (offN c j)) = gg at *
            generalize kX (wd D l (offN c j)) = kk at *
            generalize wd D l (offN c j) = x at *
            generalize offN c j = q at *
            unfold f54_l2_t
            cases ok with
            | false =>
              simp (disch := first | omega | simp only [RO] | (simp only [RZ] <;> omega) | fail) only [↓RBp, ↓RA, ↓reduceIte, Nat.reduceAdd, Nat.reduceMul, Nat.reduceEqDiff, RB, RBr, RW, RS, RA2, hro, cx, rp]
              exact hno (by simp) _ e4
            | true =>
              by_cases h176 : ss = 176
              · subst h176
                cases bt with
                | false =>
                  simp (disch := first | omega | simp only [RO] | (simp only [RZ] <;> omega) | (with_reducible (repeat (first | assumption | exact Ext.refl _ | refine Ext.alloc ?_ _ | refine Ext.drew ?_ | refine Ext.trans ?_ (by assumption)))) | fail) only [↓RBp, ↓RA, ↓reduceIte, Nat.reduceAdd, Nat.reduceMul, Nat.reduceEqDiff, RB, RBr, RW, RS, RA2, hro, cx, rp, rb, bq1, bq2, bq3, bq4]
                  apply hE2
                  · exact ⟨j + 1, by simp, by omega, e4, hyes (by simp)⟩
                  · simp [Go.RowKit.intOf]; omega
                | true =>
                  simp (disch := first | omega | simp only [RO] | (simp only [RZ] <;> omega) | (with_reducible (repeat (first | assumption | exact Ext.refl _ | refine Ext.alloc ?_ _ | refine Ext.drew ?_ | refine Ext.trans ?_ (by assumption)))) | fail) only [↓RBp, ↓RA, ↓reduceIte, Nat.reduceAdd, Nat.reduceMul, Nat.reduceEqDiff, RB, RBr, RW, RS, RA2, hro, cx, rp, rb, bq1, bq2, bq3, bq4]
                  exact hno (by simp) _ e4
              · cases bt with
                | false =>
                  simp (disch := first | omega | simp only [RO] | (simp only [RZ] <;> omega) | (with_reducible (repeat (first | assumption | exact Ext.refl _ | refine Ext.alloc ?_ _ | refine Ext.drew ?_ | refine Ext.trans ?_ (by assumption)))) | fail) only [↓RBp, ↓RA, ↓reduceIte, Nat.reduceAdd, Nat.reduceMul, Nat.reduceEqDiff, RB, RBr, RW, RS, RA2, hro, cx, rp, rb, h176, bq1, bq2, bq3, bq4]
                  exact hno (by simp [h176]) _ e4
                | true =>
                  simp (disch := first | omega | simp only [RO] | (simp only [RZ] <;> omega) | (with_reducible (repeat (first | assumption | exact Ext.refl _ | refine Ext.alloc ?_ _ | refine Ext.drew ?_ | refine Ext.trans ?_ (by assumption)))) | fail) only [↓RBp, ↓RA, ↓reduceIte, Nat.reduceAdd, Nat.reduceMul, Nat.reduceEqDiff, RB, RBr, RW, RS, RA2, hro, cx, rp, rb, h176, bq1, bq2, bq3, bq4]
                  apply hE2
                  · exact ⟨j + 1, by simp, by omega, e4, hyes (by simp [h176])⟩
                  · simp [Go.RowKit.intOf]; omega
          · have hjn' : j = n := by omega
            subst hjn'
            have c1 := e4.cell_some (hW.cell (i := 1) (by omega))
            have hmin : min j 64 = j := by omega
            by_cases h1 : wd D l 1 / 2 ^ j = 0
            · have hyy := hy ⟨hd, fun i h2 h8 => hz i h2 (by omega), fun i hi => hbl i (by omega), h1⟩
              have x1 := hWl 1 (by omega)
              generalize wd D l 1 = x at *
              unfold f54_l2_t
              simp (disch := first | omega | simp only [RO] | (simp only [RZ] <;> omega) | fail) only [↓RBp, ↓RA, ↓reduceIte, Nat.reduceAdd, Nat.reduceMul, Nat.reduceEqDiff, RB, RBr, RW, RS, RA2, f54_k2_eq, f54_k2_t, c1, Int.reduceToNat, Int.toNat_natCast, h1]
              exact hyy _ e4
            · have hnn2 := hn (fun h => h1 h.2.2.2)
              have x1 := hWl 1 (by omega)
              have hxl : wd D l 1 / 2 ^ j < 18446744073709551616 := Nat.lt_of_le_of_lt (Nat.div_le_self _ _) x1
              generalize hxx : wd D l 1 = x at *
              generalize hyy : x / 2 ^ j = y at *
              unfold f54_l2_t
              simp (disch := first | omega | simp only [RO] | (simp only [RZ] <;> omega) | fail) only [↓RBp, ↓RA, ↓reduceIte, Nat.reduceAdd, Nat.reduceMul, Nat.reduceEqDiff, RB, RBr, RW, RS, RA2, f54_k2_eq, f54_k2_t, c1, Int.reduceToNat, Int.toNat_natCast, hyy, h1]
              exact hnn2 _ e4
  by_cases h1 : hdOk (wd D l 0) = true
  · by_cases h2 : hC (wd D l 0) = c
    · by_cases h3 : hO (wd D l 0) = o
      · have := fun w2 e2 => hfin w2 e2 ⟨h1, h2, h3⟩
        rw [h1, h2, h3]
        simp (disch := first | omega | simp only [RO] | (simp only [RZ] <;> omega) | fail) only [↓RBp, ↓RA, ↓reduceIte, Nat.reduceAdd, Nat.reduceMul, Nat.reduceEqDiff, RB, RBr, RW, RS, RA2]
        exact this _ (by repeat (first | with_reducible refine Ext.setB ?_ (by omega) _ | with_reducible refine Ext.setB ?_ (by simp only [RZ] <;> omega) _ | with_reducible assumption | exact Ext.refl _ | with_reducible refine Ext.alloc ?_ _ | with_reducible refine Ext.drew ?_ | with_reducible refine Ext.trans ?_ (by assumption)))
      · have := hn (fun h => h3 h.1.2.2)
        rw [h1, h2]
        generalize hO (wd D l 0) = y at *
        generalize wd D l 0 = x at *
        simp (disch := first | omega | simp only [RO] | (simp only [RZ] <;> omega) | fail) only [↓RBp, ↓RA, ↓reduceIte, Nat.reduceAdd, Nat.reduceMul, Nat.reduceEqDiff, RB, RBr, RW, RS, RA2, h3]
        exact this _ (by repeat (first | with_reducible refine Ext.setB ?_ (by omega) _ | with_reducible refine Ext.setB ?_ (by simp only [RZ] <;> omega) _ | with_reducible assumption | exact Ext.refl _ | with_reducible refine Ext.alloc ?_ _ | with_reducible refine Ext.drew ?_ | with_reducible refine Ext.trans ?_ (by assumption)))
    · have := hn (fun h => h2 h.1.2.1)
      rw [h1]
      generalize hO (wd D l 0) = y at *
      generalize hC (wd D l 0) = z at *
      generalize wd D l 0 = x at *
      simp (disch := first | omega | simp only [RO] | (simp only [RZ] <;> omega) | fail) only [↓RBp, ↓RA, ↓reduceIte, Nat.reduceAdd, Nat.reduceMul, Nat.reduceEqDiff, RB, RBr, RW, RS, RA2, h2]
      exact this _ (by repeat (first | with_reducible refine Ext.setB ?_ (by omega) _ | with_reducible refine Ext.setB ?_ (by simp only [RZ] <;> omega) _ | with_reducible assumption | exact Ext.refl _ | with_reducible refine Ext.alloc ?_ _ | with_reducible refine Ext.drew ?_ | with_reducible refine Ext.trans ?_ (by assumption)))
  · have := hn (fun h => h1 h.1.1)
    have hf : hdOk (wd D l 0) = false := by simpa using h1
    rw [hf]
    simp (disch := first | omega | simp only [RO] | (simp only [RZ] <;> omega) | fail) only [↓RBp, ↓RA, ↓reduceIte, Nat.reduceAdd, Nat.reduceMul, Nat.reduceEqDiff, RB, RBr, RW, RS, RA2]
    exact this _ (by repeat (first | with_reducible refine Ext.setB ?_ (by omega) _ | with_reducible refine Ext.setB ?_ (by simp only [RZ] <;> omega) _ | with_reducible assumption | exact Ext.refl _ | with_reducible refine Ext.alloc ?_ _ | with_reducible refine Ext.drew ?_ | with_reducible refine Ext.trans ?_ (by assumption)))
end
end Go.Proofs.YtaeopkhdokaaoaaGreatDoor
namespace Go.Proofs.YtaeopkhdokaaoaaGreatDoor
open Go Go.Sh
set_option linter.unusedSimpArgs false
set_option linter.unusedVariables false
section
variable {D D' : DS} {l : Nat} {c o : Int}
theorem Snd.congr (h : Snd D l c o) (c0 : 0 ≤ c) (c5 : c < 5) (hw : ∀ i, i < 256 → wd D' l i = wd D l i) : Snd D' l c o := by
  have ho : ∀ i : Nat, (i : Int) < perS c → wd D' l (offN c i) = wd D l (offN c i) := fun i hi => hw _ (offN_bd c0 c5 hi).2.2
  refine ⟨by rw [hw 0 (by omega)]; exact h.hd, by rw [hw 0 (by omega)]; exact h.hc, by rw [hw 0 (by omega)]; exact h.ho, fun j h2 h8 => by rw [hw j (by omega)]; exact h.zer j h2 h8, fun i hi => by rw [ho i hi]; exact h.sl i hi, fun i hi => by rw [ho i hi]; exact h.gd i hi, fun i h6 => ?_⟩
  rw [hw 1 (by omega), h.bit i h6]
  by_cases hi : (i : Int) < perS c
  · rw [ho i hi]
  · rw [decide_eq_false hi, Bool.false_and, Bool.false_and]
def buW (l : Nat) (W : Nat → Nat) (P t n : Nat) : List (Nat × Nat) := (List.range n).map fun k => (64 * l + 8 * (t + k), qW W P k)
theorem buW_wd (on : On D) (t n P : Nat) (hl : l + 32 ≤ D.n) (ht : t + n ≤ 256) : ∀ i, i < 256 → wd (D.strs (buW l (fun k => wd D l (t + k)) P t n)) l i = if t ≤ i ∧ i < t + n then qW (fun k => wd D l (t + k)) P (i - t) else wd D l i := by
  intro i hi
  have hv : ∀ x ∈ buW l (fun k => wd D l (t + k)) P t n, x.1 % 8 = 0 ∧ x.1 < D.n * 64 := by
    intro x hx
    obtain ⟨k, hk, rfl⟩ := List.mem_map.1 hx
    rw [List.mem_range] at hk
    simp only; omega
  have hc := (strs_on on hv).2
  have : wd (D.strs (buW l (fun k => wd D l (t + k)) P t n)) l i = applyH (buW l (fun k => wd D l (t + k)) P t n) D.cur (l * 8 + i) := by
    rw [← hc]; unfold wd; rfl
  rw [this]
  split
  · rename_i h
    refine applyH_val (fun y hy hyi => ?_) (.inl ⟨(64 * l + 8 * (t + (i - t)), qW (fun k => wd D l (t + k)) P (i - t)), List.mem_map.2 ⟨i - t, List.mem_range.2 (by omega), rfl⟩, by simp only; omega⟩)
    obtain ⟨k, hk, rfl⟩ := List.mem_map.1 hy
    simp only at hyi
    have : k = i - t := by omega
    rw [this]
  · rename_i h
    rw [applyH_other _ _ _ (fun y hy => by
      obtain ⟨k, hk, rfl⟩ := List.mem_map.1 hy
      rw [List.mem_range] at hk
      simp only; omega)]
    unfold wd; rfl
theorem qW_same (W : Nat → Nat) (P k : Nat) (h : P / 2 ^ (64 * k) % 18446744073709551616 = 0) : qW W P k = W k := by unfold qW; rw [h, Nat.xor_zero]
theorem qW_eq {W : Nat → Nat} {P k : Nat} (h : qW W P k = W k) : P / 2 ^ (64 * k) % 18446744073709551616 = 0 := by
  unfold qW at h
  exact xor_cancel (W k) _ _ (by rw [h, Nat.xor_zero])
theorem isS_of_hd {x : Nat} (h : hdOk x = true) : isS x = true := by
  unfold hdOk at h
  simp only [Bool.and_eq_true] at h
  exact h.1.1.1
theorem qW_sealed {W : Nat → Nat} {pat bit : Nat} (hp : pat < 4294967296) (h : isS (W 0) = true) (h' : isS (qW W (pat * 2 ^ bit) 0) = true) : pat * 2 ^ bit / 2 ^ (64 * 0) % 18446744073709551616 = 0 := by
  unfold isS at h h'
  rw [decide_eq_true_eq] at h h'
  unfold qW at h'
  exact seal_burst h h' pat bit hp (by simp)
theorem burst_head (h : Snd D l c o) (c0 : 0 ≤ c) (c5 : c < 5) (hb : wd D l 1 < 18446744073709551616) (hb' : wd D' l 1 < 18446744073709551616) (pat bit : Nat) (hp : pat < 4294967296)
    (hw : ∀ i, i < 256 → wd D' l i = if 0 ≤ i ∧ i < 0 + 8 then qW (fun k => wd D l (0 + k)) (pat * 2 ^ bit) (i - 0) else wd D l i) :
    Snd D' l c o ↔ ∀ k, k < 8 → pat * 2 ^ bit / 2 ^ (64 * k) % 18446744073709551616 = 0 := by
  have lo : ∀ k, k < 8 → wd D' l k = qW (fun k => wd D l (0 + k)) (pat * 2 ^ bit) k := fun k hk => by rw [hw k (by omega), if_pos (by omega), Nat.sub_zero]
  have hg : ∀ i : Nat, (i : Int) < perS c → wd D' l (offN c i) = wd D l (offN c i) := fun i hi => by
    have bd := offN_bd c0 c5 hi
    rw [hw _ bd.2.2, if_neg (by omega)]
  constructor
  · intro h' k hk
    by_cases k0 : k = 0
    · subst k0
      have s1 := isS_of_hd h.hd
      have s2 := isS_of_hd h'.hd
      rw [lo 0 (by omega)] at s2
      exact qW_sealed (W := fun k => wd D l (0 + k)) hp s1 s2
    · apply qW_eq (W := fun k => wd D l (0 + k))
      rw [← lo k hk]
      show wd D' l k = wd D l (0 + k)
      rw [Nat.zero_add]
      by_cases k1 : k = 1
      · subst k1
        refine eq_of_bits hb' hb (fun i h6 => ?_)
        rw [h.bit i h6, h'.bit i h6]
        by_cases hi : (i : Int) < perS c
        · rw [hg i hi]
        · rw [decide_eq_false hi, Bool.false_and, Bool.false_and]
      · rw [h.zer k (by omega) hk, h'.zer k (by omega) hk]
  · intro hz
    refine h.congr c0 c5 (fun i hi => ?_)
    by_cases h8 : i < 8
    · rw [lo i h8, qW_same _ _ _ (hz i h8), Nat.zero_add]
    · rw [hw i hi, if_neg (by omega)]
theorem burst_block (h : Snd D l c o) (c0 : 0 ≤ c) (c5 : c < 5) {j : Nat} (hj : (j : Int) < perS c) (pat bit : Nat) (hp : pat < 4294967296)
    (hw : ∀ i, i < 256 → wd D' l i = if offN c j ≤ i ∧ i < offN c j + 1 then qW (fun k => wd D l (offN c j + k)) (pat * 2 ^ bit) (i - offN c j) else wd D l i) :
    Snd D' l c o ↔ ∀ k, k < 1 → pat * 2 ^ bit / 2 ^ (64 * k) % 18446744073709551616 = 0 := by
  have bd := offN_bd c0 c5 hj
  have hx : wd D' l (offN c j) = qW (fun k => wd D l (offN c j + k)) (pat * 2 ^ bit) 0 := by rw [hw _ bd.2.2, if_pos (by omega), Nat.sub_self]
  constructor
  · intro h' k hk
    obtain rfl : k = 0 := by omega
    have s1 := h.sl j hj
    have s2 := h'.sl j hj
    rw [hx] at s2
    exact qW_sealed (W := fun k => wd D l (offN c j + k)) hp s1 s2
  · intro hz
    refine h.congr c0 c5 (fun i hi => ?_)
    by_cases e : i = offN c j
    · subst e; rw [hx, qW_same _ _ _ (hz 0 (by omega)), Nat.add_zero]
    · rw [hw i hi, if_neg (by omega)]
theorem byL_eq {f g : Nat → Nat} {n : Nat} : (List.range n).map f = (List.range n).map g ↔ ∀ i, i < n → f i = g i := by
  rw [List.map_inj_left]
  simp [List.mem_range]
theorem bytes_same {W : Nat → Nat} {P n : Nat} (hW : ∀ k, k < n → W k < 18446744073709551616) : (List.range (8 * n)).map (wB W) = (List.range (8 * n)).map (qB W P) ↔ ∀ k, k < n → P / 2 ^ (64 * k) % 18446744073709551616 = 0 := by
  rw [byL_eq]
  constructor
  · intro h k hk
    exact qW_all (hW k hk) (fun j hj => (h (8 * k + j) (by omega)).symm)
  · intro h i hi
    have h1 := h (i / 8) (by omega)
    have e : i = 8 * (i / 8) + i % 8 := by omega
    unfold qB
    have : pB P i = 0 := by
      rw [e, pB_word P (i / 8) (i % 8) (by omega), h1]; simp
    rw [this, Nat.xor_zero]
end
end Go.Proofs.YtaeopkhdokaaoaaGreatDoor
namespace Go.Proofs.YtaeopkhdokaaoaaGreatDoor
open Go Go.Sh
set_option maxRecDepth 100000
set_option maxHeartbeats 4000000
set_option linter.unusedSimpArgs false
set_option linter.unusedVariables false
section
variable {w0 w w' : World} {Y Y' : Lay} {D D' : DS} {B l k : Nat} {c o : Int} {g : Nat} {K : K1} {E1 : VP1}
theorem bu_l3 (h : Loc w0 w Y D B l c o g) {A fa fb fc fg T : Nat} (hT : Y.tb 0 = T) (hfa : fa < 256) (hl : fa % 9 = l) (hfm : fmC w A fa fb fc fg) (t n : Nat) (ht : t + n ≤ 256) (hn8 : n ≤ 8) (x5 x7 : Value)
    (H : ∀ v w', Ext w w' → SlO w' 5 1 v (8 * n) (byL (wB (fun k => wd D l (t + k))) (8 * n)) → NewV w.heap.size v → f6_k4 K (.pointer (some ⟨A, 0, none⟩)) x5 x7 (.pointer (some ⟨T, 0, none⟩)) (.int .i64 (t : Int)) (.int .i64 (n : Int)) v w') :
    f6_l3 K (.pointer (some ⟨A, 0, none⟩)) x5 x7 (.pointer (some ⟨T, 0, none⟩)) (.int .i64 (t : Int)) (.int .i64 (n : Int)) (.slice none 0 0) (.int .i64 (n : Int)) (.int .i64 0) w := by
  subst hT
  have hli := fun w1 K => c_fline fa fb fc fg hfa w1 K
  rw [hl] at hli
  have hl9 : l < 9 := by omega
  have hnn := h.L.gd.n
  have hlt := h.lt
  have ltA : A < w.heap.size := lt_of_cell hfm.1
  have ld : ∀ (k : Nat) (w1 : World) (K : K1), k < n → Ext w w1 → callS Tryz.prog 52 #[.pointer (some ⟨Y.tb 0, 0, none⟩), .int .u64 ((64 * l + 8 * (t + k) : Nat) : Int)] w1 K = K (.int .u64 (wd D l (t + k) : Int)) w1 := fun k w1 K hk e => by
    rw [c_Load (h.L.dv.ext e) h.L.gd 0 (by omega) h.on.off (64 * l + 8 * (t + k)) (by omega) (by omega) K, show (64 * l + 8 * (t + k)) / 8 = l * 8 + (t + k) by omega]; unfold wd; rfl
  have hWl : ∀ k, k < n → wd D l (t + k) < 18446744073709551616 := fun k hk => by unfold wd; exact h.L.gd.cur _ (by omega)
  generalize hWW : (fun k => wd D l (t + k)) = W at H
  have hWk : ∀ k, wd D l (t + k) = W k := fun k => by rw [← hWW]
  simp only [hWk] at ld hWl
  apply f6_l3_rule (I := fun p z w' => ∃ k : Nat, z = .int .i64 (k : Int) ∧ k ≤ n ∧ SlO w' 5 1 p (8 * k) (byL (wB W) (8 * k)) ∧ Frm Nob w w' ∧ NewV w.heap.size p) (μ := fun _ z _ => n - (Go.RowKit.intOf z).toNat)
  · exact ⟨0, rfl, by omega, SlO.nil _ _ _, Frm.refl _ _, fun b hb => by cases hb⟩
  · intros; rename_i p z w1 hI E1 hE
    obtain ⟨k, rfl, hk, hs, hf, hnv⟩ := hI
    have e1 : Ext w w1 := hf.to_ext (fun _ _ h => h)
    by_cases hkn : k < n
    · have a0 := e1.cell_some hfm.1; have a1 := e1.cell_some hfm.2.1; have a2 := e1.cell_some hfm.2.2.1; have a3 := e1.cell_some hfm.2.2.2
      have ltA1 : A < w1.heap.size := Nat.lt_of_lt_of_le ltA e1.size
      have ldk := fun (w1 : World) (K : K1) (e : Ext w w1) => ld k w1 K hkn e
      have f1 : ((t : Int) + (k : Int)) = ((t + k : Nat) : Int) := by omega
      have hx := hWl k hkn
      have hbk : ∀ j, j < 8 → wB W (8 * k + j) = W k / 2 ^ (8 * j) % 256 := fun j hj => by unfold wB; rw [show (8 * k + j) / 8 = k by omega, show (8 * k + j) % 8 = j by omega]
      generalize W k = x at *
      unfold f6_l3_t
      simp (disch := first | omega | simp only [RO] | (simp only [RZ] <;> omega) | (with_reducible (repeat (first | assumption | exact Ext.refl _ | refine Ext.alloc ?_ _ | refine Ext.drew ?_ | refine Ext.trans ?_ (by assumption)))) | fail) only [↓RBp, ↓RA, ↓reduceIte, Nat.reduceAdd, Nat.reduceMul, Nat.reduceEqDiff, RB, RBr, RW, RS, RA2, a0, a1, a2, a3, hli, f1, ldk]
      apply f6_l5_rule (I := fun p z w' => ∃ j : Nat, z = .int .i64 (j : Int) ∧ j ≤ 8 ∧ SlO w' 5 1 p (8 * k + j) (byL (wB W) (8 * k + j)) ∧ Frm Nob w w' ∧ NewV w.heap.size p) (μ := fun _ z _ => 8 - (Go.RowKit.intOf z).toNat)
      · exact ⟨0, rfl, by omega, hs.ext (by repeat (first | with_reducible refine Ext.setB ?_ (by omega) _ | with_reducible refine Ext.setB ?_ (by simp only [RZ] <;> omega) _ | with_reducible assumption | exact Ext.refl _ | with_reducible refine Ext.alloc ?_ _ | with_reducible refine Ext.drew ?_ | with_reducible refine Ext.trans ?_ (by assumption))), hf.ext (by repeat (first | with_reducible refine Ext.setB ?_ (by omega) _ | with_reducible refine Ext.setB ?_ (by simp only [RZ] <;> omega) _ | with_reducible assumption | exact Ext.refl _ | with_reducible refine Ext.alloc ?_ _ | with_reducible refine Ext.drew ?_ | with_reducible refine Ext.trans ?_ (by assumption))), hnv⟩
      · intros; rename_i p2 z2 w2 hI2 E2 hE2
        obtain ⟨j, rfl, hj, hs2, hf2, hnv2⟩ := hI2
        by_cases hj8 : j < 8
        · have f2 : (8 * (j : Int)) = ((8 * j : Nat) : Int) := by omega
          have hb := hbk j hj8
          obtain ⟨pa, pc, rfl, hpc⟩ := hs2.isS'
          have hdl : x / 2 ^ (8 * j) < 18446744073709551616 := Nat.lt_of_le_of_lt (Nat.div_le_self _ _) hx
          generalize hy : x / 2 ^ (8 * j) = y at *
          unfold f6_l5_t
          simp (disch := first | omega | simp only [RO] | (simp only [RZ] <;> omega) | fail) only [↓RBp, ↓RA, ↓reduceIte, Nat.reduceAdd, Nat.reduceMul, Nat.reduceEqDiff, RB, RBr, RW, RS, RA2, f2, Int.toNat_natCast, hy]
          refine app_new el_75_75 (w0 := w) (hs2.ext (by repeat (first | with_reducible refine Ext.setB ?_ (by omega) _ | with_reducible refine Ext.setB ?_ (by simp only [RZ] <;> omega) _ | with_reducible assumption | exact Ext.refl _ | with_reducible refine Ext.alloc ?_ _ | with_reducible refine Ext.drew ?_ | with_reducible refine Ext.trans ?_ (by assumption)))) (hf2.ext (by repeat (first | with_reducible refine Ext.setB ?_ (by omega) _ | with_reducible refine Ext.setB ?_ (by simp only [RZ] <;> omega) _ | with_reducible assumption | exact Ext.refl _ | with_reducible refine Ext.alloc ?_ _ | with_reducible refine Ext.drew ?_ | with_reducible refine Ext.trans ?_ (by assumption)))) hnv2 (m := 1) (news := [.int .u8 ((y % 256 : Nat) : Int)]) rfl ?_ rfl (by omega) (by omega) (by omega) (fun v' w4 hsp hf4 n4 hfr4 hb4 => ?_)
          · intro j u hj
            obtain ⟨rfl, rfl⟩ := one_get hj
            simp (disch := first | omega | simp only [RO] | (simp only [RZ] <;> omega) | fail) only [↓RBp, ↓RA, ↓reduceIte, Nat.reduceAdd, Nat.reduceMul, Nat.reduceEqDiff, RB, RBr, RW, RS, RA2]
          simp (disch := first | omega | simp only [RO] | (simp only [RZ] <;> omega) | fail) only [↓RBp, ↓RA, ↓reduceIte, Nat.reduceAdd, Nat.reduceMul, Nat.reduceEqDiff, RB, RBr, RW, RS, RA2]
          apply hE2
          · exact ⟨j + 1, by simp, by omega, by rw [← Nat.add_assoc, byL_snoc, hb]; exact hsp, hf4, n4⟩
          · simp [Go.RowKit.intOf]; omega
        · have : j = 8 := by omega
          subst this
          unfold f6_l5_t
          simp (disch := first | omega | simp only [RO] | (simp only [RZ] <;> omega) | fail) only [↓RBp, ↓RA, ↓reduceIte, Nat.reduceAdd, Nat.reduceMul, Nat.reduceEqDiff, RB, RBr, RW, RS, RA2, f6_k6_eq, f6_k6_t]
          apply hE
          · exact ⟨k + 1, by simp, by omega, hs2, hf2, hnv2⟩
          · simp [Go.RowKit.intOf]; omega
    · have : k = n := by omega
      subst this
      unfold f6_l3_t
      simp (disch := first | omega | simp only [RO] | (simp only [RZ] <;> omega) | fail) only [↓RBp, ↓RA, ↓reduceIte, Nat.reduceAdd, Nat.reduceMul, Nat.reduceEqDiff, RB, RBr, RW, RS, RA2]
      exact H _ _ e1 hs hnv
theorem bu_l4 (h : Loc w0 w Y D B l c o g) {A fa fb fc fg T : Nat} (hT : Y.tb 0 = T) (hfa : fa < 256) (hl : fa % 9 = l) (hfm : fmC w A fa fb fc fg) (hA0 : A < w0.heap.size) (t n P : Nat) (ht : t + n ≤ 256) (hn8 : n ≤ 8) (hx : D.exe < 1000000000) {q : Nat} (hq : Cells w q 5 (8 * n) (fun i => .int .u8 ((qB (fun k => wd D l (t + k)) P i : Nat) : Int))) (hqF : ¬ Y.F q) (x7 x18 : Value)
    (H : ∀ w' Y', Stp w Y w' Y' (D.strs (buW l (fun k => wd D l (t + k)) P t n)) → f6_k5 K (.pointer (some ⟨A, 0, none⟩)) x7 (.pointer (some ⟨T, 0, none⟩)) x18 (.slice (some ⟨q, 0, none⟩) (8 * n) (8 * n)) w') :
    f6_l4 K (.pointer (some ⟨A, 0, none⟩)) x7 (.pointer (some ⟨T, 0, none⟩)) (.int .i64 (t : Int)) x18 (.slice (some ⟨q, 0, none⟩) (8 * n) (8 * n)) (.int .i64 (n : Int)) (.int .i64 0) w := by
  subst hT
  have hli := fun w1 K => c_fline fa fb fc fg hfa w1 K
  rw [hl] at hli
  have hl9 : l < 9 := by omega
  have hnn := h.L.gd.n
  have hlt := h.lt
  have hAF : ¬ Y.F A := fun hf => by have := h.L.nw A hf; omega
  have ltA : A < w.heap.size := lt_of_cell hfm.1
  have hWl : ∀ k, k < n → wd D l (t + k) < 18446744073709551616 := fun k hk => by unfold wd; exact h.L.gd.cur _ (by omega)
  generalize hWW : (fun k => wd D l (t + k)) = W at H hq
  have hWk : ∀ k, wd D l (t + k) = W k := fun k => by rw [← hWW]
  simp only [hWk] at hWl
  have hXl : ∀ k, k < n → qW W P k < 18446744073709551616 := fun k hk => qW_lt W P k (hWl k hk)
  generalize hws : buW l W P t n = ws at H
  have wlen : ws.length = n := by rw [← hws]; simp [buW]
  have wget : ∀ k, k < n → ws[k]? = some (64 * l + 8 * (t + k), qW W P k) := fun k hk => by rw [← hws]; simp [buW, hk]
  have wok : ∀ x ∈ ws, x.1 < 18446744073709551616 ∧ x.2 < 18446744073709551616 := by
    intro x hx
    rw [← hws] at hx
    obtain ⟨k, hk, rfl⟩ := List.mem_map.1 hx
    rw [List.mem_range] at hk
    exact ⟨by simp only; omega, hXl k hk⟩
  have gt : ∀ j, Good (D.strs (ws.take j)) := fun j => strs_good h.L.gd (fun x hx => wok x (mem_take hx))
  have xt : ∀ j, (D.strs (ws.take j)).exe ≤ D.exe + n := fun j => by
    have := strs_exe D (ws.take j); rw [List.length_take] at this
    have := Nat.min_le_right j ws.length; omega
  apply f6_l4_rule (I := fun z w' => ∃ (j : Nat) (Y' : Lay), z = .int .i64 (j : Int) ∧ j ≤ n ∧ Stp w Y w' Y' (D.strs (ws.take j))) (μ := fun z _ => n - (Go.RowKit.intOf z).toNat)
  · exact ⟨0, Y, rfl, by omega, (Stp.refl h.L.dv).to (strs_zero _ _).symm⟩
  · intros; rename_i w1 hI E3 hE
    obtain ⟨k, Y1, rfl, hk, st⟩ := hI
    have tb : Y1.tb 0 = Y.tb 0 := by rw [st.tb]
    by_cases hkn : k < n
    · have htk := strs_take (D := D) (wget k hkn)
      have xj := xt k
      have hq1 := hq.frm st.frm hqF
      have hX := hXl k hkn
      have hbk : ∀ j, j < 8 → w1.cell? ⟨q, 8 * k + j, none⟩ = some (.int .u8 ((qW W P k / 2 ^ (8 * j) % 256 : Nat) : Int)) := fun j hj => by
        have := hq1.cell (i := 8 * k + j) (by omega)
        rw [qB_word W P k j hj] at this; exact this
      generalize qW W P k = X at *
      have a0 := (st.frm.cell _ _ ltA hAF).trans hfm.1
      have a1 := (st.frm.cell _ _ ltA hAF).trans hfm.2.1
      have a2 := (st.frm.cell _ _ ltA hAF).trans hfm.2.2.1
      have a3 := (st.frm.cell _ _ ltA hAF).trans hfm.2.2.2
      have ltA1 := lt_of_cell a0
      unfold f6_l4_t
      simp (disch := first | omega | simp only [RO] | (simp only [RZ] <;> omega) | fail) only [↓RBp, ↓RA, ↓reduceIte, Nat.reduceAdd, Nat.reduceMul, Nat.reduceEqDiff, RB, RBr, RW, RS, RA2]
      apply f6_l6_rule (I := fun x z w' => ∃ j : Nat, z = .int .i64 ((j : Int) - 1) ∧ j ≤ 8 ∧ x = u64 (X / 2 ^ (8 * j)) ∧ Ext w1 w') (μ := fun _ z _ => (Go.RowKit.intOf z + 1).toNat)
      · refine ⟨8, rfl, by omega, ?_, Ext.refl _⟩
        rw [show X / 2 ^ (8 * 8) = 0 from Nat.div_eq_of_lt hX]
      · intros; rename_i x2 z2 w2 hI2 E2 hE2
        obtain ⟨j, rfl, hj, rfl, e2⟩ := hI2
        by_cases hj0 : 0 < j
        · obtain ⟨i, rfl⟩ : ∃ i, j = i + 1 := ⟨j - 1, by omega⟩
          have f0 : (((i + 1 : Nat) : Int) - 1) = (i : Int) := by omega
          have f2 : ((8 * (k : Int)) + (i : Int)) = ((8 * k + i : Nat) : Int) := by omega
          have hc := e2.cell_some (hbk i (by omega))
          have hst := byte_step X i
          have hle : X / 2 ^ (8 * i) < 18446744073709551616 := Nat.lt_of_le_of_lt (Nat.div_le_self _ _) hX
          have hbl : X / 2 ^ (8 * i) % 256 < 256 := Nat.mod_lt _ (by omega)
          generalize X / 2 ^ (8 * (i + 1)) = y1 at *
          generalize X / 2 ^ (8 * i) % 256 = bb at *
          generalize hyi : X / 2 ^ (8 * i) = y0 at *
          unfold f6_l6_t
          simp (disch := first | omega | simp only [RO] | (simp only [RZ] <;> omega) | fail) only [↓RBp, ↓RA, ↓reduceIte, Nat.reduceAdd, Nat.reduceMul, Nat.reduceEqDiff, RB, RBr, RW, RS, RA2, f0, f2, hc]
          apply hE2
          · refine ⟨i, rfl, by omega, ?_, e2⟩
            rw [hyi]
            first | done | rfl | (congr 1; omega)
          · simp [Go.RowKit.intOf]
        · obtain rfl : j = 0 := by omega
          have f0 : (((0 : Nat) : Int) - 1) = -1 := by omega
          have f1 : ((t : Int) + (k : Int)) = ((t + k : Nat) : Int) := by omega
          simp only [Nat.mul_zero, Nat.pow_zero, Nat.div_one]
          have c0 := e2.cell_some a0; have c1 := e2.cell_some a1; have c2 := e2.cell_some a2; have c3 := e2.cell_some a3
          have ltA2 := lt_of_cell c0
          have stg := st.grow (e2.trans (Ext.alloc_self w2 (fmO fa fb fc fg)))
          unfold f6_l6_t
          simp (disch := first | omega | simp only [RO] | (simp only [RZ] <;> omega) | fail) only [↓RBp, ↓RA, ↓reduceIte, Nat.reduceAdd, Nat.reduceMul, Nat.reduceEqDiff, RB, RBr, RW, RS, RA2, f0, f6_k8_eq, f6_k8_t, f1, c0, c1, c2, c3, hli]
          rw [← tb]
          refine k_Store stg.dv (gt k) 0 (by omega) (64 * l + 8 * (t + k)) X (by omega) _ (fun w3 Y3 st3 => ?_)
          simp (disch := first | omega | simp only [RO] | (simp only [RZ] <;> omega) | fail) only [↓RBp, ↓RA, ↓reduceIte, Nat.reduceAdd, Nat.reduceMul, Nat.reduceEqDiff, RB, RBr, RW, RS, RA2, f6_k7_eq, f6_k7_t]
          apply hE
          · exact ⟨k + 1, Y3, by simp, by omega, by rw [htk]; exact stg.trans st3⟩
          · simp [Go.RowKit.intOf]; omega
    · have : k = n := by omega
      subst this
      rw [show ws.take k = ws from by rw [← wlen, List.take_length]] at st
      unfold f6_l4_t
      simp (disch := first | omega | simp only [RO] | (simp only [RZ] <;> omega) | fail) only [↓RBp, ↓RA, ↓reduceIte, Nat.reduceAdd, Nat.reduceMul, Nat.reduceEqDiff, RB, RBr, RW, RS, RA2]
      exact H _ _ st
end
end Go.Proofs.YtaeopkhdokaaoaaGreatDoor
namespace Go.Proofs.YtaeopkhdokaaoaaGreatDoor
open Go Go.Sh
set_option maxRecDepth 100000
set_option maxHeartbeats 4000000
set_option linter.unusedSimpArgs false
set_option linter.unusedVariables false
def bF (bl bi pa : Nat) (j : Nat) : Value := [Value.int .u8 (bl : Int), .int .u16 (bi : Int), .int .u32 (pa : Int)].getD j undef
theorem byL_map (f : Nat → Nat) (n : Nat) : byL f n = ((List.range n).map f).map fun (x : Nat) => Value.int .u8 (x : Int) := by
  unfold byL; rw [List.map_map]; rfl
theorem ev_b2s (l : List Nat) {w : World} {v : Value} {n : Nat} (h : SlO w 5 1 v n (l.map fun (x : Nat) => Value.int .u8 (x : Int))) (hn : 0 < n) (k : K1) : ev Tryz.prog (convert 75 9 v) w k = k (.string (bstr l)) w := by
  obtain ⟨b, o, cap, rfl, _⟩ := h.isS hn
  refine ev_of_run (run_b2s (e := 5) (by kernel_rfl) (by kernel_rfl) (by kernel_rfl) l ?_) k
  have hl := h.1
  have := cellsFrom_of (w := w) (b := b) (o := o) (l := l.map fun (x : Nat) => Value.int .u8 (x : Int)) (fun j u hj => h.cell rfl hj)
  rw [hl, Nat.mul_one] at this; exact this
theorem sl_of_cells {w : World} {b n : Nat} {t : TypeId} {f : Nat → Value} (h : Cells w b t n f) (hn : n ≤ maxLen) : SlO w t 1 (.slice (some ⟨b, 0, none⟩) n n) n ((List.range n).map f) := by
  obtain ⟨a, h1, h2, h3⟩ := h
  refine ⟨by simp, .inr ⟨b, 0, n, a, rfl, h1, Nat.le_refl _, hn, by omega, fun i u hi => ?_⟩⟩
  rw [Nat.zero_add]
  have hin : i < n := by
    have := (List.getElem?_eq_some_iff.1 hi).1; simpa using this
  rw [h3 i hin]
  simpa [hin] using hi
section
variable {w0 w w' : World} {Y Y' : Lay} {D D' : DS} {B l k : Nat} {c o : Int} {g : Nat} {K : K1} {E1 : VP1}
theorem bu_k5 (h : Loc w0 w Y D B l c o g) {A fa fb fc fg T : Nat} (hT : Y.tb 0 = T) (hfa : fa < 256) (hfb : fb < 256) (hfc : fc < 256) (hfg : fg < 65536) (hl : fa % 9 = l) (hcc : ((fb % 5 : Nat) : Int) = c) (hoo : ((fc % 8 : Nat) : Int) = o) (hfm : fmC w A fa fb fc fg) {n : Nat} (hn : 0 < n) {v u : Value} (L M : List Nat) (hv : SlO w 5 1 v n (L.map fun (x : Nat) => Value.int .u8 (x : Int))) (hu : SlO w 5 1 u n (M.map fun (x : Nat) => Value.int .u8 (x : Int))) (hL : ∀ x ∈ L, x < 256) (hM : ∀ x ∈ M, x < 256) (hiff : Snd D l c o ↔ L = M)
    (hK : ∀ w', Ext w0 w' → K (.bool true) w') :
    f6_k5 K (.pointer (some ⟨A, 0, none⟩)) (.pointer (some ⟨B, 0, none⟩)) (.pointer (some ⟨T, 0, none⟩)) v u w := by
  subst hT
  have hli := fun w1 K => c_fline fa fb fc fg hfa w1 K
  have hhe := fun w1 K => c_fheader fa fb fc fg hfb hfc hfg w1 K
  rw [hl] at hli
  rw [hcc, hoo] at hhe
  have hcon := con_iff (o := o) h.L.gd h.lt h.c0 h.c5
  have ltA : A < w.heap.size := lt_of_cell hfm.1
  have hWl : ∀ j, j < 256 → wd D l j < 18446744073709551616 := fun j hj => by unfold wd; exact h.L.gd.cur _ (by have := h.lt; omega)
  have s1 : ∀ (w2 : World) (K : K1), Ext w w2 → ev Tryz.prog (convert 75 9 v) w2 K = K (.string (bstr L)) w2 := fun w2 K e => ev_b2s L (hv.ext e) hn K
  have s2 : ∀ (w2 : World) (K : K1), Ext w w2 → ev Tryz.prog (convert 75 9 u) w2 K = K (.string (bstr M)) w2 := fun w2 K e => ev_b2s M (hu.ext e) hn K
  have s3 : ∀ (x y : Operand) (w : World) (k : K1), ev Tryz.prog (binM .eql 9 x y (.string (bstr L)) (.string (bstr M))) w k = k (.bool (decide (L = M))) w := fun x y w k => by
    rw [← bstr_eq hL hM]; exact ev_of_run (run_eq_str _ x y _ _ w) k
  have a0 := hfm.1; have a1 := hfm.2.1; have a2 := hfm.2.2.1; have a3 := hfm.2.2.2
  have ob1 := h.cells; have c0 := ob1.1; have c1 := ob1.2.1; have c2 := ob1.2.2.1; have c3 := ob1.2.2.2.1; have c4 := ob1.2.2.2.2
  have hB := h.ltB
  generalize hLM : decide (L = M) = lm at s3
  have hlm : lm = true ↔ Snd D l c o := by rw [hiff, ← hLM]; simp
  rw [f6_k5_eq]
  unfold f6_k5_t
  (repeat' (first | (with_reducible refine brS_mk (fun _ => ?_) (fun _ => ?_)) | (with_reducible refine And.intro ?_ ?_) | (simp (disch := first | omega | simp only [RO] | (simp only [RZ] <;> omega) | (with_reducible (repeat (first | assumption | exact Ext.refl _ | refine Ext.alloc ?_ _ | refine Ext.drew ?_ | refine Ext.trans ?_ (by assumption)))) | fail) only [↓RBp, ↓RA, ↓reduceIte, Nat.reduceAdd, Nat.reduceMul, Nat.reduceEqDiff, RB, RBr, RW, RS, RA2, a0, a1, a2, a3, hli])))
  refine k_words (h.ext (by repeat (first | with_reducible refine Ext.setB ?_ (by omega) _ | with_reducible refine Ext.setB ?_ (by simp only [RZ] <;> omega) _ | with_reducible assumption | exact Ext.refl _ | with_reducible refine Ext.alloc ?_ _ | with_reducible refine Ext.drew ?_ | with_reducible refine Ext.trans ?_ (by assumption)))).L.dv h.L.gd h.on.off h.lt _ (fun bw ow cw w1 hsl e1 hbw => ?_)
  have e01 : Ext w w1 := Ext.trans (by repeat (first | with_reducible refine Ext.setB ?_ (by omega) _ | with_reducible refine Ext.setB ?_ (by simp only [RZ] <;> omega) _ | with_reducible assumption | exact Ext.refl _ | with_reducible refine Ext.alloc ?_ _ | with_reducible refine Ext.drew ?_ | with_reducible refine Ext.trans ?_ (by assumption))) e1
  have hW := Wm.of_sl hsl
  have b0 := e01.cell_some a0; have b1 := e01.cell_some a1; have b2 := e01.cell_some a2; have b3 := e01.cell_some a3
  have ltA1 := lt_of_cell b0
  have agF := fun (w : World) (u : Value) => ag_of_run (P := Tryz.prog) (run_field (t := 24) (f := 0) (n := 0) (by kernel_rfl) (by kernel_rfl) (cs := #[.int .i64 c, .int .i64 o, .int .u16 ((genN fg : Nat) : Int)]) (v := .int .i64 c) rfl w) u
  (repeat' (first | (with_reducible refine brS_mk (fun _ => ?_) (fun _ => ?_)) | (with_reducible refine And.intro ?_ ?_) | (simp (disch := first | omega | simp only [RO] | (simp only [RZ] <;> omega) | (with_reducible (repeat (first | assumption | exact Ext.refl _ | refine Ext.alloc ?_ _ | refine Ext.drew ?_ | refine Ext.trans ?_ (by assumption)))) | fail) only [↓RBp, ↓RA, ↓reduceIte, Nat.reduceAdd, Nat.reduceMul, Nat.reduceEqDiff, RB, RBr, RW, RS, RA2, b0, b1, b2, b3, hhe, agF])))
  refine k_rCheck (hW.ext (by repeat (first | with_reducible refine Ext.setB ?_ (by omega) _ | with_reducible refine Ext.setB ?_ (by simp only [RZ] <;> omega) _ | with_reducible assumption | exact Ext.refl _ | with_reducible refine Ext.alloc ?_ _ | with_reducible refine Ext.drew ?_ | with_reducible refine Ext.trans ?_ (by assumption)))) hWl h.c0 h.c5 _ (fun hS w2 e2 => ?_) (fun hS w2 e2 => ?_)
  · have e02 : Ext w w2 := e01.trans (Ext.trans (by repeat (first | with_reducible refine Ext.setB ?_ (by omega) _ | with_reducible refine Ext.setB ?_ (by simp only [RZ] <;> omega) _ | with_reducible assumption | exact Ext.refl _ | with_reducible refine Ext.alloc ?_ _ | with_reducible refine Ext.drew ?_ | with_reducible refine Ext.trans ?_ (by assumption))) e2)
    have d0 := e02.cell_some c0; have d1 := e02.cell_some c1; have d2 := e02.cell_some c2; have d3 := e02.cell_some c3; have d4 := e02.cell_some c4
    obtain rfl := hlm.2 hS
    simp (disch := first | omega | simp only [RO] | (simp only [RZ] <;> omega) | fail) only [↓RBp, ↓RA, ↓reduceIte, Nat.reduceAdd, Nat.reduceMul, Nat.reduceEqDiff, RB, RBr, RW, RS, RA2, d0, d1, d2, d3, d4]
    refine k_Check (h.ext e02).cx h.on.err o g _ (fun w3 e3 => ?_)
    rw [if_pos (hcon.2 hS)]
    have e03 := e02.trans e3
    simp (disch := first | omega | simp only [RO] | (simp only [RZ] <;> omega) | (with_reducible (repeat (first | assumption | exact Ext.refl _ | refine Ext.alloc ?_ _ | refine Ext.drew ?_ | refine Ext.trans ?_ (by assumption)))) | fail) only [↓RBp, ↓RA, ↓reduceIte, Nat.reduceAdd, Nat.reduceMul, Nat.reduceEqDiff, RB, RBr, RW, RS, RA2, s1, s2, s3, bq3]
    exact hK _ (h.L.ex.trans e03)
  · have e02 : Ext w w2 := e01.trans (Ext.trans (by repeat (first | with_reducible refine Ext.setB ?_ (by omega) _ | with_reducible refine Ext.setB ?_ (by simp only [RZ] <;> omega) _ | with_reducible assumption | exact Ext.refl _ | with_reducible refine Ext.alloc ?_ _ | with_reducible refine Ext.drew ?_ | with_reducible refine Ext.trans ?_ (by assumption))) e2)
    have d0 := e02.cell_some c0; have d1 := e02.cell_some c1; have d2 := e02.cell_some c2; have d3 := e02.cell_some c3; have d4 := e02.cell_some c4
    obtain rfl : lm = false := by
      cases lm with
      | false => rfl
      | true => exact absurd (hlm.1 rfl) hS
    simp (disch := first | omega | simp only [RO] | (simp only [RZ] <;> omega) | fail) only [↓RBp, ↓RA, ↓reduceIte, Nat.reduceAdd, Nat.reduceMul, Nat.reduceEqDiff, RB, RBr, RW, RS, RA2, d0, d1, d2, d3, d4]
    refine k_Check (h.ext e02).cx h.on.err o g _ (fun w3 e3 => ?_)
    rw [if_neg (fun hh => hS (hcon.1 hh))]
    have e03 := e02.trans e3
    simp (disch := first | omega | simp only [RO] | (simp only [RZ] <;> omega) | (with_reducible (repeat (first | assumption | exact Ext.refl _ | refine Ext.alloc ?_ _ | refine Ext.drew ?_ | refine Ext.trans ?_ (by assumption)))) | fail) only [↓RBp, ↓RA, ↓reduceIte, Nat.reduceAdd, Nat.reduceMul, Nat.reduceEqDiff, RB, RBr, RW, RS, RA2, s1, s2, s3, bq4]
    exact hK _ (h.L.ex.trans e03)
theorem bu_k4 (h : Loc w0 w Y D B l c o g) {A Q fa fb fc fg T bl bi pa : Nat} (hT : Y.tb 0 = T) (hfa : fa < 256) (hfb : fb < 256) (hfc : fc < 256) (hfg : fg < 65536) (hl : fa % 9 = l) (hcc : ((fb % 5 : Nat) : Int) = c) (hoo : ((fc % 8 : Nat) : Int) = o) (hA : Cells w A 67 4 (fF fa fb fc fg)) (hA0 : A < w0.heap.size) (hQ : Cells w Q 97 3 (bF bl bi pa)) (hbi : bi < 65536) (hpa : pa < 4294967296) (t n : Nat) (ht : t + n ≤ 256) (hn0 : 0 < n) (hn8 : n ≤ 8) (hx : D.exe < 10000000) {v : Value} (hv : SlO w 5 1 v (8 * n) (byL (wB (fun k => wd D l (t + k))) (8 * n))) (ov : ∀ b, v.ownBlock = some b → ¬ Y.F b)
    (hiff : ∀ P bit, P = pa * 2 ^ bit → (Snd (D.strs (buW l (fun k => wd D l (t + k)) P t n)) l c o ↔ ∀ k, k < n → P / 2 ^ (64 * k) % 18446744073709551616 = 0))
    (hK : ∀ w', Ext w0 w' → K (.bool true) w') :
    f6_k4 K (.pointer (some ⟨A, 0, none⟩)) (.pointer (some ⟨Q, 0, none⟩)) (.pointer (some ⟨B, 0, none⟩)) (.pointer (some ⟨T, 0, none⟩)) (.int .i64 (t : Int)) (.int .i64 (n : Int)) v w := by
  have q1 : w.cell? ⟨Q, 1, none⟩ = some (.int .u16 (bi : Int)) := hQ.cell (i := 1) (by omega)
  have q2 : w.cell? ⟨Q, 2, none⟩ = some (.int .u32 (pa : Int)) := hQ.cell (i := 2) (by omega)
  have ltQ := hQ.lt
  have f1 : (64 * (n : Int)) = ((64 * n : Nat) : Int) := by omega
  have f2 : ((bi : Int) % ((64 * n : Nat) : Int)) = ((bi % (64 * n) : Nat) : Int) := by omega
  have hbl : bi % (64 * n) < 8 * (8 * n) := by have := Nat.mod_lt bi (show 0 < 64 * n by omega); omega
  have hWl : ∀ k, k < n → wd D l (t + k) < 18446744073709551616 := fun k hk => by unfold wd; exact h.L.gd.cur _ (by have := h.lt; omega)
  have hif := hiff _ (bi % (64 * n)) rfl
  have hbs := bytes_same (W := fun k => wd D l (t + k)) (P := pa * 2 ^ (bi % (64 * n))) hWl
  generalize bi % (64 * n) = bit at *
  have hgd : Good (D.strs (buW l (fun k => wd D l (t + k)) (pa * 2 ^ bit) t n)) := strs_good h.L.gd (fun x hx => by
    obtain ⟨k, hk, rfl⟩ := List.mem_map.1 hx
    rw [List.mem_range] at hk
    have := h.L.gd.n; have := h.lt
    exact ⟨by simp only; omega, qW_lt (fun k => wd D l (t + k)) _ k (hWl k hk)⟩)
  have hon : On (D.strs (buW l (fun k => wd D l (t + k)) (pa * 2 ^ bit) t n)) := (strs_on h.on (fun x hx => by
    obtain ⟨k, hk, rfl⟩ := List.mem_map.1 hx
    rw [List.mem_range] at hk
    have := h.lt
    simp only; omega)).1
  obtain ⟨va, vo, vc, rfl, hvc⟩ := hv.isS (by omega)
  rw [f6_k4_eq]
  unfold f6_k4_t
  (repeat' (first | (with_reducible refine brS_mk (fun _ => ?_) (fun _ => ?_)) | (with_reducible refine And.intro ?_ ?_) | (simp (disch := first | omega | simp only [RO] | (simp only [RZ] <;> omega) | (with_reducible (repeat (first | assumption | exact Ext.refl _ | refine Ext.alloc ?_ _ | refine Ext.drew ?_ | refine Ext.trans ?_ (by assumption)))) | fail) only [↓RBp, ↓RA, ↓reduceIte, Nat.reduceAdd, Nat.reduceMul, Nat.reduceEqDiff, RB, RBr, RW, RS, RA2, q1, q2, f1, f2])))
  refine k_Burst (hv.ext (by repeat (first | with_reducible refine Ext.setB ?_ (by omega) _ | with_reducible refine Ext.setB ?_ (by simp only [RZ] <;> omega) _ | with_reducible assumption | exact Ext.refl _ | with_reducible refine Ext.alloc ?_ _ | with_reducible refine Ext.drew ?_ | with_reducible refine Ext.trans ?_ (by assumption)))) (by omega) (by omega) (fun i => Nat.mod_lt _ (by omega)) bit pa hbl hpa _ (fun b w1 e1 hb1 hC => ?_)
  have e01 : Ext w w1 := Ext.trans (by repeat (first | with_reducible refine Ext.setB ?_ (by omega) _ | with_reducible refine Ext.setB ?_ (by simp only [RZ] <;> omega) _ | with_reducible assumption | exact Ext.refl _ | with_reducible refine Ext.alloc ?_ _ | with_reducible refine Ext.drew ?_ | with_reducible refine Ext.trans ?_ (by assumption))) e1
  have h1 := h.ext e01
  have hbF : ¬ Y.F b := fun hf => by have := h.L.dv.lt hf; simp only [RZ] at hb1; omega
  simp (disch := first | omega | simp only [RO] | (simp only [RZ] <;> omega) | fail) only [↓RBp, ↓RA, ↓reduceIte, Nat.reduceAdd, Nat.reduceMul, Nat.reduceEqDiff, RB, RBr, RW, RS, RA2]
  refine bu_l4 h1 hT hfa hl (fF_C (hA.ext e01)) hA0 t n (pa * 2 ^ bit) ht hn8 (by omega) hC hbF _ _ (fun w2 Y2 st => ?_)
  have h2 := h1.step st hgd hon (strs_n _ _)
  have hAF : ¬ Y.F A := fun hf => by have := h.L.nw A hf; omega
  have hml : 8 * n ≤ maxLen := by unfold maxLen; omega
  have hv2 := (hv.ext e01).frm st.frm ov
  have hC2 := hC.frm st.frm hbF
  have hu2 := sl_of_cells hC2 hml
  have eu : ((List.range (8 * n)).map fun i => Value.int .u8 ((wB (fun k => wd D l (t + k)) i ^^^ pB (pa * 2 ^ bit) i : Nat) : Int)) = ((List.range (8 * n)).map (qB (fun k => wd D l (t + k)) (pa * 2 ^ bit))).map fun (x : Nat) => Value.int .u8 (x : Int) := by
    rw [List.map_map]; rfl
  rw [eu] at hu2
  rw [byL_map] at hv2
  have tb : Y2.tb 0 = T := by rw [st.tb]; exact hT
  exact bu_k5 h2 tb hfa hfb hfc hfg hl hcc hoo (fF_C ((hA.ext e01).frm st.frm hAF)) (by omega) _ _ hv2 hu2 (fun x hx => by
    obtain ⟨i, _, rfl⟩ := List.mem_map.1 hx
    exact Nat.mod_lt _ (by omega)) (fun x hx => by
    obtain ⟨i, _, rfl⟩ := List.mem_map.1 hx
    exact qB_lt _ _ _) (hif.trans hbs.symm) hK
theorem bu_k1 (h : Loc w0 w Y D B l c o g) (hs : Snd D l c o) {A Q fa fb fc fg T bl bi pa : Nat} (hT : Y.tb 0 = T) (hfa : fa < 256) (hfb : fb < 256) (hfc : fc < 256) (hfg : fg < 65536) (hl : fa % 9 = l) (hcc : ((fb % 5 : Nat) : Int) = c) (hoo : ((fc % 8 : Nat) : Int) = o) (hA : Cells w A 67 4 (fF fa fb fc fg)) (hA0 : A < w0.heap.size) (hQ : Cells w Q 97 3 (bF bl bi pa)) (hbl : bl < 256) (hbi : bi < 65536) (hpa : pa < 4294967296) (hx : D.exe < 10000000)
    (hK : ∀ w', Ext w0 w' → K (.bool true) w') :
    f6_k1 K (.pointer (some ⟨A, 0, none⟩)) (.pointer (some ⟨Q, 0, none⟩)) (.pointer (some ⟨B, 0, none⟩)) (.pointer (some ⟨T, 0, none⟩)) w := by
  have hhe := fun w1 K => c_fheader fa fb fc fg hfb hfc hfg w1 K
  rw [hcc, hoo] at hhe
  have q0 : w.cell? ⟨Q, 0, none⟩ = some (.int .u8 (bl : Int)) := hQ.cell (i := 0) (by omega)
  have ltQ := hQ.lt
  have hpp := perS_in h.c0 h.c5
  have hlt := h.lt; have hcc0 := h.c0; have hc5 := h.c5
  obtain ⟨np, hnp⟩ : ∃ n : Nat, perS c = (n : Int) := ⟨(perS c).toNat, by omega⟩
  have hWl : ∀ j, j < 256 → wd D l j < 18446744073709551616 := fun j hj => by unfold wd; exact h.L.gd.cur _ (by omega)
  have a0 := (fF_C hA).1; have a1 := (fF_C hA).2.1; have a2 := (fF_C hA).2.2.1; have a3 := (fF_C hA).2.2.2
  have ltA := hA.lt
  have key : ∀ (w2 : World) (t n : Nat), Ext w w2 → t + n ≤ 256 → 0 < n → n ≤ 8 → (∀ P bit, P = pa * 2 ^ bit → (Snd (D.strs (buW l (fun k => wd D l (t + k)) P t n)) l c o ↔ ∀ k, k < n → P / 2 ^ (64 * k) % 18446744073709551616 = 0)) → f6_k2 K (.pointer (some ⟨A, 0, none⟩)) (.pointer (some ⟨Q, 0, none⟩)) (.pointer (some ⟨B, 0, none⟩)) (.pointer (some ⟨T, 0, none⟩)) (.int .i64 (t : Int)) (.int .i64 (n : Int)) w2 := by
    intro w2 t n e2 ht hn0 hn8 hiff
    have h2 := h.ext e2
    rw [f6_k2_eq]
    unfold f6_k2_t
    refine bu_l3 h2 hT hfa hl (fF_C (hA.ext e2)) t n ht hn8 _ _ (fun v w3 e3 hv hnv => ?_)
    have e23 := e2.trans e3
    exact bu_k4 (h.ext e23) hT hfa hfb hfc hfg hl hcc hoo (hA.ext e23) hA0 (hQ.ext e23) hbi hpa t n ht hn0 hn8 hx hv (fun b hb hf => by have := h2.L.dv.lt hf; have := hnv b hb; omega) hiff hK
  rw [f6_k1_eq]
  unfold f6_k1_t
  by_cases h0 : 0 < bl
  · have f1 : ((bl : Int) - 1) = ((bl - 1 : Nat) : Int) := by omega
    have f2 : (((bl - 1 : Nat) : Int) % (np : Int)) = (((bl - 1) % np : Nat) : Int) := by omega
    have hj : (((bl - 1) % np : Nat) : Int) < perS c := by rw [hnp]; have := Nat.mod_lt (bl - 1) (show 0 < np by omega); omega
    have bd := offN_bd h.c0 h.c5 hj
    have hro : ∀ (w : World) (K : K1), callS Tryz.prog 20 #[.int .i64 c, .int .i64 (((bl - 1) % np : Nat) : Int)] w K = K (.int .i64 (offN c ((bl - 1) % np) : Int)) w := fun w K => by rw [c_rOff c _ w K (by omega) (by omega), bd.1]
    have hrp := c_rPer c
    rw [hnp] at hrp
    have key1 := fun (w2 : World) e2 => key w2 (offN c ((bl - 1) % np)) 1 e2 (by omega) (by omega) (by omega) (fun P bit hP => by
      subst hP
      exact burst_block hs hcc0 hc5 hj pa bit hpa (buW_wd h.on _ 1 _ hlt (by omega)))
    generalize (bl - 1) % np = j at *
    generalize hq : offN c j = q at *
    have agF := fun (w : World) (u : Value) => ag_of_run (P := Tryz.prog) (run_field (t := 24) (f := 0) (n := 0) (by kernel_rfl) (by kernel_rfl) (cs := #[.int .i64 c, .int .i64 o, .int .u16 ((genN fg : Nat) : Int)]) (v := .int .i64 c) rfl w) u
    (repeat' (first | (with_reducible refine brS_mk (fun _ => ?_) (fun _ => ?_)) | (with_reducible refine And.intro ?_ ?_) | (simp (disch := first | omega | simp only [RO] | (simp only [RZ] <;> omega) | (with_reducible (repeat (first | assumption | exact Ext.refl _ | refine Ext.alloc ?_ _ | refine Ext.drew ?_ | refine Ext.trans ?_ (by assumption)))) | fail) only [↓RBp, ↓RA, ↓reduceIte, Nat.reduceAdd, Nat.reduceMul, Nat.reduceEqDiff, RB, RBr, RW, RS, RA2, q0, a0, a1, a2, a3, hhe, f1, f2, hrp, hro, agF])))
    exact key1 _ (by repeat (first | with_reducible refine Ext.setB ?_ (by omega) _ | with_reducible refine Ext.setB ?_ (by simp only [RZ] <;> omega) _ | with_reducible assumption | exact Ext.refl _ | with_reducible refine Ext.alloc ?_ _ | with_reducible refine Ext.drew ?_ | with_reducible refine Ext.trans ?_ (by assumption)))
  · have key1 := fun (w2 : World) e2 => key w2 0 8 e2 (by omega) (by omega) (by omega) (fun P bit hP => by
      subst hP
      have hw := buW_wd h.on 0 8 (pa * 2 ^ bit) hlt (by omega)
      have hgd : Good (D.strs (buW l (fun k => wd D l (0 + k)) (pa * 2 ^ bit) 0 8)) := strs_good h.L.gd (fun x hx => by
        obtain ⟨k, hk, rfl⟩ := List.mem_map.1 hx
        rw [List.mem_range] at hk
        have := h.L.gd.n
        exact ⟨by simp only; omega, qW_lt (fun k => wd D l (0 + k)) _ k (hWl _ (by omega))⟩)
      refine burst_head hs hcc0 hc5 (hWl 1 (by omega)) ?_ pa bit hpa hw
      have h1 := hgd.cur (l * 8 + 1) (by rw [strs_n]; omega)
      unfold wd at h1 ⊢
      exact h1)
    (repeat' (first | (with_reducible refine brS_mk (fun _ => ?_) (fun _ => ?_)) | (with_reducible refine And.intro ?_ ?_) | (simp (disch := first | omega | simp only [RO] | (simp only [RZ] <;> omega) | (with_reducible (repeat (first | assumption | exact Ext.refl _ | refine Ext.alloc ?_ _ | refine Ext.drew ?_ | refine Ext.trans ?_ (by assumption)))) | fail) only [↓RBp, ↓RA, ↓reduceIte, Nat.reduceAdd, Nat.reduceMul, Nat.reduceEqDiff, RB, RBr, RW, RS, RA2, q0])))
    exact key1 _ (by repeat (first | with_reducible refine Ext.setB ?_ (by omega) _ | with_reducible refine Ext.setB ?_ (by simp only [RZ] <;> omega) _ | with_reducible assumption | exact Ext.refl _ | with_reducible refine Ext.alloc ?_ _ | with_reducible refine Ext.drew ?_ | with_reducible refine Ext.trans ?_ (by assumption)))
end
section
variable {w w' : World}
abbrev buV (bl bi pa : Nat) : Value := .agg #[.int .u8 (bl : Int), .int .u16 (bi : Int), .int .u32 (pa : Int)]
abbrev buO (bl bi pa : Nat) : Obj := .cells #[.int .u8 (bl : Int), .int .u16 (bi : Int), .int .u32 (pa : Int)] 97
theorem law_bursts (hG : Glob w) (a b c g : Nat) (ha : a < 256) (hb : b < 256) (hc : c < 256) (hg : g < 65536) {v : Value} {al : List (List Int × List Nat × List Int)} (hal : ActsR w.heap.size w v al) (hok : ∀ x ∈ al, actOk x) (hln : al.length ≤ maxLen) (bl bi pa : Nat) (hbl : bl < 256) (hbi : bi < 65536) (hpa : pa < 4294967296) (K : K1) (hK : ∀ w', Ext w w' → K (.bool true) w') :
    callS Tryz.prog 6 #[fmV a b c g, v, buV bl bi pa] w K := by
  have l8 : a % 9 ≤ 8 := by omega
  have c0 : (0 : Int) ≤ ((b % 5 : Nat) : Int) := by omega
  have c5 : ((b % 5 : Nat) : Int) < 5 := by omega
  have o0 : (0 : Int) ≤ ((c % 8 : Nat) : Int) := by omega
  have o8 : ((c % 8 : Nat) : Int) < 8 := by omega
  have hgn : genN g ≠ 0 ∧ genN g < 65536 := by unfold genN; split <;> omega
  have hfo := fun (w : World) (hG : Glob w) (K : K1) hK => k_fopen hG a b c g ha hb hc hg K hK
  obtain ⟨va, vc, rfl, _⟩ := id hal
  have hlm : al.length < 9223372036854775808 := by unfold maxLen at hln; omega
  generalize hgg : genN g = gg at *
  generalize hll : a % 9 = ll at *
  generalize hcc : ((b % 5 : Nat) : Int) = cc at *
  generalize hoo : ((c % 8 : Nat) : Int) = oo at *
  have hone := opened_on l8 c0 c5 o0 o8 hgn.2
  have hexe := (opened_exe l8 c0 c5 oo gg).1
  have hsnd := opened_snd l8 c0 c5 o0 o8 hgn.1 hgn.2
  have hn := opened_n ll cc oo gg
  generalize DS.opened ll cc oo gg = D at *
  refine f6_call _ _ _ _ _ ?_
  unfold f6_t
  simp (disch := first | omega | simp only [RO] | (simp only [RZ] <;> omega) | fail) only [↓RBp, ↓RA, ↓reduceIte, Nat.reduceAdd, Nat.reduceMul, Nat.reduceEqDiff, RB, RBr, RW, RS, RA2]
  refine k_awake (hG.ext (by repeat (first | with_reducible refine Ext.setB ?_ (by omega) _ | with_reducible refine Ext.setB ?_ (by simp only [RZ] <;> omega) _ | with_reducible assumption | exact Ext.refl _ | with_reducible refine Ext.alloc ?_ _ | with_reducible refine Ext.drew ?_ | with_reducible refine Ext.trans ?_ (by assumption)))) _ (fun w1 he1 => ?_)
  have eQ : Ext ((w.alloc (fmO a b c g)).alloc (buO bl bi pa)) w1 := he1
  have eA : Ext (w.alloc (fmO a b c g)) w1 := (Ext.alloc_self _ _).trans eQ
  have e01 : Ext w w1 := (Ext.alloc_self _ _).trans eA
  by_cases h6 : 4 < al.length
  · simp (disch := first | omega | simp only [RO] | (simp only [RZ] <;> omega) | fail) only [↓RBp, ↓RA, ↓reduceIte, Nat.reduceAdd, Nat.reduceMul, Nat.reduceEqDiff, RB, RBr, RW, RS, RA2]
    refine k_awake (hG.ext e01) _ (fun w2 he2 => ?_)
    exact hK _ (e01.trans he2)
  · have ob2 := fmCells eA; have q0 := ob2.1; have q1 := ob2.2.1; have q2 := ob2.2.2.1; have q3 := ob2.2.2.2
    have lt1 : w.heap.size < w1.heap.size := lt_of_cell q0
    have hA1 : Cells w1 w.heap.size 67 4 (fF a b c g) := (Cells.new w [Value.int .u8 (a : Int), .int .u8 (b : Int), .int .u8 (c : Int), .int .u16 (g : Int)] 67).ext eA
    have hQ1 : Cells w1 (w.heap.size + 1) 97 3 (bF bl bi pa) := by
      have := (Cells.new (w.alloc (fmO a b c g)) [Value.int .u8 (bl : Int), .int .u16 (bi : Int), .int .u32 (pa : Int)] 97).ext eQ
      rw [size_alloc] at this
      exact this
    have ltQ1 := hQ1.lt
    simp (disch := first | omega | simp only [RO] | (simp only [RZ] <;> omega) | fail) only [↓RBp, ↓RA, ↓reduceIte, Nat.reduceAdd, Nat.reduceMul, Nat.reduceEqDiff, RB, RBr, RW, RS, RA2, q0, q1, q2, q3]
    refine hfo _ (hG.ext e01) _ (fun w2 Y L2 => ?_)
    have eB := eA.trans L2.ex
    have s12 := L2.ex.size
    have nt : ¬ Y.F w2.heap.size := fun hf => by have := L2.dv.lt hf; omega
    have hloc : Loc w1 (w2.alloc (chO Y ll cc oo gg)) Y D w2.heap.size ll cc oo gg := ⟨L2.ext (Ext.alloc_self _ _), Cells.new w2 [Value.iface 48 (.pointer (some ⟨Y.tb 0, 0, none⟩)), .int .i64 (ll : Int), .int .i64 cc, .int .i64 oo, .int .u16 (gg : Int)] 58, nt, hone.1, by omega, hG.ext e01, c0, c5⟩
    simp (disch := first | omega | simp only [RO] | (simp only [RZ] <;> omega) | fail) only [↓RBp, ↓RA, ↓reduceIte, Nat.reduceAdd, Nat.reduceMul, Nat.reduceEqDiff, RB, RBr, RW, RS, RA2]
    refine bu_l1 (hloc.ext (by repeat (first | with_reducible refine Ext.setB ?_ (by omega) _ | with_reducible refine Ext.setB ?_ (by simp only [RZ] <;> omega) _ | with_reducible assumption | exact Ext.refl _ | with_reducible refine Ext.alloc ?_ _ | with_reducible refine Ext.drew ?_ | with_reducible refine Ext.trans ?_ (by assumption)))) hsnd rfl (hal.ext e01) hok (by omega) hexe _ _ (fun w' e => hK w' (e01.trans e)) (fun w3 Y3 D3 h3 hT3 hs3 hx3 => ?_)
    exact bu_k1 h3 hs3 hT3 ha hb hc hg hll hcc hoo (hA1.ext h3.L.ex) (by omega) (hQ1.ext h3.L.ex) hbl hbi hpa (by omega) (fun w' e => hK w' (e01.trans e))
end
end Go.Proofs.YtaeopkhdokaaoaaGreatDoor
