/-
  Part 5 of what the proofs of this seat share.
-/
import Derived.Test.YtaeopkhdokaaoaaGreatDoorBa4
import Derived.Test.YtaeopkhdokaaoaaGreatDoorBa1
namespace Go.Proofs.YtaeopkhdokaaoaaGreatDoor
open Go Go.Sh
set_option maxRecDepth 100000
set_option maxHeartbeats 4000000
set_option linter.unusedSimpArgs false
set_option linter.unusedVariables false
abbrev fmO (a b c g : Nat) : Obj := .cells #[.int .u8 (a : Int), .int .u8 (b : Int), .int .u8 (c : Int), .int .u16 (g : Int)] 67
abbrev fmV (a b c g : Nat) : Value := .agg #[.int .u8 (a : Int), .int .u8 (b : Int), .int .u8 (c : Int), .int .u16 (g : Int)]
structure Lv (w0 w : World) (Y : Lay) (D : DS) : Prop where
  dv : Dv w Y D
  gd : Good D
  ex : Ext w0 w
  nw : ∀ x, Y.F x → w0.heap.size ≤ x
section
variable {w0 w w' : World} {Y Y' : Lay} {D D' : DS} {a b c g : Nat}
theorem Lv.ext (h : Lv w0 w Y D) (e : Ext w w') : Lv w0 w' Y D := ⟨h.dv.ext e, h.gd, h.ex.trans e, h.nw⟩
theorem Ext.frm {F : Nat → Prop} (h : Ext w0 w) (f : Frm F w w') (hF : ∀ x, F x → w0.heap.size ≤ x) : Ext w0 w' :=
  (Frm.trans (F := Nob) (G := F) (Frm.of_ext h) f (fun x hx hf => by have := hF x hf; omega)).to_ext (fun _ _ h => h)
theorem Lv.step (h : Lv w0 w Y D) (s : Stp w Y w' Y' D') (g : Good D') : Lv w0 w' Y' D' := by
  refine ⟨s.dv, g, Ext.frm h.ex s.frm h.nw, fun x hx => ?_⟩
  rcases s.fr x hx with h1 | h1
  · exact h.nw x h1
  · exact Nat.le_trans h.ex.size h1
theorem Lv.frm {G : Nat → Prop} (h : Lv w0 w Y D) (f : Frm G w w') (hG : ∀ b, G b → b < w0.heap.size) : Dv w' Y D :=
  h.dv.frm f (fun b hb hg => by have := h.nw b hb; have := hG b hg; omega)
theorem Lv.out {v : Value} (h : Lv w0 w Y D) (hv : NewV w.heap.size v) : ∀ b, v.ownBlock = some b → ¬ Y.F b := fun b hb hf => by
  have h1 := h.dv.lt hf; have h2 := hv b hb; omega
theorem fmCells {w1 : World} (he : Ext (w.alloc (fmO a b c g)) w1) : w1.cell? ⟨w.heap.size, 0, none⟩ = some (.int .u8 (a : Int)) ∧ w1.cell? ⟨w.heap.size, 1, none⟩ = some (.int .u8 (b : Int)) ∧ w1.cell? ⟨w.heap.size, 2, none⟩ = some (.int .u8 (c : Int)) ∧ w1.cell? ⟨w.heap.size, 3, none⟩ = some (.int .u16 (g : Int)) := by
  have : ∀ i, w1.cell? ⟨w.heap.size, i, none⟩ = _ := fun i => he.cell _ i (by simp only [RZ]; omega)
  refine ⟨?_, ?_, ?_, ?_⟩ <;> (rw [this, cell_new _ _ _ _ _ rfl]; rfl)
theorem c_fline (a b c g : Nat) (ha : a < 256) (w : World) (K : K1) : callS Tryz.prog 41 #[fmV a b c g] w K = K (.int .i64 ((a % 9 : Nat) : Int)) (w.alloc (fmO a b c g)) := by
  refine callS_det (by kernel_rfl) (f41_call _ _ _ ?_) K
  unfold f41_t
  have e1 : ((a : Int) % 9) = ((a % 9 : Nat) : Int) := by omega
  simp (disch := first | omega | simp only [RO] | (simp only [RZ] <;> omega) | fail) only [↓RBp, ↓RA, ↓reduceIte, Nat.reduceAdd, Nat.reduceMul, Nat.reduceEqDiff, RB, RX, RA2, e1]
def genN (g : Nat) : Nat := if g < 1 then 1 else g
theorem c_fheader (a b c g : Nat) (hb : b < 256) (hc : c < 256) (hg : g < 65536) (w : World) (K : K1) : callS Tryz.prog 34 #[fmV a b c g] w K = K (.agg #[.int .i64 ((b % 5 : Nat) : Int), .int .i64 ((c % 8 : Nat) : Int), .int .u16 ((genN g : Nat) : Int)]) ((w.alloc (fmO a b c g)).alloc (hdO ((b % 5 : Nat) : Int) ((c % 8 : Nat) : Int) (genN g))) := by
  refine callS_det (by kernel_rfl) (f34_call _ _ _ ?_) K
  unfold f34_t hdO
  have e1 : ((b : Int) % 5) = ((b % 5 : Nat) : Int) := by omega
  have e2 : ((c : Int) % 8) = ((c % 8 : Nat) : Int) := by omega
  have e3 : (if ((g : Nat) : Int) < ((1 : Nat) : Int) then ((1 : Nat) : Int) else ((g : Nat) : Int)) = ((genN g : Nat) : Int) := by unfold genN; split <;> split <;> omega
  simp (disch := first | omega | simp only [RO] | (simp only [RZ] <;> omega) | fail) only [↓RBp, ↓RA, ↓reduceIte, Nat.reduceAdd, Nat.reduceMul, Nat.reduceEqDiff, RB, RX, RA2, e1, e2, e3]
end
end Go.Proofs.YtaeopkhdokaaoaaGreatDoor
namespace Go.Proofs.YtaeopkhdokaaoaaGreatDoor
open Go Go.Sh
set_option maxRecDepth 100000
set_option linter.unusedVariables false
noncomputable def f12_u : Code × Dec := ((Tryz.f12.body).getD .skip, (.s .o (.s .o (.s .o (.s .o (.s .o (.x 178 (.s .o (.b (.l [37] 103079215290 281337537757696 .o))) .o)))))))
abbrev f12_e (K : K1) : KF := endK Tryz.prog Tryz.f12.results.toList K
def f12_k1_o (K : K1) : KF := fun fr w => ∀ σ, cP (pr (pr (pr (pr (pr (pr f12_u)))))) (f12_e K) (f12_e K) nX (mixF 178 σ 0 fr) w
def f12_k1 (K : K1) (x1 x4 x5 x7 : Value) (w : World) : Prop := f12_k1_o K (fz 71 0 [(1, x1), (4, x4), (5, x5), (7, x7)]) w
def f12_l1 (K : K1) (x1 x3 x4 x5 x7 x35 x36 x37 : Value) (w : World) : Prop := loopT [37] 103079215290 (fun E => cP (pl (pl (pr (pl (pr (pr (pr (pr (pr f12_u))))))))) E (f12_e K) (exB 0 (f12_k1_o K) nX)) (fz 71 0 [(1, x1), (3, x3), (4, x4), (5, x5), (7, x7), (35, x35), (36, x36), (37, x37)]) w
def f12_k1_t (x1 x4 x5 x7 : Value) (K : K1) (w : World) : Prop :=
 gd x5 true (fun k => k x4 w) w fun t50 w_1 =>
 gd x5 true (fun k => ev Tryz.prog (binM .eql 22 (.tmp 50) (.const (.int .u16 ((1 : Nat) : Int))) t50 (.int .u16 ((1 : Nat) : Int))) w_1 k) w_1 fun t51 w_2 =>
 pickS x5 t51 (.bool false) w_2 fun t52 w_3 =>
 gd t52 true (fun k => k x7 w_3) w_3 fun t54 w_4 =>
 gd t52 true (fun k => ev Tryz.prog (binM .eql 28 (.tmp 54) (.const (.int .i64 0)) t54 (.int .i64 0)) w_4 k) w_4 fun t55 w_5 =>
 pickS t52 t55 (.bool false) w_5 fun t56 w_6 =>
 gd t56 true (fun k => ldS Tryz.prog 58 x1 w_6 k) w_6 fun t58 w_7 =>
 gd t56 true (fun k => callS Tryz.prog 47 (pA #[t58, (.int .i64 0)]) w_7 k) w_7 fun t59 w_8 =>
 pickS t56 t59 (.bool false) w_8 fun t60 w_9 =>
 gd t60 true (fun k => ldS Tryz.prog 58 x1 w_9 k) w_9 fun t62 w_10 =>
 gd t60 true (fun k => callS Tryz.prog 45 (pA #[t62]) w_10 k) w_10 fun t63 w_11 =>
 gd t60 true (fun k => ev Tryz.prog (binM .eql 3 (.tmp 63) (.const (.int .i64 1)) t63 (.int .i64 1)) w_11 k) w_11 fun t64 w_12 =>
 pickS t60 t64 (.bool false) w_12 fun t65 w_13 =>
 gd t65 true (fun k => ldS Tryz.prog 58 x1 w_13 k) w_13 fun t67 w_14 =>
 gd t65 true (fun k => callS Tryz.prog 50 (pA #[t67, (.int .i64 0)]) w_14 k) w_14 fun t68 w_15 =>
 gd t65 true (fun k => ev Tryz.prog (binM .eql 3 (.tmp 68) (.const (.int .i64 1)) t68 (.int .i64 1)) w_15 k) w_15 fun t69 w_16 =>
 pickS t65 t69 (.bool false) w_16 fun t70 w_17 =>
 K t70 w_17
theorem f12_k1_eq (K : K1) (x1 x4 x5 x7 : Value) (w : World) : f12_k1 K x1 x4 x5 x7 w = f12_k1_t x1 x4 x5 x7 K w := cutE fun σ => by kernel_rfl
def f12_l1_t (x1 x3 x4 x5 x7 x35 x36 x37 : Value) (K : K1) (E1 : VP1) (w : World) : Prop :=
 ev Tryz.prog (binM .lss 3 (.tmp 37) (.tmp 36) x37 x36) w fun t38 w_1 =>
 cndS t38 (
 ev Tryz.prog (Instr.indexAt 38 x35 x37) w_1 fun t39 w_2 =>
 ldS Tryz.prog 37 t39 w_2 fun t40 w_3 =>
 ev Tryz.prog (Instr.alloc 37 true (.tuple #[])) w_3 fun t9 w_4 =>
 stS Tryz.prog 37 t9 t40 w_4 fun w_5 =>
 ev Tryz.prog (Instr.fieldAt 37 t9 0) w_5 fun t42 w_6 =>
 ldS Tryz.prog 33 t42 w_6 fun t43 w_7 =>
 ev Tryz.prog (Instr.fieldAt 37 t9 1) w_7 fun t44 w_8 =>
 ldS Tryz.prog 33 t44 w_8 fun t45 w_9 =>
 callS Tryz.prog 25 (pA #[x3, t43, t45]) w_9 fun t46 w_10 =>
 ev Tryz.prog (binM .add 3 (.tmp 37) (.const (.int .i64 1)) x37 (.int .i64 1)) w_10 fun t47 w_11 =>
 E1 t47 w_11) (
 f12_k1 K x1 x4 x5 x7 w_1)
theorem f12_l1_rule (x1 x3 x4 x5 x7 x35 x36 x37 : Value) (K : K1) (w : World) (I : VP1) (μ : Value → World → Nat) (h0 : I x37 w)
    (hr : ∀ (x37 : Value) (w : World), I x37 w → ∀ E1 : VP1, (∀ (y37 : Value) (w' : World), I y37 w' → μ y37 w' < μ x37 w → E1 y37 w') → f12_l1_t x1 x3 x4 x5 x7 x35 x36 x37 K E1 w) : f12_l1 K x1 x3 x4 x5 x7 x35 x36 x37 w :=
  ⟨I, μ, h0, fun σ w hI E hE => cast (by kernel_rfl) (hr (σ 37) w hI E hE)⟩
def f12_t (K : K1) (w : World) : Prop :=
 ev Tryz.prog (Instr.build 67 #[(1, (.int .u8 ((4 : Nat) : Int)))]) w fun t11 w_1 =>
 callS Tryz.prog 33 (pA #[t11]) w_1 fun t12 w_2 =>
 ev Tryz.prog (Instr.extract t12 0) w_2 fun t13 w_3 =>
 ev Tryz.prog (Instr.extract t12 1) w_3 fun t14 w_4 =>
 ev Tryz.prog (Instr.extract t12 2) w_4 fun t15 w_5 =>
 ev Tryz.prog (Instr.alloc 58 true (.tuple #[])) w_5 fun t1 w_6 =>
 stS Tryz.prog 58 t1 t13 w_6 fun w_7 =>
 ev Tryz.prog (binM .eql 48 (.tmp 16) (.const (.pointer none)) t15 (.pointer none)) w_7 fun t17 w_8 =>
 gd t17 false (fun k => ldS Tryz.prog 58 t1 w_8 k) w_8 fun t19 w_9 =>
 gd t17 false (fun k => callS Tryz.prog 50 (pA #[t19, (.int .i64 0)]) w_9 k) w_9 fun t20 w_10 =>
 gd t17 false (fun k => ev Tryz.prog (binM .neq 3 (.tmp 20) (.const (.int .i64 0)) t20 (.int .i64 0)) w_10 k) w_10 fun t21 w_11 =>
 pickS t17 (.bool true) t21 w_11 fun t22 w_12 =>
 cndS t22 (
 K (.bool false) w_12) (
 ldS Tryz.prog 58 t1 w_12 fun t24 w_13 =>
 callS Tryz.prog 43 (pA #[t24]) w_13 fun t25 w_14 =>
 ev Tryz.prog (Instr.extract t25 0) w_14 fun t26 w_15 =>
 ev Tryz.prog (Instr.extract t25 1) w_15 fun t27 w_16 =>
 ldS Tryz.prog 58 t1 w_16 fun t29 w_17 =>
 ev Tryz.prog (Instr.buildSlice 74 1 #[(0, (.int .i64 0))]) w_17 fun t30 w_18 =>
 ev Tryz.prog (Instr.buildSlice 75 1 #[(0, (.int .u8 ((64 : Nat) : Int)))]) w_18 fun t31 w_19 =>
 callS Tryz.prog 37 (pA #[t29, t30, t31, (.slice none 0 0)]) w_19 fun t32 w_20 =>
 ev Tryz.prog (Instr.extract t32 0) w_20 fun t33 w_21 =>
 ev Tryz.prog (Instr.extract t32 1) w_21 fun t34 w_22 =>
 bltS Tryz.prog .len #[38] 3 #[false] #[t33] w_22 fun t36 w_23 =>
 f12_l1 K t1 t15 t26 t27 t34 t33 t36 (.int .i64 0) w_23)
theorem f12_call (K : K1) (w : World) (h : f12_t K w) : callS Tryz.prog 12 #[] w K :=
  call_of_txt (args := []) mixed Tryz.func12 f12_u.2 (by kernel_rfl) (cast (by kernel_rfl) h)
noncomputable def f17_u : Code × Dec := ((Tryz.f17.body).getD .skip, (.s .o (.s .o (.x 0 (.s .o (.b (.l [13] 4099 67100720 .o))) .o))))
abbrev f17_e (K : K1) : KF := endK Tryz.prog Tryz.f17.results.toList K
def f17_k1_o (K : K1) : KF := fun fr w => ∀ σ, cP (pr (pr (pr f17_u))) (f17_e K) (f17_e K) nX (mixF 0 σ 0 fr) w
def f17_k1 (K : K1) (w : World) : Prop := f17_k1_o K (fz 26 0 []) w
def f17_l1 (K : K1) (x0 x1 x12 x13 : Value) (w : World) : Prop := loopT [13] 4099 (fun E => cP (pl (pl (pr (pl (pr (pr f17_u)))))) E (f17_e K) (exB 0 (f17_k1_o K) nX)) (fz 26 0 [(0, x0), (1, x1), (12, x12), (13, x13)]) w
def f17_k1_t (K : K1) (w : World) : Prop :=
 K (.bool true) w
theorem f17_k1_eq (K : K1) (w : World) : f17_k1 K w = f17_k1_t K w := cutE fun σ => by kernel_rfl
def f17_l1_t (x0 x1 x12 x13 : Value) (K : K1) (E1 : VP1) (w : World) : Prop :=
 ev Tryz.prog (binM .lss 3 (.tmp 13) (.tmp 12) x13 x12) w fun t14 w_1 =>
 cndS t14 (
 rd Tryz.prog (Instr.indexAt 27 x0 x13) w_1.drew fun t18 =>
 ldR Tryz.prog 133 t18 w_1.drew fun t19 =>
 rd Tryz.prog (Instr.indexAt 27 x1 x13) w_1.drew fun t22 =>
 ldR Tryz.prog 133 t22 w_1.drew fun t23 =>
 rd Tryz.prog (binM .neq 133 (.tmp 19) (.tmp 23) t19 t23) w_1.drew fun t24 =>
 cndS t24 (
 K (.bool false) w_1.drew) (
 ev Tryz.prog (binM .add 3 (.tmp 13) (.const (.int .i64 1)) x13 (.int .i64 1)) w_1.drew fun t25 w_2 =>
 E1 t25 w_2)) (
 f17_k1 K w_1)
theorem f17_l1_rule (x0 x1 x12 x13 : Value) (K : K1) (w : World) (I : VP1) (μ : Value → World → Nat) (h0 : I x13 w)
    (hr : ∀ (x13 : Value) (w : World), I x13 w → ∀ E1 : VP1, (∀ (y13 : Value) (w' : World), I y13 w' → μ y13 w' < μ x13 w → E1 y13 w') → f17_l1_t x0 x1 x12 x13 K E1 w) : f17_l1 K x0 x1 x12 x13 w :=
  ⟨I, μ, h0, fun σ w hI E hE => cast (by kernel_rfl) (hr (σ 13) w hI E hE)⟩
def f17_t (x0 x1 : Value) (K : K1) (w : World) : Prop :=
 bltS Tryz.prog .len #[27] 3 #[false] #[x0] w fun t7 w_1 =>
 bltS Tryz.prog .len #[27] 3 #[false] #[x1] w_1 fun t9 w_2 =>
 ev Tryz.prog (binM .neq 3 (.tmp 7) (.tmp 9) t7 t9) w_2 fun t10 w_3 =>
 cndS t10 (
 K (.bool false) w_3) (
 bltS Tryz.prog .len #[27] 3 #[false] #[x0] w_3 fun t12 w_4 =>
 f17_l1 K x0 x1 t12 (.int .i64 0) w_4)
theorem f17_call (x0 x1 : Value) (K : K1) (w : World) (h : f17_t x0 x1 K w) : callS Tryz.prog 17 #[x0, x1] w K :=
  call_of_txt (args := [x0, x1]) mixed Tryz.func17 f17_u.2 (by kernel_rfl) (cast (by kernel_rfl) h)
noncomputable def f35_u : Code × Dec := ((Tryz.f35.body).getD .skip, (.s .o (.s .o (.s .o (.x 40 (.s .o (.b (.l [6] 40 260160 .o))) (.x 40 (.s .o (.b (.l [7] 40 17179607168 .o))) .o))))))
abbrev f35_e (K : K1) : KF := endK Tryz.prog Tryz.f35.results.toList K
def f35_k1_o (K : K1) : KF := fun fr w => ∀ σ, cP (pr (pr (pr (pr f35_u)))) (f35_e K) (f35_e K) nX (mixF 40 σ 0 fr) w
def f35_k1 (K : K1) (x3 x5 : Value) (w : World) : Prop := f35_k1_o K (fz 39 0 [(3, x3), (5, x5)]) w
def f35_l1 (K : K1) (x3 x5 x6 : Value) (w : World) : Prop := loopT [6] 40 (fun E => cP (pl (pl (pr (pl (pr (pr (pr f35_u))))))) E (f35_e K) (exB 0 (f35_k1_o K) nX)) (fz 39 0 [(3, x3), (5, x5), (6, x6)]) w
def f35_k2_o (K : K1) : KF := fun fr w => ∀ σ, cP (pr (pr (pr (pr (pr f35_u))))) (f35_e K) (f35_e K) nX (mixF 40 σ 0 fr) w
def f35_k2 (K : K1) (x3 x5 : Value) (w : World) : Prop := f35_k2_o K (fz 39 0 [(3, x3), (5, x5)]) w
def f35_l2 (K : K1) (x3 x5 x7 : Value) (w : World) : Prop := loopT [7] 40 (fun E => cP (pl (pl (pr (pl (pr (pr (pr (pr f35_u)))))))) E (f35_e K) (exB 2 (f35_k2_o K) nX)) (fz 39 0 [(3, x3), (5, x5), (7, x7)]) w
def f35_k1_t (x3 x5 : Value) (K : K1) (w : World) : Prop :=
 f35_l2 K x3 x5 (.int .i64 0) w
theorem f35_k1_eq (K : K1) (x3 x5 : Value) (w : World) : f35_k1 K x3 x5 w = f35_k1_t x3 x5 K w := cutE fun σ => by kernel_rfl
def f35_l1_t (x3 x5 x6 : Value) (K : K1) (E1 : VP1) (w : World) : Prop :=
 ev Tryz.prog (binM .lss 3 (.tmp 11) (.const (.int .i64 8)) x6 (.int .i64 8)) w fun t12 w_1 =>
 cndS t12 (
 ev Tryz.prog (Instr.indexAt 72 x5 x6) w_1 fun t17 w_2 =>
 stS Tryz.prog 33 t17 (.int .u64 ((0 : Nat) : Int)) w_2 fun w_3 =>
 ev Tryz.prog (binM .add 3 (.tmp 13) (.const (.int .i64 1)) x6 (.int .i64 1)) w_3 fun t14 w_4 =>
 E1 t14 w_4) (
 f35_k1 K x3 x5 w_1)
theorem f35_l1_rule (x3 x5 x6 : Value) (K : K1) (w : World) (I : VP1) (μ : Value → World → Nat) (h0 : I x6 w)
    (hr : ∀ (x6 : Value) (w : World), I x6 w → ∀ E1 : VP1, (∀ (y6 : Value) (w' : World), I y6 w' → μ y6 w' < μ x6 w → E1 y6 w') → f35_l1_t x3 x5 x6 K E1 w) : f35_l1 K x3 x5 x6 w :=
  ⟨I, μ, h0, fun σ w hI E hE => cast (by kernel_rfl) (hr (σ 6) w hI E hE)⟩
def f35_k2_t (x3 x5 : Value) (K : K1) (w : World) : Prop :=
 ldS Tryz.prog 35 x3 w fun t35 w_1 =>
 callS Tryz.prog 16 (pA #[t35]) w_1 fun t36 w_2 =>
 ev Tryz.prog (Instr.indexAt 72 x5 (.int .i64 0)) w_2 fun t37 w_3 =>
 stS Tryz.prog 33 t37 t36 w_3 fun w_4 =>
 K x5 w_4
theorem f35_k2_eq (K : K1) (x3 x5 : Value) (w : World) : f35_k2 K x3 x5 w = f35_k2_t x3 x5 K w := cutE fun σ => by kernel_rfl
def f35_l2_t (x3 x5 x7 : Value) (K : K1) (E1 : VP1) (w : World) : Prop :=
 ev Tryz.prog (Instr.fieldAt 35 x3 0) w fun t19 w_1 =>
 ldS Tryz.prog 3 t19 w_1 fun t20 w_2 =>
 callS Tryz.prog 19 (pA #[t20]) w_2 fun t21 w_3 =>
 ev Tryz.prog (binM .lss 3 (.tmp 18) (.tmp 21) x7 t21) w_3 fun t22 w_4 =>
 cndS t22 (
 rd Tryz.prog (Instr.fieldAt 35 x3 0) w_4.drew fun t26 =>
 ldR Tryz.prog 3 t26 w_4.drew fun t27 =>
 rd Tryz.prog (Instr.fieldAt 35 x3 2) w_4.drew fun t30 =>
 ldR Tryz.prog 22 t30 w_4.drew fun t31 =>
 callS Tryz.prog 20 (pA #[t27, x7]) w_4.drew fun t29 w_5 =>
 (ag Tryz.prog (Instr.fieldAt 35 x3 2) w_5 t30) ∧
 (ldG Tryz.prog 22 t30 w_5 t31) ∧
 callS Tryz.prog 21 (pA #[t31, (.int .u8 ((0 : Nat) : Int)), (.int .u32 ((176 : Nat) : Int))]) w_5 fun t32 w_6 =>
 rd Tryz.prog (Instr.indexAt 72 x5 t29) w_6 fun t33 =>
 stS Tryz.prog 33 t33 t32 w_6 fun w_7 =>
 ev Tryz.prog (binM .add 3 (.tmp 23) (.const (.int .i64 1)) x7 (.int .i64 1)) w_7 fun t24 w_8 =>
 E1 t24 w_8) (
 f35_k2 K x3 x5 w_4)
theorem f35_l2_rule (x3 x5 x7 : Value) (K : K1) (w : World) (I : VP1) (μ : Value → World → Nat) (h0 : I x7 w)
    (hr : ∀ (x7 : Value) (w : World), I x7 w → ∀ E1 : VP1, (∀ (y7 : Value) (w' : World), I y7 w' → μ y7 w' < μ x7 w → E1 y7 w') → f35_l2_t x3 x5 x7 K E1 w) : f35_l2 K x3 x5 x7 w :=
  ⟨I, μ, h0, fun σ w hI E hE => cast (by kernel_rfl) (hr (σ 7) w hI E hE)⟩
def f35_t (x0 x1 : Value) (K : K1) (w : World) : Prop :=
 ev Tryz.prog (Instr.box 35 x1) w fun t3 w_1 =>
 bltS Tryz.prog .append #[72, 72] 72 #[false, false] (pA #[(.slice none 0 0), x0]) w_1 fun t10 w_2 =>
 f35_l1 K t3 t10 (.int .i64 1) w_2
theorem f35_call (x0 x1 : Value) (K : K1) (w : World) (h : f35_t x0 x1 K w) : callS Tryz.prog 35 #[x0, x1] w K :=
  call_of_txt (args := [x0, x1]) mixed Tryz.func35 f35_u.2 (by kernel_rfl) (cast (by kernel_rfl) h)
noncomputable def f38_u : Code × Dec := ((Tryz.f38.body).getD .skip, (.s .o (.s .o (.s .o (.s .o (.s .o (.x 4111 (.s .o (.b (.l [13] 4111 618970019642690103089851392 (.s .o (.x 12303 (.b (.s .o (.s .o (.b (.l [14] 12303 618932240710827180287872000 .o))))) .o))))) (.s .o (.s .o (.x 102400 (.s .o (.b (.l [15, 16, 17] 4111 374144419156711147060138365415211311510819151252480 (.s .o (.x 233487 .o .o))))) (.x 32768 .o .o)))))))))))
abbrev f38_e (K : K1) : KF := endK Tryz.prog Tryz.f38.results.toList K
def f38_k1_o (K : K1) : KF := fun fr w => ∀ σ, cP (pr (pr (pr (pr (pr (pr f38_u)))))) (f38_e K) (f38_e K) nX (mixF 4111 σ 0 fr) w
def f38_k1 (K : K1) (x0 x1 x2 x3 x12 : Value) (w : World) : Prop := f38_k1_o K (fz 177 0 [(0, x0), (1, x1), (2, x2), (3, x3), (12, x12)]) w
def f38_l1 (K : K1) (x0 x1 x2 x3 x12 x13 : Value) (w : World) : Prop := loopT [13] 4111 (fun E => cP (pl (pl (pr (pl (pr (pr (pr (pr (pr f38_u))))))))) E (f38_e K) (exB 0 (f38_k1_o K) nX)) (fz 177 0 [(0, x0), (1, x1), (2, x2), (3, x3), (12, x12), (13, x13)]) w
def f38_k2_o (K : K1) : KF := fun fr w => ∀ σ, cP (pr (pr (pr (pr (pr (pr (pr (pr (pr f38_u))))))))) (f38_e K) (f38_e K) nX (mixF 102400 σ 0 fr) w
def f38_k2 (K : K1) (x12 x15 x16 : Value) (w : World) : Prop := f38_k2_o K (fz 177 0 [(12, x12), (15, x15), (16, x16)]) w
def f38_l2 (K : K1) (x0 x1 x2 x3 x12 x15 x16 x17 : Value) (w : World) : Prop := loopT [15, 16, 17] 4111 (fun E => cP (pl (pl (pr (pl (pr (pr (pr (pr (pr (pr (pr (pr f38_u)))))))))))) E (f38_e K) (exB 4 (f38_k2_o K) nX)) (fz 177 0 [(0, x0), (1, x1), (2, x2), (3, x3), (12, x12), (15, x15), (16, x16), (17, x17)]) w
def f38_k3_o (K : K1) (E1 : VP1) : KF := fun fr w => ∀ σ, cP (pr (pr (pl (pl (pr (pl (pr (pr (pr (pr (pr f38_u))))))))))) (fun fr w => E1 (sv fr 13) w) (f38_e K) (exB 0 (f38_k1_o K) nX) (mixF 12303 σ 0 fr) w
def f38_k3 (K : K1) (E1 : VP1) (x0 x1 x2 x3 x12 x13 : Value) (w : World) : Prop := f38_k3_o K E1 (fz 177 0 [(0, x0), (1, x1), (2, x2), (3, x3), (12, x12), (13, x13)]) w
def f38_l3 (K : K1) (E1 : VP1) (x0 x1 x2 x3 x12 x13 x14 : Value) (w : World) : Prop := loopT [14] 12303 (fun E => cP (pl (pl (pr (pr (pl (pl (pr (pl (pl (pr (pl (pr (pr (pr (pr (pr f38_u)))))))))))))))) E (f38_e K) (exB 2 (f38_k3_o K E1) (exB 1 (f38_k3_o K E1) (exB 0 (f38_k1_o K) nX)))) (fz 177 0 [(0, x0), (1, x1), (2, x2), (3, x3), (12, x12), (13, x13), (14, x14)]) w
def f38_k4_o (K : K1) : KF := fun fr w => ∀ σ, cP (pr (pr (pr (pr (pr (pr (pr (pr (pr (pr f38_u)))))))))) (f38_e K) (f38_e K) nX (mixF 32768 σ 0 fr) w
def f38_k4 (K : K1) (x15 : Value) (w : World) : Prop := f38_k4_o K (fz 177 0 [(15, x15)]) w
def f38_k5_o (K : K1) (E1 : VP3) : KF := fun fr w => ∀ σ, cP (pr (pr (pl (pl (pr (pl (pr (pr (pr (pr (pr (pr (pr (pr f38_u)))))))))))))) (fun fr w => E1 (sv fr 15) (sv fr 16) (sv fr 17) w) (f38_e K) (exB 4 (f38_k2_o K) nX) (mixF 233487 σ 0 fr) w
def f38_k5 (K : K1) (E1 : VP3) (x0 x1 x2 x3 x12 x15 x16 x17 : Value) (w : World) : Prop := f38_k5_o K E1 (fz 177 0 [(0, x0), (1, x1), (2, x2), (3, x3), (12, x12), (15, x15), (16, x16), (17, x17)]) w
def f38_k1_t (x0 x1 x2 x3 x12 : Value) (K : K1) (w : World) : Prop :=
 ev Tryz.prog (Instr.indexAt 72 x0 (.int .i64 1)) w fun t90 w_1 =>
 ldS Tryz.prog 33 t90 w_1 fun t91 w_2 =>
 f38_l2 K x0 x1 x2 x3 x12 (.slice none 0 0) t91 (.int .i64 0) w_2
theorem f38_k1_eq (K : K1) (x0 x1 x2 x3 x12 : Value) (w : World) : f38_k1 K x0 x1 x2 x3 x12 w = f38_k1_t x0 x1 x2 x3 x12 K w := cutE fun σ => by kernel_rfl
def f38_l1_t (x0 x1 x2 x3 x12 x13 : Value) (K : K1) (E1 : VP1) (w : World) : Prop :=
 bltS Tryz.prog .len #[74] 3 #[false] #[x12] w fun t37 w_1 =>
 ev Tryz.prog (binM .lss 3 (.tmp 35) (.tmp 37) x13 t37) w_1 fun t38 w_2 =>
 cndS t38 (
 rd Tryz.prog (Builtin.len_ #[75] 3 #[x3]) w_2.drew fun t43 =>
 rd Tryz.prog (binM .lss 3 (.tmp 41) (.tmp 43) x13 t43) w_2.drew fun t44 =>
 gdR t44 true (fun k => k x3) fun t46 =>
 gdR t44 true (fun k => k x13) fun t47 =>
 gdR t44 true (fun k => rd Tryz.prog (Instr.indexAt 75 t46 t47) w_2.drew k) fun t48 =>
 gdR t44 true (fun k => ldR Tryz.prog 5 t48 w_2.drew k) fun t49 =>
 gdR t44 true (fun k => rd Tryz.prog (binM .eql 5 (.tmp 49) (.const (.int .u8 ((0 : Nat) : Int))) t49 (.int .u8 ((0 : Nat) : Int))) w_2.drew k) fun t50 =>
 gdR t44 true (fun k => k t50) fun t51 =>
 gdR t51 false (fun k => k x3) fun t52 =>
 gdR t51 false (fun k => k x13) fun t53 =>
 gdR t51 false (fun k => rd Tryz.prog (Instr.indexAt 75 t52 t53) w_2.drew k) fun t54 =>
 gdR t51 false (fun k => ldR Tryz.prog 5 t54 w_2.drew k) fun t55 =>
 gdR t51 false (fun k => rd Tryz.prog (binM .gtr 5 (.tmp 55) (.const (.int .u8 ((127 : Nat) : Int))) t55 (.int .u8 ((127 : Nat) : Int))) w_2.drew k) fun t56 =>
 gdR t44 true (fun k => pickV t51 (.bool true) t56 k) fun t57 =>
 pickV t44 t57 (.bool false) fun t58 =>
 gdR t58 false (fun k => k x12) fun t60 =>
 gdR t58 false (fun k => k x13) fun t61 =>
 gdR t58 false (fun k => rd Tryz.prog (Instr.indexAt 74 t60 t61) w_2.drew k) fun t62 =>
 gdR t58 false (fun k => ldR Tryz.prog 3 t62 w_2.drew k) fun t63 =>
 gdR t58 false (fun k => rd Tryz.prog (binM .lss 3 (.tmp 63) (.const (.int .i64 0)) t63 (.int .i64 0)) w_2.drew k) fun t64 =>
 pickV t58 (.bool true) t64 fun t65 =>
 gdR t65 false (fun k => k x12) fun t67 =>
 gdR t65 false (fun k => k x13) fun t68 =>
 gdR t65 false (fun k => rd Tryz.prog (Instr.indexAt 74 t67 t68) w_2.drew k) fun t69 =>
 gdR t65 false (fun k => ldR Tryz.prog 3 t69 w_2.drew k) fun t70 =>
 gdR t65 false (fun k => k x1) fun t71 =>
 gd t65 false (fun k => callS Tryz.prog 19 (pA #[t71]) w_2.drew k) w_2.drew fun t72 w_3 =>
 (gq t65 false (ag Tryz.prog (Instr.indexAt 74 t67 t68) w_3 t69)) ∧
 (gq t65 false (ldG Tryz.prog 3 t69 w_3 t70)) ∧
 gdR t65 false (fun k => rd Tryz.prog (binM .geq 3 (.tmp 70) (.tmp 72) t70 t72) w_3 k) fun t73 =>
 pickV t65 (.bool true) t73 fun t74 =>
 cndS t74 (
 K (.tuple #[(.slice none 0 0), (.int .i64 1)]) w_3) (
 f38_l3 K E1 x0 x1 x2 x3 x12 x13 (.int .i64 0) w_3)) (
 f38_k1 K x0 x1 x2 x3 x12 w_2)
theorem f38_l1_rule (x0 x1 x2 x3 x12 x13 : Value) (K : K1) (w : World) (I : VP1) (μ : Value → World → Nat) (h0 : I x13 w)
    (hr : ∀ (x13 : Value) (w : World), I x13 w → ∀ E1 : VP1, (∀ (y13 : Value) (w' : World), I y13 w' → μ y13 w' < μ x13 w → E1 y13 w') → f38_l1_t x0 x1 x2 x3 x12 x13 K E1 w) : f38_l1 K x0 x1 x2 x3 x12 x13 w :=
  ⟨I, μ, h0, fun σ w hI E hE => cast (by kernel_rfl) (hr (σ 13) w hI E hE)⟩
def f38_k2_t (x12 x15 x16 : Value) (K : K1) (w : World) : Prop :=
 bltS Tryz.prog .len #[74] 3 #[false] #[x12] w fun t169 w_1 =>
 ev Tryz.prog (binM .gtr 3 (.tmp 169) (.const (.int .i64 0)) t169 (.int .i64 0)) w_1 fun t170 w_2 =>
 cndS t170 (
 ev Tryz.prog (Instr.build 87 #[(0, (.int .i64 1)), (1, x16)]) w_2 fun t173 w_3 =>
 ev Tryz.prog (Instr.buildSlice 81 1 #[(0, t173)]) w_3 fun t174 w_4 =>
 bltS Tryz.prog .append #[81, 81] 81 #[false, false] (pA #[x15, t174]) w_4 fun t175 w_5 =>
 f38_k4 K t175 w_5) (
 f38_k4 K x15 w_2)
theorem f38_k2_eq (K : K1) (x12 x15 x16 : Value) (w : World) : f38_k2 K x12 x15 x16 w = f38_k2_t x12 x15 x16 K w := cutE fun σ => by kernel_rfl
def f38_l2_t (x0 x1 x2 x3 x12 x15 x16 x17 : Value) (K : K1) (E1 : VP3) (w : World) : Prop :=
 bltS Tryz.prog .len #[74] 3 #[false] #[x12] w fun t94 w_1 =>
 ev Tryz.prog (binM .lss 3 (.tmp 92) (.tmp 94) x17 t94) w_1 fun t95 w_2 =>
 cndS t95 (
 ev Tryz.prog (Instr.indexAt 74 x12 x17) w_2 fun t100 w_3 =>
 ldS Tryz.prog 3 t100 w_3 fun t101 w_4 =>
 callS Tryz.prog 20 (pA #[x1, t101]) w_4 fun t104 w_5 =>
 ev Tryz.prog (Instr.indexAt 72 x0 t104) w_5 fun t108 w_6 =>
 ldS Tryz.prog 33 t108 w_6 fun t109 w_7 =>
 callS Tryz.prog 56 (pA #[t109]) w_7 fun t110 w_8 =>
 ev Tryz.prog (Instr.extract t110 0) w_8 fun t111 w_9 =>
 ev Tryz.prog (Instr.extract t110 1) w_9 fun t112 w_10 =>
 ev Tryz.prog (Instr.extract t110 2) w_10 fun t113 w_11 =>
 ev Tryz.prog (Instr.extract t110 3) w_11 fun t114 w_12 =>
 bltS Tryz.prog .len #[74] 3 #[false] #[x2] w_12 fun t130 w_13 =>
 ev Tryz.prog (binM .lss 3 (.tmp 128) (.tmp 130) x17 t130) w_13 fun t131 w_14 =>
 cndS t131 (
 callS Tryz.prog 48 (pA #[x0, x1, t101, (.int .u32 ((176 : Nat) : Int))]) w_14 fun t135 w_15 =>
 ev Tryz.prog (Op.unary .not t135) w_15 fun t136 w_16 =>
 cndS t136 (
 K (.tuple #[(.slice none 0 0), (.int .i64 8)]) w_16) (
 ev Tryz.prog (binM .shl 33 (.const (.int .u64 ((1 : Nat) : Int))) (.tmp 138) (.int .u64 ((1 : Nat) : Int)) t101) w_16 fun t139 w_17 =>
 ev Tryz.prog (binM .or 33 (.tmp 137) (.tmp 139) x16 t139) w_17 fun t140 w_18 =>
 ev Tryz.prog (Instr.indexAt 75 x3 x17) w_18 fun t146 w_19 =>
 ldS Tryz.prog 5 t146 w_19 fun t147 w_20 =>
 callS Tryz.prog 21 (pA #[t111, t147, (.int .u32 ((177 : Nat) : Int))]) w_20 fun t148 w_21 =>
 ev Tryz.prog (Instr.build 87 #[(0, t104), (1, t148)]) w_21 fun t149 w_22 =>
 ev Tryz.prog (Instr.buildSlice 81 1 #[(0, t149)]) w_22 fun t150 w_23 =>
 bltS Tryz.prog .append #[81, 81] 81 #[false, false] (pA #[x15, t150]) w_23 fun t151 w_24 =>
 f38_k5 K E1 x0 x1 x2 x3 x12 t151 t140 x17 w_24)) (
 callS Tryz.prog 48 (pA #[x0, x1, t101, (.int .u32 ((177 : Nat) : Int))]) w_14 fun t156 w_25 =>
 ev Tryz.prog (Op.unary .not t156) w_25 fun t157 w_26 =>
 cndS t157 (
 K (.tuple #[(.slice none 0 0), (.int .i64 8)]) w_26) (
 ev Tryz.prog (binM .eql 22 (.tmp 159) (.const (.int .u16 ((65535 : Nat) : Int))) t111 (.int .u16 ((65535 : Nat) : Int))) w_26 fun t160 w_27 =>
 cndS t160 (
 callS Tryz.prog 21 (pA #[t111, (.int .u8 ((0 : Nat) : Int)), (.int .u32 ((178 : Nat) : Int))]) w_27 fun t164 w_28 =>
 ev Tryz.prog (Instr.build 87 #[(0, t104), (1, t164)]) w_28 fun t165 w_29 =>
 ev Tryz.prog (Instr.buildSlice 81 1 #[(0, t165)]) w_29 fun t166 w_30 =>
 bltS Tryz.prog .append #[81, 81] 81 #[false, false] (pA #[x15, t166]) w_30 fun t167 w_31 =>
 f38_k5 K E1 x0 x1 x2 x3 x12 t167 x16 x17 w_31) (
 ev Tryz.prog (binM .shl 33 (.const (.int .u64 ((1 : Nat) : Int))) (.tmp 116) (.int .u64 ((1 : Nat) : Int)) t101) w_27 fun t117 w_32 =>
 ev Tryz.prog (binM .andNot 33 (.tmp 115) (.tmp 117) x16 t117) w_32 fun t118 w_33 =>
 ev Tryz.prog (binM .add 22 (.tmp 121) (.const (.int .u16 ((1 : Nat) : Int))) t111 (.int .u16 ((1 : Nat) : Int))) w_33 fun t122 w_34 =>
 callS Tryz.prog 21 (pA #[t122, (.int .u8 ((0 : Nat) : Int)), (.int .u32 ((176 : Nat) : Int))]) w_34 fun t123 w_35 =>
 ev Tryz.prog (Instr.build 87 #[(0, t104), (1, t123)]) w_35 fun t124 w_36 =>
 ev Tryz.prog (Instr.buildSlice 81 1 #[(0, t124)]) w_36 fun t125 w_37 =>
 bltS Tryz.prog .append #[81, 81] 81 #[false, false] (pA #[x15, t125]) w_37 fun t126 w_38 =>
 f38_k5 K E1 x0 x1 x2 x3 x12 t126 t118 x17 w_38)))) (
 f38_k2 K x12 x15 x16 w_2)
theorem f38_l2_rule (x0 x1 x2 x3 x12 x15 x16 x17 : Value) (K : K1) (w : World) (I : VP3) (μ : Value → Value → Value → World → Nat) (h0 : I x15 x16 x17 w)
    (hr : ∀ (x15 x16 x17 : Value) (w : World), I x15 x16 x17 w → ∀ E1 : VP3, (∀ (y15 y16 y17 : Value) (w' : World), I y15 y16 y17 w' → μ y15 y16 y17 w' < μ x15 x16 x17 w → E1 y15 y16 y17 w') → f38_l2_t x0 x1 x2 x3 x12 x15 x16 x17 K E1 w) : f38_l2 K x0 x1 x2 x3 x12 x15 x16 x17 w :=
  ⟨I, μ, h0, fun σ w hI E hE => cast (by kernel_rfl) (hr (σ 15) (σ 16) (σ 17) w hI E hE)⟩
def f38_k3_t (x0 x1 x2 x3 x12 x13 : Value) (K : K1) (E1 : VP1) (w : World) : Prop :=
 ev Tryz.prog (binM .add 3 (.tmp 39) (.const (.int .i64 1)) x13 (.int .i64 1)) w fun t40 w_1 =>
 E1 t40 w_1
theorem f38_k3_eq (K : K1) (E1 : VP1) (x0 x1 x2 x3 x12 x13 : Value) (w : World) : f38_k3 K E1 x0 x1 x2 x3 x12 x13 w = f38_k3_t x0 x1 x2 x3 x12 x13 K E1 w := cutE fun σ => by kernel_rfl
def f38_l3_t (x0 x1 x2 x3 x12 x13 x14 : Value) (K : K1) (E1 : VP1) (E2 : VP1) (w : World) : Prop :=
 ev Tryz.prog (binM .lss 3 (.tmp 75) (.tmp 76) x14 x13) w fun t77 w_1 =>
 cndS t77 (
 rd Tryz.prog (Instr.indexAt 74 x12 x14) w_1.drew fun t82 =>
 ldR Tryz.prog 3 t82 w_1.drew fun t83 =>
 rd Tryz.prog (Instr.indexAt 74 x12 x13) w_1.drew fun t86 =>
 ldR Tryz.prog 3 t86 w_1.drew fun t87 =>
 rd Tryz.prog (binM .eql 3 (.tmp 83) (.tmp 87) t83 t87) w_1.drew fun t88 =>
 cndS t88 (
 K (.tuple #[(.slice none 0 0), (.int .i64 1)]) w_1.drew) (
 ev Tryz.prog (binM .add 3 (.tmp 78) (.const (.int .i64 1)) x14 (.int .i64 1)) w_1.drew fun t79 w_2 =>
 E2 t79 w_2)) (
 f38_k3 K E1 x0 x1 x2 x3 x12 x13 w_1)
theorem f38_l3_rule (x0 x1 x2 x3 x12 x13 x14 : Value) (K : K1) (E1 : VP1) (w : World) (I : VP1) (μ : Value → World → Nat) (h0 : I x14 w)
    (hr : ∀ (x14 : Value) (w : World), I x14 w → ∀ E2 : VP1, (∀ (y14 : Value) (w' : World), I y14 w' → μ y14 w' < μ x14 w → E2 y14 w') → f38_l3_t x0 x1 x2 x3 x12 x13 x14 K E1 E2 w) : f38_l3 K E1 x0 x1 x2 x3 x12 x13 x14 w :=
  ⟨I, μ, h0, fun σ w hI E hE => cast (by kernel_rfl) (hr (σ 14) w hI E hE)⟩
def f38_k4_t (x15 : Value) (K : K1) (w : World) : Prop :=
 K (.tuple #[x15, (.int .i64 0)]) w
theorem f38_k4_eq (K : K1) (x15 : Value) (w : World) : f38_k4 K x15 w = f38_k4_t x15 K w := cutE fun σ => by kernel_rfl
def f38_k5_t (x0 x1 x2 x3 x12 x15 x16 x17 : Value) (K : K1) (E1 : VP3) (w : World) : Prop :=
 ev Tryz.prog (binM .add 3 (.tmp 96) (.const (.int .i64 1)) x17 (.int .i64 1)) w fun t97 w_1 =>
 E1 x15 x16 t97 w_1
theorem f38_k5_eq (K : K1) (E1 : VP3) (x0 x1 x2 x3 x12 x15 x16 x17 : Value) (w : World) : f38_k5 K E1 x0 x1 x2 x3 x12 x15 x16 x17 w = f38_k5_t x0 x1 x2 x3 x12 x15 x16 x17 K E1 w := cutE fun σ => by kernel_rfl
def f38_t (x0 x1 x2 x3 x4 : Value) (K : K1) (w : World) : Prop :=
 bltS Tryz.prog .len #[75] 3 #[false] #[x3] w fun t25 w_1 =>
 bltS Tryz.prog .len #[74] 3 #[false] #[x2] w_1 fun t27 w_2 =>
 ev Tryz.prog (binM .neq 3 (.tmp 25) (.tmp 27) t25 t27) w_2 fun t28 w_3 =>
 cndS t28 (
 K (.tuple #[(.slice none 0 0), (.int .i64 1)]) w_3) (
 bltS Tryz.prog .append #[74, 74] 74 #[false, false] (pA #[(.slice none 0 0), x2]) w_3 fun t31 w_4 =>
 bltS Tryz.prog .append #[74, 74] 74 #[false, false] (pA #[t31, x4]) w_4 fun t34 w_5 =>
 f38_l1 K x0 x1 x2 x3 t34 (.int .i64 0) w_5)
theorem f38_call (x0 x1 x2 x3 x4 : Value) (K : K1) (w : World) (h : f38_t x0 x1 x2 x3 x4 K w) : callS Tryz.prog 38 #[x0, x1, x2, x3, x4] w K :=
  call_of_txt (args := [x0, x1, x2, x3, x4]) mixed Tryz.func38 f38_u.2 (by kernel_rfl) (cast (by kernel_rfl) h)
noncomputable def f39_u : Code × Dec := ((Tryz.f39.body).getD .skip, (.s .o (.s .o (.x 0 (.s .o (.b (.l [13] 4099 67100720 .o))) .o))))
abbrev f39_e (K : K1) : KF := endK Tryz.prog Tryz.f39.results.toList K
def f39_k1_o (K : K1) : KF := fun fr w => ∀ σ, cP (pr (pr (pr f39_u))) (f39_e K) (f39_e K) nX (mixF 0 σ 0 fr) w
def f39_k1 (K : K1) (w : World) : Prop := f39_k1_o K (fz 26 0 []) w
def f39_l1 (K : K1) (x0 x1 x12 x13 : Value) (w : World) : Prop := loopT [13] 4099 (fun E => cP (pl (pl (pr (pl (pr (pr f39_u)))))) E (f39_e K) (exB 0 (f39_k1_o K) nX)) (fz 26 0 [(0, x0), (1, x1), (12, x12), (13, x13)]) w
def f39_k1_t (K : K1) (w : World) : Prop :=
 K (.bool true) w
theorem f39_k1_eq (K : K1) (w : World) : f39_k1 K w = f39_k1_t K w := cutE fun σ => by kernel_rfl
def f39_l1_t (x0 x1 x12 x13 : Value) (K : K1) (E1 : VP1) (w : World) : Prop :=
 ev Tryz.prog (binM .lss 3 (.tmp 13) (.tmp 12) x13 x12) w fun t14 w_1 =>
 cndS t14 (
 rd Tryz.prog (Instr.indexAt 72 x0 x13) w_1.drew fun t18 =>
 ldR Tryz.prog 33 t18 w_1.drew fun t19 =>
 rd Tryz.prog (Instr.indexAt 72 x1 x13) w_1.drew fun t22 =>
 ldR Tryz.prog 33 t22 w_1.drew fun t23 =>
 rd Tryz.prog (binM .neq 33 (.tmp 19) (.tmp 23) t19 t23) w_1.drew fun t24 =>
 cndS t24 (
 K (.bool false) w_1.drew) (
 ev Tryz.prog (binM .add 3 (.tmp 13) (.const (.int .i64 1)) x13 (.int .i64 1)) w_1.drew fun t25 w_2 =>
 E1 t25 w_2)) (
 f39_k1 K w_1)
theorem f39_l1_rule (x0 x1 x12 x13 : Value) (K : K1) (w : World) (I : VP1) (μ : Value → World → Nat) (h0 : I x13 w)
    (hr : ∀ (x13 : Value) (w : World), I x13 w → ∀ E1 : VP1, (∀ (y13 : Value) (w' : World), I y13 w' → μ y13 w' < μ x13 w → E1 y13 w') → f39_l1_t x0 x1 x12 x13 K E1 w) : f39_l1 K x0 x1 x12 x13 w :=
  ⟨I, μ, h0, fun σ w hI E hE => cast (by kernel_rfl) (hr (σ 13) w hI E hE)⟩
def f39_t (x0 x1 : Value) (K : K1) (w : World) : Prop :=
 bltS Tryz.prog .len #[72] 3 #[false] #[x0] w fun t7 w_1 =>
 bltS Tryz.prog .len #[72] 3 #[false] #[x1] w_1 fun t9 w_2 =>
 ev Tryz.prog (binM .neq 3 (.tmp 7) (.tmp 9) t7 t9) w_2 fun t10 w_3 =>
 cndS t10 (
 K (.bool false) w_3) (
 bltS Tryz.prog .len #[72] 3 #[false] #[x0] w_3 fun t12 w_4 =>
 f39_l1 K x0 x1 t12 (.int .i64 0) w_4)
theorem f39_call (x0 x1 : Value) (K : K1) (w : World) (h : f39_t x0 x1 K w) : callS Tryz.prog 39 #[x0, x1] w K :=
  call_of_txt (args := [x0, x1]) mixed Tryz.func39 f39_u.2 (by kernel_rfl) (cast (by kernel_rfl) h)
noncomputable def f40_u : Code × Dec := ((Tryz.f40.body).getD .skip, (.s .o (.s .o (.x 32 (.s .o (.b (.l [5, 7] 3 8388576 .o))) .o))))
abbrev f40_e (K : K1) : KF := endK Tryz.prog Tryz.f40.results.toList K
def f40_k1_o (K : K1) : KF := fun fr w => ∀ σ, cP (pr (pr (pr f40_u))) (f40_e K) (f40_e K) nX (mixF 32 σ 0 fr) w
def f40_k1 (K : K1) (x5 : Value) (w : World) : Prop := f40_k1_o K (fz 24 0 [(5, x5)]) w
def f40_l1 (K : K1) (x0 x1 x5 x7 : Value) (w : World) : Prop := loopT [5, 7] 3 (fun E => cP (pl (pl (pr (pl (pr (pr f40_u)))))) E (f40_e K) (exB 0 (f40_k1_o K) nX)) (fz 24 0 [(0, x0), (1, x1), (5, x5), (7, x7)]) w
def f40_k1_t (x5 : Value) (K : K1) (w : World) : Prop :=
 K x5 w
theorem f40_k1_eq (K : K1) (x5 : Value) (w : World) : f40_k1 K x5 w = f40_k1_t x5 K w := cutE fun σ => by kernel_rfl
def f40_l1_t (x0 x1 x5 x7 : Value) (K : K1) (E1 : VP2) (w : World) : Prop :=
 ev Tryz.prog (binM .lss 3 (.tmp 7) (.const (.int .i64 256)) x7 (.int .i64 256)) w fun t8 w_1 =>
 cndS t8 (
 ev Tryz.prog (convert 3 33 x1) w_1 fun t13 w_2 =>
 ev Tryz.prog (binM .mul 33 (.const (.int .u64 ((64 : Nat) : Int))) (.tmp 13) (.int .u64 ((64 : Nat) : Int)) t13) w_2 fun t14 w_3 =>
 ev Tryz.prog (convert 3 33 x7) w_3 fun t16 w_4 =>
 ev Tryz.prog (binM .mul 33 (.const (.int .u64 ((8 : Nat) : Int))) (.tmp 16) (.int .u64 ((8 : Nat) : Int)) t16) w_4 fun t17 w_5 =>
 ev Tryz.prog (binM .add 33 (.tmp 14) (.tmp 17) t14 t17) w_5 fun t18 w_6 =>
 callS Tryz.prog 52 (pA #[x0, t18]) w_6 fun t19 w_7 =>
 ev Tryz.prog (Instr.buildSlice 72 1 #[(0, t19)]) w_7 fun t20 w_8 =>
 bltS Tryz.prog .append #[72, 72] 72 #[false, false] (pA #[x5, t20]) w_8 fun t21 w_9 =>
 ev Tryz.prog (binM .add 3 (.tmp 7) (.const (.int .i64 1)) x7 (.int .i64 1)) w_9 fun t22 w_10 =>
 E1 t21 t22 w_10) (
 f40_k1 K x5 w_1)
theorem f40_l1_rule (x0 x1 x5 x7 : Value) (K : K1) (w : World) (I : VP2) (μ : Value → Value → World → Nat) (h0 : I x5 x7 w)
    (hr : ∀ (x5 x7 : Value) (w : World), I x5 x7 w → ∀ E1 : VP2, (∀ (y5 y7 : Value) (w' : World), I y5 y7 w' → μ y5 y7 w' < μ x5 x7 w → E1 y5 y7 w') → f40_l1_t x0 x1 x5 x7 K E1 w) : f40_l1 K x0 x1 x5 x7 w :=
  ⟨I, μ, h0, fun σ w hI E hE => cast (by kernel_rfl) (hr (σ 5) (σ 7) w hI E hE)⟩
def f40_t (x0 x1 : Value) (K : K1) (w : World) : Prop :=
 f40_l1 K x0 x1 (.slice none 0 0) (.int .i64 0) w
theorem f40_call (x0 x1 : Value) (K : K1) (w : World) (h : f40_t x0 x1 K w) : callS Tryz.prog 40 #[x0, x1] w K :=
  call_of_txt (args := [x0, x1]) mixed Tryz.func40 f40_u.2 (by kernel_rfl) (cast (by kernel_rfl) h)
noncomputable def f44_u : Code × Dec := ((Tryz.f44.body).getD .skip, (.s .o (.s .o (.x 64 (.s .o (.b (.l [6, 7] 3 268435440 .o))) .o))))
abbrev f44_e (K : K1) : KF := endK Tryz.prog Tryz.f44.results.toList K
def f44_k1_o (K : K1) : KF := fun fr w => ∀ σ, cP (pr (pr (pr f44_u))) (f44_e K) (f44_e K) nX (mixF 64 σ 0 fr) w
def f44_k1 (K : K1) (x6 : Value) (w : World) : Prop := f44_k1_o K (fz 29 0 [(6, x6)]) w
def f44_l1 (K : K1) (x0 x1 x6 x7 : Value) (w : World) : Prop := loopT [6, 7] 3 (fun E => cP (pl (pl (pr (pl (pr (pr f44_u)))))) E (f44_e K) (exB 0 (f44_k1_o K) nX)) (fz 29 0 [(0, x0), (1, x1), (6, x6), (7, x7)]) w
def f44_k1_t (x6 : Value) (K : K1) (w : World) : Prop :=
 K (.tuple #[x6, (.bool true)]) w
theorem f44_k1_eq (K : K1) (x6 : Value) (w : World) : f44_k1 K x6 w = f44_k1_t x6 K w := cutE fun σ => by kernel_rfl
def f44_l1_t (x0 x1 x6 x7 : Value) (K : K1) (E1 : VP2) (w : World) : Prop :=
 callS Tryz.prog 19 (pA #[x1]) w fun t10 w_1 =>
 ev Tryz.prog (binM .lss 3 (.tmp 8) (.tmp 10) x7 t10) w_1 fun t11 w_2 =>
 cndS t11 (
 callS Tryz.prog 48 (pA #[x0, x1, x7, (.int .u32 ((176 : Nat) : Int))]) w_2 fun t17 w_3 =>
 ev Tryz.prog (Op.unary .not t17) w_3 fun t18 w_4 =>
 cndS t18 (
 K (.tuple #[(.int .u16 ((0 : Nat) : Int)), (.bool false)]) w_4) (
 callS Tryz.prog 20 (pA #[x1, x7]) w_4 fun t23 w_5 =>
 ev Tryz.prog (Instr.indexAt 72 x0 t23) w_5 fun t24 w_6 =>
 ldS Tryz.prog 33 t24 w_6 fun t25 w_7 =>
 ev Tryz.prog (convert 33 22 t25) w_7 fun t26 w_8 =>
 bltS Tryz.prog .max #[22, 22] 22 #[false, false] #[x6, t26] w_8 fun t27 w_9 =>
 ev Tryz.prog (binM .add 3 (.tmp 12) (.const (.int .i64 1)) x7 (.int .i64 1)) w_9 fun t13 w_10 =>
 E1 t27 t13 w_10)) (
 f44_k1 K x6 w_2)
theorem f44_l1_rule (x0 x1 x6 x7 : Value) (K : K1) (w : World) (I : VP2) (μ : Value → Value → World → Nat) (h0 : I x6 x7 w)
    (hr : ∀ (x6 x7 : Value) (w : World), I x6 x7 w → ∀ E1 : VP2, (∀ (y6 y7 : Value) (w' : World), I y6 y7 w' → μ y6 y7 w' < μ x6 x7 w → E1 y6 y7 w') → f44_l1_t x0 x1 x6 x7 K E1 w) : f44_l1 K x0 x1 x6 x7 w :=
  ⟨I, μ, h0, fun σ w hI E hE => cast (by kernel_rfl) (hr (σ 6) (σ 7) w hI E hE)⟩
def f44_t (x0 x1 : Value) (K : K1) (w : World) : Prop :=
 f44_l1 K x0 x1 (.int .u16 ((0 : Nat) : Int)) (.int .i64 0) w
theorem f44_call (x0 x1 : Value) (K : K1) (w : World) (h : f44_t x0 x1 K w) : callS Tryz.prog 44 #[x0, x1] w K :=
  call_of_txt (args := [x0, x1]) mixed Tryz.func44 f44_u.2 (by kernel_rfl) (cast (by kernel_rfl) h)
noncomputable def f46_u : Code × Dec := ((Tryz.f46.body).getD .skip, (.s .o (.s .o (.x 32 (.s .o (.b (.l [5, 6] 3 524256 (.s .o (.x 99 .o .o))))) .o))))
abbrev f46_e (K : K1) : KF := endK Tryz.prog Tryz.f46.results.toList K
def f46_k1_o (K : K1) : KF := fun fr w => ∀ σ, cP (pr (pr (pr f46_u))) (f46_e K) (f46_e K) nX (mixF 32 σ 0 fr) w
def f46_k1 (K : K1) (x5 : Value) (w : World) : Prop := f46_k1_o K (fz 20 0 [(5, x5)]) w
def f46_l1 (K : K1) (x0 x1 x5 x6 : Value) (w : World) : Prop := loopT [5, 6] 3 (fun E => cP (pl (pl (pr (pl (pr (pr f46_u)))))) E (f46_e K) (exB 0 (f46_k1_o K) nX)) (fz 20 0 [(0, x0), (1, x1), (5, x5), (6, x6)]) w
def f46_k2_o (K : K1) (E1 : VP2) : KF := fun fr w => ∀ σ, cP (pr (pr (pl (pl (pr (pl (pr (pr f46_u)))))))) (fun fr w => E1 (sv fr 5) (sv fr 6) w) (f46_e K) (exB 0 (f46_k1_o K) nX) (mixF 99 σ 0 fr) w
def f46_k2 (K : K1) (E1 : VP2) (x0 x1 x5 x6 : Value) (w : World) : Prop := f46_k2_o K E1 (fz 20 0 [(0, x0), (1, x1), (5, x5), (6, x6)]) w
def f46_k1_t (x5 : Value) (K : K1) (w : World) : Prop :=
 K x5 w
theorem f46_k1_eq (K : K1) (x5 : Value) (w : World) : f46_k1 K x5 w = f46_k1_t x5 K w := cutE fun σ => by kernel_rfl
def f46_l1_t (x0 x1 x5 x6 : Value) (K : K1) (E1 : VP2) (w : World) : Prop :=
 callS Tryz.prog 19 (pA #[x1]) w fun t9 w_1 =>
 ev Tryz.prog (binM .lss 3 (.tmp 7) (.tmp 9) x6 t9) w_1 fun t10 w_2 =>
 cndS t10 (
 callS Tryz.prog 48 (pA #[x0, x1, x6, (.int .u32 ((177 : Nat) : Int))]) w_2 fun t16 w_3 =>
 cndS t16 (
 ev Tryz.prog (binM .add 3 (.tmp 17) (.const (.int .i64 1)) x5 (.int .i64 1)) w_3 fun t18 w_4 =>
 f46_k2 K E1 x0 x1 t18 x6 w_4) (
 f46_k2 K E1 x0 x1 x5 x6 w_3)) (
 f46_k1 K x5 w_2)
theorem f46_l1_rule (x0 x1 x5 x6 : Value) (K : K1) (w : World) (I : VP2) (μ : Value → Value → World → Nat) (h0 : I x5 x6 w)
    (hr : ∀ (x5 x6 : Value) (w : World), I x5 x6 w → ∀ E1 : VP2, (∀ (y5 y6 : Value) (w' : World), I y5 y6 w' → μ y5 y6 w' < μ x5 x6 w → E1 y5 y6 w') → f46_l1_t x0 x1 x5 x6 K E1 w) : f46_l1 K x0 x1 x5 x6 w :=
  ⟨I, μ, h0, fun σ w hI E hE => cast (by kernel_rfl) (hr (σ 5) (σ 6) w hI E hE)⟩
def f46_k2_t (x0 x1 x5 x6 : Value) (K : K1) (E1 : VP2) (w : World) : Prop :=
 ev Tryz.prog (binM .add 3 (.tmp 11) (.const (.int .i64 1)) x6 (.int .i64 1)) w fun t12 w_1 =>
 E1 x5 t12 w_1
theorem f46_k2_eq (K : K1) (E1 : VP2) (x0 x1 x5 x6 : Value) (w : World) : f46_k2 K E1 x0 x1 x5 x6 w = f46_k2_t x0 x1 x5 x6 K E1 w := cutE fun σ => by kernel_rfl
def f46_t (x0 x1 : Value) (K : K1) (w : World) : Prop :=
 f46_l1 K x0 x1 (.int .i64 0) (.int .i64 0) w
theorem f46_call (x0 x1 : Value) (K : K1) (w : World) (h : f46_t x0 x1 K w) : callS Tryz.prog 46 #[x0, x1] w K :=
  call_of_txt (args := [x0, x1]) mixed Tryz.func46 f46_u.2 (by kernel_rfl) (cast (by kernel_rfl) h)
noncomputable def f53_u : Code × Dec := ((Tryz.f53.body).getD .skip, (.s .o (.s .o (.s .o (.x 128 (.s .o (.b (.l [16] 134 288230376151646976 (.s .o (.s .o (.x 65670 .o .o)))))) .o)))))
abbrev f53_e (K : K1) : KF := endK Tryz.prog Tryz.f53.results.toList K
def f53_k1_o (K : K1) : KF := fun fr w => ∀ σ, cP (pr (pr (pr (pr f53_u)))) (f53_e K) (f53_e K) nX (mixF 128 σ 0 fr) w
def f53_k1 (K : K1) (x7 : Value) (w : World) : Prop := f53_k1_o K (fz 59 0 [(7, x7)]) w
def f53_l1 (K : K1) (x1 x2 x7 x16 : Value) (w : World) : Prop := loopT [16] 134 (fun E => cP (pl (pl (pr (pl (pr (pr (pr f53_u))))))) E (f53_e K) (exB 0 (f53_k1_o K) nX)) (fz 59 0 [(1, x1), (2, x2), (7, x7), (16, x16)]) w
def f53_k2_o (K : K1) (E1 : VP1) : KF := fun fr w => ∀ σ, cP (pr (pr (pr (pl (pl (pr (pl (pr (pr (pr f53_u)))))))))) (fun fr w => E1 (sv fr 16) w) (f53_e K) (exB 0 (f53_k1_o K) nX) (mixF 65670 σ 0 fr) w
def f53_k2 (K : K1) (E1 : VP1) (x1 x2 x7 x16 : Value) (w : World) : Prop := f53_k2_o K E1 (fz 59 0 [(1, x1), (2, x2), (7, x7), (16, x16)]) w
def f53_k1_t (x7 : Value) (K : K1) (w : World) : Prop :=
 K x7 w
theorem f53_k1_eq (K : K1) (x7 : Value) (w : World) : f53_k1 K x7 w = f53_k1_t x7 K w := cutE fun σ => by kernel_rfl
def f53_l1_t (x1 x2 x7 x16 : Value) (K : K1) (E1 : VP1) (w : World) : Prop :=
 ev Tryz.prog (binM .lss 3 (.tmp 16) (.const (.int .i64 32)) x16 (.int .i64 32)) w fun t17 w_1 =>
 cndS t17 (
 ev Tryz.prog (convert 3 100 x16) w_1 fun t21 w_2 =>
 ev Tryz.prog (binM .shr 44 (.tmp 19) (.tmp 21) x2 t21) w_2 fun t22 w_3 =>
 ev Tryz.prog (binM .and 44 (.tmp 22) (.const (.int .u32 ((1 : Nat) : Int))) t22 (.int .u32 ((1 : Nat) : Int))) w_3 fun t23 w_4 =>
 ev Tryz.prog (binM .eql 44 (.tmp 23) (.const (.int .u32 ((0 : Nat) : Int))) t23 (.int .u32 ((0 : Nat) : Int))) w_4 fun t24 w_5 =>
 gd t24 false (fun k => k x1 w_5) w_5 fun t26 w_6 =>
 gd t24 false (fun k => k x16 w_6) w_6 fun t27 w_7 =>
 gd t24 false (fun k => ev Tryz.prog (Op.unary .neg t27) w_7 k) w_7 fun t28 w_8 =>
 gd t24 false (fun k => ev Tryz.prog (binM .lss 3 (.tmp 26) (.tmp 28) t26 t28) w_8 k) w_8 fun t29 w_9 =>
 pickS t24 (.bool true) t29 w_9 fun t30 w_10 =>
 gd t30 false (fun k => k x1 w_10) w_10 fun t32 w_11 =>
 gd t30 false (fun k => ev Tryz.prog (binM .quo 3 (.tmp 32) (.const (.int .i64 8)) t32 (.int .i64 8)) w_11 k) w_11 fun t33 w_12 =>
 gd t30 false (fun k => k x7 w_12) w_12 fun t34 w_13 =>
 gd t30 false (fun k => bltS Tryz.prog .len #[75] 3 #[false] #[t34] w_13 k) w_13 fun t35 w_14 =>
 gd t30 false (fun k => ev Tryz.prog (binM .geq 3 (.tmp 33) (.tmp 35) t33 t35) w_14 k) w_14 fun t36 w_15 =>
 pickS t30 (.bool true) t36 w_15 fun t37 w_16 =>
 cndS t37 (
 f53_k2 K E1 x1 x2 x7 x16 w_16) (
 ev Tryz.prog (binM .add 3 (.tmp 38) (.tmp 39) x1 x16) w_16 fun t40 w_17 =>
 ev Tryz.prog (binM .quo 3 (.tmp 41) (.const (.int .i64 8)) t40 (.int .i64 8)) w_17 fun t42 w_18 =>
 bltS Tryz.prog .len #[75] 3 #[false] #[x7] w_18 fun t44 w_19 =>
 ev Tryz.prog (binM .lss 3 (.tmp 42) (.tmp 44) t42 t44) w_19 fun t45 w_20 =>
 cndS t45 (
 ev Tryz.prog (binM .quo 3 (.tmp 47) (.const (.int .i64 8)) t40 (.int .i64 8)) w_20 fun t48 w_21 =>
 ev Tryz.prog (Instr.indexAt 75 x7 t48) w_21 fun t49 w_22 =>
 ldS Tryz.prog 5 t49 w_22 fun t50 w_23 =>
 ev Tryz.prog (binM .rem 3 (.tmp 51) (.const (.int .i64 8)) t40 (.int .i64 8)) w_23 fun t52 w_24 =>
 ev Tryz.prog (convert 3 100 t52) w_24 fun t53 w_25 =>
 ev Tryz.prog (binM .shl 5 (.const (.int .u8 ((1 : Nat) : Int))) (.tmp 53) (.int .u8 ((1 : Nat) : Int)) t53) w_25 fun t54 w_26 =>
 ev Tryz.prog (binM .xor 5 (.tmp 50) (.tmp 54) t50 t54) w_26 fun t55 w_27 =>
 ev Tryz.prog (Instr.indexAt 75 x7 t48) w_27 fun t56 w_28 =>
 stS Tryz.prog 5 t56 t55 w_28 fun w_29 =>
 f53_k2 K E1 x1 x2 x7 x16 w_29) (
 f53_k2 K E1 x1 x2 x7 x16 w_20))) (
 f53_k1 K x7 w_1)
theorem f53_l1_rule (x1 x2 x7 x16 : Value) (K : K1) (w : World) (I : VP1) (μ : Value → World → Nat) (h0 : I x16 w)
    (hr : ∀ (x16 : Value) (w : World), I x16 w → ∀ E1 : VP1, (∀ (y16 : Value) (w' : World), I y16 w' → μ y16 w' < μ x16 w → E1 y16 w') → f53_l1_t x1 x2 x7 x16 K E1 w) : f53_l1 K x1 x2 x7 x16 w :=
  ⟨I, μ, h0, fun σ w hI E hE => cast (by kernel_rfl) (hr (σ 16) w hI E hE)⟩
def f53_k2_t (x1 x2 x7 x16 : Value) (K : K1) (E1 : VP1) (w : World) : Prop :=
 ev Tryz.prog (binM .add 3 (.tmp 16) (.const (.int .i64 1)) x16 (.int .i64 1)) w fun t57 w_1 =>
 E1 t57 w_1
theorem f53_k2_eq (K : K1) (E1 : VP1) (x1 x2 x7 x16 : Value) (w : World) : f53_k2 K E1 x1 x2 x7 x16 w = f53_k2_t x1 x2 x7 x16 K E1 w := cutE fun σ => by kernel_rfl
def f53_t (x0 x1 x2 : Value) (K : K1) (w : World) : Prop :=
 bltS Tryz.prog .len #[75] 3 #[false] #[x0] w fun t11 w_1 =>
 ev Tryz.prog (Instr.makeSlice 75 t11 t11) w_1 fun t12 w_2 =>
 bltS Tryz.prog .copy #[75, 75] 3 #[false, false] (pA #[t12, x0]) w_2 fun t15 w_3 =>
 f53_l1 K x1 x2 t12 (.int .i64 0) w_3
theorem f53_call (x0 x1 x2 : Value) (K : K1) (w : World) (h : f53_t x0 x1 x2 K w) : callS Tryz.prog 53 #[x0, x1, x2] w K :=
  call_of_txt (args := [x0, x1, x2]) mixed Tryz.func53 f53_u.2 (by kernel_rfl) (cast (by kernel_rfl) h)
noncomputable def f54_u : Code × Dec := ((Tryz.f54.body).getD .skip, (.s .o (.s .o (.s .o (.x 3 (.s .o (.b (.l [9] 3 70231305224768 .o))) (.s .o (.x 1025 (.s .o (.b (.l [11] 1027 37778931581482185062464 .o))) .o)))))))
abbrev f54_e (K : K1) : KF := endK Tryz.prog Tryz.f54.results.toList K
def f54_k1_o (K : K1) : KF := fun fr w => ∀ σ, cP (pr (pr (pr (pr f54_u)))) (f54_e K) (f54_e K) nX (mixF 3 σ 0 fr) w
def f54_k1 (K : K1) (x0 x1 : Value) (w : World) : Prop := f54_k1_o K (fz 85 0 [(0, x0), (1, x1)]) w
def f54_l1 (K : K1) (x0 x1 x9 : Value) (w : World) : Prop := loopT [9] 3 (fun E => cP (pl (pl (pr (pl (pr (pr (pr f54_u))))))) E (f54_e K) (exB 0 (f54_k1_o K) nX)) (fz 85 0 [(0, x0), (1, x1), (9, x9)]) w
def f54_k2_o (K : K1) : KF := fun fr w => ∀ σ, cP (pr (pr (pr (pr (pr (pr f54_u)))))) (f54_e K) (f54_e K) nX (mixF 1025 σ 0 fr) w
def f54_k2 (K : K1) (x0 x10 : Value) (w : World) : Prop := f54_k2_o K (fz 85 0 [(0, x0), (10, x10)]) w
def f54_l2 (K : K1) (x0 x1 x10 x11 : Value) (w : World) : Prop := loopT [11] 1027 (fun E => cP (pl (pl (pr (pl (pr (pr (pr (pr (pr f54_u))))))))) E (f54_e K) (exB 2 (f54_k2_o K) nX)) (fz 85 0 [(0, x0), (1, x1), (10, x10), (11, x11)]) w
def f54_k1_t (x0 x1 : Value) (K : K1) (w : World) : Prop :=
 callS Tryz.prog 19 (pA #[x1]) w fun t47 w_1 =>
 f54_l2 K x0 x1 t47 (.int .i64 0) w_1
theorem f54_k1_eq (K : K1) (x0 x1 : Value) (w : World) : f54_k1 K x0 x1 w = f54_k1_t x0 x1 K w := cutE fun σ => by kernel_rfl
def f54_l1_t (x0 x1 x9 : Value) (K : K1) (E1 : VP1) (w : World) : Prop :=
 ev Tryz.prog (binM .lss 3 (.tmp 37) (.const (.int .i64 8)) x9 (.int .i64 8)) w fun t38 w_1 =>
 cndS t38 (
 ev Tryz.prog (Instr.indexAt 72 x0 x9) w_1 fun t43 w_2 =>
 ldS Tryz.prog 33 t43 w_2 fun t44 w_3 =>
 ev Tryz.prog (binM .neq 33 (.tmp 44) (.const (.int .u64 ((0 : Nat) : Int))) t44 (.int .u64 ((0 : Nat) : Int))) w_3 fun t45 w_4 =>
 cndS t45 (
 K (.int .i64 11) w_4) (
 ev Tryz.prog (binM .add 3 (.tmp 39) (.const (.int .i64 1)) x9 (.int .i64 1)) w_4 fun t40 w_5 =>
 E1 t40 w_5)) (
 f54_k1 K x0 x1 w_1)
theorem f54_l1_rule (x0 x1 x9 : Value) (K : K1) (w : World) (I : VP1) (μ : Value → World → Nat) (h0 : I x9 w)
    (hr : ∀ (x9 : Value) (w : World), I x9 w → ∀ E1 : VP1, (∀ (y9 : Value) (w' : World), I y9 w' → μ y9 w' < μ x9 w → E1 y9 w') → f54_l1_t x0 x1 x9 K E1 w) : f54_l1 K x0 x1 x9 w :=
  ⟨I, μ, h0, fun σ w hI E hE => cast (by kernel_rfl) (hr (σ 9) w hI E hE)⟩
def f54_k2_t (x0 x10 : Value) (K : K1) (w : World) : Prop :=
 ev Tryz.prog (binM .lss 3 (.tmp 75) (.const (.int .i64 64)) x10 (.int .i64 64)) w fun t76 w_1 =>
 gd t76 true (fun k => k x0 w_1) w_1 fun t78 w_2 =>
 gd t76 true (fun k => ev Tryz.prog (Instr.indexAt 72 t78 (.int .i64 1)) w_2 k) w_2 fun t79 w_3 =>
 gd t76 true (fun k => ldS Tryz.prog 33 t79 w_3 k) w_3 fun t80 w_4 =>
 gd t76 true (fun k => k x10 w_4) w_4 fun t81 w_5 =>
 gd t76 true (fun k => ev Tryz.prog (binM .shr 33 (.tmp 80) (.tmp 81) t80 t81) w_5 k) w_5 fun t82 w_6 =>
 gd t76 true (fun k => ev Tryz.prog (binM .neq 33 (.tmp 82) (.const (.int .u64 ((0 : Nat) : Int))) t82 (.int .u64 ((0 : Nat) : Int))) w_6 k) w_6 fun t83 w_7 =>
 pickS t76 t83 (.bool false) w_7 fun t84 w_8 =>
 cndS t84 (
 K (.int .i64 11) w_8) (
 K (.int .i64 0) w_8)
theorem f54_k2_eq (K : K1) (x0 x10 : Value) (w : World) : f54_k2 K x0 x10 w = f54_k2_t x0 x10 K w := cutE fun σ => by kernel_rfl
def f54_l2_t (x0 x1 x10 x11 : Value) (K : K1) (E1 : VP1) (w : World) : Prop :=
 ev Tryz.prog (binM .lss 3 (.tmp 48) (.tmp 49) x11 x10) w fun t50 w_1 =>
 cndS t50 (
 callS Tryz.prog 20 (pA #[x1, x11]) w_1 fun t57 w_2 =>
 ev Tryz.prog (Instr.indexAt 72 x0 t57) w_2 fun t58 w_3 =>
 ldS Tryz.prog 33 t58 w_3 fun t59 w_4 =>
 callS Tryz.prog 56 (pA #[t59]) w_4 fun t60 w_5 =>
 ev Tryz.prog (Instr.extract t60 0) w_5 fun t61 w_6 =>
 ev Tryz.prog (Instr.extract t60 1) w_6 fun t62 w_7 =>
 ev Tryz.prog (Instr.extract t60 2) w_7 fun t63 w_8 =>
 ev Tryz.prog (Instr.extract t60 3) w_8 fun t64 w_9 =>
 ev Tryz.prog (Op.unary .not t64) w_9 fun t66 w_10 =>
 gd t66 false (fun k => k x0 w_10) w_10 fun t68 w_11 =>
 gd t66 false (fun k => k x11 w_11) w_11 fun t69 w_12 =>
 gd t66 false (fun k => callS Tryz.prog 42 (pA #[t68, t69]) w_12 k) w_12 fun t70 w_13 =>
 gd t66 false (fun k => k t63 w_13) w_13 fun t71 w_14 =>
 gd t66 false (fun k => ev Tryz.prog (binM .neq 44 (.tmp 71) (.const (.int .u32 ((176 : Nat) : Int))) t71 (.int .u32 ((176 : Nat) : Int))) w_14 k) w_14 fun t72 w_15 =>
 gd t66 false (fun k => ev Tryz.prog (binM .neq 4 (.tmp 70) (.tmp 72) t70 t72) w_15 k) w_15 fun t73 w_16 =>
 pickS t66 (.bool true) t73 w_16 fun t74 w_17 =>
 cndS t74 (
 K (.int .i64 11) w_17) (
 ev Tryz.prog (binM .add 3 (.tmp 51) (.const (.int .i64 1)) x11 (.int .i64 1)) w_17 fun t52 w_18 =>
 E1 t52 w_18)) (
 f54_k2 K x0 x10 w_1)
theorem f54_l2_rule (x0 x1 x10 x11 : Value) (K : K1) (w : World) (I : VP1) (μ : Value → World → Nat) (h0 : I x11 w)
    (hr : ∀ (x11 : Value) (w : World), I x11 w → ∀ E1 : VP1, (∀ (y11 : Value) (w' : World), I y11 w' → μ y11 w' < μ x11 w → E1 y11 w') → f54_l2_t x0 x1 x10 x11 K E1 w) : f54_l2 K x0 x1 x10 x11 w :=
  ⟨I, μ, h0, fun σ w hI E hE => cast (by kernel_rfl) (hr (σ 11) w hI E hE)⟩
def f54_t (x0 x1 x2 : Value) (K : K1) (w : World) : Prop :=
 ev Tryz.prog (Instr.indexAt 72 x0 (.int .i64 0)) w fun t18 w_1 =>
 ldS Tryz.prog 33 t18 w_1 fun t19 w_2 =>
 callS Tryz.prog 29 (pA #[t19]) w_2 fun t20 w_3 =>
 ev Tryz.prog (Instr.extract t20 0) w_3 fun t21 w_4 =>
 ev Tryz.prog (Instr.extract t20 1) w_4 fun t22 w_5 =>
 ev Tryz.prog (Instr.alloc 35 true (.tuple #[])) w_5 fun t7 w_6 =>
 stS Tryz.prog 35 t7 t21 w_6 fun w_7 =>
 ev Tryz.prog (Op.unary .not t22) w_7 fun t24 w_8 =>
 gd t24 false (fun k => ev Tryz.prog (Instr.fieldAt 35 t7 0) w_8 k) w_8 fun t26 w_9 =>
 gd t24 false (fun k => ldS Tryz.prog 3 t26 w_9 k) w_9 fun t27 w_10 =>
 gd t24 false (fun k => k x1 w_10) w_10 fun t28 w_11 =>
 gd t24 false (fun k => ev Tryz.prog (binM .neq 3 (.tmp 27) (.tmp 28) t27 t28) w_11 k) w_11 fun t29 w_12 =>
 pickS t24 (.bool true) t29 w_12 fun t30 w_13 =>
 gd t30 false (fun k => ev Tryz.prog (Instr.fieldAt 35 t7 1) w_13 k) w_13 fun t32 w_14 =>
 gd t30 false (fun k => ldS Tryz.prog 3 t32 w_14 k) w_14 fun t33 w_15 =>
 gd t30 false (fun k => k x2 w_15) w_15 fun t34 w_16 =>
 gd t30 false (fun k => ev Tryz.prog (binM .neq 3 (.tmp 33) (.tmp 34) t33 t34) w_16 k) w_16 fun t35 w_17 =>
 pickS t30 (.bool true) t35 w_17 fun t36 w_18 =>
 cndS t36 (
 K (.int .i64 11) w_18) (
 f54_l1 K x0 x1 (.int .i64 2) w_18)
theorem f54_call (x0 x1 x2 : Value) (K : K1) (w : World) (h : f54_t x0 x1 x2 K w) : callS Tryz.prog 54 #[x0, x1, x2] w K :=
  call_of_txt (args := [x0, x1, x2]) mixed Tryz.func54 f54_u.2 (by kernel_rfl) (cast (by kernel_rfl) h)
end Go.Proofs.YtaeopkhdokaaoaaGreatDoor
namespace Go.Proofs.YtaeopkhdokaaoaaGreatDoor
open Go Go.Sh
set_option maxRecDepth 100000
set_option maxHeartbeats 4000000
set_option linter.unusedSimpArgs false
set_option linter.unusedVariables false
theorem applyH_val {ws : List (Nat × Nat)} : ∀ {f : Nat → Nat} {x v : Nat}, (∀ y ∈ ws, y.1 / 8 = x → y.2 = v) → ((∃ y ∈ ws, y.1 / 8 = x) ∨ f x = v) → applyH ws f x = v := by
  induction ws with
  | nil =>
    intro f x v _ h
    rcases h with ⟨y, hy, _⟩ | h
    · cases hy
    · exact h
  | cons z ws ih =>
    intro f x v h1 h2
    rw [applyH_cons]
    refine ih (fun y hy => h1 y (by simp [hy])) ?_
    by_cases hx : x = z.1 / 8
    · right
      simp only [hx, if_true]
      exact h1 z (by simp) hx.symm
    · rcases h2 with ⟨y, hy, hyx⟩ | h2
      · rcases List.mem_cons.1 hy with rfl | hy
        · exact absurd hyx.symm hx
        · exact .inl ⟨y, hy, hyx⟩
      · right; simp only [hx, if_false]; exact h2
def DS.opened (l : Nat) (c o : Int) (g : Nat) : DS := ((DS.zero 40).run 0 (clrI l g)).run 0 (planI l c o g)
def isB (c : Int) (j : Nat) : Bool := (List.range (perS c).toNat).any fun i => offN c i == j
def fmtW (c o : Int) (g j : Nat) : Nat := if j = 0 then sealN (hdX c o g) else if isB c j = true then sealN (blkX g 0 176) else 0
section
variable {l g : Nat} {c o : Int}
theorem planW_ok (hl : l ≤ 8) (c0 : 0 ≤ c) (c5 : c < 5) (hg : g < 65536) : ∀ x ∈ planW l c g, (x.1 % 8 = 0 ∧ x.1 < 40 * 64) ∧ x.1 < 18446744073709551616 ∧ x.2 < 18446744073709551616 := by
  have hp := perS_in c0 c5
  have hw := wordsS_in c0 c5
  have hs := sealN_lt (blkX g 0 176) (blkX_lt hg (by omega) (by omega))
  intro x hx
  rcases List.mem_append.1 hx with hx | hx
  · obtain ⟨j, hj, rfl⟩ := List.mem_map.1 hx
    have hb2 := offS_bd c0 c5 (show 0 ≤ (j : Int) by omega) (by rw [List.mem_range] at hj; omega)
    simp only; omega
  · obtain ⟨j, hj, rfl⟩ := List.mem_map.1 hx
    rw [List.mem_range] at hj
    simp only; omega
theorem opened_n (l : Nat) (c o : Int) (g : Nat) : (DS.opened l c o g).n = 40 := by unfold DS.opened; rw [run_n, run_n]; rfl
theorem opened_exe (hl : l ≤ 8) (c0 : 0 ≤ c) (c5 : c < 5) (o : Int) (g : Nat) : (DS.opened l c o g).exe ≤ 400 ∧ ((DS.zero 40).run 0 (clrI l g)).exe ≤ 100 ∧ (planI l c o g).length ≤ 200 ∧ (clrI l g).length ≤ 10 := by
  have hp := perS_in c0 c5
  have h1 := run_exe 0 (clrI l g) (DS.zero 40)
  have h2 := run_exe 0 (planI l c o g) ((DS.zero 40).run 0 (clrI l g))
  have h3 := storesI_le [(l * 64, sealN (hdX (-1) (-1) g))]
  have h4 := storesI_le (planW l c g)
  have h5 := storesI_le [(l * 64, sealN (hdX c o g))]
  have h6 := planW_len l c g
  have h7 : (planI l c o g).length = (storesI (planW l c g)).length + (storesI [(l * 64, sealN (hdX c o g))]).length := by unfold planI; rw [List.length_append]
  have h8 : (clrI l g).length = (storesI [(l * 64, sealN (hdX (-1) (-1) g))]).length := rfl
  have h9 : (DS.zero 40).exe = 0 := rfl
  simp only [List.length_singleton] at h3 h5
  unfold DS.opened
  omega
theorem clr_ok (hl : l ≤ 8) (hg : g < 65536) : ∀ x ∈ [(l * 64, sealN (hdX (-1) (-1) g))], (x.1 % 8 = 0 ∧ x.1 < 40 * 64) ∧ x.1 < 18446744073709551616 ∧ x.2 < 18446744073709551616 := by
  have hs := sealN_lt (hdX (-1) (-1) g) (hdX_lt (by omega) (by omega) (by omega) (by omega) hg)
  intro x hx; simp only [List.mem_singleton] at hx; subst hx; simp only; omega
theorem head_ok (hl : l ≤ 8) (c0 : 0 ≤ c) (c5 : c < 5) (o0 : 0 ≤ o) (o8 : o < 8) (hg : g < 65536) : ∀ x ∈ [(l * 64, sealN (hdX c o g))], (x.1 % 8 = 0 ∧ x.1 < 40 * 64) ∧ x.1 < 18446744073709551616 ∧ x.2 < 18446744073709551616 := by
  have hs := sealN_lt (hdX c o g) (hdX_lt (by omega) c5 (by omega) o8 hg)
  intro x hx; simp only [List.mem_singleton] at hx; subst hx; simp only; omega
theorem clr_on (hl : l ≤ 8) (hg : g < 65536) : On ((DS.zero 40).run 0 (clrI l g)) ∧ ((DS.zero 40).run 0 (clrI l g)).cur = applyH [(l * 64, sealN (hdX (-1) (-1) g))] (DS.zero 40).cur := On.stores (On.zero 40) _ (fun x hx => (clr_ok hl hg x hx).1)
theorem clr_good (hl : l ≤ 8) (hg : g < 65536) : (∀ i ∈ clrI l g, okI i) ∧ Good ((DS.zero 40).run 0 (clrI l g)) := by
  have h := okI_stores (fun x hx => (clr_ok (l := l) hl hg x hx).2)
  exact ⟨h, Good.run 0 (by omega) _ _ (Good.zero 40 (by omega) (by omega)) h⟩
theorem plan_ok (hl : l ≤ 8) (c0 : 0 ≤ c) (c5 : c < 5) (o0 : 0 ≤ o) (o8 : o < 8) (hg : g < 65536) : ∀ i ∈ planI l c o g, okI i := by
  intro i hi
  rcases List.mem_append.1 hi with hi | hi
  · exact okI_stores (fun x hx => (planW_ok hl c0 c5 hg x hx).2) i hi
  · exact okI_stores (fun x hx => (head_ok hl c0 c5 o0 o8 hg x hx).2) i hi
theorem opened_good (hl : l ≤ 8) (c0 : 0 ≤ c) (c5 : c < 5) (o0 : 0 ≤ o) (o8 : o < 8) (hg : g < 65536) : Good (DS.opened l c o g) :=
  Good.run 0 (by omega) _ _ (clr_good hl hg).2 (plan_ok hl c0 c5 o0 o8 hg)
theorem opened_on (hl : l ≤ 8) (c0 : 0 ≤ c) (c5 : c < 5) (o0 : 0 ≤ o) (o8 : o < 8) (hg : g < 65536) : On (DS.opened l c o g) ∧ (DS.opened l c o g).cur = applyH [(l * 64, sealN (hdX c o g))] (applyH (planW l c g) (applyH [(l * 64, sealN (hdX (-1) (-1) g))] (DS.zero 40).cur)) := by
  unfold DS.opened planI
  rw [run_append]
  have h1 := clr_on (l := l) hl hg
  have n1 : ((DS.zero 40).run 0 (clrI l g)).n = 40 := by rw [run_n]; rfl
  have h2 := On.stores h1.1 (planW l c g) (fun x hx => by rw [n1]; exact (planW_ok hl c0 c5 hg x hx).1)
  have n2 : (((DS.zero 40).run 0 (clrI l g)).run 0 (storesI (planW l c g))).n = 40 := by rw [run_n]; exact n1
  have h3 := On.stores h2.1 [(l * 64, sealN (hdX c o g))] (fun x hx => by rw [n2]; exact (head_ok hl c0 c5 o0 o8 hg x hx).1)
  exact ⟨h3.1, by rw [h3.2, h2.2, h1.2]⟩
theorem opened_wd (hl : l ≤ 8) (c0 : 0 ≤ c) (c5 : c < 5) (o0 : 0 ≤ o) (o8 : o < 8) (hg : g < 65536) (j : Nat) (hj : j < 256) : wd (DS.opened l c o g) l j = fmtW c o g j := by
  unfold wd fmtW
  rw [(opened_on hl c0 c5 o0 o8 hg).2]
  have hp := perS_in c0 c5
  by_cases h0 : j = 0
  · subst h0
    rw [if_pos rfl]
    refine applyH_val (fun y hy _ => ?_) (.inl ⟨(l * 64, sealN (hdX c o g)), by simp, by simp only; omega⟩)
    simp only [List.mem_singleton] at hy; subst hy; rfl
  · rw [if_neg h0]
    have ho : ∀ (v : Nat) (f : Nat → Nat), applyH [(l * 64, v)] f (l * 8 + j) = f (l * 8 + j) := fun v f => applyH_other _ _ _ (fun y hy => by simp only [List.mem_singleton] at hy; subst hy; simp only; omega)
    rw [ho]
    have hA : ∀ y ∈ planW l c g, y.1 / 8 = l * 8 + j → (isB c j = true ∧ y.2 = sealN (blkX g 0 176)) ∨ (j < 8 ∧ y.2 = 0) := by
      intro y hy hyj
      rcases List.mem_append.1 hy with hy | hy
      · obtain ⟨i, hi, rfl⟩ := List.mem_map.1 hy
        rw [List.mem_range] at hi
        have hb2 := offS_bd c0 c5 (show 0 ≤ (i : Int) by omega) (by omega)
        left
        refine ⟨?_, rfl⟩
        unfold isB
        rw [List.any_eq_true]
        refine ⟨i, List.mem_range.2 hi, ?_⟩
        simp only [beq_iff_eq]
        simp only at hyj
        unfold offN; omega
      · obtain ⟨i, hi, rfl⟩ := List.mem_map.1 hy
        rw [List.mem_range] at hi
        right
        simp only at hyj
        exact ⟨by omega, rfl⟩
    have hB : isB c j = true → 8 ≤ j ∧ ∃ y ∈ planW l c g, y.1 / 8 = l * 8 + j := by
      intro hb
      unfold isB at hb
      rw [List.any_eq_true] at hb
      obtain ⟨i, hi, hb⟩ := hb
      have hi' := List.mem_range.1 hi
      have bd := offN_bd c0 c5 (i := i) (by omega)
      simp only [beq_iff_eq] at hb
      refine ⟨by omega, _, List.mem_append_left _ (List.mem_map.2 ⟨i, hi, rfl⟩), ?_⟩
      have : (offS c (i : Int)).toNat = j := by rw [← hb]; unfold offN; rfl
      simp only [this]; omega
    by_cases hb : isB c j = true
    · rw [if_pos hb]
      refine applyH_val (fun y hy hyj => ?_) (.inl (hB hb).2)
      rcases hA y hy hyj with h | h
      · exact h.2
      · have := (hB hb).1; omega
    · rw [if_neg hb]
      refine applyH_val (fun y hy hyj => ?_) (.inr ?_)
      · rcases hA y hy hyj with h | h
        · exact absurd h.1 hb
        · exact h.2
      · rw [ho]; exact zero_cur 40 _
theorem fmt_at (hl : l ≤ 8) (c0 : 0 ≤ c) (c5 : c < 5) (o0 : 0 ≤ o) (o8 : o < 8) (hg : g < 65536) (i : Nat) (hi : (i : Int) < perS c) : wd (DS.opened l c o g) l (offN c i) = sealN (blkX g 0 176) := by
  have bd := offN_bd c0 c5 hi
  rw [opened_wd hl c0 c5 o0 o8 hg _ bd.2.2]
  unfold fmtW
  rw [if_neg (by omega), if_pos]
  unfold isB
  rw [List.any_eq_true]
  exact ⟨i, List.mem_range.2 (by omega), by simp⟩
theorem fmt_low (hl : l ≤ 8) (c0 : 0 ≤ c) (c5 : c < 5) (o0 : 0 ≤ o) (o8 : o < 8) (hg : g < 65536) (j : Nat) (h0 : j ≠ 0) (hj : j < 8) : wd (DS.opened l c o g) l j = 0 := by
  rw [opened_wd hl c0 c5 o0 o8 hg _ (by omega)]
  unfold fmtW
  rw [if_neg h0, if_neg]
  intro hb
  unfold isB at hb
  rw [List.any_eq_true] at hb
  obtain ⟨i, hi, hb⟩ := hb
  have hp := perS_in c0 c5
  have hi' := List.mem_range.1 hi
  have bd := offN_bd c0 c5 (i := i) (by omega)
  simp only [beq_iff_eq] at hb
  omega
end
end Go.Proofs.YtaeopkhdokaaoaaGreatDoor
namespace Go.Proofs.YtaeopkhdokaaoaaGreatDoor
open Go Go.Sh
set_option maxRecDepth 100000
set_option maxHeartbeats 4000000
set_option linter.unusedSimpArgs false
set_option linter.unusedVariables false
abbrev chzO : Obj := .cells #[.nilIface, .int .i64 0, .int .i64 0, .int .i64 0, .int .u16 ((0 : Nat) : Int)] 58
section
variable {w w' : World} {Y : Lay} {D : DS}
theorem k_fopen (hG : Glob w) (a b c g : Nat) (ha : a < 256) (hb : b < 256) (hc : c < 256) (hg : g < 65536) (K : K1)
    (hK : ∀ w' Y, Lv w w' Y (DS.opened (a % 9) ((b % 5 : Nat) : Int) ((c % 8 : Nat) : Int) (genN g)) → K (.tuple #[chV Y (a % 9) ((b % 5 : Nat) : Int) ((c % 8 : Nat) : Int) (genN g), .pointer (some ⟨Y.d, 0, none⟩), .pointer (some ⟨Y.tb 0, 0, none⟩)]) w') :
    callS Tryz.prog 33 #[fmV a b c g] w K := by
  have l8 : a % 9 ≤ 8 := by omega
  have c0 : (0 : Int) ≤ ((b % 5 : Nat) : Int) := by omega
  have c5 : ((b % 5 : Nat) : Int) < 5 := by omega
  have o0 : (0 : Int) ≤ ((c % 8 : Nat) : Int) := by omega
  have o8 : ((c % 8 : Nat) : Int) < 8 := by omega
  have hgn : genN g ≠ 0 ∧ genN g < 65536 := by unfold genN; split <;> omega
  have hli := fun w1 K => c_fline a b c g ha w1 K
  have hhe := fun w1 K => c_fheader a b c g hb hc hg w1 K
  generalize genN g = gg at *
  generalize hll : a % 9 = ll at *
  generalize hcc : ((b % 5 : Nat) : Int) = cc at *
  generalize hoo : ((c % 8 : Nat) : Int) = oo at *
  have hone := opened_on l8 c0 c5 o0 o8 hgn.2
  have hgood := opened_good l8 c0 c5 o0 o8 hgn.2
  have hexe := opened_exe l8 c0 c5 oo gg
  have hclr := clr_good l8 hgn.2
  have hclo := clr_on l8 hgn.2
  have hpok := plan_ok l8 c0 c5 o0 o8 hgn.2
  have hwd0 : wd (DS.opened ll cc oo gg) ll 0 = sealN (hdX cc oo gg) := by rw [opened_wd l8 c0 c5 o0 o8 hgn.2 0 (by omega)]; rfl
  have hhd := hd_ok c0 c5 o0 o8 hgn.1 hgn.2
  rw [← hwd0] at hhd
  refine f33_call _ _ _ ?_
  unfold f33_t
  simp (disch := first | omega | simp only [RO] | (simp only [RZ] <;> omega) | fail) only [↓RBp, ↓RA, ↓reduceIte, Nat.reduceAdd, Nat.reduceMul, Nat.reduceEqDiff, RB, RX, RA2]
  refine k_begin _ (fun w1 Y he1 hd1 hn1 => ?_)
  have L1 : Lv ((w.alloc (fmO a b c g)).alloc chzO) w1 Y (DS.zero 40) := ⟨hd1, Good.zero 40 (by omega) (by omega), he1, hn1⟩
  have ea : Ext (w.alloc (fmO a b c g)) w1 := Ext.trans (by repeat (first | (with_reducible first | refine eB ?_ (by first | omega | (simp only [RZ] <;> omega)) _ | assumption | exact eR _ | refine eA ?_ _ | refine eD ?_ | refine eT ?_ (by assumption)) | exact eR _)) he1
  have ob1 := fmCells ea; have q0 := ob1.1; have q1 := ob1.2.1; have q2 := ob1.2.2.1; have q3 := ob1.2.2.2
  have lt1 : w.heap.size < w1.heap.size := lt_of_cell q0
  have e1 : Ext w w1 := Ext.trans (by repeat (first | (with_reducible first | refine eB ?_ (by first | omega | (simp only [RZ] <;> omega)) _ | assumption | exact eR _ | refine eA ?_ _ | refine eD ?_ | refine eT ?_ (by assumption)) | exact eR _)) he1
  (repeat' (first | (with_reducible refine brS_mk (fun _ => ?_) (fun _ => ?_)) | (with_reducible refine And.intro ?_ ?_) | (simp (disch := first | omega | simp only [RO] | (simp only [RZ] <;> omega) | (with_reducible (repeat (first | assumption | exact Ext.refl _ | refine Ext.alloc ?_ _ | refine Ext.drew ?_ | refine Ext.trans ?_ (by assumption)))) | fail) only [↓RBp, ↓RA, ↓reduceIte, Nat.reduceAdd, Nat.reduceMul, Nat.reduceEqDiff, RB, RX, RA2, q0, q1, q2, q3, hli, hhe])))
  refine k_Clear (hG.ext (by repeat (first | (with_reducible first | refine eB ?_ (by first | omega | (simp only [RZ] <;> omega)) _ | assumption | exact eR _ | refine eA ?_ _ | refine eD ?_ | refine eT ?_ (by assumption)) | exact eR _))) ll gg (by omega) hgn.1 hgn.2 _ (fun v2 w2 s2 he2 n2 => ?_)
  have e12 : Ext w1 w2 := Ext.trans (by repeat (first | (with_reducible first | refine eB ?_ (by first | omega | (simp only [RZ] <;> omega)) _ | assumption | exact eR _ | refine eA ?_ _ | refine eD ?_ | refine eT ?_ (by assumption)) | exact eR _)) he2
  have L2 := L1.ext e12
  have eb := ea.trans e12
  have ob2 := fmCells eb; have r0 := ob2.1; have r1 := ob2.2.1; have r2 := ob2.2.2.1; have r3 := ob2.2.2.2
  have lt2 : w.heap.size < w2.heap.size := lt_of_cell r0
  have n2' : NewV w1.heap.size v2 := fun b hb => Nat.le_trans (by simp only [RZ]; omega) (n2 b hb)
  (repeat' (first | (with_reducible refine brS_mk (fun _ => ?_) (fun _ => ?_)) | (with_reducible refine And.intro ?_ ?_) | (simp (disch := first | omega | simp only [RO] | (simp only [RZ] <;> omega) | (with_reducible (repeat (first | assumption | exact Ext.refl _ | refine Ext.alloc ?_ _ | refine Ext.drew ?_ | refine Ext.trans ?_ (by assumption)))) | fail) only [↓RBp, ↓RA, ↓reduceIte, Nat.reduceAdd, Nat.reduceMul, Nat.reduceEqDiff, RB, RX, RA2, r0, r1, r2, r3, hli, hhe])))
  refine k_Plan (hG.ext (e1.trans (e12.trans (by repeat (first | (with_reducible first | refine eB ?_ (by first | omega | (simp only [RZ] <;> omega)) _ | assumption | exact eR _ | refine eA ?_ _ | refine eD ?_ | refine eT ?_ (by assumption)) | exact eR _))))) ll cc oo gg (by omega) c0 c5 o0 o8 hgn.1 hgn.2 _ (fun v3 w3 s3 he3 n3 => ?_)
  have e23 : Ext w2 w3 := Ext.trans (by repeat (first | (with_reducible first | refine eB ?_ (by first | omega | (simp only [RZ] <;> omega)) _ | assumption | exact eR _ | refine eA ?_ _ | refine eD ?_ | refine eT ?_ (by assumption)) | exact eR _)) he3
  have L3 := L2.ext e23
  have n3' : NewV w2.heap.size v3 := fun b hb => Nat.le_trans (by simp only [RZ]; omega) (n3 b hb)
  have o2 : ∀ b, v2.ownBlock = some b → ¬ Y.F b := L1.out n2'
  have o3 : ∀ b, v3.ownBlock = some b → ¬ Y.F b := L2.out n3'
  simp (disch := first | omega | simp only [RO] | (simp only [RZ] <;> omega) | fail) only [↓RBp, ↓RA, ↓reduceIte, Nat.reduceAdd, Nat.reduceMul, Nat.reduceEqDiff, RB, RX, RA2]
  refine k_Run L3.dv L3.gd 0 (by omega) (clrI ll gg) v2 (s2.ext e23) o2 hclr.1 (by have : (DS.zero 40).exe = 0 := rfl; omega) _ (fun w4 Y4 st4 => ?_)
  have L4 := L3.step st4 hclr.2
  have s3' := s3.frm st4.frm o3
  have o3' : ∀ b, v3.ownBlock = some b → ¬ Y4.F b := fun b hb hf => by
    rcases st4.fr b hf with h | h
    · exact o3 b hb h
    · have := s3.lt hb; omega
  have tb4 := st4.tb
  rw [hclo.1.err]
  simp (disch := first | omega | simp only [RO] | (simp only [RZ] <;> omega) | fail) only [↓RBp, ↓RA, ↓reduceIte, Nat.reduceAdd, Nat.reduceMul, Nat.reduceEqDiff, RB, RX, RA2]
  rw [← tb4]
  refine k_Run L4.dv L4.gd 0 (by omega) (planI ll cc oo gg) v3 s3' o3' hpok (by omega) _ (fun w5 Y5 st5 => ?_)
  have L5 : Lv _ w5 Y5 (DS.opened ll cc oo gg) := L4.step st5 hgood
  have tb5 := st5.tb
  have dd5 : Y5.d = Y.d := by rw [st5.d, st4.d]
  have hz : (((DS.zero 40).run 0 (clrI ll gg)).run 0 (planI ll cc oo gg)).err 0 = 0 := hone.1.err
  rw [hz, tb4, ← tb4, ← tb5, ← dd5]
  have ec : Ext (w.alloc (fmO a b c g)) w5 := Ext.trans (by repeat (first | (with_reducible first | refine eB ?_ (by first | omega | (simp only [RZ] <;> omega)) _ | assumption | exact eR _ | refine eA ?_ _ | refine eD ?_ | refine eT ?_ (by assumption)) | exact eR _)) L5.ex
  have ob3 := fmCells ec; have x0 := ob3.1; have x1 := ob3.2.1; have x2 := ob3.2.2.1; have x3 := ob3.2.2.2
  have lt5 : w.heap.size + 1 < w5.heap.size := by have := L5.ex.size; simp only [RZ] at this; omega
  have e5 : Ext w w5 := Ext.trans (by repeat (first | (with_reducible first | refine eB ?_ (by first | omega | (simp only [RZ] <;> omega)) _ | assumption | exact eR _ | refine eA ?_ _ | refine eD ?_ | refine eT ?_ (by assumption)) | exact eR _)) ec
  have hCz : Cells w5 (w.heap.size + 1) 58 5 (fun i => [Value.nilIface, .int .i64 0, .int .i64 0, .int .i64 0, .int .u16 ((0 : Nat) : Int)].getD i undef) := by
    have := (Cells.new (w.alloc (fmO a b c g)) [Value.nilIface, .int .i64 0, .int .i64 0, .int .i64 0, .int .u16 ((0 : Nat) : Int)] 58)
    rw [size_alloc] at this
    exact this.ext L5.ex
  simp (disch := first | omega | simp only [RO] | (simp only [RZ] <;> omega) | (with_reducible (repeat (first | assumption | exact Ext.refl _ | refine Ext.alloc ?_ _ | refine Ext.drew ?_ | refine Ext.trans ?_ (by assumption)))) | fail) only [↓RBp, ↓RA, ↓reduceIte, Nat.reduceAdd, Nat.reduceMul, Nat.reduceEqDiff, RB, RX, RA2, x0, x1, x2, x3, hli]
  refine k_OpenAt (L5.dv.ext (by repeat (first | (with_reducible first | refine eB ?_ (by first | omega | (simp only [RZ] <;> omega)) _ | assumption | exact eR _ | refine eA ?_ _ | refine eD ?_ | refine eT ?_ (by assumption)) | exact eR _))) hgood (hG.ext (by repeat (first | (with_reducible first | refine eB ?_ (by first | omega | (simp only [RZ] <;> omega)) _ | assumption | exact eR _ | refine eA ?_ _ | refine eD ?_ | refine eT ?_ (by assumption)) | exact eR _))) hone.1.off hone.1.err ll (by rw [opened_n]; omega) hhd.1 _ (fun w6 he6 => ?_)
  have e56 : Ext w5 w6 := Ext.trans (by repeat (first | (with_reducible first | refine eB ?_ (by first | omega | (simp only [RZ] <;> omega)) _ | assumption | exact eR _ | refine eA ?_ _ | refine eD ?_ | refine eT ?_ (by assumption)) | exact eR _)) he6
  rw [hhd.2.1, hhd.2.2.1, hhd.2.2.2, if_neg (by omega)]
  have hC6 := hCz.ext e56
  have lt6 := hC6.lt
  have p0 := hC6.cell (i := 0) (by omega)
  have p1 := hC6.cell (i := 1) (by omega)
  have p2 := hC6.cell (i := 2) (by omega)
  have p3 := hC6.cell (i := 3) (by omega)
  have p4 := hC6.cell (i := 4) (by omega)
  have e6 := e5.trans e56
  have ob4 := cells5 hC6 (.iface 48 (.pointer (some ⟨Y5.tb 0, 0, none⟩))) (.int .i64 (ll : Int)) (.int .i64 cc) (.int .i64 oo) (.int .u16 (gg : Int)); have d0 := ob4.1; have d1 := ob4.2.1; have d2 := ob4.2.2.1; have d3 := ob4.2.2.2.1; have d4 := ob4.2.2.2.2
  simp (disch := first | omega | simp only [RO] | (simp only [RZ] <;> omega) | fail) only [↓RBp, ↓RA, ↓reduceIte, Nat.reduceAdd, Nat.reduceMul, Nat.reduceEqDiff, RB, RX, RA2, p0, p1, p2, p3, p4, hC6.frz, d0, d1, d2, d3, d4]
  refine hK _ Y5 ⟨(L5.ext e56).frm (G := fun b => b = w.heap.size + 1) (by repeat (first | exact Frm.refl _ _ | with_reducible refine Frm.set ?_ _ (fun _ => rfl) | with_reducible refine Frm.alloc ?_ _ | with_reducible refine Frm.drew ?_)) (fun b hb => by simp only [RZ]; omega), hgood, (by repeat (first | (with_reducible first | refine eB ?_ (by first | omega | (simp only [RZ] <;> omega)) _ | assumption | exact eR _ | refine eA ?_ _ | refine eD ?_ | refine eT ?_ (by assumption)) | exact eR _)), fun x hx => Nat.le_trans (by simp only [RZ]; omega) (L5.nw x hx)⟩
end
end Go.Proofs.YtaeopkhdokaaoaaGreatDoor
namespace Go.Proofs.YtaeopkhdokaaoaaGreatDoor
open Go Go.Sh
set_option maxRecDepth 100000
set_option maxHeartbeats 4000000
set_option linter.unusedSimpArgs false
set_option linter.unusedVariables false
def DS.strs (D : DS) (ws : List (Nat × Nat)) : DS := D.run 0 (ws.map wrI)
theorem strs_take {D : DS} {ws : List (Nat × Nat)} {j : Nat} {x : Nat × Nat} (h : ws[j]? = some x) : D.strs (ws.take (j + 1)) = (D.strs (ws.take j)).store 0 x.1 x.2 := by
  unfold DS.strs
  rw [take_snoc' h, List.map_append, run_append]; rfl
theorem strs_good {D : DS} (g : Good D) {ws : List (Nat × Nat)} (h : ∀ x ∈ ws, x.1 < 18446744073709551616 ∧ x.2 < 18446744073709551616) : Good (D.strs ws) := by
  refine Good.run 0 (by omega) _ _ g (fun i hi => ?_)
  obtain ⟨x, hx, rfl⟩ := List.mem_map.1 hi
  have := h x hx
  exact ⟨by simp [wrI], by simp [wrI], this.1, this.2⟩
theorem strs_n (D : DS) (ws : List (Nat × Nat)) : (D.strs ws).n = D.n := run_n 0 _ D
theorem strs_exe (D : DS) (ws : List (Nat × Nat)) : (D.strs ws).exe ≤ D.exe + ws.length := by
  have := run_exe 0 (ws.map wrI) D
  rw [List.length_map] at this; exact this
theorem strs_on {D : DS} (h : On D) {ws : List (Nat × Nat)} (hv : ∀ x ∈ ws, x.1 % 8 = 0 ∧ x.1 < D.n * 64) : On (D.strs ws) ∧ (D.strs ws).cur = applyH ws D.cur := On.runW ws D h hv
theorem mem_take {α : Type} {l : List α} {j : Nat} {x : α} (h : x ∈ l.take j) : x ∈ l := List.mem_of_mem_take h
section
variable {w w' : World} {Y : Lay} {D : DS}
theorem per4 : perS 4 = 4 := by decide
theorem off40 : offN 4 0 = 8 := by unfold offN; decide
def awW : List (Nat × Nat) := [(64, sealN (blkX 1 64 177)), (8, 1)]
theorem awActA : ActA 4 [0] [64] [] := ⟨rfl, by decide, by decide⟩
theorem aw_seal : sealN (blkX 1 64 177) < 18446744073709551616 := sealN_lt _ (blkX_lt (by omega) (by omega) (by omega))
abbrev awD : DS := DS.opened 0 4 0 1
theorem aw_on : On awD := (opened_on (by omega) (by omega) (by omega) (by omega) (by omega) (by omega)).1
theorem aw_good : Good awD := opened_good (by omega) (by omega) (by omega) (by omega) (by omega) (by omega)
theorem aw_blk (i : Nat) (hi : i < 4) : wd awD 0 (offN 4 i) = sealN (blkX 1 0 176) := fmt_at (by omega) (by omega) (by omega) (by omega) (by omega) (by omega) i (by rw [per4]; omega)
theorem aw_map : wd awD 0 1 = 0 := fmt_low (by omega) (by omega) (by omega) (by omega) (by omega) (by omega) 1 (by omega) (by omega)
theorem bit0 (i : Nat) : bitB 0 i = false := by simp [bitB]
theorem aw_fr : frN (wd awD 0 1) ((perS 4).toNat - (0 : Int).toNat) (0 : Int).toNat = 0 := by rw [aw_map, per4]; decide
theorem blk1 : isS (sealN (blkX 1 0 176)) = true ∧ bG (sealN (blkX 1 0 176)) = 1 ∧ bK (sealN (blkX 1 0 176)) = 0 ∧ bS (sealN (blkX 1 0 176)) = 176 := ⟨isS_blk (by omega) (by omega) (by omega), bG_blk (by omega) (by omega) (by omega), bK_blk (by omega) (by omega) (by omega), bS_blk (by omega) (by omega) (by omega)⟩
theorem aw_okF (i : Nat) (hi : i < 4) : okF awD 0 4 i = true := by
  unfold okF
  rw [aw_blk i hi, aw_map, bit0, blk1.1, blk1.2.1, blk1.2.2.2]; rfl
theorem aw_alF : alF awD 0 4 4 = true := by
  simp only [alF, aw_okF 0 (by omega), aw_okF 1 (by omega), aw_okF 2 (by omega), aw_okF 3 (by omega)]; rfl
theorem aw_mxG : mxG awD 0 4 4 = 1 := by
  simp only [mxG, aw_blk 0 (by omega), aw_blk 1 (by omega), aw_blk 2 (by omega), aw_blk 3 (by omega), blk1.2.1]; decide
theorem aw_act : actN awD 0 4 [0] [64] [] = some awW := by
  have ht : tkOk awD 0 4 0 = true := by
    unfold tkOk
    rw [aw_blk 0 (by omega), aw_map, bit0, blk1.1, blk1.2.1, blk1.2.2.1, blk1.2.2.2]; rfl
  have hw : tkW awD 0 4 0 64 = (64, sealN (blkX 1 64 177)) := by
    unfold tkW
    rw [aw_blk 0 (by omega), blk1.2.1, off40]
  unfold actN
  rw [if_neg (by simp)]
  simp only [chT, chDr, show (0 : Int).toNat = 0 from rfl, ht, if_true, hw, aw_map]
  rfl
theorem aw_ok : ∀ x ∈ awW, x.1 % 8 = 0 ∧ x.1 < awD.n * 64 ∧ x.1 < 18446744073709551616 ∧ x.2 < 18446744073709551616 := by
  have := aw_seal
  have hn : awD.n = 40 := opened_n _ _ _ _
  rw [hn]
  intro x hx
  simp only [awW, List.mem_cons, List.not_mem_nil, or_false] at hx
  rcases hx with rfl | rfl
  · exact ⟨by decide, by decide, by decide, aw_seal⟩
  · exact ⟨by decide, by decide, by decide, by decide⟩
abbrev awE : DS := awD.strs awW
theorem awE_on : On awE ∧ awE.cur = applyH awW awD.cur := strs_on aw_on (fun x hx => ⟨(aw_ok x hx).1, (aw_ok x hx).2.1⟩)
theorem awE_good : Good awE := strs_good aw_good (fun x hx => (aw_ok x hx).2.2)
theorem awE_n : awE.n = 40 := (strs_n _ _).trans (opened_n _ _ _ _)
theorem awE_map : wd awE 0 1 = 1 := by
  unfold wd; rw [awE_on.2]; rfl
theorem awE_blk : wd awE 0 8 = sealN (blkX 1 64 177) := by
  unfold wd; rw [awE_on.2]; rfl
theorem blk2 : isS (sealN (blkX 1 64 177)) = true ∧ bS (sealN (blkX 1 64 177)) = 177 := ⟨isS_blk (by omega) (by omega) (by omega), bS_blk (by omega) (by omega) (by omega)⟩
theorem awE_mk0 : mkB awE 0 4 0 177 = true := by
  unfold mkB
  rw [awE_map, show (0 : Int).toNat = 0 from rfl, off40, awE_blk, blk2.1, blk2.2]; decide
theorem awE_mk (i : Nat) (hi : i = 1 ∨ i = 2 ∨ i = 3) : mkB awE 0 4 (i : Int) 177 = false := by
  unfold mkB
  rw [awE_map]
  have : bitB 1 ((i : Nat) : Int).toNat = false := by rcases hi with rfl | rfl | rfl <;> decide
  rw [this]; simp
theorem awE_cnt : cntN awE 0 4 4 = 1 := by
  have h1 := awE_mk 1 (by omega); have h2 := awE_mk 2 (by omega); have h3 := awE_mk 3 (by omega)
  simp only [cntN, h1, h2, h3, show ((0 : Nat) : Int) = 0 from rfl, awE_mk0]; decide
theorem awE_fr : frN (wd awE 0 1) ((perS 4).toNat - (0 : Int).toNat) (0 : Int).toNat = 1 := by rw [awE_map, per4]; decide
end
end Go.Proofs.YtaeopkhdokaaoaaGreatDoor
namespace Go.Proofs.YtaeopkhdokaaoaaGreatDoor
open Go Go.Sh
set_option maxRecDepth 100000
set_option maxHeartbeats 4000000
set_option linter.unusedSimpArgs false
set_option linter.unusedVariables false
section
variable {w w' : World} {Y Y' : Lay} {D D' : DS}
theorem Lv.cx {w0 : World} {l : Nat} {c : Int} (h : Lv w0 w Y D) (hG : Glob w0) (on : D.off = false) (hl : l + 32 ≤ D.n) (c0 : 0 ≤ c) (c5 : c < 5) : Cx w Y D l c := ⟨h.dv, h.gd, hG.ext h.ex, on, hl, c0, c5⟩
theorem wr_get {ws : List (Nat × Nat)} {j : Nat} (h : j < ws.length) : ws[j]? = some ws[j] := List.getElem?_eq_getElem h
theorem wr_cells {v : Value} {ws : List (Nat × Nat)} (s : SlO w 37 2 v ws.length (wrL ws)) {j : Nat} (h : j < ws.length) : ∃ b o cap, v = .slice (some ⟨b, o, none⟩) ws.length cap ∧ w.cell? ⟨b, o + j * 2, none⟩ = some (.int .u64 (ws[j].1 : Int)) ∧ w.cell? ⟨b, o + j * 2 + 1, none⟩ = some (.int .u64 (ws[j].2 : Int)) := by
  obtain ⟨b, o, cap, rfl, _⟩ := s.isS (by omega)
  have hg := wrL_get ws j ws[j] (wr_get h)
  refine ⟨b, o, cap, rfl, s.cell rfl hg.1, ?_⟩
  have := s.cell rfl hg.2
  rw [← Nat.add_assoc] at this; exact this
theorem strs_zero (D : DS) (ws : List (Nat × Nat)) : D.strs (ws.take 0) = D := by simp [DS.strs, DS.run]
theorem one_get {x u : Value} {j : Nat} (h : [x][j]? = some u) : j = 0 ∧ u = x := by
  rcases j with _ | j
  · simp at h; exact ⟨rfl, h.symm⟩
  · simp at h
theorem aw_exe (j : Nat) : (awD.strs (awW.take j)).exe ≤ 402 := by
  have h1 := strs_exe awD (awW.take j)
  have h2 : awD.exe ≤ 400 := (opened_exe (l := 0) (c := 4) (by omega) (by omega) (by omega) 0 1).1
  have h3 : (awW.take j).length ≤ 2 := by rw [List.length_take]; exact Nat.min_le_right _ _
  omega
theorem aw_goodT (j : Nat) : Good (awD.strs (awW.take j)) := strs_good aw_good (fun x hx => (aw_ok x (mem_take hx)).2.2)
theorem k_fopen4 (hG : Glob w) (K : K1) (hK : ∀ w' Y, Lv w w' Y awD → K (.tuple #[chV Y 0 4 0 1, .pointer (some ⟨Y.d, 0, none⟩), .pointer (some ⟨Y.tb 0, 0, none⟩)]) w') :
    callS Tryz.prog 33 #[.agg #[.int .u8 ((0 : Nat) : Int), .int .u8 ((4 : Nat) : Int), .int .u8 ((0 : Nat) : Int), .int .u16 ((0 : Nat) : Int)]] w K :=
  k_fopen hG 0 4 0 0 (by omega) (by omega) (by omega) (by omega) K (fun w' Y L => hK w' Y L)
theorem k_awake (hG : Glob w) (K : K1) (hK : ∀ w', Ext w w' → K (.bool true) w') : callS Tryz.prog 12 #[] w K := by
  refine f12_call _ _ ?_
  unfold f12_t
  simp (disch := first | omega | simp only [RO] | (simp only [RZ] <;> omega) | fail) only [↓RBp, ↓RA, ↓reduceIte, Nat.reduceAdd, Nat.reduceMul, Nat.reduceEqDiff, RB, RX, RA2]
  refine k_fopen4 hG _ (fun w1 Y L1 => ?_)
  have e1 := L1.ex
  have x1 := L1.cx hG aw_on.off (l := 0) (c := 4) (by rw [opened_n]; omega) (by omega) (by omega)
  have nt1 : ¬ Y.F w1.heap.size := fun hf => by have := L1.dv.lt hf; omega
  simp (disch := first | omega | simp only [RO] | (simp only [RZ] <;> omega) | fail) only [↓RBp, ↓RA, ↓reduceIte, Nat.reduceAdd, Nat.reduceMul, Nat.reduceEqDiff, RB, RX, RA2]
  refine k_Free (x1.ext (by repeat (first | (with_reducible first | refine eB ?_ (by first | omega | (simp only [RZ] <;> omega)) _ | assumption | exact eR _ | refine eA ?_ _ | refine eD ?_ | refine eT ?_ (by assumption)) | exact eR _))) 0 1 0 _ (fun w2 he2 => ?_)
  rw [aw_fr]
  have e12 : Ext w1 w2 := Ext.trans (by repeat (first | (with_reducible first | refine eB ?_ (by first | omega | (simp only [RZ] <;> omega)) _ | assumption | exact eR _ | refine eA ?_ _ | refine eD ?_ | refine eT ?_ (by assumption)) | exact eR _)) he2
  have e2 := e1.trans e12
  have x2 := x1.ext e12
  have ob1 := chCells he2; have q0 := ob1.1; have q1 := ob1.2.1; have q2 := ob1.2.2.1; have q3 := ob1.2.2.2.1; have q4 := ob1.2.2.2.2
  simp (disch := first | omega | simp only [RO] | (simp only [RZ] <;> omega) | fail) only [↓RBp, ↓RA, ↓reduceIte, Nat.reduceAdd, Nat.reduceMul, Nat.reduceEqDiff, RB, RX, RA2, q0, q1, q2, q3, q4]
  refine k_Next x2 0 1 _ (fun w3 he3 => ?_)
  rw [per4, show (4 : Int).toNat = 4 from rfl, aw_alF, if_pos rfl, aw_mxG]
  have e13 := he2.trans he3
  have x3 := x2.ext he3
  have e3 := e2.trans he3
  have L3 := L1.ext (e12.trans he3)
  have ob2 := chCells e13; have r0 := ob2.1; have r1 := ob2.2.1; have r2 := ob2.2.2.1; have r3 := ob2.2.2.2.1; have r4 := ob2.2.2.2.2
  have lt3 : w1.heap.size < w3.heap.size := lt_of_cell r0
  simp (disch := first | omega | simp only [RO] | (simp only [RZ] <;> omega) | fail) only [↓RBp, ↓RA, ↓reduceIte, Nat.reduceAdd, Nat.reduceMul, Nat.reduceEqDiff, RB, RX, RA2, r0, r1, r2, r3, r4]
  refine k_Actions (m := w3.heap.size + 2) (x3.ext (by repeat (first | (with_reducible first | refine eB ?_ (by first | omega | (simp only [RZ] <;> omega)) _ | assumption | exact eR _ | refine eA ?_ _ | refine eD ?_ | refine eT ?_ (by assumption)) | exact eR _))) aw_on.err 0 1 [0] [] [64] _ _ _ ⟨some ⟨w3.heap.size, 0, none⟩, 1, rfl, .inr ⟨_, _, rfl, by omega, ?_⟩⟩ ⟨some ⟨w3.heap.size + 1, 0, none⟩, 1, rfl, .inr ⟨_, _, rfl, by omega, ?_⟩⟩ (RdS.nil _ _) (by simp) (by simp) (by simp) (by simp) _ (fun hn => absurd awActA hn) (fun _ hn => by rw [aw_act] at hn; cases hn) (fun _ ws hws v' w4 he4 hnv sl => ?_)
  · intro j u hj
    obtain ⟨rfl, rfl⟩ := one_get hj
    simp (disch := first | omega | simp only [RO] | (simp only [RZ] <;> omega) | fail) only [↓RBp, ↓RA, ↓reduceIte, Nat.reduceAdd, Nat.reduceMul, Nat.reduceEqDiff, RB, RX, RA2]
  · intro j u hj
    obtain ⟨rfl, rfl⟩ := one_get hj
    simp (disch := first | omega | simp only [RO] | (simp only [RZ] <;> omega) | fail) only [↓RBp, ↓RA, ↓reduceIte, Nat.reduceAdd, Nat.reduceMul, Nat.reduceEqDiff, RB, RX, RA2]
  rw [aw_act] at hws
  injection hws with hws
  subst hws
  have e34 : Ext w3 w4 := Ext.trans (by repeat (first | (with_reducible first | refine eB ?_ (by first | omega | (simp only [RZ] <;> omega)) _ | assumption | exact eR _ | refine eA ?_ _ | refine eD ?_ | refine eT ?_ (by assumption)) | exact eR _)) he4
  have L4 := L3.ext e34
  have e14 := e13.trans e34
  have ob3 := chCells e14; have s0 := ob3.1; have s1 := ob3.2.1; have s2 := ob3.2.2.1; have s3 := ob3.2.2.2.1; have s4 := ob3.2.2.2.2
  have lt4 : w1.heap.size < w4.heap.size := lt_of_cell s0
  have out : ∀ b, v'.ownBlock = some b → ¬ Y.F b := L3.out (fun b hb => Nat.le_trans (by simp only [RZ]; omega) (hnv b hb))
  obtain ⟨pa, pc, rfl, hpc⟩ := sl.isS'
  have hlen : awW.length = 2 := rfl
  simp (disch := first | omega | simp only [RO] | (simp only [RZ] <;> omega) | fail) only [↓RBp, ↓RA, ↓reduceIte, Nat.reduceAdd, Nat.reduceMul, Nat.reduceEqDiff, RB, RX, RA2, hlen]
  apply f12_l1_rule (I := fun z w' => ∃ (j : Nat) (Y' : Lay), z = .int .i64 (j : Int) ∧ j ≤ 2 ∧ Stp w4 Y w' Y' (awD.strs (awW.take j))) (μ := fun z _ => 2 - (Go.RowKit.intOf z).toNat)
  · exact ⟨0, Y, rfl, by omega, (Stp.refl L4.dv).to (strs_zero _ _).symm⟩
  · intros; rename_i w5 hI E1 hE
    obtain ⟨j, Y5, rfl, hj, st⟩ := hI
    have tb : Y5.tb 0 = Y.tb 0 := by rw [st.tb]
    have L5 := L4.step st (aw_goodT j)
    have lt5 : w1.heap.size < w5.heap.size := Nat.lt_of_lt_of_le lt4 st.frm.size
    have fc : ∀ i, w5.cell? ⟨w1.heap.size, i, none⟩ = w4.cell? ⟨w1.heap.size, i, none⟩ := fun i => st.frm.cell _ i lt4 nt1
    by_cases hj2 : j < 2
    · have hx := aw_exe j
      have hxm := aw_ok awW[j] (List.getElem_mem (by omega))
      have htk := strs_take (D := awD) (wr_get (ws := awW) (j := j) (by omega))
      obtain ⟨b, o, cap, ev1, hc1, hc2⟩ := wr_cells (sl.frm st.frm out) (j := j) (by omega)
      injection ev1 with ev1 _ ev2; subst ev1; subst ev2
      generalize awW[j] = x at hc1 hc2 hxm htk
      obtain ⟨xo, xv⟩ := x
      simp only at hc1 hc2 hxm htk
      unfold f12_l1_t
      simp (disch := first | omega | simp only [RO] | (simp only [RZ] <;> omega) | fail) only [↓RBp, ↓RA, ↓reduceIte, Nat.reduceAdd, Nat.reduceMul, Nat.reduceEqDiff, RB, RX, RA2, hc1, hc2]
      have stg := st.grow (Ext.alloc_self w5 (.cells #[.int .u64 (xo : Int), .int .u64 (xv : Int)] 37))
      rw [← tb]
      refine k_Store stg.dv (aw_goodT j) 0 (by omega) xo xv (by omega) _ (fun w6 Y6 st6 => ?_)
      simp (disch := first | omega | simp only [RO] | (simp only [RZ] <;> omega) | fail) only [↓RBp, ↓RA, ↓reduceIte, Nat.reduceAdd, Nat.reduceMul, Nat.reduceEqDiff, RB, RX, RA2]
      apply hE
      · exact ⟨j + 1, Y6, by simp, by omega, by rw [htk]; exact stg.trans st6⟩
      · simp [Go.RowKit.intOf]; omega
    · have : j = 2 := by omega
      subst this
      have L5' : Lv w w5 Y5 awE := L5
      have x5 := L5'.cx hG awE_on.1.off (l := 0) (c := 4) (by rw [awE_n]; omega) (by omega) (by omega)
      have e5 := L5'.ex
      rw [← fc] at s0 s1 s2 s3 s4
      rw [← tb] at s0
      unfold f12_l1_t
      simp (disch := first | omega | simp only [RO] | (simp only [RZ] <;> omega) | fail) only [↓RBp, ↓RA, ↓reduceIte, Nat.reduceAdd, Nat.reduceMul, Nat.reduceEqDiff, RB, RX, RA2, s0, s1, s2, s3, s4, f12_k1_eq, f12_k1_t]
      refine k_Taken x5 0 1 0 _ (fun w6 e56 => ?_)
      rw [awE_mk0]
      have a0 := e56.cell_some s0
      have a1 := e56.cell_some s1
      have a2 := e56.cell_some s2
      have a3 := e56.cell_some s3
      have a4 := e56.cell_some s4
      simp (disch := first | omega | simp only [RO] | (simp only [RZ] <;> omega) | fail) only [↓RBp, ↓RA, ↓reduceIte, Nat.reduceAdd, Nat.reduceMul, Nat.reduceEqDiff, RB, RX, RA2, a0, a1, a2, a3, a4]
      refine k_Count (x5.ext e56) 0 1 _ (fun w7 e67 => ?_)
      rw [per4, show (4 : Int).toNat = 4 from rfl, awE_cnt]
      have b0 := e67.cell_some a0
      have b1 := e67.cell_some a1
      have b2 := e67.cell_some a2
      have b3 := e67.cell_some a3
      have b4 := e67.cell_some a4
      have z1 : (((1 : Nat) : Int) = 1) := rfl
      simp (disch := first | omega | simp only [RO] | (simp only [RZ] <;> omega) | fail) only [↓RBp, ↓RA, ↓reduceIte, Nat.reduceAdd, Nat.reduceMul, Nat.reduceEqDiff, RB, RX, RA2, b0, b1, b2, b3, b4, z1]
      refine k_Free (x5.ext (e56.trans e67)) 0 1 0 _ (fun w8 e78 => ?_)
      rw [awE_fr]
      simp (disch := first | omega | simp only [RO] | (simp only [RZ] <;> omega) | fail) only [↓RBp, ↓RA, ↓reduceIte, Nat.reduceAdd, Nat.reduceMul, Nat.reduceEqDiff, RB, RX, RA2]
      exact hK _ (e5.trans (e56.trans (e67.trans e78)))
end
end Go.Proofs.YtaeopkhdokaaoaaGreatDoor
namespace Go.Proofs.YtaeopkhdokaaoaaGreatDoor
open Go Go.Sh
set_option maxRecDepth 100000
set_option maxHeartbeats 4000000
set_option linter.unusedSimpArgs false
set_option linter.unusedVariables false
section
variable {w w' : World} {Y Y' : Lay} {D D' : DS}
theorem in_cells {v : Value} {p : List Ins} (s : SlO w 133 3 v p.length (inL p)) {j : Nat} (h : j < p.length) : ∃ b o cap, v = .slice (some ⟨b, o, none⟩) p.length cap ∧ w.cell? ⟨b, o + j * 3, none⟩ = some (.int .u8 (p[j].op : Int)) ∧ w.cell? ⟨b, o + j * 3 + 1, none⟩ = some (.int .u64 (p[j].off : Int)) ∧ w.cell? ⟨b, o + j * 3 + 2, none⟩ = some (.int .u64 (p[j].val : Int)) := by
  obtain ⟨b, o, cap, rfl, _⟩ := s.isS (by omega)
  have hg := inL_get p j p[j] (List.getElem?_eq_getElem h)
  refine ⟨b, o, cap, rfl, s.cell rfl hg.1, ?_, ?_⟩
  · have := s.cell rfl hg.2.1
    rw [← Nat.add_assoc] at this; exact this
  · have := s.cell rfl hg.2.2
    rw [← Nat.add_assoc] at this; exact this
theorem ne_instr (x y : Operand) (a b c : Nat) (w : World) (k : Value → Prop) : rd Tryz.prog (binM .neq 133 x y (.agg #[.int .u8 (a : Int), .int .u64 (b : Int), .int .u64 (c : Int)]) (.agg #[.int .u8 (a : Int), .int .u64 (b : Int), .int .u64 (c : Int)])) w k = k (.bool false) := by
  have h := run_st_neq (P := Tryz.prog) (t := 133) (n := 3) (by kernel_rfl) x y [.int .u8 (a : Int), .int .u64 (b : Int), .int .u64 (c : Int)] [.int .u8 (a : Int), .int .u64 (b : Int), .int .u64 (c : Int)] rfl (by simp [kin]) w
  have e : eqL [Value.int .u8 (a : Int), .int .u64 (b : Int), .int .u64 (c : Int)] [.int .u8 (a : Int), .int .u64 (b : Int), .int .u64 (c : Int)] = true := by simp [eqL]
  rw [e] at h
  exact rd_of_run h k
theorem k_equal (p : List Ins) (v u : Value) (hv : SlO w 133 3 v p.length (inL p)) (hu : SlO w 133 3 u p.length (inL p)) (hl : p.length < 1099511627776) (K : K1) (hK : ∀ w', Ext w w' → K (.bool true) w') : callS Tryz.prog 17 #[v, u] w K := by
  obtain ⟨va, vc, rfl, _⟩ := hv.isS'
  obtain ⟨ua, uc, rfl, _⟩ := hu.isS'
  refine f17_call _ _ _ _ ?_
  unfold f17_t
  simp (disch := first | omega | simp only [RO] | (simp only [RZ] <;> omega) | fail) only [↓RBp, ↓RA, ↓reduceIte, Nat.reduceAdd, Nat.reduceMul, Nat.reduceEqDiff, RB, RX, RA2]
  apply f17_l1_rule (I := fun z w' => ∃ j : Nat, z = .int .i64 (j : Int) ∧ j ≤ p.length ∧ Ext w w') (μ := fun z _ => p.length - (Go.RowKit.intOf z).toNat)
  · exact ⟨0, rfl, by omega, (by repeat (first | (with_reducible first | refine eB ?_ (by first | omega | (simp only [RZ] <;> omega)) _ | assumption | exact eR _ | refine eA ?_ _ | refine eD ?_ | refine eT ?_ (by assumption)) | exact eR _))⟩
  · intros; rename_i w1 hI E1 hE
    obtain ⟨j, rfl, hj, e1⟩ := hI
    by_cases hjl : j < p.length
    · obtain ⟨b, o, cap, ev1, a0, a1, a2⟩ := in_cells (hv.ext e1) hjl
      obtain ⟨b', o', cap', ev1', b0, b1, b2⟩ := in_cells (hu.ext e1) hjl
      injection ev1 with ev1 _ ev2; subst ev1; subst ev2
      injection ev1' with ev1' _ ev2'; subst ev1'; subst ev2'
      generalize p[j] = x at a0 a1 a2 b0 b1 b2
      obtain ⟨xo, xf, xv⟩ := x
      simp only at a0 a1 a2 b0 b1 b2
      unfold f17_l1_t
      simp (disch := first | omega | simp only [RO] | (simp only [RZ] <;> omega) | fail) only [↓RBp, ↓RA, ↓reduceIte, Nat.reduceAdd, Nat.reduceMul, Nat.reduceEqDiff, RB, RX, RA2, a0, a1, a2, b0, b1, b2, ne_instr]
      apply hE
      · exact ⟨j + 1, by simp, by omega, (by repeat (first | (with_reducible first | refine eB ?_ (by first | omega | (simp only [RZ] <;> omega)) _ | assumption | exact eR _ | refine eA ?_ _ | refine eD ?_ | refine eT ?_ (by assumption)) | exact eR _))⟩
      · simp [Go.RowKit.intOf]; omega
    · unfold f17_l1_t
      simp (disch := first | omega | simp only [RO] | (simp only [RZ] <;> omega) | fail) only [↓RBp, ↓RA, ↓reduceIte, Nat.reduceAdd, Nat.reduceMul, Nat.reduceEqDiff, RB, RX, RA2, f17_k1_eq, f17_k1_t]
      exact hK _ e1
variable {c o : Int} {g : Nat}
theorem hdCells {w1 : World} (he : Ext (w.alloc (hdO c o g)) w1) : w1.cell? ⟨w.heap.size, 0, none⟩ = some (.int .i64 c) ∧ w1.cell? ⟨w.heap.size, 1, none⟩ = some (.int .i64 o) ∧ w1.cell? ⟨w.heap.size, 2, none⟩ = some (.int .u16 (g : Int)) := by
  have : ∀ i, w1.cell? ⟨w.heap.size, i, none⟩ = _ := fun i => he.cell _ i (by simp only [RZ]; omega)
  refine ⟨?_, ?_, ?_⟩ <;> (rw [this]; unfold hdO; rw [cell_new _ _ _ _ _ rfl]; rfl)
theorem rhCells {w1 : World} (he : Ext (w.alloc (rhO c o g)) w1) : w1.cell? ⟨w.heap.size, 0, none⟩ = some (.int .i64 c) ∧ w1.cell? ⟨w.heap.size, 1, none⟩ = some (.int .i64 o) ∧ w1.cell? ⟨w.heap.size, 2, none⟩ = some (.int .u16 (g : Int)) := by
  have : ∀ i, w1.cell? ⟨w.heap.size, i, none⟩ = _ := fun i => he.cell _ i (by simp only [RZ]; omega)
  refine ⟨?_, ?_, ?_⟩ <;> (rw [this]; unfold rhO; rw [cell_new _ _ _ _ _ rfl]; rfl)
end
end Go.Proofs.YtaeopkhdokaaoaaGreatDoor
namespace Go.Proofs.YtaeopkhdokaaoaaGreatDoor
open Go Go.Sh
set_option maxRecDepth 100000
set_option maxHeartbeats 4000000
set_option linter.unusedSimpArgs false
set_option linter.unusedVariables false
abbrev pE (p : Nat) (e : Int) : Value := .tuple #[.int .u64 (p : Int), .int .i64 e]
def sndB (D : DS) (l : Nat) (c : Int) (i : Nat) : Prop := isS (wd D l (offN c i)) = true ∧ goodB (bG (wd D l (offN c i))) (bK (wd D l (offN c i))) (bS (wd D l (offN c i))) = true ∧ bitB (wd D l 1) i = !decide (bS (wd D l (offN c i)) = 176)
def pOff (l : Nat) (c : Int) (i : Nat) : Nat := l * 64 + offN c i * 8 + 8
section
variable {w w' : World} {Y : Lay} {D : DS} {l : Nat} {c o : Int} {g : Nat}
theorem bq1 : (true == false) = false := rfl
theorem bq2 : (false == true) = false := rfl
theorem bq3 : (true == true) = true := rfl
theorem bq4 : (false == false) = true := rfl
theorem c_MakeOk (off g k : Nat) (w : World) (K : K1) (h0 : off ≠ 0) (h8 : off % 8 = 0) (ho : off ≤ 34359738360) (hg : g ≠ 0) (hg' : g < 65536) (hk : k ≠ 0) (hk' : k ≤ 127) : callS Tryz.prog 57 #[.int .u64 (off : Int), .int .u16 (g : Int), .int .u8 (k : Int)] w K = K (.tuple #[.int .u64 ((ptrN off g k : Nat) : Int), .int .i64 0]) w := by
  rw [c_Make off g k w K (by omega) hg' (by omega)]
  have e : ptrOk off g k = true := by simp [ptrOk, h0, h8, hg, hk, hk']
  rw [if_pos ⟨e, ho⟩, if_pos e, if_pos ho]
theorem good177 {g k : Nat} (h : goodB g k 177 = true) : g ≠ 0 ∧ k ≠ 0 ∧ k ≤ 127 := by simpa [goodB, and_assoc] using h
theorem good176 {g k : Nat} (h : goodB g k 176 = true) : g ≠ 0 ∧ k = 0 := by simpa [goodB] using h
theorem goodS {g k s : Nat} (h : goodB g k s = true) : s = 176 ∨ s = 177 ∨ s = 178 := by
  unfold goodB at h
  split at h
  · exact .inl (by assumption)
  · split at h
    · exact .inr (.inl (by assumption))
    · split at h
      · exact .inr (.inr (by assumption))
      · cases h
theorem k_Pointer (h : Cx w Y D l c) (he : D.err 0 = 0) (o : Int) (g : Nat) (i : Int) (k : Nat) (hk : k < 256) (K : K1)
    (hR : ¬ (0 ≤ i ∧ i < perS c) → ∀ w', Ext w w' → K (pE 0 2) w')
    (hF : ∀ j : Nat, i = (j : Int) → (j : Int) < perS c → ¬ sndB D l c j → ∀ w', Ext w w' → K (pE 0 11) w')
    (hS : ∀ j : Nat, i = (j : Int) → (j : Int) < perS c → sndB D l c j → bS (wd D l (offN c j)) = 178 → ∀ w', Ext w w' → K (pE 0 12) w')
    (hT : ∀ j : Nat, i = (j : Int) → (j : Int) < perS c → sndB D l c j → bS (wd D l (offN c j)) = 177 → ∀ w', Ext w w' → K (pE (ptrN (pOff l c j) (bG (wd D l (offN c j))) (bK (wd D l (offN c j)))) 0) w')
    (hA : ∀ j : Nat, i = (j : Int) → (j : Int) < perS c → sndB D l c j → bS (wd D l (offN c j)) = 176 → (k = 0 ∨ 127 < k) → ∀ w', Ext w w' → K (pE 0 1) w')
    (hN : ∀ j : Nat, i = (j : Int) → (j : Int) < perS c → sndB D l c j → bS (wd D l (offN c j)) = 176 → k ≠ 0 → k ≤ 127 → ∀ w', Ext w w' → K (pE (ptrN (pOff l c j) (bG (wd D l (offN c j))) k) 0) w') :
    callS Tryz.prog 55 #[chV Y l c o g, .int .i64 i, .int .u8 (k : Int)] w K := by
  have her : ∀ (w1 : World) (K : K1), Ext w w1 → callS Tryz.prog 28 #[.pointer (some ⟨Y.tb 0, 0, none⟩)] w1 K = K (.int .i64 0) w1 := fun w1 K e => by rw [c_Err (h.dv.ext e) 0 (by omega) K, he]
  have hat := h.at_ o g
  have hhl := h.hl
  have hhn := h.n
  have hhas := fun (w1 : World) (K : K1) (e : Ext w w1) (hk : ∀ w', Ext w1 w' → K (.bool (decide (0 ≤ i) && decide (i < perS c))) w') => k_has (h.ext e) o g i K hk
  by_cases hi : 0 ≤ i ∧ i < perS c
  · obtain ⟨j, rfl⟩ : ∃ j : Nat, i = (j : Int) := ⟨i.toNat, by omega⟩
    have eb : (decide (0 ≤ (j : Int)) && decide ((j : Int) < perS c)) = true := by simp [hi]
    rw [eb] at hhas
    have hF := hF j rfl hi.2; have hS := hS j rfl hi.2; have hT := hT j rfl hi.2; have hA := hA j rfl hi.2; have hN := hN j rfl hi.2
    have hrd := fun (w1 : World) (K : K1) (e : Ext w w1) hk => k_read (h.ext e) o g j hi.2 K hk
    have bd := offN_bd h.c0 h.c5 hi.2
    have hat2 : ∀ (w1 : World) (K : K1), Ext w w1 → callS Tryz.prog 96 #[chV Y l c o g, .int .i64 (j : Int)] w1 K = K (.int .u64 ((l * 64 + offN c j * 8 : Nat) : Int)) (w1.alloc (chO Y l c o g)) := fun w1 K e => hat w1 j K e hi.2
    have hg16 := bG_lt (wd D l (offN c j))
    have hk8 := bK_lt (wd D l (offN c j))
    unfold sndB pOff at *
    clear hat
    generalize hx : wd D l (offN c j) = x at *
    generalize hy : wd D l 1 = y at *
    generalize offN c j = q at *
    have e00 : Ext w (w.alloc (chO Y l c o g)) := Ext.alloc_self _ _
    refine f55_call _ _ _ _ _ ?_
    unfold f55_t
    simp (disch := first | omega | simp only [RO] | (simp only [RZ] <;> omega) | fail) only [↓RBp, ↓RA, ↓reduceIte, Nat.reduceAdd, Nat.reduceMul, Nat.reduceEqDiff, RB, RX, RA2]
    refine hhas _ _ (by repeat (first | (with_reducible first | refine eB ?_ (by first | omega | (simp only [RZ] <;> omega)) _ | assumption | exact eR _ | refine eA ?_ _ | refine eD ?_ | refine eT ?_ (by assumption)) | exact eR _)) (fun w1 he1 => ?_)
    have e1 : Ext w w1 := e00.trans he1
    have ob1 := chCells he1; have c0 := ob1.1; have c1 := ob1.2.1; have c2 := ob1.2.2.1; have c3 := ob1.2.2.2.1; have c4 := ob1.2.2.2.2
    simp (disch := first | omega | simp only [RO] | (simp only [RZ] <;> omega) | (with_reducible (repeat (first | assumption | exact Ext.refl _ | refine Ext.alloc ?_ _ | refine Ext.drew ?_ | refine Ext.trans ?_ (by assumption)))) | fail) only [↓RBp, ↓RA, ↓reduceIte, Nat.reduceAdd, Nat.reduceMul, Nat.reduceEqDiff, RB, RX, RA2, c0, c1, c2, c3, c4, her]
    refine hrd _ _ e1 (fun w2 he2 => ?_)
    have e2 : Ext w w2 := e1.trans he2
    have he12 := he1.trans he2
    have ob2 := chCells he12; have d0 := ob2.1; have d1 := ob2.2.1; have d2 := ob2.2.2.1; have d3 := ob2.2.2.2.1; have d4 := ob2.2.2.2.2
    have lt2 : w.heap.size < w2.heap.size := lt_of_cell d0
    have tail : ∀ (ss kk : Nat) (w3 : World), kk ≠ 0 → kk ≤ 127 → bG x ≠ 0 → Ext (w2.alloc (.cells #[.int .u16 (bG x : Int), .int .u8 (bK x : Int), .int .u8 (ss : Int)] 129)) w3 → (∀ w', Ext w w' → K (pE (ptrN (l * 64 + q * 8 + 8) (bG x) kk) 0) w') → f55_k1 K (.int .i64 (j : Int)) (.int .u8 (kk : Int)) (.pointer (some ⟨w.heap.size, 0, none⟩)) (.pointer (some ⟨w2.heap.size, 0, none⟩)) w3 := by
      intro ss kk w3 hk0 hk1 hg0 e3 hK
      have e23 : Ext w2 w3 := Ext.trans (by repeat (first | (with_reducible first | refine eB ?_ (by first | omega | (simp only [RZ] <;> omega)) _ | assumption | exact eR _ | refine eA ?_ _ | refine eD ?_ | refine eT ?_ (by assumption)) | exact eR _)) e3
      have e03 := e2.trans e23
      have he13 := he12.trans e23
      have ob3 := chCells he13; have a0 := ob3.1; have a1 := ob3.2.1; have a2 := ob3.2.2.1; have a3 := ob3.2.2.2.1; have a4 := ob3.2.2.2.2
      have z0 : w3.cell? ⟨w2.heap.size, 0, none⟩ = some (.int .u16 (bG x : Int)) := by
        rw [e3.cell _ 0 (by simp only [RZ]; omega), cell_new _ _ _ _ _ rfl]; rfl
      have lt3 : w2.heap.size < w3.heap.size := lt_of_cell z0
      have hmk : ∀ (w4 : World) (K : K1), callS Tryz.prog 57 #[.int .u64 ((l * 64 + q * 8 + 8 : Nat) : Int), .int .u16 (bG x : Int), .int .u8 (kk : Int)] w4 K = K (.tuple #[.int .u64 ((ptrN (l * 64 + q * 8 + 8) (bG x) kk : Nat) : Int), .int .i64 0]) w4 := fun w4 K => c_MakeOk _ _ _ w4 K (by omega) (by omega) (by omega) hg0 hg16 hk0 hk1
      rw [f55_k1_eq]
      unfold f55_k1_t
      (repeat' (first | (with_reducible refine brS_mk (fun _ => ?_) (fun _ => ?_)) | (with_reducible refine And.intro ?_ ?_) | (simp (disch := first | omega | simp only [RO] | (simp only [RZ] <;> omega) | (with_reducible (repeat (first | assumption | exact Ext.refl _ | refine Ext.alloc ?_ _ | refine Ext.drew ?_ | refine Ext.trans ?_ (by assumption)))) | fail) only [↓RBp, ↓RA, ↓reduceIte, Nat.reduceAdd, Nat.reduceMul, Nat.reduceEqDiff, RB, RX, RA2, a0, a1, a2, a3, a4, z0, hat2, hmk])))
      exact hK _ (by repeat (first | (with_reducible first | refine eB ?_ (by first | omega | (simp only [RZ] <;> omega)) _ | assumption | exact eR _ | refine eA ?_ _ | refine eD ?_ | refine eT ?_ (by assumption)) | exact eR _))
    by_cases t1 : isS x = true
    · by_cases t2 : goodB (bG x) (bK x) (bS x) = true
      · rcases goodS t2 with s | s | s
        · have t2' := t2
          rw [s] at t2'
          by_cases t3 : bitB y j = true
          · simp (disch := first | omega | simp only [RO] | (simp only [RZ] <;> omega) | (with_reducible (repeat (first | assumption | exact Ext.refl _ | refine Ext.alloc ?_ _ | refine Ext.drew ?_ | refine Ext.trans ?_ (by assumption)))) | fail) only [↓RBp, ↓RA, ↓reduceIte, Nat.reduceAdd, Nat.reduceMul, Nat.reduceEqDiff, RB, RX, RA2, d0, d1, d2, d3, d4, her, t1, t2', t3, s, c_good, bq1, bq2, bq3, bq4]
            exact hF (fun hs => by have := hs.2.2; simp [t3, s] at this) _ (by repeat (first | (with_reducible first | refine eB ?_ (by first | omega | (simp only [RZ] <;> omega)) _ | assumption | exact eR _ | refine eA ?_ _ | refine eD ?_ | refine eT ?_ (by assumption)) | exact eR _))
          · have t3 : bitB y j = false := by simpa using t3
            have hok : isS x = true ∧ goodB (bG x) (bK x) (bS x) = true ∧ bitB y j = !decide (bS x = 176) := ⟨t1, t2, by simp [t3, s]⟩
            by_cases k0 : k = 0
            · subst k0
              simp (disch := first | omega | simp only [RO] | (simp only [RZ] <;> omega) | (with_reducible (repeat (first | assumption | exact Ext.refl _ | refine Ext.alloc ?_ _ | refine Ext.drew ?_ | refine Ext.trans ?_ (by assumption)))) | fail) only [↓RBp, ↓RA, ↓reduceIte, Nat.reduceAdd, Nat.reduceMul, Nat.reduceEqDiff, RB, RX, RA2, d0, d1, d2, d3, d4, her, t1, t2', t3, s, c_good, bq1, bq2, bq3, bq4]
              exact hA hok s (.inl rfl) _ (by repeat (first | (with_reducible first | refine eB ?_ (by first | omega | (simp only [RZ] <;> omega)) _ | assumption | exact eR _ | refine eA ?_ _ | refine eD ?_ | refine eT ?_ (by assumption)) | exact eR _))
            · by_cases k1 : k ≤ 127
              · simp (disch := first | omega | simp only [RO] | (simp only [RZ] <;> omega) | (with_reducible (repeat (first | assumption | exact Ext.refl _ | refine Ext.alloc ?_ _ | refine Ext.drew ?_ | refine Ext.trans ?_ (by assumption)))) | fail) only [↓RBp, ↓RA, ↓reduceIte, Nat.reduceAdd, Nat.reduceMul, Nat.reduceEqDiff, RB, RX, RA2, d0, d1, d2, d3, d4, her, t1, t2', t3, s, c_good, bq1, bq2, bq3, bq4]
                exact tail 176 k _ k0 k1 (good176 t2').1 (by repeat (first | (with_reducible first | refine eB ?_ (by first | omega | (simp only [RZ] <;> omega)) _ | assumption | exact eR _ | refine eA ?_ _ | refine eD ?_ | refine eT ?_ (by assumption)) | exact eR _)) (hN hok s k0 k1)
              · simp (disch := first | omega | simp only [RO] | (simp only [RZ] <;> omega) | (with_reducible (repeat (first | assumption | exact Ext.refl _ | refine Ext.alloc ?_ _ | refine Ext.drew ?_ | refine Ext.trans ?_ (by assumption)))) | fail) only [↓RBp, ↓RA, ↓reduceIte, Nat.reduceAdd, Nat.reduceMul, Nat.reduceEqDiff, RB, RX, RA2, d0, d1, d2, d3, d4, her, t1, t2', t3, s, c_good, bq1, bq2, bq3, bq4]
                exact hA hok s (.inr (by omega)) _ (by repeat (first | (with_reducible first | refine eB ?_ (by first | omega | (simp only [RZ] <;> omega)) _ | assumption | exact eR _ | refine eA ?_ _ | refine eD ?_ | refine eT ?_ (by assumption)) | exact eR _))
        · have t2' := t2
          rw [s] at t2'
          by_cases t3 : bitB y j = true
          · have hok : isS x = true ∧ goodB (bG x) (bK x) (bS x) = true ∧ bitB y j = !decide (bS x = 176) := ⟨t1, t2, by simp [t3, s]⟩
            have g7 := good177 t2'
            simp (disch := first | omega | simp only [RO] | (simp only [RZ] <;> omega) | (with_reducible (repeat (first | assumption | exact Ext.refl _ | refine Ext.alloc ?_ _ | refine Ext.drew ?_ | refine Ext.trans ?_ (by assumption)))) | fail) only [↓RBp, ↓RA, ↓reduceIte, Nat.reduceAdd, Nat.reduceMul, Nat.reduceEqDiff, RB, RX, RA2, d0, d1, d2, d3, d4, her, t1, t2', t3, s, c_good, bq1, bq2, bq3, bq4]
            exact tail 177 (bK x) _ g7.2.1 g7.2.2 g7.1 (by repeat (first | (with_reducible first | refine eB ?_ (by first | omega | (simp only [RZ] <;> omega)) _ | assumption | exact eR _ | refine eA ?_ _ | refine eD ?_ | refine eT ?_ (by assumption)) | exact eR _)) (hT hok s)
          · have t3 : bitB y j = false := by simpa using t3
            simp (disch := first | omega | simp only [RO] | (simp only [RZ] <;> omega) | (with_reducible (repeat (first | assumption | exact Ext.refl _ | refine Ext.alloc ?_ _ | refine Ext.drew ?_ | refine Ext.trans ?_ (by assumption)))) | fail) only [↓RBp, ↓RA, ↓reduceIte, Nat.reduceAdd, Nat.reduceMul, Nat.reduceEqDiff, RB, RX, RA2, d0, d1, d2, d3, d4, her, t1, t2', t3, s, c_good, bq1, bq2, bq3, bq4]
            exact hF (fun hs => by have := hs.2.2; simp [t3, s] at this) _ (by repeat (first | (with_reducible first | refine eB ?_ (by first | omega | (simp only [RZ] <;> omega)) _ | assumption | exact eR _ | refine eA ?_ _ | refine eD ?_ | refine eT ?_ (by assumption)) | exact eR _))
        · have t2' := t2
          rw [s] at t2'
          by_cases t3 : bitB y j = true
          · have hok : isS x = true ∧ goodB (bG x) (bK x) (bS x) = true ∧ bitB y j = !decide (bS x = 176) := ⟨t1, t2, by simp [t3, s]⟩
            simp (disch := first | omega | simp only [RO] | (simp only [RZ] <;> omega) | (with_reducible (repeat (first | assumption | exact Ext.refl _ | refine Ext.alloc ?_ _ | refine Ext.drew ?_ | refine Ext.trans ?_ (by assumption)))) | fail) only [↓RBp, ↓RA, ↓reduceIte, Nat.reduceAdd, Nat.reduceMul, Nat.reduceEqDiff, RB, RX, RA2, d0, d1, d2, d3, d4, her, t1, t2', t3, s, c_good, bq1, bq2, bq3, bq4]
            exact hS hok s _ (by repeat (first | (with_reducible first | refine eB ?_ (by first | omega | (simp only [RZ] <;> omega)) _ | assumption | exact eR _ | refine eA ?_ _ | refine eD ?_ | refine eT ?_ (by assumption)) | exact eR _))
          · have t3 : bitB y j = false := by simpa using t3
            simp (disch := first | omega | simp only [RO] | (simp only [RZ] <;> omega) | (with_reducible (repeat (first | assumption | exact Ext.refl _ | refine Ext.alloc ?_ _ | refine Ext.drew ?_ | refine Ext.trans ?_ (by assumption)))) | fail) only [↓RBp, ↓RA, ↓reduceIte, Nat.reduceAdd, Nat.reduceMul, Nat.reduceEqDiff, RB, RX, RA2, d0, d1, d2, d3, d4, her, t1, t2', t3, s, c_good, bq1, bq2, bq3, bq4]
            exact hF (fun hs => by have := hs.2.2; simp [t3, s] at this) _ (by repeat (first | (with_reducible first | refine eB ?_ (by first | omega | (simp only [RZ] <;> omega)) _ | assumption | exact eR _ | refine eA ?_ _ | refine eD ?_ | refine eT ?_ (by assumption)) | exact eR _))
      · have t2' : goodB (bG x) (bK x) (bS x) = false := by simpa using t2
        simp (disch := first | omega | simp only [RO] | (simp only [RZ] <;> omega) | (with_reducible (repeat (first | assumption | exact Ext.refl _ | refine Ext.alloc ?_ _ | refine Ext.drew ?_ | refine Ext.trans ?_ (by assumption)))) | fail) only [↓RBp, ↓RA, ↓reduceIte, Nat.reduceAdd, Nat.reduceMul, Nat.reduceEqDiff, RB, RX, RA2, d0, d1, d2, d3, d4, her, t1, t2', c_good]
        exact hF (fun hs => t2 hs.2.1) _ (by repeat (first | (with_reducible first | refine eB ?_ (by first | omega | (simp only [RZ] <;> omega)) _ | assumption | exact eR _ | refine eA ?_ _ | refine eD ?_ | refine eT ?_ (by assumption)) | exact eR _))
    · have t1' : isS x = false := by simpa using t1
      simp (disch := first | omega | simp only [RO] | (simp only [RZ] <;> omega) | (with_reducible (repeat (first | assumption | exact Ext.refl _ | refine Ext.alloc ?_ _ | refine Ext.drew ?_ | refine Ext.trans ?_ (by assumption)))) | fail) only [↓RBp, ↓RA, ↓reduceIte, Nat.reduceAdd, Nat.reduceMul, Nat.reduceEqDiff, RB, RX, RA2, d0, d1, d2, d3, d4, her, t1']
      exact hF (fun hs => t1 hs.1) _ (by repeat (first | (with_reducible first | refine eB ?_ (by first | omega | (simp only [RZ] <;> omega)) _ | assumption | exact eR _ | refine eA ?_ _ | refine eD ?_ | refine eT ?_ (by assumption)) | exact eR _))
  · have eb : (decide (0 ≤ i) && decide (i < perS c)) = false := by simp; omega
    rw [eb] at hhas
    refine f55_call _ _ _ _ _ ?_
    unfold f55_t
    simp (disch := first | omega | simp only [RO] | (simp only [RZ] <;> omega) | fail) only [↓RBp, ↓RA, ↓reduceIte, Nat.reduceAdd, Nat.reduceMul, Nat.reduceEqDiff, RB, RX, RA2]
    refine hhas _ _ (by repeat (first | (with_reducible first | refine eB ?_ (by first | omega | (simp only [RZ] <;> omega)) _ | assumption | exact eR _ | refine eA ?_ _ | refine eD ?_ | refine eT ?_ (by assumption)) | exact eR _)) (fun w1 he1 => ?_)
    have e1 : Ext w w1 := (Ext.alloc_self _ _).trans he1
    simp (disch := first | omega | simp only [RO] | (simp only [RZ] <;> omega) | fail) only [↓RBp, ↓RA, ↓reduceIte, Nat.reduceAdd, Nat.reduceMul, Nat.reduceEqDiff, RB, RX, RA2]
    exact hR hi _ e1
end
end Go.Proofs.YtaeopkhdokaaoaaGreatDoor
namespace Go.Proofs.YtaeopkhdokaaoaaGreatDoor
open Go Go.Sh
set_option maxRecDepth 100000
set_option maxHeartbeats 4000000
set_option linter.unusedSimpArgs false
set_option linter.unusedVariables false
section
variable {w w' : World} {Y : Lay} {D : DS} {l : Nat} {c o : Int} {g : Nat}
theorem offN_eq {c : Int} (h0 : 0 ≤ c) (h5 : c < 5) : ∃ z n : Nat, wordsS c = (z : Int) ∧ perS c = (n : Int) ∧ n * (z + 1) ≤ 248 ∧ 3 ≤ z ∧ z ≤ 60 ∧ ∀ k : Nat, offN c k = 8 + k * (z + 1) := by
  have hw := wordsS_in h0 h5
  have hp := perS_in h0 h5
  obtain ⟨z, hz⟩ : ∃ z : Nat, wordsS c = (z : Int) := ⟨(wordsS c).toNat, by omega⟩
  have e : (248 : Int) / ((z : Int) + 1) = ((248 / (z + 1) : Nat) : Int) := by
    rw [Int.natCast_ediv]; rfl
  refine ⟨z, 248 / (z + 1), hz, by rw [hp.1, hz, e], Nat.div_mul_le_self _ _, by omega, by omega, fun k => ?_⟩
  unfold offN offS
  rw [hz]
  have : (8 + (k : Int) * ((z : Int) + 1)) = ((8 + k * (z + 1) : Nat) : Int) := by simp
  rw [this, Int.toNat_natCast]
theorem k_Find (hG : Glob w) (h0 : 0 ≤ c) (h5 : c < 5) (word : Nat) (hw : word < 256) (K : K1)
    (hno : (∀ k : Nat, (k : Int) < perS c → word ≠ offN c k + 1) → K (.tuple #[.int .i64 0, .bool false]) w)
    (hyes : ∀ k : Nat, (k : Int) < perS c → word = offN c k + 1 → K (.tuple #[.int .i64 (k : Int), .bool true]) w) :
    callS Tryz.prog 115 #[.int .i64 c, .int .i64 (word : Int)] w K := by
  obtain ⟨z, n, hz, hn, hzn, z3, z60, hof⟩ := offN_eq h0 h5
  have hwp := (wordsS_in h0 h5).1
  rw [hz] at hwp
  have hpc : ∀ K : K1, callS Tryz.prog 73 #[.int .i64 c] w K = K (.int .i64 (n : Int)) w := fun K => by rw [c_PerChunk c w K hG, hn]
  have hn0 : 0 < n := by have := perS_in h0 h5; omega
  refine f115_call _ _ _ _ ?_
  unfold f115_t
  rw [hn] at hno hyes
  by_cases h8 : word ≤ 8
  · simp (disch := first | omega | simp only [RO] | (simp only [RZ] <;> omega) | fail) only [↓RBp, ↓RA, ↓reduceIte, Nat.reduceAdd, Nat.reduceMul, Nat.reduceEqDiff, RB, RX, RA2, hpc]
    exact hno (fun k hk => by rw [hof]; omega)
  · obtain ⟨a, rfl⟩ : ∃ a, word = a + 9 := ⟨word - 9, by omega⟩
    have ea : (((a + 9 : Nat) : Int) - 8 - 1) = (a : Int) := by omega
    have eb : ((z : Int) + 1) = ((z + 1 : Nat) : Int) := by omega
    have ec : ((a : Nat) : Int) % ((z + 1 : Nat) : Int) = ((a % (z + 1) : Nat) : Int) := by omega
    have ed : ((a : Nat) : Int) / ((z + 1 : Nat) : Int) = ((a / (z + 1) : Nat) : Int) := by omega
    have dm := Nat.div_add_mod a (z + 1)
    have key : ∀ k, a + 9 = offN c k + 1 ↔ a = k * (z + 1) := fun k => by rw [hof]; omega
    by_cases hm : a % (z + 1) = 0
    · have hq : a = a / (z + 1) * (z + 1) := by rw [hm, Nat.mul_comm] at dm; omega
      by_cases hl : a / (z + 1) < n
      · simp (disch := first | omega | simp only [RO] | (simp only [RZ] <;> omega) | fail) only [↓RBp, ↓RA, ↓reduceIte, Nat.reduceAdd, Nat.reduceMul, Nat.reduceEqDiff, RB, RX, RA2, hpc, hG.pay, ← hwp, ea, eb, ec, ed, hm]
        exact hyes _ (by omega) ((key _).2 hq)
      · simp (disch := first | omega | simp only [RO] | (simp only [RZ] <;> omega) | fail) only [↓RBp, ↓RA, ↓reduceIte, Nat.reduceAdd, Nat.reduceMul, Nat.reduceEqDiff, RB, RX, RA2, hpc, hG.pay, ← hwp, ea, eb, ec, ed, hm]
        refine hno (fun k hk he => ?_)
        have h1 := (key k).1 he
        apply hl
        rw [h1, Nat.mul_div_cancel _ (by omega)]; omega
    · simp (disch := first | omega | simp only [RO] | (simp only [RZ] <;> omega) | fail) only [↓RBp, ↓RA, ↓reduceIte, Nat.reduceAdd, Nat.reduceMul, Nat.reduceEqDiff, RB, RX, RA2, hpc, hG.pay, ← hwp, ea, eb, ec, ed, hm]
      refine hno (fun k hk he => ?_)
      have h1 := (key k).1 he
      apply hm
      rw [h1]; exact Nat.mul_mod_left _ _
theorem offN_inj {c : Int} (h0 : 0 ≤ c) (h5 : c < 5) {j k : Nat} (h : offN c j = offN c k) : j = k := by
  obtain ⟨z, n, hz, hn, hzn, z3, z60, hof⟩ := offN_eq h0 h5
  rw [hof, hof] at h
  have : j * (z + 1) = k * (z + 1) := by omega
  exact Nat.eq_of_mul_eq_mul_right (by omega) this
theorem k_find (hG : Glob w) (h0 : 0 ≤ c) (h5 : c < 5) (hl : l ≤ 4096) (Y : Lay) (o : Int) (g off : Nat) (h8 : off % 8 = 0) (hof : off < 18446744073709551616) (K : K1)
    (hno : (∀ k : Nat, (k : Int) < perS c → off ≠ pOff l c k) → ∀ w', Ext w w' → K (.tuple #[.int .i64 0, .bool false]) w')
    (hyes : ∀ k : Nat, (k : Int) < perS c → off = pOff l c k → ∀ w', Ext w w' → K (.tuple #[.int .i64 (k : Int), .bool true]) w') :
    callS Tryz.prog 99 #[chV Y l c o g, .int .u64 (off : Int)] w K := by
  have bd : ∀ k : Nat, (k : Int) < perS c → 8 ≤ offN c k ∧ offN c k < 255 := fun k hk => by
    have h1 := offN_bd h0 h5 hk
    have h2 := offS_bd h0 h5 (show 0 ≤ (k : Int) by omega) hk
    have h3 := wordsS_in h0 h5
    omega
  unfold pOff at *
  refine f99_call _ _ _ _ ?_
  unfold f99_t
  by_cases h1 : off < l * 64
  · simp (disch := first | omega | simp only [RO] | (simp only [RZ] <;> omega) | fail) only [↓RBp, ↓RA, ↓reduceIte, Nat.reduceAdd, Nat.reduceMul, Nat.reduceEqDiff, RB, RX, RA2, c_line, Int.toNat_natCast]
    exact hno (fun k hk => by have := bd k hk; omega) _ (by repeat (first | (with_reducible first | refine eB ?_ (by first | omega | (simp only [RZ] <;> omega)) _ | assumption | exact eR _ | refine eA ?_ _ | refine eD ?_ | refine eT ?_ (by assumption)) | exact eR _))
  · obtain ⟨q, rfl⟩ : ∃ q, off = l * 64 + q * 8 := ⟨(off - l * 64) / 8, by omega⟩
    have e1 : l * 64 + q * 8 - l * 64 = q * 8 := by omega
    have e2 : q * 8 / 8 = q := by omega
    by_cases h2 : 256 ≤ q
    · have h3 : 2048 ≤ q * 8 := by omega
      simp (disch := first | omega | simp only [RO] | (simp only [RZ] <;> omega) | fail) only [↓RBp, ↓RA, ↓reduceIte, Nat.reduceAdd, Nat.reduceMul, Nat.reduceEqDiff, RB, RX, RA2, c_line, Int.toNat_natCast, e1, e2]
      exact hno (fun k hk => by have := bd k hk; omega) _ (by repeat (first | (with_reducible first | refine eB ?_ (by first | omega | (simp only [RZ] <;> omega)) _ | assumption | exact eR _ | refine eA ?_ _ | refine eD ?_ | refine eT ?_ (by assumption)) | exact eR _))
    · have h3 : ¬ 2048 ≤ q * 8 := by omega
      simp (disch := first | omega | simp only [RO] | (simp only [RZ] <;> omega) | fail) only [↓RBp, ↓RA, ↓reduceIte, Nat.reduceAdd, Nat.reduceMul, Nat.reduceEqDiff, RB, RX, RA2, c_line, Int.toNat_natCast, e1, e2]
      refine k_Find (hG.ext (by repeat (first | (with_reducible first | refine eB ?_ (by first | omega | (simp only [RZ] <;> omega)) _ | assumption | exact eR _ | refine eA ?_ _ | refine eD ?_ | refine eT ?_ (by assumption)) | exact eR _))) h0 h5 q (by omega) _ (fun hn => ?_) (fun k hk he => ?_)
      · simp (disch := first | omega | simp only [RO] | (simp only [RZ] <;> omega) | fail) only [↓RBp, ↓RA, ↓reduceIte, Nat.reduceAdd, Nat.reduceMul, Nat.reduceEqDiff, RB, RX, RA2]
        exact hno (fun k hk he => hn k hk (by omega)) _ (by repeat (first | (with_reducible first | refine eB ?_ (by first | omega | (simp only [RZ] <;> omega)) _ | assumption | exact eR _ | refine eA ?_ _ | refine eD ?_ | refine eT ?_ (by assumption)) | exact eR _))
      · simp (disch := first | omega | simp only [RO] | (simp only [RZ] <;> omega) | fail) only [↓RBp, ↓RA, ↓reduceIte, Nat.reduceAdd, Nat.reduceMul, Nat.reduceEqDiff, RB, RX, RA2]
        exact hyes k hk (by omega) _ (by repeat (first | (with_reducible first | refine eB ?_ (by first | omega | (simp only [RZ] <;> omega)) _ | assumption | exact eR _ | refine eA ?_ _ | refine eD ?_ | refine eT ?_ (by assumption)) | exact eR _))
end
end Go.Proofs.YtaeopkhdokaaoaaGreatDoor
namespace Go.Proofs.YtaeopkhdokaaoaaGreatDoor
open Go Go.Sh
set_option maxRecDepth 100000
set_option maxHeartbeats 4000000
set_option linter.unusedSimpArgs false
set_option linter.unusedVariables false
section
variable {w w' : World} {Y : Lay} {D : DS} {l : Nat} {c o : Int} {g : Nat}
def pO (p : Nat) : Nat := p % 4294967296 * 8
def pG (p : Nat) : Nat := p / 4294967296 % 65536
def pK (p : Nat) : Nat := p / 281474976710656 % 256
theorem c_PNil (p : Nat) (w : World) (K : K1) (hp : p < 18446744073709551616) : callS Tryz.prog 98 #[.int .u64 (p : Int)] w K = K (.bool (decide (p = 0))) w := by
  refine callS_det (by kernel_rfl) (f98_call _ _ _ ?_) K
  unfold f98_t
  simp (disch := first | omega | simp only [RO] | (simp only [RZ] <;> omega) | fail) only [↓RBp, ↓RA, ↓reduceIte, Nat.reduceAdd, Nat.reduceMul, Nat.reduceEqDiff, RB, RX, RA2]
theorem c_POff (p : Nat) (w : World) (K : K1) (hp : p < 18446744073709551616) : callS Tryz.prog 59 #[.int .u64 (p : Int)] w K = K (.int .u64 ((pO p : Nat) : Int)) w := by
  refine callS_det (by kernel_rfl) (f59_call _ _ _ ?_) K
  unfold f59_t pO
  simp (disch := first | omega | simp only [RO] | (simp only [RZ] <;> omega) | fail) only [↓RBp, ↓RA, ↓reduceIte, Nat.reduceAdd, Nat.reduceMul, Nat.reduceEqDiff, RB, RX, RA2]
theorem c_PGen (p : Nat) (w : World) (K : K1) (hp : p < 18446744073709551616) : callS Tryz.prog 60 #[.int .u64 (p : Int)] w K = K (.int .u16 ((pG p : Nat) : Int)) w := by
  refine callS_det (by kernel_rfl) (f60_call _ _ _ ?_) K
  unfold f60_t pG
  simp (disch := first | omega | simp only [RO] | (simp only [RZ] <;> omega) | fail) only [↓RBp, ↓RA, ↓reduceIte, Nat.reduceAdd, Nat.reduceMul, Nat.reduceEqDiff, RB, RX, RA2]
theorem c_PKind (p : Nat) (w : World) (K : K1) (hp : p < 18446744073709551616) : callS Tryz.prog 61 #[.int .u64 (p : Int)] w K = K (.int .u8 ((pK p : Nat) : Int)) w := by
  refine callS_det (by kernel_rfl) (f61_call _ _ _ ?_) K
  unfold f61_t pK
  simp (disch := first | omega | simp only [RO] | (simp only [RZ] <;> omega) | fail) only [↓RBp, ↓RA, ↓reduceIte, Nat.reduceAdd, Nat.reduceMul, Nat.reduceEqDiff, RB, RX, RA2]
abbrev iE (i e : Int) : Value := .tuple #[.int .i64 i, .int .i64 e]
def liveB (D : DS) (l : Nat) (c : Int) (k gg : Nat) : Prop := isS (wd D l (offN c k)) = true ∧ bitB (wd D l 1) k = true ∧ bS (wd D l (offN c k)) = 177 ∧ bG (wd D l (offN c k)) = gg
theorem k_Block (h : Cx w Y D l c) (he : D.err 0 = 0) (o : Int) (g : Nat) (p : Nat) (hp : p < 18446744073709551616) (K : K1)
    (hZ : p = 0 → ∀ w', Ext w w' → K (iE 0 1) w')
    (hR : p ≠ 0 → (72057594037927936 ≤ p ∨ ∀ k : Nat, (k : Int) < perS c → pO p ≠ pOff l c k) → ∀ w', Ext w w' → K (iE 0 2) w')
    (hS : p ≠ 0 → p < 72057594037927936 → ∀ k : Nat, (k : Int) < perS c → pO p = pOff l c k → ¬ liveB D l c k (pG p) → ∀ w', Ext w w' → K (iE 0 12) w')
    (hW : p ≠ 0 → p < 72057594037927936 → ∀ k : Nat, (k : Int) < perS c → pO p = pOff l c k → liveB D l c k (pG p) → bK (wd D l (offN c k)) ≠ pK p → ∀ w', Ext w w' → K (iE 0 13) w')
    (hY : p ≠ 0 → p < 72057594037927936 → ∀ k : Nat, (k : Int) < perS c → pO p = pOff l c k → liveB D l c k (pG p) → bK (wd D l (offN c k)) = pK p → ∀ w', Ext w w' → K (iE (k : Int) 0) w') :
    callS Tryz.prog 58 #[chV Y l c o g, .int .u64 (p : Int)] w K := by
  have her : ∀ (w1 : World) (K : K1), Ext w w1 → callS Tryz.prog 28 #[.pointer (some ⟨Y.tb 0, 0, none⟩)] w1 K = K (.int .i64 0) w1 := fun w1 K e => by rw [c_Err (h.dv.ext e) 0 (by omega) K, he]
  have hl := h.hl; have hn := h.n
  have ho8 : pO p % 8 = 0 := by unfold pO; omega
  have hoL : pO p < 18446744073709551616 := by unfold pO; omega
  have hg16 : pG p < 65536 := by unfold pG; omega
  have hk8 : pK p < 256 := by unfold pK; omega
  refine f58_call _ _ _ _ ?_
  unfold f58_t
  by_cases p0 : p = 0
  · subst p0
    simp (disch := first | omega | simp only [RO] | (simp only [RZ] <;> omega) | fail) only [↓RBp, ↓RA, ↓reduceIte, Nat.reduceAdd, Nat.reduceMul, Nat.reduceEqDiff, RB, RX, RA2, c_PNil]
    exact hZ rfl _ (by repeat (first | (with_reducible first | refine eB ?_ (by first | omega | (simp only [RZ] <;> omega)) _ | assumption | exact eR _ | refine eA ?_ _ | refine eD ?_ | refine eT ?_ (by assumption)) | exact eR _))
  · have hR := hR p0; have hS := hS p0; have hW := hW p0; have hY := hY p0
    have e0 : Ext w (w.alloc (chO Y l c o g)) := Ext.alloc_self _ _
    (repeat' (first | (with_reducible refine brS_mk (fun _ => ?_) (fun _ => ?_)) | (with_reducible refine And.intro ?_ ?_) | (simp (disch := first | omega | simp only [RO] | (simp only [RZ] <;> omega) | (with_reducible (repeat (first | assumption | exact Ext.refl _ | refine Ext.alloc ?_ _ | refine Ext.drew ?_ | refine Ext.trans ?_ (by assumption)))) | fail) only [↓RBp, ↓RA, ↓reduceIte, Nat.reduceAdd, Nat.reduceMul, Nat.reduceEqDiff, RB, RX, RA2, c_PNil, c_POff, p0])))
    refine k_find (h.gl.ext (by repeat (first | (with_reducible first | refine eB ?_ (by first | omega | (simp only [RZ] <;> omega)) _ | assumption | exact eR _ | refine eA ?_ _ | refine eD ?_ | refine eT ?_ (by assumption)) | exact eR _))) h.c0 h.c5 (by omega) Y o g (pO p) ho8 hoL _ (fun hno w1 e1 => ?_) (fun k hk hof w1 e1 => ?_)
    · have e01 : Ext w w1 := Ext.trans (by repeat (first | (with_reducible first | refine eB ?_ (by first | omega | (simp only [RZ] <;> omega)) _ | assumption | exact eR _ | refine eA ?_ _ | refine eD ?_ | refine eT ?_ (by assumption)) | exact eR _)) e1
      simp (disch := first | omega | simp only [RO] | (simp only [RZ] <;> omega) | fail) only [↓RBp, ↓RA, ↓reduceIte, Nat.reduceAdd, Nat.reduceMul, Nat.reduceEqDiff, RB, RX, RA2]
      exact hR (.inr hno) _ e01
    · have e01 : Ext w w1 := Ext.trans (by repeat (first | (with_reducible first | refine eB ?_ (by first | omega | (simp only [RZ] <;> omega)) _ | assumption | exact eR _ | refine eA ?_ _ | refine eD ?_ | refine eT ?_ (by assumption)) | exact eR _)) e1
      have ea : Ext (w.alloc (chO Y l c o g)) w1 := Ext.trans (by repeat (first | (with_reducible first | refine eB ?_ (by first | omega | (simp only [RZ] <;> omega)) _ | assumption | exact eR _ | refine eA ?_ _ | refine eD ?_ | refine eT ?_ (by assumption)) | exact eR _)) e1
      have ob1 := chCells ea; have c0 := ob1.1; have c1 := ob1.2.1; have c2 := ob1.2.2.1; have c3 := ob1.2.2.2.1; have c4 := ob1.2.2.2.2
      have hdiv : p / 72057594037927936 = 0 ↔ p < 72057594037927936 := by omega
      by_cases hp56 : p < 72057594037927936
      · have hd0 := hdiv.2 hp56
        have hS := hS hp56 k hk hof; have hW := hW hp56 k hk hof; have hY := hY hp56 k hk hof
        simp (disch := first | omega | simp only [RO] | (simp only [RZ] <;> omega) | (with_reducible (repeat (first | assumption | exact Ext.refl _ | refine Ext.alloc ?_ _ | refine Ext.drew ?_ | refine Ext.trans ?_ (by assumption)))) | fail) only [↓RBp, ↓RA, ↓reduceIte, Nat.reduceAdd, Nat.reduceMul, Nat.reduceEqDiff, RB, RX, RA2, c0, c1, c2, c3, c4, her, hd0]
        refine k_read (h.ext e01) o g k hk _ (fun w2 e2 => ?_)
        have e02 := e01.trans e2
        have eb := ea.trans e2
        have ob2 := chCells eb; have d0 := ob2.1; have d1 := ob2.2.1; have d2 := ob2.2.2.1; have d3 := ob2.2.2.2.1; have d4 := ob2.2.2.2.2
        have lt2 : w.heap.size < w2.heap.size := lt_of_cell d0
        have hx16 := bG_lt (wd D l (offN c k))
        have hxk8 := bK_lt (wd D l (offN c k))
        unfold liveB at hS hW hY
        generalize wd D l (offN c k) = x at *
        generalize wd D l 1 = y at *
        by_cases t1 : isS x = true
        · by_cases t2 : bitB y k = true
          · by_cases t3 : bS x = 177
            · by_cases t4 : bG x = pG p
              · have hok : isS x = true ∧ bitB y k = true ∧ bS x = 177 ∧ bG x = pG p := ⟨t1, t2, t3, t4⟩
                by_cases t5 : bK x = pK p
                · (repeat' (first | (with_reducible refine brS_mk (fun _ => ?_) (fun _ => ?_)) | (with_reducible refine And.intro ?_ ?_) | (simp (disch := first | omega | simp only [RO] | (simp only [RZ] <;> omega) | (with_reducible (repeat (first | assumption | exact Ext.refl _ | refine Ext.alloc ?_ _ | refine Ext.drew ?_ | refine Ext.trans ?_ (by assumption)))) | fail) only [↓RBp, ↓RA, ↓reduceIte, Nat.reduceAdd, Nat.reduceMul, Nat.reduceEqDiff, RB, RX, RA2, d0, d1, d2, d3, d4, her, t1, t2, t3, t4, c_PGen, c_PKind, t5])))
                  exact hY hok t5 _ (by repeat (first | (with_reducible first | refine eB ?_ (by first | omega | (simp only [RZ] <;> omega)) _ | assumption | exact eR _ | refine eA ?_ _ | refine eD ?_ | refine eT ?_ (by assumption)) | exact eR _))
                · (repeat' (first | (with_reducible refine brS_mk (fun _ => ?_) (fun _ => ?_)) | (with_reducible refine And.intro ?_ ?_) | (simp (disch := first | omega | simp only [RO] | (simp only [RZ] <;> omega) | (with_reducible (repeat (first | assumption | exact Ext.refl _ | refine Ext.alloc ?_ _ | refine Ext.drew ?_ | refine Ext.trans ?_ (by assumption)))) | fail) only [↓RBp, ↓RA, ↓reduceIte, Nat.reduceAdd, Nat.reduceMul, Nat.reduceEqDiff, RB, RX, RA2, d0, d1, d2, d3, d4, her, t1, t2, t3, t4, c_PGen, c_PKind, t5])))
                  exact hW hok t5 _ (by repeat (first | (with_reducible first | refine eB ?_ (by first | omega | (simp only [RZ] <;> omega)) _ | assumption | exact eR _ | refine eA ?_ _ | refine eD ?_ | refine eT ?_ (by assumption)) | exact eR _))
              · (repeat' (first | (with_reducible refine brS_mk (fun _ => ?_) (fun _ => ?_)) | (with_reducible refine And.intro ?_ ?_) | (simp (disch := first | omega | simp only [RO] | (simp only [RZ] <;> omega) | (with_reducible (repeat (first | assumption | exact Ext.refl _ | refine Ext.alloc ?_ _ | refine Ext.drew ?_ | refine Ext.trans ?_ (by assumption)))) | fail) only [↓RBp, ↓RA, ↓reduceIte, Nat.reduceAdd, Nat.reduceMul, Nat.reduceEqDiff, RB, RX, RA2, d0, d1, d2, d3, d4, her, t1, t2, t3, t4, c_PGen])))
                exact hS (fun hs => t4 hs.2.2.2) _ (by repeat (first | (with_reducible first | refine eB ?_ (by first | omega | (simp only [RZ] <;> omega)) _ | assumption | exact eR _ | refine eA ?_ _ | refine eD ?_ | refine eT ?_ (by assumption)) | exact eR _))
            · (repeat' (first | (with_reducible refine brS_mk (fun _ => ?_) (fun _ => ?_)) | (with_reducible refine And.intro ?_ ?_) | (simp (disch := first | omega | simp only [RO] | (simp only [RZ] <;> omega) | (with_reducible (repeat (first | assumption | exact Ext.refl _ | refine Ext.alloc ?_ _ | refine Ext.drew ?_ | refine Ext.trans ?_ (by assumption)))) | fail) only [↓RBp, ↓RA, ↓reduceIte, Nat.reduceAdd, Nat.reduceMul, Nat.reduceEqDiff, RB, RX, RA2, d0, d1, d2, d3, d4, her, t1, t2, t3])))
              exact hS (fun hs => t3 hs.2.2.1) _ (by repeat (first | (with_reducible first | refine eB ?_ (by first | omega | (simp only [RZ] <;> omega)) _ | assumption | exact eR _ | refine eA ?_ _ | refine eD ?_ | refine eT ?_ (by assumption)) | exact eR _))
          · have t2' : bitB y k = false := by simpa using t2
            (repeat' (first | (with_reducible refine brS_mk (fun _ => ?_) (fun _ => ?_)) | (with_reducible refine And.intro ?_ ?_) | (simp (disch := first | omega | simp only [RO] | (simp only [RZ] <;> omega) | (with_reducible (repeat (first | assumption | exact Ext.refl _ | refine Ext.alloc ?_ _ | refine Ext.drew ?_ | refine Ext.trans ?_ (by assumption)))) | fail) only [↓RBp, ↓RA, ↓reduceIte, Nat.reduceAdd, Nat.reduceMul, Nat.reduceEqDiff, RB, RX, RA2, d0, d1, d2, d3, d4, her, t1, t2'])))
            exact hS (fun hs => t2 hs.2.1) _ (by repeat (first | (with_reducible first | refine eB ?_ (by first | omega | (simp only [RZ] <;> omega)) _ | assumption | exact eR _ | refine eA ?_ _ | refine eD ?_ | refine eT ?_ (by assumption)) | exact eR _))
        · have t1' : isS x = false := by simpa using t1
          (repeat' (first | (with_reducible refine brS_mk (fun _ => ?_) (fun _ => ?_)) | (with_reducible refine And.intro ?_ ?_) | (simp (disch := first | omega | simp only [RO] | (simp only [RZ] <;> omega) | (with_reducible (repeat (first | assumption | exact Ext.refl _ | refine Ext.alloc ?_ _ | refine Ext.drew ?_ | refine Ext.trans ?_ (by assumption)))) | fail) only [↓RBp, ↓RA, ↓reduceIte, Nat.reduceAdd, Nat.reduceMul, Nat.reduceEqDiff, RB, RX, RA2, d0, d1, d2, d3, d4, her, t1'])))
          exact hS (fun hs => t1 hs.1) _ (by repeat (first | (with_reducible first | refine eB ?_ (by first | omega | (simp only [RZ] <;> omega)) _ | assumption | exact eR _ | refine eA ?_ _ | refine eD ?_ | refine eT ?_ (by assumption)) | exact eR _))
      · have hd0 : ¬ p / 72057594037927936 = 0 := fun h => hp56 (hdiv.1 h)
        simp (disch := first | omega | simp only [RO] | (simp only [RZ] <;> omega) | (with_reducible (repeat (first | assumption | exact Ext.refl _ | refine Ext.alloc ?_ _ | refine Ext.drew ?_ | refine Ext.trans ?_ (by assumption)))) | fail) only [↓RBp, ↓RA, ↓reduceIte, Nat.reduceAdd, Nat.reduceMul, Nat.reduceEqDiff, RB, RX, RA2, hd0]
        exact hR (.inl (by omega)) _ e01
end
end Go.Proofs.YtaeopkhdokaaoaaGreatDoor
namespace Go.Proofs.YtaeopkhdokaaoaaGreatDoor
open Go Go.Sh
set_option maxRecDepth 100000
set_option maxHeartbeats 4000000
set_option linter.unusedSimpArgs false
set_option linter.unusedVariables false
section
variable {w w' : World} {Y : Lay} {D : DS} {l : Nat} {c o : Int} {g : Nat}
def mskN (D : DS) (l : Nat) (c : Int) : Nat → Nat
  | 0 => 0
  | n + 1 => if bS (wd D l (offN c n)) = 176 then mskN D l c n else mskN D l c n ||| 2 ^ n
def gdN (D : DS) (l : Nat) (c : Int) : Nat → Bool
  | 0 => true
  | n + 1 => gdN D l c n && (isS (wd D l (offN c n)) && goodB (bG (wd D l (offN c n))) (bK (wd D l (offN c n))) (bS (wd D l (offN c n))))
def zerN (D : DS) (l : Nat) : Nat → Bool
  | 0 => true
  | n + 1 => zerN D l n && decide (wd D l (n + 2) = 0)
theorem mskN_lt (D : DS) (l : Nat) (c : Int) : ∀ n, mskN D l c n < 2 ^ n := by
  intro n
  induction n with
  | zero => simp [mskN]
  | succ n ih =>
    have h2 : 2 ^ n < 2 ^ (n + 1) := Nat.pow_lt_pow_right (by decide) (by omega)
    simp only [mskN]
    split
    · omega
    · exact Nat.or_lt_two_pow (by omega) h2
theorem gdN_no {D : DS} {l : Nat} {c : Int} : ∀ {n i : Nat}, i < n → (isS (wd D l (offN c i)) && goodB (bG (wd D l (offN c i))) (bK (wd D l (offN c i))) (bS (wd D l (offN c i)))) = false → gdN D l c n = false := by
  intro n
  induction n with
  | zero => intro i h; omega
  | succ n ih =>
    intro i h he
    simp only [gdN]
    by_cases e : i = n
    · subst e; simp only [he, Bool.and_false]
    · rw [ih (i := i) (by omega) he]; rfl
theorem zerN_no {D : DS} {l : Nat} : ∀ {n i : Nat}, i < n → wd D l (i + 2) ≠ 0 → zerN D l n = false := by
  intro n
  induction n with
  | zero => intro i h; omega
  | succ n ih =>
    intro i h he
    simp only [zerN]
    by_cases e : i = n
    · subst e; simp [he]
    · rw [ih (i := i) (by omega) he]; rfl
def conB (D : DS) (l : Nat) (c o : Int) : Bool := hdOk (wd D l 0) && (decide (hC (wd D l 0) = c) && (decide (hO (wd D l 0) = o) && (zerN D l 6 && (gdN D l c (perS c).toNat && decide (wd D l 1 = mskN D l c (perS c).toNat)))))
theorem k_consistent (h : Cx w Y D l c) (o : Int) (g : Nat) (K : K1) (hK : ∀ w', Ext w w' → K (.bool (conB D l c o)) w') :
    callS Tryz.prog 93 #[chV Y l c o g] w K := by
  have hp := perS_in h.c0 h.c5
  obtain ⟨n, hn⟩ : ∃ n : Nat, perS c = (n : Int) := ⟨(perS c).toNat, by omega⟩
  have hl := h.hl; have hnn := h.n
  have ld : ∀ (w1 : World) (K : K1), Ext w w1 → callS Tryz.prog 52 #[.pointer (some ⟨Y.tb 0, 0, none⟩), .int .u64 ((l * 64 : Nat) : Int)] w1 K = K (.int .u64 (wd D l 0 : Int)) w1 := fun w1 K he => h.loadE w1 0 K he (by omega)
  have hx0 := h.wd_lt 0 (by omega)
  have e0 : Ext w (w.alloc (chO Y l c o g)) := Ext.alloc_self _ _
  have no : conB D l c o = false → ∀ w', Ext w w' → K (.bool false) w' := fun hf w' e => by have := hK w' e; rw [hf] at this; exact this
  refine f93_call _ _ _ ?_
  unfold f93_t
  simp (disch := first | omega | simp only [RO] | (simp only [RZ] <;> omega) | (with_reducible (repeat (first | assumption | exact Ext.refl _ | refine Ext.alloc ?_ _ | refine Ext.drew ?_ | refine Ext.trans ?_ (by assumption)))) | fail) only [↓RBp, ↓RA, ↓reduceIte, Nat.reduceAdd, Nat.reduceMul, Nat.reduceEqDiff, RB, RX, RA2, c_line, Int.toNat_natCast, ld]
  refine k_header (wd D l 0) _ _ (h.gl.ext (by repeat (first | (with_reducible first | refine eB ?_ (by first | omega | (simp only [RZ] <;> omega)) _ | assumption | exact eR _ | refine eA ?_ _ | refine eD ?_ | refine eT ?_ (by assumption)) | exact eR _))) hx0 (fun w1 e1 => ?_)
  have ea : Ext (w.alloc (chO Y l c o g)) w1 := Ext.trans (by repeat (first | (with_reducible first | refine eB ?_ (by first | omega | (simp only [RZ] <;> omega)) _ | assumption | exact eR _ | refine eA ?_ _ | refine eD ?_ | refine eT ?_ (by assumption)) | exact eR _)) e1
  have e01 := e0.trans ea
  have ob1 := chCells ea; have c0 := ob1.1; have c1 := ob1.2.1; have c2 := ob1.2.2.1; have c3 := ob1.2.2.2.1; have c4 := ob1.2.2.2.2
  have lt1 : w.heap.size < w1.heap.size := lt_of_cell c0
  unfold conB at hK no
  rw [hn, Int.toNat_natCast] at hK no
  cases hh : hdOk (wd D l 0) with
  | false =>
    rw [hh] at no
    unfold hdV
    simp (disch := first | omega | simp only [RO] | (simp only [RZ] <;> omega) | (with_reducible (repeat (first | assumption | exact Ext.refl _ | refine Ext.alloc ?_ _ | refine Ext.drew ?_ | refine Ext.trans ?_ (by assumption)))) | fail) only [↓RBp, ↓RA, ↓reduceIte, Nat.reduceAdd, Nat.reduceMul, Nat.reduceEqDiff, RB, RX, RA2, c0, c1, c2, c3, c4]
    exact no rfl _ (by repeat (first | (with_reducible first | refine eB ?_ (by first | omega | (simp only [RZ] <;> omega)) _ | assumption | exact eR _ | refine eA ?_ _ | refine eD ?_ | refine eT ?_ (by assumption)) | exact eR _))
  | true =>
    by_cases hc : hC (wd D l 0) = c
    · by_cases ho : hO (wd D l 0) = o
      · rw [hh, decide_eq_true hc, decide_eq_true ho] at hK no
        simp only [Bool.true_and] at hK no
        simp only [if_true]
        unfold hdV
        rw [hc, ho]
        simp (disch := first | omega | simp only [RO] | (simp only [RZ] <;> omega) | (with_reducible (repeat (first | assumption | exact Ext.refl _ | refine Ext.alloc ?_ _ | refine Ext.drew ?_ | refine Ext.trans ?_ (by assumption)))) | fail) only [↓RBp, ↓RA, ↓reduceIte, Nat.reduceAdd, Nat.reduceMul, Nat.reduceEqDiff, RB, RX, RA2, c0, c1, c2, c3, c4]
        generalize gX (wd D l 0) = gx
        have hld := h.loadE
        apply f93_l1_rule (I := fun z w' => ∃ q : Nat, z = .int .u64 ((q + 2 : Nat) : Int) ∧ q ≤ 6 ∧ zerN D l q = true ∧ Ext (w.alloc (chO Y l c o g)) w') (μ := fun z _ => 8 - (Go.RowKit.intOf z).toNat)
        · exact ⟨0, rfl, by omega, rfl, (by repeat (first | (with_reducible first | refine eB ?_ (by first | omega | (simp only [RZ] <;> omega)) _ | assumption | exact eR _ | refine eA ?_ _ | refine eD ?_ | refine eT ?_ (by assumption)) | exact eR _))⟩
        · intros; rename_i w2 hI E1 hE
          obtain ⟨q, rfl, hq, hz, eb⟩ := hI
          have e02 := e0.trans eb
          have ob2 := chCells eb; have d0 := ob2.1; have d1 := ob2.2.1; have d2 := ob2.2.2.1; have d3 := ob2.2.2.2.1; have d4 := ob2.2.2.2.2
          unfold f93_l1_t
          by_cases hq6 : q < 6
          · have e8 : (q + 2) * 8 + l * 64 = l * 64 + (q + 2) * 8 := by omega
            by_cases hw0 : wd D l (q + 2) = 0
            · simp (disch := first | omega | simp only [RO] | (simp only [RZ] <;> omega) | (with_reducible (repeat (first | assumption | exact Ext.refl _ | refine Ext.alloc ?_ _ | refine Ext.drew ?_ | refine Ext.trans ?_ (by assumption)))) | fail) only [↓RBp, ↓RA, ↓reduceIte, Nat.reduceAdd, Nat.reduceMul, Nat.reduceEqDiff, RB, RX, RA2, d0, d1, d2, d3, d4, hld, hw0]
              apply hE
              · exact ⟨q + 1, by simp; omega, by omega, by simp [zerN, hz, hw0], eb⟩
              · simp [Go.RowKit.intOf]; omega
            · simp (disch := first | omega | simp only [RO] | (simp only [RZ] <;> omega) | (with_reducible (repeat (first | assumption | exact Ext.refl _ | refine Ext.alloc ?_ _ | refine Ext.drew ?_ | refine Ext.trans ?_ (by assumption)))) | fail) only [↓RBp, ↓RA, ↓reduceIte, Nat.reduceAdd, Nat.reduceMul, Nat.reduceEqDiff, RB, RX, RA2, d0, d1, d2, d3, d4, hld, hw0]
              exact no (by rw [zerN_no hq6 hw0]; rfl) _ e02
          · have hq6 : q = 6 := by omega
            subst hq6
            rw [hz] at hK no
            simp only [Bool.true_and] at hK no
            have hpc : ∀ (w1 : World) (K : K1), Ext w w1 → callS Tryz.prog 73 #[.int .i64 c] w1 K = K (.int .i64 (n : Int)) w1 := fun w1 K he => by rw [c_PerChunk c w1 K (h.gl.ext he), hn]
            simp (disch := first | omega | simp only [RO] | (simp only [RZ] <;> omega) | (with_reducible (repeat (first | assumption | exact Ext.refl _ | refine Ext.alloc ?_ _ | refine Ext.drew ?_ | refine Ext.trans ?_ (by assumption)))) | fail) only [↓RBp, ↓RA, ↓reduceIte, Nat.reduceAdd, Nat.reduceMul, Nat.reduceEqDiff, RB, RX, RA2, d0, d1, d2, d3, d4, hpc, f93_k1_eq, f93_k1_t]
            apply f93_l2_rule (I := fun y z w' => ∃ i : Nat, z = .int .i64 (i : Int) ∧ i ≤ n ∧ y = .int .u64 ((mskN D l c i : Nat) : Int) ∧ gdN D l c i = true ∧ Ext (w.alloc (chO Y l c o g)) w') (μ := fun _ z _ => n - (Go.RowKit.intOf z).toNat)
            · exact ⟨0, rfl, by omega, rfl, rfl, eb⟩
            · intros; rename_i w3 hI3 E3 hE3
              obtain ⟨i, rfl, hi, rfl, hg, ec⟩ := hI3
              have e03 := e0.trans ec
              have ob3 := chCells ec; have q0 := ob3.1; have q1 := ob3.2.1; have q2 := ob3.2.2.1; have q3 := ob3.2.2.2.1; have q4 := ob3.2.2.2.2
              have lt3 : w.heap.size < w3.heap.size := lt_of_cell q0
              by_cases hin : i < n
              · have bd := offN_bd h.c0 h.c5 (i := i) (by omega)
                have hat := h.at_ o g
                have hwx := h.wd_lt (offN c i) bd.2.2
                have hm := mskN_lt D l c i
                have hm64 : mskN D l c i < 18446744073709551616 := Nat.lt_of_lt_of_le hm (by have := pow_lt64 (show i < 64 by omega); omega)
                have hpw := pow_lt64 (show i < 64 by omega)
                have hs1 : 1 * 2 ^ i % 18446744073709551616 = 2 ^ i := by rw [Nat.one_mul]; exact Nat.mod_eq_of_lt hpw
                have hor := or_lt64 hm64 hpw
                have hgn : gdN D l c (i + 1) = (isS (wd D l (offN c i)) && goodB (bG (wd D l (offN c i))) (bK (wd D l (offN c i))) (bS (wd D l (offN c i)))) := by simp only [gdN, hg, Bool.true_and]
                have hmn : mskN D l c (i + 1) = if bS (wd D l (offN c i)) = 176 then mskN D l c i else mskN D l c i ||| 2 ^ i := rfl
                have hbad := fun hf => no (by rw [gdN_no (D := D) (l := l) (c := c) hin hf]; rfl)
                have hatw : ∀ (w1 : World) (K : K1), Ext w w1 → callS Tryz.prog 96 #[chV Y l c o g, .int .i64 (i : Int)] w1 K = K (.int .u64 ((l * 64 + offN c i * 8 : Nat) : Int)) (w1.alloc (chO Y l c o g)) := fun w1 K e => hat w1 i K e (by omega)
                have hldw : ∀ (w1 : World) (K : K1), Ext w w1 → callS Tryz.prog 52 #[.pointer (some ⟨Y.tb 0, 0, none⟩), .int .u64 ((l * 64 + offN c i * 8 : Nat) : Int)] w1 K = K (.int .u64 (wd D l (offN c i) : Int)) w1 := fun w1 K e => hld w1 _ K e bd.2.2
                have hsl : ∀ (w1 : World) (K : K1), Ext w w1 → (∀ w', Ext w1 w' → K (.tuple #[.agg #[.int .u16 (bG (wd D l (offN c i)) : Int), .int .u8 (bK (wd D l (offN c i)) : Int), .int .u8 (bS (wd D l (offN c i)) : Int)], .bool (isS (wd D l (offN c i)))]) w') → callS Tryz.prog 114 #[.int .u64 (wd D l (offN c i) : Int)] w1 K := fun w1 K e hk => k_sealed' _ w1 K (h.gl.ext e) hwx hk
                clear hat hld
                generalize wd D l (offN c i) = x at *
                generalize offN c i = qq at *
                have tail : ∀ (b : Nat) (w4 : World), w4.cell? ⟨b, 0, none⟩ = some (.int .u16 (bG x : Int)) → w4.cell? ⟨b, 1, none⟩ = some (.int .u8 (bK x : Int)) → w4.cell? ⟨b, 2, none⟩ = some (.int .u8 (bS x : Int)) → Ext (w.alloc (chO Y l c o g)) w4 → f93_k4 K E3 (.pointer (some ⟨w.heap.size, 0, none⟩)) (.int .u64 ((mskN D l c i : Nat) : Int)) (.int .i64 (i : Int)) (.pointer (some ⟨b, 0, none⟩)) (.bool (isS x)) (.int .i64 (n : Int)) (.int .i64 (i : Int)) w4 := by
                  intro b w4 a0 a1 a2 ed
                  have e04 := e0.trans ed
                  have ltb : b < w4.heap.size := lt_of_cell a0
                  rw [f93_k4_eq]
                  unfold f93_k4_t
                  have k3 : ∀ (y : Nat) (w5 : World), Ext w4 w5 → gdN D l c (i + 1) = true → mskN D l c (i + 1) = y → f93_k3 K E3 (.pointer (some ⟨w.heap.size, 0, none⟩)) (.int .u64 (y : Int)) (.int .i64 (n : Int)) (.int .i64 (i : Int)) w5 := by
                    intro y w5 e5 hg5 hm5
                    rw [f93_k3_eq]
                    unfold f93_k3_t
                    simp (disch := first | omega | simp only [RO] | (simp only [RZ] <;> omega) | fail) only [↓RBp, ↓RA, ↓reduceIte, Nat.reduceAdd, Nat.reduceMul, Nat.reduceEqDiff, RB, RX, RA2]
                    apply hE3
                    · exact ⟨i + 1, by simp, by omega, by rw [hm5], hg5, ed.trans e5⟩
                    · simp [Go.RowKit.intOf]; omega
                  by_cases t1 : isS x = true
                  · by_cases t2 : goodB (bG x) (bK x) (bS x) = true
                    · rw [t1, t2] at hgn
                      by_cases t3 : bS x = 176
                      · rw [if_pos t3] at hmn
                        have t2' := t2
                        rw [t3] at t2'
                        simp (disch := first | omega | simp only [RO] | (simp only [RZ] <;> omega) | (with_reducible (repeat (first | assumption | exact Ext.refl _ | refine Ext.alloc ?_ _ | refine Ext.drew ?_ | refine Ext.trans ?_ (by assumption)))) | fail) only [↓RBp, ↓RA, ↓reduceIte, Nat.reduceAdd, Nat.reduceMul, Nat.reduceEqDiff, RB, RX, RA2, a0, a1, a2, t1, t2', t3, c_good]
                        exact k3 _ _ (by repeat (first | (with_reducible first | refine eB ?_ (by first | omega | (simp only [RZ] <;> omega)) _ | assumption | exact eR _ | refine eA ?_ _ | refine eD ?_ | refine eT ?_ (by assumption)) | exact eR _)) hgn hmn
                      · rw [if_neg t3] at hmn
                        simp (disch := first | omega | simp only [RO] | (simp only [RZ] <;> omega) | (with_reducible (repeat (first | assumption | exact Ext.refl _ | refine Ext.alloc ?_ _ | refine Ext.drew ?_ | refine Ext.trans ?_ (by assumption)))) | fail) only [↓RBp, ↓RA, ↓reduceIte, Nat.reduceAdd, Nat.reduceMul, Nat.reduceEqDiff, RB, RX, RA2, a0, a1, a2, t1, t2, t3, c_good, hs1]
                        exact k3 _ _ (by repeat (first | (with_reducible first | refine eB ?_ (by first | omega | (simp only [RZ] <;> omega)) _ | assumption | exact eR _ | refine eA ?_ _ | refine eD ?_ | refine eT ?_ (by assumption)) | exact eR _)) hgn hmn
                    · have t2' : goodB (bG x) (bK x) (bS x) = false := by simpa using t2
                      simp (disch := first | omega | simp only [RO] | (simp only [RZ] <;> omega) | (with_reducible (repeat (first | assumption | exact Ext.refl _ | refine Ext.alloc ?_ _ | refine Ext.drew ?_ | refine Ext.trans ?_ (by assumption)))) | fail) only [↓RBp, ↓RA, ↓reduceIte, Nat.reduceAdd, Nat.reduceMul, Nat.reduceEqDiff, RB, RX, RA2, a0, a1, a2, t1, t2', c_good]
                      exact hbad (by rw [t1, t2']; rfl) _ (by repeat (first | (with_reducible first | refine eB ?_ (by first | omega | (simp only [RZ] <;> omega)) _ | assumption | exact eR _ | refine eA ?_ _ | refine eD ?_ | refine eT ?_ (by assumption)) | exact eR _))
                  · have t1' : isS x = false := by simpa using t1
                    simp (disch := first | omega | simp only [RO] | (simp only [RZ] <;> omega) | (with_reducible (repeat (first | assumption | exact Ext.refl _ | refine Ext.alloc ?_ _ | refine Ext.drew ?_ | refine Ext.trans ?_ (by assumption)))) | fail) only [↓RBp, ↓RA, ↓reduceIte, Nat.reduceAdd, Nat.reduceMul, Nat.reduceEqDiff, RB, RX, RA2, a0, a1, a2, t1']
                    exact hbad (by rw [t1']; rfl) _ (by repeat (first | (with_reducible first | refine eB ?_ (by first | omega | (simp only [RZ] <;> omega)) _ | assumption | exact eR _ | refine eA ?_ _ | refine eD ?_ | refine eT ?_ (by assumption)) | exact eR _))
                unfold f93_l2_t
                (repeat' (first | (with_reducible refine brS_mk (fun _ => ?_) (fun _ => ?_)) | (with_reducible refine And.intro ?_ ?_) | (simp (disch := first | omega | simp only [RO] | (simp only [RZ] <;> omega) | (with_reducible (repeat (first | assumption | exact Ext.refl _ | refine Ext.alloc ?_ _ | refine Ext.drew ?_ | refine Ext.trans ?_ (by assumption)))) | fail) only [↓RBp, ↓RA, ↓reduceIte, Nat.reduceAdd, Nat.reduceMul, Nat.reduceEqDiff, RB, RX, RA2, q0, q1, q2, q3, q4, hatw, hldw])))
                · refine hsl _ _ (by repeat (first | (with_reducible first | refine eB ?_ (by first | omega | (simp only [RZ] <;> omega)) _ | assumption | exact eR _ | refine eA ?_ _ | refine eD ?_ | refine eT ?_ (by assumption)) | exact eR _)) (fun w4 e4 => ?_)
                  have e34 : Ext w3 w4 := Ext.trans (by repeat (first | (with_reducible first | refine eB ?_ (by first | omega | (simp only [RZ] <;> omega)) _ | assumption | exact eR _ | refine eA ?_ _ | refine eD ?_ | refine eT ?_ (by assumption)) | exact eR _)) e4
                  have ed := ec.trans e34
                  have ob4 := chCells ed; have s0 := ob4.1; have s1 := ob4.2.1; have s2 := ob4.2.2.1; have s3 := ob4.2.2.2.1; have s4 := ob4.2.2.2.2
                  have lt4 : w.heap.size < w4.heap.size := lt_of_cell s0
                  (repeat' (first | (with_reducible refine brS_mk (fun _ => ?_) (fun _ => ?_)) | (with_reducible refine And.intro ?_ ?_) | (simp (disch := first | omega | simp only [RO] | (simp only [RZ] <;> omega) | (with_reducible (repeat (first | assumption | exact Ext.refl _ | refine Ext.alloc ?_ _ | refine Ext.drew ?_ | refine Ext.trans ?_ (by assumption)))) | fail) only [↓RBp, ↓RA, ↓reduceIte, Nat.reduceAdd, Nat.reduceMul, Nat.reduceEqDiff, RB, RX, RA2, s0, s1, s2, s3, s4])))
                  refine tail _ _ ?_ ?_ ?_ (by repeat (first | (with_reducible first | refine eB ?_ (by first | omega | (simp only [RZ] <;> omega)) _ | assumption | exact eR _ | refine eA ?_ _ | refine eD ?_ | refine eT ?_ (by assumption)) | exact eR _)) <;> simp (disch := first | omega | simp only [RO] | (simp only [RZ] <;> omega) | fail) only [↓RBp, ↓RA, ↓reduceIte, Nat.reduceAdd, Nat.reduceMul, Nat.reduceEqDiff, RB, RX, RA2]
                · refine hsl _ _ (by repeat (first | (with_reducible first | refine eB ?_ (by first | omega | (simp only [RZ] <;> omega)) _ | assumption | exact eR _ | refine eA ?_ _ | refine eD ?_ | refine eT ?_ (by assumption)) | exact eR _)) (fun w4 e4 => ?_)
                  have e34 : Ext w3 w4 := Ext.trans (by repeat (first | (with_reducible first | refine eB ?_ (by first | omega | (simp only [RZ] <;> omega)) _ | assumption | exact eR _ | refine eA ?_ _ | refine eD ?_ | refine eT ?_ (by assumption)) | exact eR _)) e4
                  have ed := ec.trans e34
                  have hC : Cells w4 (w3.heap.size + 1) 129 3 (fun i => [Value.int .u16 ((0 : Nat) : Int), .int .u8 ((0 : Nat) : Int), .int .u8 ((0 : Nat) : Int)].getD i undef) := by
                    have := (Cells.new (w3.alloc (chO Y l c o g)) [Value.int .u16 ((0 : Nat) : Int), .int .u8 ((0 : Nat) : Int), .int .u8 ((0 : Nat) : Int)] 129)
                    try rw [size_alloc] at this
                    exact this.ext (Ext.trans (by repeat (first | (with_reducible first | refine eB ?_ (by first | omega | (simp only [RZ] <;> omega)) _ | assumption | exact eR _ | refine eA ?_ _ | refine eD ?_ | refine eT ?_ (by assumption)) | exact eR _)) e4)
                  have p0 := hC.cell (i := 0) (by omega)
                  have p1 := hC.cell (i := 1) (by omega)
                  have p2 := hC.cell (i := 2) (by omega)
                  have ob5 := cells3 hC (.int .u16 (bG x : Int)) (.int .u8 (bK x : Int)) (.int .u8 (bS x : Int)); have r0 := ob5.1; have r1 := ob5.2.1; have r2 := ob5.2.2.1; have hD := ob5.2.2.2
                  simp (disch := first | omega | simp only [RO] | (simp only [RZ] <;> omega) | fail) only [↓RBp, ↓RA, ↓reduceIte, Nat.reduceAdd, Nat.reduceMul, Nat.reduceEqDiff, RB, RX, RA2, p0, p1, p2, hC.frz, r0, r1, r2]
                  exact tail _ _ r0 r1 r2 (by repeat (first | (with_reducible first | refine eB ?_ (by first | omega | (simp only [RZ] <;> omega)) _ | assumption | exact eR _ | refine eA ?_ _ | refine eD ?_ | refine eT ?_ (by assumption)) | exact eR _))
                · refine hsl _ _ (by repeat (first | (with_reducible first | refine eB ?_ (by first | omega | (simp only [RZ] <;> omega)) _ | assumption | exact eR _ | refine eA ?_ _ | refine eD ?_ | refine eT ?_ (by assumption)) | exact eR _)) (fun w4 e4 => ?_)
                  have e34 : Ext w3 w4 := Ext.trans (by repeat (first | (with_reducible first | refine eB ?_ (by first | omega | (simp only [RZ] <;> omega)) _ | assumption | exact eR _ | refine eA ?_ _ | refine eD ?_ | refine eT ?_ (by assumption)) | exact eR _)) e4
                  have ed := ec.trans e34
                  have hC : Cells w4 (w3.heap.size + 1) 129 3 (fun i => [Value.int .u16 ((0 : Nat) : Int), .int .u8 ((0 : Nat) : Int), .int .u8 ((0 : Nat) : Int)].getD i undef) := by
                    have := (Cells.new (w3.alloc (chO Y l c o g)) [Value.int .u16 ((0 : Nat) : Int), .int .u8 ((0 : Nat) : Int), .int .u8 ((0 : Nat) : Int)] 129)
                    try rw [size_alloc] at this
                    exact this.ext (Ext.trans (by repeat (first | (with_reducible first | refine eB ?_ (by first | omega | (simp only [RZ] <;> omega)) _ | assumption | exact eR _ | refine eA ?_ _ | refine eD ?_ | refine eT ?_ (by assumption)) | exact eR _)) e4)
                  have p0 := hC.cell (i := 0) (by omega)
                  have p1 := hC.cell (i := 1) (by omega)
                  have p2 := hC.cell (i := 2) (by omega)
                  have ob6 := cells3 hC (.int .u16 (bG x : Int)) (.int .u8 (bK x : Int)) (.int .u8 (bS x : Int)); have r0 := ob6.1; have r1 := ob6.2.1; have r2 := ob6.2.2.1; have hD := ob6.2.2.2
                  simp (disch := first | omega | simp only [RO] | (simp only [RZ] <;> omega) | fail) only [↓RBp, ↓RA, ↓reduceIte, Nat.reduceAdd, Nat.reduceMul, Nat.reduceEqDiff, RB, RX, RA2, p0, p1, p2, hC.frz, r0, r1, r2]
                  exact tail _ _ r0 r1 r2 (by repeat (first | (with_reducible first | refine eB ?_ (by first | omega | (simp only [RZ] <;> omega)) _ | assumption | exact eR _ | refine eA ?_ _ | refine eD ?_ | refine eT ?_ (by assumption)) | exact eR _))
                · refine hsl _ _ (by repeat (first | (with_reducible first | refine eB ?_ (by first | omega | (simp only [RZ] <;> omega)) _ | assumption | exact eR _ | refine eA ?_ _ | refine eD ?_ | refine eT ?_ (by assumption)) | exact eR _)) (fun w4 e4 => ?_)
                  have e34 : Ext w3 w4 := Ext.trans (by repeat (first | (with_reducible first | refine eB ?_ (by first | omega | (simp only [RZ] <;> omega)) _ | assumption | exact eR _ | refine eA ?_ _ | refine eD ?_ | refine eT ?_ (by assumption)) | exact eR _)) e4
                  have ed := ec.trans e34
                  have hC : Cells w4 (w3.heap.size) 129 3 (fun i => [Value.int .u16 ((0 : Nat) : Int), .int .u8 ((0 : Nat) : Int), .int .u8 ((0 : Nat) : Int)].getD i undef) := by
                    have := (Cells.new w3 [Value.int .u16 ((0 : Nat) : Int), .int .u8 ((0 : Nat) : Int), .int .u8 ((0 : Nat) : Int)] 129)
                    try rw [size_alloc] at this
                    exact this.ext (Ext.trans (by repeat (first | (with_reducible first | refine eB ?_ (by first | omega | (simp only [RZ] <;> omega)) _ | assumption | exact eR _ | refine eA ?_ _ | refine eD ?_ | refine eT ?_ (by assumption)) | exact eR _)) e4)
                  have p0 := hC.cell (i := 0) (by omega)
                  have p1 := hC.cell (i := 1) (by omega)
                  have p2 := hC.cell (i := 2) (by omega)
                  have ob7 := cells3 hC (.int .u16 (bG x : Int)) (.int .u8 (bK x : Int)) (.int .u8 (bS x : Int)); have r0 := ob7.1; have r1 := ob7.2.1; have r2 := ob7.2.2.1; have hD := ob7.2.2.2
                  simp (disch := first | omega | simp only [RO] | (simp only [RZ] <;> omega) | fail) only [↓RBp, ↓RA, ↓reduceIte, Nat.reduceAdd, Nat.reduceMul, Nat.reduceEqDiff, RB, RX, RA2, p0, p1, p2, hC.frz, r0, r1, r2]
                  exact tail _ _ r0 r1 r2 (by repeat (first | (with_reducible first | refine eB ?_ (by first | omega | (simp only [RZ] <;> omega)) _ | assumption | exact eR _ | refine eA ?_ _ | refine eD ?_ | refine eT ?_ (by assumption)) | exact eR _))
              · have : i = n := by omega
                subst this
                rw [hg] at hK
                simp only [Bool.true_and] at hK
                have hbt := h.bits o g
                unfold f93_l2_t
                simp (disch := first | omega | simp only [RO] | (simp only [RZ] <;> omega) | (with_reducible (repeat (first | assumption | exact Ext.refl _ | refine Ext.alloc ?_ _ | refine Ext.drew ?_ | refine Ext.trans ?_ (by assumption)))) | fail) only [↓RBp, ↓RA, ↓reduceIte, Nat.reduceAdd, Nat.reduceMul, Nat.reduceEqDiff, RB, RX, RA2, q0, q1, q2, q3, q4, hbt, f93_k2_eq, f93_k2_t]
                exact hK _ (by repeat (first | (with_reducible first | refine eB ?_ (by first | omega | (simp only [RZ] <;> omega)) _ | assumption | exact eR _ | refine eA ?_ _ | refine eD ?_ | refine eT ?_ (by assumption)) | exact eR _))
      · rw [hh, decide_eq_true hc, decide_eq_false ho] at no
        simp only [if_true]
        unfold hdV
        simp (disch := first | omega | simp only [RO] | (simp only [RZ] <;> omega) | (with_reducible (repeat (first | assumption | exact Ext.refl _ | refine Ext.alloc ?_ _ | refine Ext.drew ?_ | refine Ext.trans ?_ (by assumption)))) | fail) only [↓RBp, ↓RA, ↓reduceIte, Nat.reduceAdd, Nat.reduceMul, Nat.reduceEqDiff, RB, RX, RA2, c0, c1, c2, c3, c4, hc, ho]
        exact no rfl _ (by repeat (first | (with_reducible first | refine eB ?_ (by first | omega | (simp only [RZ] <;> omega)) _ | assumption | exact eR _ | refine eA ?_ _ | refine eD ?_ | refine eT ?_ (by assumption)) | exact eR _))
    · rw [hh, decide_eq_false hc] at no
      simp only [if_true]
      unfold hdV
      simp (disch := first | omega | simp only [RO] | (simp only [RZ] <;> omega) | (with_reducible (repeat (first | assumption | exact Ext.refl _ | refine Ext.alloc ?_ _ | refine Ext.drew ?_ | refine Ext.trans ?_ (by assumption)))) | fail) only [↓RBp, ↓RA, ↓reduceIte, Nat.reduceAdd, Nat.reduceMul, Nat.reduceEqDiff, RB, RX, RA2, c0, c1, c2, c3, c4, hc]
      exact no rfl _ (by repeat (first | (with_reducible first | refine eB ?_ (by first | omega | (simp only [RZ] <;> omega)) _ | assumption | exact eR _ | refine eA ?_ _ | refine eD ?_ | refine eT ?_ (by assumption)) | exact eR _))
theorem k_Check (h : Cx w Y D l c) (he : D.err 0 = 0) (o : Int) (g : Nat) (K : K1) (hK : ∀ w', Ext w w' → K (.int .i64 (if conB D l c o = true then 0 else 11)) w') :
    callS Tryz.prog 51 #[chV Y l c o g] w K := by
  have her : ∀ (w1 : World) (K : K1), Ext w w1 → callS Tryz.prog 28 #[.pointer (some ⟨Y.tb 0, 0, none⟩)] w1 K = K (.int .i64 0) w1 := fun w1 K e => by rw [c_Err (h.dv.ext e) 0 (by omega) K, he]
  refine f51_call _ _ _ ?_
  unfold f51_t
  simp (disch := first | omega | simp only [RO] | (simp only [RZ] <;> omega) | (with_reducible (repeat (first | assumption | exact Ext.refl _ | refine Ext.alloc ?_ _ | refine Ext.drew ?_ | refine Ext.trans ?_ (by assumption)))) | fail) only [↓RBp, ↓RA, ↓reduceIte, Nat.reduceAdd, Nat.reduceMul, Nat.reduceEqDiff, RB, RX, RA2, her]
  refine k_consistent (h.ext (by repeat (first | (with_reducible first | refine eB ?_ (by first | omega | (simp only [RZ] <;> omega)) _ | assumption | exact eR _ | refine eA ?_ _ | refine eD ?_ | refine eT ?_ (by assumption)) | exact eR _))) o g _ (fun w1 e1 => ?_)
  have ea : Ext (w.alloc (chO Y l c o g)) w1 := Ext.trans (by repeat (first | (with_reducible first | refine eB ?_ (by first | omega | (simp only [RZ] <;> omega)) _ | assumption | exact eR _ | refine eA ?_ _ | refine eD ?_ | refine eT ?_ (by assumption)) | exact eR _)) e1
  have e01 : Ext w w1 := (Ext.alloc_self _ _).trans ea
  have ob8 := chCells ea; have c0 := ob8.1; have c1 := ob8.2.1; have c2 := ob8.2.2.1; have c3 := ob8.2.2.2.1; have c4 := ob8.2.2.2.2
  cases hb : conB D l c o with
  | true =>
    rw [if_pos hb] at hK
    simp (disch := first | omega | simp only [RO] | (simp only [RZ] <;> omega) | (with_reducible (repeat (first | assumption | exact Ext.refl _ | refine Ext.alloc ?_ _ | refine Ext.drew ?_ | refine Ext.trans ?_ (by assumption)))) | fail) only [↓RBp, ↓RA, ↓reduceIte, Nat.reduceAdd, Nat.reduceMul, Nat.reduceEqDiff, RB, RX, RA2, c0, c1, c2, c3, c4, her]
    exact hK _ (by repeat (first | (with_reducible first | refine eB ?_ (by first | omega | (simp only [RZ] <;> omega)) _ | assumption | exact eR _ | refine eA ?_ _ | refine eD ?_ | refine eT ?_ (by assumption)) | exact eR _))
  | false =>
    rw [hb, if_neg (by simp)] at hK
    simp (disch := first | omega | simp only [RO] | (simp only [RZ] <;> omega) | (with_reducible (repeat (first | assumption | exact Ext.refl _ | refine Ext.alloc ?_ _ | refine Ext.drew ?_ | refine Ext.trans ?_ (by assumption)))) | fail) only [↓RBp, ↓RA, ↓reduceIte, Nat.reduceAdd, Nat.reduceMul, Nat.reduceEqDiff, RB, RX, RA2, c0, c1, c2, c3, c4, her]
    exact hK _ (by repeat (first | (with_reducible first | refine eB ?_ (by first | omega | (simp only [RZ] <;> omega)) _ | assumption | exact eR _ | refine eA ?_ _ | refine eD ?_ | refine eT ?_ (by assumption)) | exact eR _))
end
end Go.Proofs.YtaeopkhdokaaoaaGreatDoor
namespace Go.Proofs.YtaeopkhdokaaoaaGreatDoor
open Go Go.Sh
set_option maxRecDepth 100000
set_option linter.unusedSimpArgs false
set_option linter.unusedVariables false
theorem bit_tb (x i : Nat) : bitB x i = x.testBit i := by unfold bitB; rw [Nat.testBit_eq_decide_div_mod_eq]
theorem bit_or (x y i : Nat) : bitB (x ||| y) i = (bitB x i || bitB y i) := by simp only [bit_tb, Nat.testBit_or]
theorem bit_pow (m i : Nat) : bitB (2 ^ m) i = decide (m = i) := by rw [bit_tb, Nat.testBit_two_pow]
theorem bit_clr (x m i : Nat) (hi : i < 64) : bitB (x &&& (18446744073709551615 ^^^ 2 ^ m)) i = (bitB x i && !decide (m = i)) := by
  have h : (18446744073709551615 : Nat).testBit i = true := by
    have : (18446744073709551615 : Nat) = 2 ^ 64 - 1 := by decide
    rw [this, Nat.testBit_two_pow_sub_one]; simp [hi]
  simp only [bit_tb, Nat.testBit_and, Nat.testBit_xor, h, Nat.testBit_two_pow]
  cases x.testBit i <;> cases decide (m = i) <;> rfl
def hasI (L : List Int) (i : Nat) : Bool := L.any fun x => decide (x.toNat = i)
theorem hasI_cons (x : Int) (L : List Int) (i : Nat) : hasI (x :: L) i = (decide (x.toNat = i) || hasI L i) := rfl
theorem hasI_mem {L : List Int} {i : Nat} (h : hasI L i = true) : ∃ x ∈ L, x.toNat = i := by
  unfold hasI at h; rw [List.any_eq_true] at h; obtain ⟨x, hx, he⟩ := h; exact ⟨x, hx, by simpa using he⟩
theorem hasI_of {L : List Int} {x : Int} (h : x ∈ L) : hasI L x.toNat = true := by
  unfold hasI; rw [List.any_eq_true]; exact ⟨x, h, by simp⟩
theorem onc_spec {per : Int} : ∀ {L : List Int} {m m' : Nat}, onc per L m = some m' → (∀ x ∈ L, bitB m x.toNat = false) ∧ (L.map Int.toNat).Nodup ∧ ∀ i, bitB m' i = (bitB m i || hasI L i) := by
  intro L
  induction L with
  | nil => intro m m' h; injection h with h; subst h; exact ⟨fun x hx => (by cases hx), by simp, fun i => by simp [hasI]⟩
  | cons x L ih =>
    intro m m' h
    simp only [onc] at h
    split at h
    · rename_i hx
      obtain ⟨h1, h2, h3⟩ := ih h
      refine ⟨fun y hy => ?_, ?_, fun i => ?_⟩
      · rcases List.mem_cons.1 hy with rfl | hy
        · exact hx.2
        · have := h1 y hy; rw [bit_or] at this; simp at this; exact this.1
      · rw [List.map_cons, List.nodup_cons]
        refine ⟨fun hm => ?_, h2⟩
        obtain ⟨y, hy, he⟩ := List.mem_map.1 hm
        have := h1 y hy
        rw [bit_or, he, bit_pow] at this; simp at this
      · rw [h3, bit_or, bit_pow, hasI_cons, Bool.or_assoc]
    · cases h
theorem ActA.nd {c : Int} {L M : List Int} {ks : List Nat} (h : ActA c L ks M) : (L.map Int.toNat).Nodup ∧ (M.map Int.toNat).Nodup ∧ ∀ i, hasI L i = true → hasI M i = false := by
  have h0 := h.onc
  cases h1 : Go.Proofs.YtaeopkhdokaaoaaGreatDoor.onc (perS c) L 0 with
  | none => rw [h1] at h0; cases h0
  | some m =>
    rw [h1, Option.bind_some] at h0
    cases h2 : Go.Proofs.YtaeopkhdokaaoaaGreatDoor.onc (perS c) M m with
    | none => rw [h2] at h0; cases h0
    | some m' =>
      obtain ⟨a1, a2, a3⟩ := onc_spec h1
      obtain ⟨b1, b2, b3⟩ := onc_spec h2
      refine ⟨a2, b2, fun i hi => ?_⟩
      cases hM : hasI M i with
      | false => rfl
      | true =>
        obtain ⟨x, hx, rfl⟩ := hasI_mem hM
        have := b1 x hx
        rw [a3, hi] at this; simp at this
def zipW (D : DS) (l : Nat) (c : Int) : List Int → List Nat → List (Nat × Nat)
  | x :: L, k :: ks => tkW D l c x.toNat k :: zipW D l c L ks
  | _, _ => []
def orL (L : List Int) (b : Nat) : Nat := L.foldl (fun b x => b ||| 2 ^ x.toNat) b
def dpL (D : DS) (l : Nat) (c : Int) (L : List Int) (b : Nat) : Nat := L.foldl (fun b x => dpB D l c x.toNat b) b
theorem orL_cons (x : Int) (L : List Int) (b : Nat) : orL (x :: L) b = orL L (b ||| 2 ^ x.toNat) := List.foldl_cons ..
theorem dpL_cons (D : DS) (l : Nat) (c : Int) (x : Int) (L : List Int) (b : Nat) : dpL D l c (x :: L) b = dpL D l c L (dpB D l c x.toNat b) := List.foldl_cons ..
def kOf : List Int → List Nat → Nat → Option Nat
  | x :: L, k :: ks, i => if x.toNat = i then some k else kOf L ks i
  | _, _, _ => none
section
variable {D : DS} {l : Nat} {c o : Int}
theorem chT_spec : ∀ {L : List Int} {ks : List Nat} {acc : List (Nat × Nat)} {b : Nat} {r : List (Nat × Nat) × Nat}, ks.length = L.length → chT D l c L ks acc b = some r → (∀ x ∈ L, tkOk D l c x.toNat = true) ∧ r.1 = acc ++ zipW D l c L ks ∧ r.2 = orL L b := by
  intro L
  induction L with
  | nil =>
    intro ks acc b r hk h
    have : ks = [] := by simpa using hk
    subst this
    simp only [chT] at h; injection h with h; subst h
    exact ⟨fun x hx => (by cases hx), by simp [zipW], rfl⟩
  | cons x L ih =>
    intro ks acc b r hk h
    cases ks with
    | nil => simp at hk
    | cons k ks =>
      simp only [chT] at h
      split at h
      · rename_i hx
        obtain ⟨h1, h2, h3⟩ := ih (by simpa using hk) h
        refine ⟨fun y hy => ?_, ?_, by rw [orL_cons]; exact h3⟩
        · rcases List.mem_cons.1 hy with rfl | hy
          · exact hx
          · exact h1 y hy
        · rw [h2, zipW, List.append_assoc]; rfl
      · cases h
theorem chDr_spec : ∀ {M : List Int} {acc : List (Nat × Nat)} {b : Nat} {r : List (Nat × Nat) × Nat}, chDr D l c M acc b = some r → (∀ x ∈ M, dpOk D l c x.toNat = true) ∧ r.1 = acc ++ M.map (fun x => dpW D l c x.toNat) ∧ r.2 = dpL D l c M b := by
  intro M
  induction M with
  | nil => intro acc b r h; simp only [chDr] at h; injection h with h; subst h; exact ⟨fun x hx => (by cases hx), by simp, rfl⟩
  | cons x M ih =>
    intro acc b r h
    simp only [chDr] at h
    split at h
    · rename_i hx
      obtain ⟨h1, h2, h3⟩ := ih h
      refine ⟨fun y hy => ?_, ?_, by rw [dpL_cons]; exact h3⟩
      · rcases List.mem_cons.1 hy with rfl | hy
        · exact hx
        · exact h1 y hy
      · rw [h2, List.map_cons, List.append_assoc]; rfl
    · cases h
theorem bit_orL : ∀ (L : List Int) (b i : Nat), bitB (orL L b) i = (bitB b i || hasI L i) := by
  intro L
  induction L with
  | nil => intro b i; simp [orL, hasI]
  | cons x L ih => intro b i; rw [orL_cons, ih, bit_or, bit_pow, hasI_cons, Bool.or_assoc]
theorem bit_dpL : ∀ (M : List Int) (b i : Nat), i < 64 → bitB (dpL D l c M b) i = (bitB b i && !(hasI M i && decide (freS (bG (wd D l (offN c i))) = 176))) := by
  intro M
  induction M with
  | nil => intro b i _; simp [dpL, hasI]
  | cons x M ih =>
    intro b i hi
    rw [dpL_cons, ih _ _ hi, hasI_cons]
    unfold dpB
    by_cases hx : x.toNat = i
    · rw [hx]
      by_cases hf : freS (bG (wd D l (offN c i))) = 176
      · rw [if_pos hf, bit_clr _ _ _ hi]; simp [hf]
      · rw [if_neg hf]; simp [hf]
    · rw [decide_eq_false hx, Bool.false_or]
      split
      · rw [bit_clr _ _ _ hi, decide_eq_false hx]; simp
      · rfl
theorem orL_lt : ∀ (L : List Int) (b : Nat), (∀ x ∈ L, x.toNat < 64) → b < 18446744073709551616 → orL L b < 18446744073709551616 := by
  intro L
  induction L with
  | nil => intro b _ h; exact h
  | cons x L ih => intro b hx h; rw [orL_cons]; exact ih _ (fun y hy => hx y (by simp [hy])) (or_lt64 h (pow_lt64 (hx x (by simp))))
theorem dpL_lt : ∀ (M : List Int) (b : Nat), b < 18446744073709551616 → dpL D l c M b < 18446744073709551616 := by
  intro M
  induction M with
  | nil => intro b h; exact h
  | cons x M ih =>
    intro b h
    rw [dpL_cons]
    refine ih _ ?_
    unfold dpB
    split
    · exact Nat.lt_of_le_of_lt Nat.and_le_left h
    · exact h
theorem zipW_mem : ∀ {L : List Int} {ks : List Nat} {y : Nat × Nat}, y ∈ zipW D l c L ks → ∃ x ∈ L, ∃ k ∈ ks, y = tkW D l c x.toNat k ∧ ((L.map Int.toNat).Nodup → kOf L ks x.toNat = some k) := by
  intro L
  induction L with
  | nil => intro ks y h; simp [zipW] at h
  | cons x L ih =>
    intro ks y h
    cases ks with
    | nil => simp [zipW] at h
    | cons k ks =>
      simp only [zipW, List.mem_cons] at h
      rcases h with rfl | h
      · exact ⟨x, by simp, k, by simp, rfl, fun _ => by simp [kOf]⟩
      · obtain ⟨x', hx', k', hk', rfl, hof⟩ := ih h
        refine ⟨x', by simp [hx'], k', by simp [hk'], rfl, fun hn => ?_⟩
        rw [List.map_cons, List.nodup_cons] at hn
        have hne : ¬ x.toNat = x'.toNat := fun he => hn.1 (by rw [he]; exact List.mem_map.2 ⟨x', hx', rfl⟩)
        rw [kOf, if_neg hne]; exact hof hn.2
theorem kOf_mem : ∀ {L : List Int} {ks : List Nat} {i k : Nat}, kOf L ks i = some k → tkW D l c i k ∈ zipW D l c L ks ∧ hasI L i = true ∧ k ∈ ks := by
  intro L
  induction L with
  | nil => intro ks i k h; simp [kOf] at h
  | cons x L ih =>
    intro ks i k h
    cases ks with
    | nil => simp [kOf] at h
    | cons k' ks =>
      simp only [kOf] at h
      split at h
      · rename_i hx; injection h with h; subst h; subst hx
        exact ⟨by simp [zipW], by simp [hasI_cons], by simp⟩
      · obtain ⟨h1, h2, h3⟩ := ih h
        exact ⟨by simp [zipW, h1], by simp [hasI_cons, h2], by simp [h3]⟩
theorem kOf_none : ∀ {L : List Int} {ks : List Nat} {i : Nat}, ks.length = L.length → kOf L ks i = none → hasI L i = false := by
  intro L
  induction L with
  | nil => intro ks i _ _; rfl
  | cons x L ih =>
    intro ks i hk h
    cases ks with
    | nil => simp at hk
    | cons k' ks =>
      simp only [kOf] at h
      split at h
      · cases h
      · rename_i hx; rw [hasI_cons, decide_eq_false hx, Bool.false_or]; exact ih (by simpa using hk) h
def actX (D : DS) (l : Nat) (c : Int) (L : List Int) (ks : List Nat) (M : List Int) (i : Nat) : Nat :=
  match kOf L ks i with
  | some k => (tkW D l c i k).2
  | none => if hasI M i = true then (dpW D l c i).2 else wd D l (offN c i)
theorem actN_spec {L M : List Int} {ks : List Nat} {ws : List (Nat × Nat)} (hk : ks.length = L.length) (h : actN D l c L ks M = some ws) : (∀ x ∈ L, tkOk D l c x.toNat = true) ∧ (∀ x ∈ M, dpOk D l c x.toNat = true) ∧ ((ws = [] ∧ L = [] ∧ M = []) ∨ ws = zipW D l c L ks ++ M.map (fun x => dpW D l c x.toNat) ++ [(l * 64 + 8, dpL D l c M (orL L (wd D l 1)))]) := by
  unfold actN at h
  split at h
  · rename_i h0
    injection h with h
    have e1 : L = [] := by simpa using h0.1
    have e2 : M = [] := by simpa using h0.2
    subst e1; subst e2
    exact ⟨fun x hx => (by cases hx), fun x hx => (by cases hx), .inl ⟨h.symm, rfl, rfl⟩⟩
  · cases h1 : chT D l c L ks [] (wd D l 1) with
    | none => rw [h1] at h; cases h
    | some r =>
      obtain ⟨a1, a2, a3⟩ := chT_spec hk h1
      obtain ⟨r1, r2⟩ := r
      rw [h1] at h
      simp only at h a2 a3
      cases h2 : chDr D l c M r1 r2 with
      | none => rw [h2] at h; cases h
      | some q =>
        obtain ⟨b1, b2, b3⟩ := chDr_spec h2
        obtain ⟨q1, q2⟩ := q
        rw [h2] at h
        simp only at h b2 b3
        injection h with h
        refine ⟨a1, b1, .inr ?_⟩
        rw [← h, b2, b3, a2, a3, List.nil_append]
end
structure ActE (D D' : DS) (l : Nat) (c : Int) (L : List Int) (ks : List Nat) (M : List Int) (ws : List (Nat × Nat)) : Prop where
  ok : ∀ x ∈ ws, x.1 % 8 = 0 ∧ x.1 < D.n * 64 ∧ x.2 < 18446744073709551616
  on : On D'
  rest : ∀ j, j < 256 → (∀ i : Nat, (i : Int) < perS c → j ≠ offN c i) → j ≠ 1 → wd D' l j = wd D l j
  blk : ∀ i : Nat, (i : Int) < perS c → wd D' l (offN c i) = actX D l c L ks M i
  map : wd D' l 1 = dpL D l c M (orL L (wd D l 1))
  far : ∀ j, (j < l * 8 ∨ l * 8 + 256 ≤ j) → D'.cur j = D.cur j
  len : ws.length ≤ L.length + M.length + 1
  tk : ∀ x ∈ L, tkOk D l c x.toNat = true
  dp : ∀ x ∈ M, dpOk D l c x.toNat = true
theorem act_wd {D : DS} {l : Nat} {c : Int} (on : On D) (hg : Good D) (hl : l + 32 ≤ D.n) (c0 : 0 ≤ c) (c5 : c < 5) {L M : List Int} {ks : List Nat} {ws : List (Nat × Nat)} (ha : ActA c L ks M) (hs : actN D l c L ks M = some ws) : ActE D (D.strs ws) l c L ks M ws := by
  have hn := hg.n
  have hp := perS_in c0 c5
  obtain ⟨h1, h2, h3⟩ := actN_spec ha.len hs
  have vL := ha.vL
  have vM := ha.vM
  obtain ⟨n1, n2, n3⟩ := ha.nd
  have hw1 : wd D l 1 < 18446744073709551616 := by unfold wd; exact hg.cur _ (by omega)
  have zl : ∀ (L : List Int) (ks : List Nat), (zipW D l c L ks).length ≤ L.length := by
    intro L
    induction L with
    | nil => intro ks; simp [zipW]
    | cons x L ih => intro ks; cases ks with
      | nil => simp [zipW]
      | cons k ks => simp only [zipW, List.length_cons]; have := ih ks; omega
  have tkw : ∀ x ∈ L, ∀ k ∈ ks, (tkW D l c x.toNat k).1 = l * 64 + offN c x.toNat * 8 ∧ (tkW D l c x.toNat k).2 < 18446744073709551616 := fun x hx k hk => ⟨rfl, sealN_lt _ (blkX_lt (bG_lt _) (by have := (ha.kin k hk).2; omega) (by omega))⟩
  have dpw : ∀ x ∈ M, (dpW D l c x.toNat).1 = l * 64 + offN c x.toNat * 8 ∧ (dpW D l c x.toNat).2 < 18446744073709551616 := fun x hx => ⟨rfl, sealN_lt _ (blkX_lt (freG_lt (bG_lt _)) (by omega) (freS_lt _))⟩
  have bdi : ∀ x : Int, 0 ≤ x ∧ x < perS c → 8 ≤ offN c x.toNat ∧ offN c x.toNat < 256 ∧ (x.toNat : Int) < perS c := fun x hx => by
    have := offN_bd c0 c5 (i := x.toNat) (by omega)
    omega
  have mem : ∀ y ∈ ws, (∃ x ∈ L, ∃ k ∈ ks, y = tkW D l c x.toNat k ∧ kOf L ks x.toNat = some k) ∨ (∃ x ∈ M, y = dpW D l c x.toNat) ∨ y = (l * 64 + 8, dpL D l c M (orL L (wd D l 1))) := by
    intro y hy
    rcases h3 with ⟨rfl, _⟩ | rfl
    · cases hy
    · simp only [List.mem_append, List.mem_map, List.mem_singleton] at hy
      rcases hy with (hy | ⟨x, hx, rfl⟩) | rfl
      · obtain ⟨x, hx, k, hk, e, hf⟩ := zipW_mem hy
        exact .inl ⟨x, hx, k, hk, e, hf n1⟩
      · exact .inr (.inl ⟨x, hx, rfl⟩)
      · exact .inr (.inr rfl)
  have ok : ∀ x ∈ ws, x.1 % 8 = 0 ∧ x.1 < D.n * 64 ∧ x.2 < 18446744073709551616 := by
    intro y hy
    rcases mem y hy with ⟨x, hx, k, hk, rfl, _⟩ | ⟨x, hx, rfl⟩ | rfl
    · have := tkw x hx k hk; have := bdi x (vL x hx); omega
    · have := dpw x hx; have := bdi x (vM x hx); omega
    · exact ⟨by simp only; omega, by simp only; omega, dpL_lt _ _ (orL_lt _ _ (fun x hx => by have := vL x hx; omega) hw1)⟩
  obtain ⟨o1, o2⟩ := strs_on on (fun x hx => ⟨(ok x hx).1, (ok x hx).2.1⟩)
  refine ⟨ok, o1, fun j hj hji hj1 => ?_, fun i hi => ?_, ?_, fun j hj => ?_, ?_, h1, h2⟩
  · unfold wd; rw [o2]
    refine applyH_other _ _ _ (fun y hy => ?_)
    rcases mem y hy with ⟨x, hx, k, hk, rfl, _⟩ | ⟨x, hx, rfl⟩ | rfl
    · have h4 := bdi x (vL x hx); have := hji _ h4.2.2; rw [(tkw x hx k hk).1]; omega
    · have h4 := bdi x (vM x hx); have := hji _ h4.2.2; rw [(dpw x hx).1]; omega
    · simp only; omega
  · have bd := offN_bd c0 c5 hi
    have inj : ∀ x : Int, 0 ≤ x ∧ x < perS c → l * 64 + offN c x.toNat * 8 = (l * 8 + offN c i) * 8 → x.toNat = i := fun x hx he => offN_inj c0 c5 (by omega)
    unfold wd; rw [o2]; unfold actX
    cases hk : kOf L ks i with
    | some k =>
      obtain ⟨k1, k2, k3⟩ := kOf_mem (D := D) (l := l) (c := c) hk
      have hm := n3 i k2
      refine applyH_val (fun y hy he => ?_) (.inl ⟨tkW D l c i k, ?_, by show (l * 64 + offN c i * 8) / 8 = _; omega⟩)
      · rcases mem y hy with ⟨x, hx, k', hk', rfl, hf⟩ | ⟨x, hx, rfl⟩ | rfl
        · have := inj x (vL x hx) (by rw [(tkw x hx k' hk').1] at he; omega)
          subst this
          rw [hk] at hf; injection hf with hf; subst hf; rfl
        · have := inj x (vM x hx) (by rw [(dpw x hx).1] at he; omega)
          subst this
          rw [hasI_of hx] at hm; cases hm
        · simp only at he; omega
      · rcases h3 with ⟨_, e, _⟩ | rfl
        · rw [e] at k2; cases k2
        · simp [k1]
    | none =>
      have hLn := kOf_none ha.len hk
      by_cases hm : hasI M i = true
      · rw [if_pos hm]
        obtain ⟨x0, hx0, e0⟩ := hasI_mem hm
        refine applyH_val (fun y hy he => ?_) (.inl ⟨dpW D l c i, ?_, by show (l * 64 + offN c i * 8) / 8 = _; omega⟩)
        · rcases mem y hy with ⟨x, hx, k', hk', rfl, hf⟩ | ⟨x, hx, rfl⟩ | rfl
          · have := inj x (vL x hx) (by rw [(tkw x hx k' hk').1] at he; omega)
            subst this
            rw [hasI_of hx] at hLn; cases hLn
          · have := inj x (vM x hx) (by rw [(dpw x hx).1] at he; omega)
            subst this; rfl
          · simp only at he; omega
        · rcases h3 with ⟨_, _, e⟩ | rfl
          · rw [e] at hx0; cases hx0
          · have : dpW D l c i ∈ M.map (fun x => dpW D l c x.toNat) := List.mem_map.2 ⟨x0, hx0, by rw [e0]⟩
            simp only [List.mem_append]; exact .inl (.inr this)
      · rw [if_neg hm]
        unfold wd
        refine applyH_other _ _ _ (fun y hy he => ?_)
        rcases mem y hy with ⟨x, hx, k', hk', rfl, hf⟩ | ⟨x, hx, rfl⟩ | rfl
        · have := inj x (vL x hx) (by rw [(tkw x hx k' hk').1] at he; omega)
          subst this
          rw [hasI_of hx] at hLn; cases hLn
        · have := inj x (vM x hx) (by rw [(dpw x hx).1] at he; omega)
          subst this; exact hm (hasI_of hx)
        · simp only at he; omega
  · rcases h3 with ⟨rfl, rfl, rfl⟩ | e
    · unfold wd; rw [o2]; rfl
    · have : wd (D.strs ws) l 1 = applyH ws D.cur (l * 8 + 1) := by unfold wd; rw [o2]
      rw [this]
      refine applyH_val (fun y hy he => ?_) (.inl ⟨(l * 64 + 8, dpL D l c M (orL L (wd D l 1))), by rw [e]; simp, by simp only; omega⟩)
      rcases mem y hy with ⟨x, hx, k', hk', rfl, hf⟩ | ⟨x, hx, rfl⟩ | rfl
      · have h4 := bdi x (vL x hx); rw [(tkw x hx k' hk').1] at he; omega
      · have h4 := bdi x (vM x hx); rw [(dpw x hx).1] at he; omega
      · rfl
  · rw [o2]
    refine applyH_other _ _ _ (fun y hy => ?_)
    rcases mem y hy with ⟨x, hx, k, hk, rfl, _⟩ | ⟨x, hx, rfl⟩ | rfl
    · have h4 := bdi x (vL x hx); rw [(tkw x hx k hk).1]; omega
    · have h4 := bdi x (vM x hx); rw [(dpw x hx).1]; omega
    · simp only; omega
  · rcases h3 with ⟨rfl, _⟩ | rfl
    · simp
    · have := zl L ks; simp; omega
end Go.Proofs.YtaeopkhdokaaoaaGreatDoor
namespace Go.Proofs.YtaeopkhdokaaoaaGreatDoor
open Go Go.Sh
set_option maxRecDepth 100000
set_option linter.unusedSimpArgs false
set_option linter.unusedVariables false
structure Snd (D : DS) (l : Nat) (c o : Int) : Prop where
  hd : hdOk (wd D l 0) = true
  hc : hC (wd D l 0) = c
  ho : hO (wd D l 0) = o
  zer : ∀ j, 2 ≤ j → j < 8 → wd D l j = 0
  sl : ∀ i : Nat, (i : Int) < perS c → isS (wd D l (offN c i)) = true
  gd : ∀ i : Nat, (i : Int) < perS c → goodB (bG (wd D l (offN c i))) (bK (wd D l (offN c i))) (bS (wd D l (offN c i))) = true
  bit : ∀ i : Nat, i < 64 → bitB (wd D l 1) i = (decide ((i : Int) < perS c) && !decide (bS (wd D l (offN c i)) = 176))
section
variable {D D' : DS} {l : Nat} {c o : Int}
theorem good_g {g k s : Nat} (h : goodB g k s = true) : g ≠ 0 := by
  unfold goodB at h
  split at h
  · simp at h; exact h.1
  · split at h
    · simp at h; exact h.1.1
    · split at h
      · simp at h; omega
      · cases h
theorem good_fre (g : Nat) : goodB (freG g) 0 (freS g) = true := by
  unfold freG freS goodB
  by_cases h : g = 65535
  · simp [h]
  · simp [h]
theorem tk_parts {i : Nat} (h : tkOk D l c i = true) : isS (wd D l (offN c i)) = true ∧ bitB (wd D l 1) i = false ∧ bS (wd D l (offN c i)) = 176 ∧ goodB (bG (wd D l (offN c i))) (bK (wd D l (offN c i))) (bS (wd D l (offN c i))) = true := by
  unfold tkOk at h
  simp only [Bool.and_eq_true, Bool.not_eq_true', decide_eq_true_eq] at h
  exact h
theorem dp_parts {i : Nat} (h : dpOk D l c i = true) : isS (wd D l (offN c i)) = true ∧ bitB (wd D l 1) i = true ∧ bS (wd D l (offN c i)) = 177 := by
  unfold dpOk at h
  simp only [Bool.and_eq_true, decide_eq_true_eq] at h
  exact h
theorem tkW_parts (i k : Nat) (hk : k < 256) : isS (tkW D l c i k).2 = true ∧ bG (tkW D l c i k).2 = bG (wd D l (offN c i)) ∧ bK (tkW D l c i k).2 = k ∧ bS (tkW D l c i k).2 = 177 := ⟨isS_blk (bG_lt _) hk (by omega), bG_blk (bG_lt _) hk (by omega), bK_blk (bG_lt _) hk (by omega), bS_blk (bG_lt _) hk (by omega)⟩
theorem dpW_parts (i : Nat) : isS (dpW D l c i).2 = true ∧ bG (dpW D l c i).2 = freG (bG (wd D l (offN c i))) ∧ bK (dpW D l c i).2 = 0 ∧ bS (dpW D l c i).2 = freS (bG (wd D l (offN c i))) := ⟨isS_blk (freG_lt (bG_lt _)) (by omega) (freS_lt _), bG_blk (freG_lt (bG_lt _)) (by omega) (freS_lt _), bK_blk (freG_lt (bG_lt _)) (by omega) (freS_lt _), bS_blk (freG_lt (bG_lt _)) (by omega) (freS_lt _)⟩
theorem Snd.act {L M : List Int} {ks : List Nat} {ws : List (Nat × Nat)} (h : Snd D l c o) (c0 : 0 ≤ c) (c5 : c < 5) (ha : ActA c L ks M) (e : ActE D D' l c L ks M ws) : Snd D' l c o := by
  have bd := fun (i : Nat) (hi : (i : Int) < perS c) => offN_bd c0 c5 hi
  have r : ∀ j, j < 8 → j ≠ 1 → wd D' l j = wd D l j := fun j hj h1 => e.rest j (by omega) (fun i hi => by have := bd i hi; omega) h1
  have r0 := r 0 (by omega) (by omega)
  obtain ⟨n1, n2, n3⟩ := ha.nd
  have kk : ∀ {i k : Nat}, kOf L ks i = some k → k ≠ 0 ∧ k ≤ 127 ∧ tkOk D l c i = true ∧ hasI L i = true ∧ hasI M i = false := fun {i k} hk => by
    obtain ⟨k1, k2, k3⟩ := kOf_mem (D := D) (l := l) (c := c) hk
    obtain ⟨x, hx, rfl⟩ := hasI_mem k2
    exact ⟨(ha.kin k k3).1, (ha.kin k k3).2, e.tk x hx, k2, n3 _ k2⟩
  have mm : ∀ {i : Nat}, hasI M i = true → dpOk D l c i = true := fun {i} hm => by obtain ⟨x, hx, rfl⟩ := hasI_mem hm; exact e.dp x hx
  refine ⟨by rw [r0]; exact h.hd, by rw [r0]; exact h.hc, by rw [r0]; exact h.ho, fun j h2 h8 => by rw [r j h8 (by omega)]; exact h.zer j h2 h8, fun i hi => ?_, fun i hi => ?_, fun i h64 => ?_⟩
  · rw [e.blk i hi]; unfold actX
    cases hk : kOf L ks i with
    | some k => exact (tkW_parts i k (by have := kk hk; omega)).1
    | none =>
      simp only
      split
      · exact (dpW_parts i).1
      · exact h.sl i hi
  · rw [e.blk i hi]; unfold actX
    cases hk : kOf L ks i with
    | some k =>
      have h1 := kk hk
      obtain ⟨_, a, b, d⟩ := tkW_parts (D := D) (l := l) (c := c) i k (by omega)
      simp only [a, b, d]
      have hg := good_g (tk_parts h1.2.2.1).2.2.2
      simp [goodB, hg, h1.1, h1.2.1]
    | none =>
      simp only
      split
      · obtain ⟨_, a, b, d⟩ := dpW_parts (D := D) (l := l) (c := c) i
        rw [a, b, d]; exact good_fre _
      · exact h.gd i hi
  · rw [e.map, bit_dpL _ _ _ h64, bit_orL, h.bit i h64]
    by_cases hi : (i : Int) < perS c
    · rw [e.blk i hi, decide_eq_true hi]; unfold actX
      cases hk : kOf L ks i with
      | some k =>
        have h1 := kk hk
        simp only [h1.2.2.2.1, h1.2.2.2.2, (tkW_parts (D := D) (l := l) (c := c) i k (by omega)).2.2.2]
        simp
      | none =>
        have hL := kOf_none ha.len hk
        simp only [hL]
        by_cases hm : hasI M i = true
        · have h1 := dp_parts (mm hm)
          have h2 := h.bit i h64
          rw [h1.2.1, decide_eq_true hi, Bool.true_and] at h2
          simp only [hm, if_true, (dpW_parts (D := D) (l := l) (c := c) i).2.2.2, ← h2]
          simp
        · have hm : hasI M i = false := by simpa using hm
          simp [hm]
    · have hL : hasI L i = false := by
        cases hh : hasI L i with
        | false => rfl
        | true => obtain ⟨x, hx, rfl⟩ := hasI_mem hh; have := ha.vL x hx; omega
      have hM : hasI M i = false := by
        cases hh : hasI M i with
        | false => rfl
        | true => obtain ⟨x, hx, rfl⟩ := hasI_mem hh; have := ha.vM x hx; omega
      simp [hL, hM, hi]
theorem bit_mskN : ∀ (n i : Nat), bitB (mskN D l c n) i = (decide (i < n) && !decide (bS (wd D l (offN c i)) = 176)) := by
  intro n
  induction n with
  | zero => intro i; simp [mskN, bitB]
  | succ n ih =>
    intro i
    simp only [mskN]
    by_cases hin : i = n
    · subst hin
      split
      · rename_i h; rw [ih]; simp [h]
      · rename_i h; rw [bit_or, ih, bit_pow]; simp [h]
    · have e1 : decide (i < n + 1) = decide (i < n) := by congr 1; simp only [eq_iff_iff]; omega
      have e2 : decide (n = i) = false := by simp; omega
      split
      · rw [ih, e1]
      · rw [bit_or, ih, bit_pow, e1, e2, Bool.or_false]
theorem eq_of_bits {x y : Nat} (hx : x < 18446744073709551616) (hy : y < 18446744073709551616) (h : ∀ i, i < 64 → bitB x i = bitB y i) : x = y := by
  apply Nat.eq_of_testBit_eq
  intro i
  by_cases hi : i < 64
  · have := h i hi; rwa [bit_tb, bit_tb] at this
  · have p : 2 ^ 64 ≤ 2 ^ i := Nat.pow_le_pow_right (by omega) (by omega)
    rw [Nat.testBit_lt_two_pow (Nat.lt_of_lt_of_le hx (by simpa using p)), Nat.testBit_lt_two_pow (Nat.lt_of_lt_of_le hy (by simpa using p))]
theorem gdN_all : ∀ (n : Nat), (∀ i, i < n → isS (wd D l (offN c i)) = true ∧ goodB (bG (wd D l (offN c i))) (bK (wd D l (offN c i))) (bS (wd D l (offN c i))) = true) → gdN D l c n = true := by
  intro n
  induction n with
  | zero => intro _; rfl
  | succ n ih =>
    intro h
    have h1 := h n (by omega)
    simp only [gdN, ih (fun i hi => h i (by omega)), h1.1, h1.2]; rfl
theorem zerN_all : ∀ (n : Nat), (∀ i, i < n → wd D l (i + 2) = 0) → zerN D l n = true := by
  intro n
  induction n with
  | zero => intro _; rfl
  | succ n ih =>
    intro h
    simp only [zerN, ih (fun i hi => h i (by omega)), h n (by omega)]; rfl
theorem Snd.con (h : Snd D l c o) (hg : Good D) (hl : l + 32 ≤ D.n) (c0 : 0 ≤ c) (c5 : c < 5) : conB D l c o = true := by
  have hp := perS_in c0 c5
  obtain ⟨n, hn⟩ : ∃ n : Nat, perS c = (n : Int) := ⟨(perS c).toNat, by omega⟩
  have hw : wd D l 1 < 18446744073709551616 := by unfold wd; exact hg.cur _ (by omega)
  have hm := mskN_lt D l c n
  have h2 := pow_lt64 (show n < 64 by omega)
  have e : wd D l 1 = mskN D l c n := eq_of_bits hw (by omega) (fun i hi => by
    rw [h.bit i hi, bit_mskN, hn]
    congr 2; simp)
  unfold conB
  rw [hn, Int.toNat_natCast, h.hd, decide_eq_true h.hc, decide_eq_true h.ho, zerN_all 6 (fun i hi => h.zer _ (by omega) (by omega)), gdN_all n (fun i hi => ⟨h.sl i (by omega), h.gd i (by omega)⟩), decide_eq_true e]
  rfl
theorem opened_snd {g : Nat} (hl : l ≤ 8) (c0 : 0 ≤ c) (c5 : c < 5) (o0 : 0 ≤ o) (o8 : o < 8) (hg0 : g ≠ 0) (hg : g < 65536) : Snd (DS.opened l c o g) l c o := by
  have h0 : wd (DS.opened l c o g) l 0 = sealN (hdX c o g) := by rw [opened_wd hl c0 c5 o0 o8 hg 0 (by omega)]; rfl
  have hh := hd_ok c0 c5 o0 o8 hg0 hg
  have at_ := fun (i : Nat) (hi : (i : Int) < perS c) => fmt_at hl c0 c5 o0 o8 hg i hi
  refine ⟨by rw [h0]; exact hh.1, by rw [h0]; exact hh.2.1, by rw [h0]; exact hh.2.2.1, fun j h2 h8 => fmt_low hl c0 c5 o0 o8 hg j (by omega) h8, fun i hi => ?_, fun i hi => ?_, fun i hi => ?_⟩
  · rw [at_ i hi]; exact isS_blk hg (by omega) (by omega)
  · rw [at_ i hi, bG_blk hg (by omega) (by omega), bK_blk hg (by omega) (by omega), bS_blk hg (by omega) (by omega)]; simp [goodB, hg0]
  · rw [fmt_low hl c0 c5 o0 o8 hg 1 (by omega) (by omega), bit0]
    by_cases h : (i : Int) < perS c
    · rw [at_ i h, bS_blk hg (by omega) (by omega)]; simp
    · simp [h]
end
end Go.Proofs.YtaeopkhdokaaoaaGreatDoor
namespace Go.Proofs.YtaeopkhdokaaoaaGreatDoor
open Go Go.Sh
set_option maxRecDepth 100000
set_option linter.unusedSimpArgs false
set_option linter.unusedVariables false
def chF (T l : Nat) (c o : Int) (g : Nat) (i : Nat) : Value := [Value.iface 48 (.pointer (some ⟨T, 0, none⟩)), .int .i64 (l : Int), .int .i64 c, .int .i64 o, .int .u16 (g : Int)].getD i undef
structure Loc (w0 w : World) (Y : Lay) (D : DS) (B l : Nat) (c o : Int) (g : Nat) : Prop where
  L : Lv w0 w Y D
  bx : Cells w B 58 5 (chF (Y.tb 0) l c o g)
  nb : ¬ Y.F B
  on : On D
  lt : l + 32 ≤ D.n
  gl : Glob w0
  c0 : 0 ≤ c
  c5 : c < 5
def Out (w0 : World) (Y : Lay) (B : Nat) (v : Value) : Prop := ∀ b, v.ownBlock = some b → w0.heap.size ≤ b ∧ ¬ Y.F b ∧ b ≠ B
section
variable {w0 w w' : World} {Y Y' : Lay} {D D' : DS} {B l : Nat} {c o : Int} {g : Nat}
theorem Loc.ext (h : Loc w0 w Y D B l c o g) (e : Ext w w') : Loc w0 w' Y D B l c o g := ⟨h.L.ext e, h.bx.ext e, h.nb, h.on, h.lt, h.gl, h.c0, h.c5⟩
theorem Loc.step (h : Loc w0 w Y D B l c o g) (s : Stp w Y w' Y' D') (gd : Good D') (on : On D') (hn : D'.n = D.n) : Loc w0 w' Y' D' B l c o g := by
  have tb : Y'.tb 0 = Y.tb 0 := by rw [s.tb]
  refine ⟨h.L.step s gd, ?_, fun hf => ?_, on, by rw [hn]; exact h.lt, h.gl, h.c0, h.c5⟩
  · rw [tb]; exact h.bx.frm s.frm h.nb
  · rcases s.fr B hf with h1 | h1
    · exact h.nb h1
    · have := h.bx.lt; omega
theorem Loc.cx (h : Loc w0 w Y D B l c o g) : Cx w Y D l c := h.L.cx h.gl h.on.off h.lt h.c0 h.c5
theorem Loc.cells (h : Loc w0 w Y D B l c o g) : w.cell? ⟨B, 0, none⟩ = some (.iface 48 (.pointer (some ⟨Y.tb 0, 0, none⟩))) ∧ w.cell? ⟨B, 1, none⟩ = some (.int .i64 (l : Int)) ∧ w.cell? ⟨B, 2, none⟩ = some (.int .i64 c) ∧ w.cell? ⟨B, 3, none⟩ = some (.int .i64 o) ∧ w.cell? ⟨B, 4, none⟩ = some (.int .u16 (g : Int)) :=
  ⟨h.bx.cell (i := 0) (by omega), h.bx.cell (i := 1) (by omega), h.bx.cell (i := 2) (by omega), h.bx.cell (i := 3) (by omega), h.bx.cell (i := 4) (by omega)⟩
theorem Loc.ltB (h : Loc w0 w Y D B l c o g) : B < w.heap.size := h.bx.lt
theorem Loc.frm {G : Nat → Prop} (h : Loc w0 w Y D B l c o g) (f : Frm G w w') (hG : ∀ b, G b → w0.heap.size ≤ b ∧ ¬ Y.F b ∧ b ≠ B) : Loc w0 w' Y D B l c o g :=
  ⟨⟨h.L.dv.frm f (fun b hb hg => (hG b hg).2.1 hb), h.L.gd, Ext.frm h.L.ex f (fun x hx => (hG x hx).1), h.L.nw⟩, h.bx.frm f (fun hb => (hG B hb).2.2 rfl), h.nb, h.on, h.lt, h.gl, h.c0, h.c5⟩
theorem Out.step {v : Value} {t : TypeId} {z n : Nat} {L : List Value} (h : Out w0 Y B v) (hs : SlO w t z v n L) (s : Stp w Y w' Y' D') : Out w0 Y' B v ∧ SlO w' t z v n L := by
  refine ⟨fun b hb => ⟨(h b hb).1, fun hf => ?_, (h b hb).2.2⟩, hs.frm s.frm (fun b hb => (h b hb).2.1)⟩
  rcases s.fr b hf with h1 | h1
  · exact (h b hb).2.1 h1
  · have := hs.lt hb; omega
theorem Out.nil (w0 : World) (Y : Lay) (B : Nat) : Out w0 Y B (.slice none 0 0) := fun b hb => by cases hb
theorem Out.new {v : Value} (h : Loc w0 w Y D B l c o g) (hv : NewV w.heap.size v) : Out w0 Y B v := fun b hb => by
  have h1 := hv b hb
  have h2 := h.ltB
  have h3 := h.L.ex.size
  exact ⟨by omega, fun hf => by have := h.L.dv.lt hf; omega, by omega⟩
theorem chT_cons (D : DS) (l : Nat) (c : Int) (i : Int) (r : List Int) (k : Nat) (ks : List Nat) (acc : List (Nat × Nat)) (b : Nat) : chT D l c (i :: r) (k :: ks) acc b = if tkOk D l c i.toNat = true then chT D l c r ks (acc ++ [tkW D l c i.toNat k]) (b ||| 2 ^ i.toNat) else none := rfl
theorem chT_nil (D : DS) (l : Nat) (c : Int) (ks : List Nat) (acc : List (Nat × Nat)) (b : Nat) : chT D l c [] ks acc b = some (acc, b) := rfl
theorem chDr_cons (D : DS) (l : Nat) (c : Int) (i : Int) (r : List Int) (acc : List (Nat × Nat)) (b : Nat) : chDr D l c (i :: r) acc b = if dpOk D l c i.toNat = true then chDr D l c r (acc ++ [dpW D l c i.toNat]) (dpB D l c i.toNat b) else none := rfl
theorem chDr_nil (D : DS) (l : Nat) (c : Int) (acc : List (Nat × Nat)) (b : Nat) : chDr D l c [] acc b = some (acc, b) := rfl
theorem actN_eq {L M : List Int} {ks : List Nat} {w1 w2 : List (Nat × Nat)} {b1 b2 : Nat} (hne : ¬ (L.length = 0 ∧ M.length = 0)) (h1 : chT D l c L ks [] (wd D l 1) = some (w1, b1)) (h2 : chDr D l c M w1 b1 = some (w2, b2)) : actN D l c L ks M = some (w2 ++ [(l * 64 + 8, b2)]) := by
  unfold actN
  rw [if_neg hne, h1]
  simp only [h2]
theorem Loc.er (h : Loc w0 w Y D B l c o g) : ∀ (w1 : World) (K : K1), Ext w w1 → callS Tryz.prog 28 #[.pointer (some ⟨Y.tb 0, 0, none⟩)] w1 K = K (.int .i64 0) w1 := fun w1 K e => by rw [c_Err (h.L.dv.ext e) 0 (by omega) K, h.on.err]
structure ActS (D D' : DS) (l : Nat) (c o : Int) (L : List Int) (ks : List Nat) (M : List Int) (ws : List (Nat × Nat)) : Prop where
  e : ActE D D' l c L ks M ws
  snd : Snd D' l c o
  gd : Good D'
  n : D'.n = D.n
  exe : D'.exe ≤ D.exe + ws.length
theorem Loc.acts (h : Loc w0 w Y D B l c o g) (hs : Snd D l c o) {L M : List Int} {ks : List Nat} {ws : List (Nat × Nat)} (ha : ActA c L ks M) (hw : actN D l c L ks M = some ws) : ActS D (D.strs ws) l c o L ks M ws := by
  have e := act_wd h.on h.L.gd h.lt h.c0 h.c5 ha hw
  exact ⟨e, hs.act h.c0 h.c5 ha e, strs_good h.L.gd (fun x hx => ⟨by have := (e.ok x hx).2.1; have := h.L.gd.n; omega, (e.ok x hx).2.2⟩), strs_n _ _, strs_exe _ _⟩
theorem pO_ptr (off g k : Nat) (h8 : off % 8 = 0) (ho : off < 34359738368) : pO (ptrN off g k) = off := by unfold pO ptrN; omega
theorem pG_ptr (off g k : Nat) (ho : off < 34359738368) (hg : g < 65536) : pG (ptrN off g k) = g := by unfold pG ptrN; omega
theorem pK_ptr (off g k : Nat) (ho : off < 34359738368) (hg : g < 65536) (hk : k < 256) : pK (ptrN off g k) = k := by unfold pK ptrN; omega
theorem ptr_bd (off g k : Nat) (ho : off < 34359738368) (hg : g < 65536) (hk : k ≤ 127) (h0 : off ≠ 0) (h8 : off % 8 = 0) : ptrN off g k ≠ 0 ∧ ptrN off g k < 72057594037927936 := by unfold ptrN; omega
theorem pOff_bd {l : Nat} {c : Int} {i : Nat} (hl : l ≤ 4096) (c0 : 0 ≤ c) (c5 : c < 5) (hi : (i : Int) < perS c) : pOff l c i % 8 = 0 ∧ pOff l c i < 34359738368 ∧ pOff l c i ≠ 0 := by
  have := offN_bd c0 c5 hi; unfold pOff; omega
theorem Snd.sndB {l : Nat} {c o : Int} (h : Snd D l c o) (c0 : 0 ≤ c) (c5 : c < 5) (i : Nat) (hi : (i : Int) < perS c) : sndB D l c i := by
  have hp := perS_in c0 c5
  refine ⟨h.sl i hi, h.gd i hi, ?_⟩
  rw [h.bit i (by omega), decide_eq_true hi, Bool.true_and]
end
end Go.Proofs.YtaeopkhdokaaoaaGreatDoor
namespace Go.Proofs.YtaeopkhdokaaoaaGreatDoor
open Go Go.Sh
set_option maxRecDepth 100000
set_option maxHeartbeats 4000000
set_option linter.unusedSimpArgs false
set_option linter.unusedVariables false
def okP (x : Nat) : Bool := goodB (gX x) (kX x) (sX x) && isS x
structure Wm (w : World) (b o : Nat) (W : Nat → Nat) : Prop where
  cell : ∀ {i : Nat}, i < 256 → w.cell? ⟨b, o + i, none⟩ = some (u64 (W i))
  frz : ∀ i, w.frozen? ⟨b, i, none⟩ = false
abbrev wsV (b o cap : Nat) : Value := .slice (some ⟨b, o, none⟩) 256 cap
def isR (W : Nat → Nat) (c i : Int) (s : Nat) : Bool := decide (0 ≤ i ∧ i < perS c) && (okP (W (offN c i.toNat)) && (decide (sX (W (offN c i.toNat)) = s) && (bitB (W 1) i.toNat == !decide (s = 176))))
section
variable {w w' : World} {W : Nat → Nat} {b ob cap : Nat} {c : Int}
theorem c_rParts (x : Nat) (w : World) (K : K1) (hx : x < 18446744073709551616) : callS Tryz.prog 56 #[.int .u64 (x : Int)] w K = K (.tuple #[.int .u16 (gX x : Int), .int .u8 (kX x : Int), .int .u32 (sX x : Int), .bool (okP x)]) w := by
  refine callS_det (by kernel_rfl) (f56_call _ _ _ ?_) K
  unfold f56_t
  have h1 : gX x < 65536 := by unfold gX; omega
  have h2 : kX x < 256 := by unfold kX; omega
  have h3 : sX x < 256 := by unfold sX; omega
  have e1 : x % 65536 = gX x := rfl
  have e2 : x / 2 ^ 16 % 256 = kX x := rfl
  have e3 : x % 4294967296 / 2 ^ 24 = sX x := by unfold sX; omega
  have hs := c_rSealed x w
  unfold okP
  generalize gX x = gg at *
  generalize kX x = kk at *
  generalize sX x = ss at *
  by_cases s0 : ss = 176
  · subst s0
    by_cases g0 : 1 ≤ gg
    · by_cases k0 : kk = 0
      · subst k0
        have e : goodB gg 0 176 = true := by simp [goodB]; omega
        simp (disch := first | omega | simp only [RO] | (simp only [RZ] <;> omega) | fail) only [↓RBp, ↓RA, ↓reduceIte, Nat.reduceAdd, Nat.reduceMul, Nat.reduceEqDiff, RB, RX, RA2, e1, e2, e3, e, c_rSealed, Bool.true_and]
      · have e : goodB gg kk 176 = false := by simp [goodB]; omega
        simp (disch := first | omega | simp only [RO] | (simp only [RZ] <;> omega) | fail) only [↓RBp, ↓RA, ↓reduceIte, Nat.reduceAdd, Nat.reduceMul, Nat.reduceEqDiff, RB, RX, RA2, e1, e2, e3, e, k0, Bool.false_and]
    · have e : goodB gg kk 176 = false := by simp [goodB]; omega
      simp (disch := first | omega | simp only [RO] | (simp only [RZ] <;> omega) | fail) only [↓RBp, ↓RA, ↓reduceIte, Nat.reduceAdd, Nat.reduceMul, Nat.reduceEqDiff, RB, RX, RA2, e1, e2, e3, e, Bool.false_and]
  · by_cases s1 : ss = 177
    · subst s1
      by_cases g0 : 1 ≤ gg
      · by_cases k0 : 1 ≤ kk
        · by_cases k1 : kk ≤ 127
          · have e : goodB gg kk 177 = true := by simp [goodB]; omega
            simp (disch := first | omega | simp only [RO] | (simp only [RZ] <;> omega) | fail) only [↓RBp, ↓RA, ↓reduceIte, Nat.reduceAdd, Nat.reduceMul, Nat.reduceEqDiff, RB, RX, RA2, e1, e2, e3, e, c_rSealed, Bool.true_and]
          · have e : goodB gg kk 177 = false := by simp [goodB]; omega
            simp (disch := first | omega | simp only [RO] | (simp only [RZ] <;> omega) | fail) only [↓RBp, ↓RA, ↓reduceIte, Nat.reduceAdd, Nat.reduceMul, Nat.reduceEqDiff, RB, RX, RA2, e1, e2, e3, e, Bool.false_and]
        · have e : goodB gg kk 177 = false := by simp [goodB]; omega
          simp (disch := first | omega | simp only [RO] | (simp only [RZ] <;> omega) | fail) only [↓RBp, ↓RA, ↓reduceIte, Nat.reduceAdd, Nat.reduceMul, Nat.reduceEqDiff, RB, RX, RA2, e1, e2, e3, e, Bool.false_and]
      · have e : goodB gg kk 177 = false := by simp [goodB]; omega
        simp (disch := first | omega | simp only [RO] | (simp only [RZ] <;> omega) | fail) only [↓RBp, ↓RA, ↓reduceIte, Nat.reduceAdd, Nat.reduceMul, Nat.reduceEqDiff, RB, RX, RA2, e1, e2, e3, e, Bool.false_and]
    · by_cases s2 : ss = 178
      · subst s2
        by_cases g0 : gg = 65535
        · subst g0
          by_cases k0 : kk = 0
          · subst k0
            have e : goodB 65535 0 178 = true := by decide
            simp (disch := first | omega | simp only [RO] | (simp only [RZ] <;> omega) | fail) only [↓RBp, ↓RA, ↓reduceIte, Nat.reduceAdd, Nat.reduceMul, Nat.reduceEqDiff, RB, RX, RA2, e1, e2, e3, e, c_rSealed, Bool.true_and]
          · have e : goodB 65535 kk 178 = false := by simp [goodB, k0]
            simp (disch := first | omega | simp only [RO] | (simp only [RZ] <;> omega) | fail) only [↓RBp, ↓RA, ↓reduceIte, Nat.reduceAdd, Nat.reduceMul, Nat.reduceEqDiff, RB, RX, RA2, e1, e2, e3, e, k0, Bool.false_and]
        · have e : goodB gg kk 178 = false := by simp [goodB, g0]
          simp (disch := first | omega | simp only [RO] | (simp only [RZ] <;> omega) | fail) only [↓RBp, ↓RA, ↓reduceIte, Nat.reduceAdd, Nat.reduceMul, Nat.reduceEqDiff, RB, RX, RA2, e1, e2, e3, e, g0, Bool.false_and]
      · have e : goodB gg kk ss = false := by simp [goodB, s0, s1, s2]
        simp (disch := first | omega | simp only [RO] | (simp only [RZ] <;> omega) | fail) only [↓RBp, ↓RA, ↓reduceIte, Nat.reduceAdd, Nat.reduceMul, Nat.reduceEqDiff, RB, RX, RA2, e1, e2, e3, e, s0, s1, s2, Bool.false_and]
theorem c_rBit (h : Wm w b ob W) (h1 : W 1 < 18446744073709551616) (i : Nat) (hi : i < 64) (K : K1) : callS Tryz.prog 42 #[wsV b ob cap, .int .i64 (i : Int)] w K = K (.bool (bitB (W 1) i)) w := by
  refine callS_det (by kernel_rfl) (f42_call _ _ _ _ ?_) K
  unfold f42_t
  have hc := h.cell (i := 1) (by omega)
  have hdv : W 1 / 2 ^ i < 18446744073709551616 := Nat.lt_of_le_of_lt (Nat.div_le_self _ _) h1
  have hbit : decide (W 1 / 2 ^ i &&& 1 = 1) = bitB (W 1) i := by unfold bitB; simp only [Nat.and_one_is_mod]
  simp (disch := first | omega | simp only [RO] | (simp only [RZ] <;> omega) | fail) only [↓RBp, ↓RA, ↓reduceIte, Nat.reduceAdd, Nat.reduceMul, Nat.reduceEqDiff, RB, RX, RA2, hc, Int.reduceToNat, Int.toNat_natCast, hbit]
theorem c_rIs (h : Wm w b ob W) (hW : ∀ j, j < 256 → W j < 18446744073709551616) (c0 : 0 ≤ c) (c5 : c < 5) (i : Int) (s : Nat) (K : K1) : callS Tryz.prog 48 #[wsV b ob cap, .int .i64 c, .int .i64 i, .int .u32 (s : Int)] w K = K (.bool (isR W c i s)) w := by
  refine callS_det (by kernel_rfl) (f48_call _ _ _ _ _ _ ?_) K
  unfold f48_t isR
  have hp := perS_in c0 c5
  by_cases hi : 0 ≤ i ∧ i < perS c
  · obtain ⟨j, rfl⟩ : ∃ j : Nat, i = (j : Int) := ⟨i.toNat, by omega⟩
    have bd := offN_bd c0 c5 hi.2
    have hx := hW _ bd.2.2
    have hcx := h.cell bd.2.2
    have ro : ∀ (K : K1), callS Tryz.prog 20 #[.int .i64 c, .int .i64 (j : Int)] w K = K (.int .i64 (offN c j : Int)) w := fun K => by rw [c_rOff c j w K (by omega) (by omega), bd.1]
    have rb : ∀ (K : K1), callS Tryz.prog 42 #[wsV b ob cap, .int .i64 (j : Int)] w K = K (.bool (bitB (W 1) j)) w := fun K => c_rBit h (hW 1 (by omega)) j (by omega) K
    rw [decide_eq_true hi, Int.toNat_natCast, Bool.true_and]
    generalize offN c j = q at *
    generalize hxx : W q = x at *
    have hs3 : sX x < 256 := by unfold sX; omega
    cases ho : okP x with
    | false =>
      rw [Bool.false_and]
      simp (disch := first | omega | simp only [RO] | (simp only [RZ] <;> omega) | fail) only [↓RBp, ↓RA, ↓reduceIte, Nat.reduceAdd, Nat.reduceMul, Nat.reduceEqDiff, RB, RX, RA2, c_rPer, ro, hcx, hxx, c_rParts, ho]
    | true =>
      rw [Bool.true_and]
      by_cases hs : sX x = s
      · subst hs
        rw [decide_eq_true rfl, Bool.true_and]
        by_cases s0 : sX x = 176
        · rw [decide_eq_true s0]
          cases hb : bitB (W 1) j with
          | true =>
            rw [hb] at rb
            simp (disch := first | omega | simp only [RO] | (simp only [RZ] <;> omega) | fail) only [↓RBp, ↓RA, ↓reduceIte, Nat.reduceAdd, Nat.reduceMul, Nat.reduceEqDiff, RB, RX, RA2, c_rPer, ro, hcx, hxx, c_rParts, ho, rb, s0]
          | false =>
            rw [hb] at rb
            simp (disch := first | omega | simp only [RO] | (simp only [RZ] <;> omega) | fail) only [↓RBp, ↓RA, ↓reduceIte, Nat.reduceAdd, Nat.reduceMul, Nat.reduceEqDiff, RB, RX, RA2, c_rPer, ro, hcx, hxx, c_rParts, ho, rb, s0]
        · rw [decide_eq_false s0]
          cases hb : bitB (W 1) j with
          | true =>
            rw [hb] at rb
            simp (disch := first | omega | simp only [RO] | (simp only [RZ] <;> omega) | fail) only [↓RBp, ↓RA, ↓reduceIte, Nat.reduceAdd, Nat.reduceMul, Nat.reduceEqDiff, RB, RX, RA2, c_rPer, ro, hcx, hxx, c_rParts, ho, rb, s0]
          | false =>
            rw [hb] at rb
            simp (disch := first | omega | simp only [RO] | (simp only [RZ] <;> omega) | fail) only [↓RBp, ↓RA, ↓reduceIte, Nat.reduceAdd, Nat.reduceMul, Nat.reduceEqDiff, RB, RX, RA2, c_rPer, ro, hcx, hxx, c_rParts, ho, rb, s0]
      · rw [decide_eq_false hs, Bool.false_and]
        simp (disch := first | omega | simp only [RO] | (simp only [RZ] <;> omega) | fail) only [↓RBp, ↓RA, ↓reduceIte, Nat.reduceAdd, Nat.reduceMul, Nat.reduceEqDiff, RB, RX, RA2, c_rPer, ro, hcx, hxx, c_rParts, ho, hs]
  · rw [decide_eq_false hi, Bool.false_and]
    by_cases h0 : i < 0
    · simp (disch := first | omega | simp only [RO] | (simp only [RZ] <;> omega) | fail) only [↓RBp, ↓RA, ↓reduceIte, Nat.reduceAdd, Nat.reduceMul, Nat.reduceEqDiff, RB, RX, RA2, c_rPer]
    · simp (disch := first | omega | simp only [RO] | (simp only [RZ] <;> omega) | fail) only [↓RBp, ↓RA, ↓reduceIte, Nat.reduceAdd, Nat.reduceMul, Nat.reduceEqDiff, RB, RX, RA2, c_rPer]
end
end Go.Proofs.YtaeopkhdokaaoaaGreatDoor
