/-
  Part of the proof in YtaeopkhdokaaoaaGreatDoorBaRowD.
-/
import Derived.Test.YtaeopkhdokaaoaaGreatDoorBa1
import Derived.Test.YtaeopkhdokaaoaaGreatDoorBa5
namespace Go.Proofs.YtaeopkhdokaaoaaGreatDoor
open Go Go.Sh
set_option maxRecDepth 100000
set_option linter.unusedVariables false
noncomputable def f8_u : Code × Dec := ((Tryz.f8.body).getD .skip, (.s .o (.s .o (.s .o (.s .o (.s .o (.s .o (.x 0 (.s .o (.b (.l [11, 50] 562949953422976 23384026197294446691258957323460527188595512948800 (.s .o (.s .o (.x 1688849860267648 (.b (.s .o (.s .o (.s .o (.x 1688849860271744 (.s .o (.b (.l [82] 3626777460532737384390272 1233104336006921758200332352 .o))) (.x 1688849860271744 (.s .o (.b (.l [90] 1688849860271744 730750818665451459100604476318856129553566203968 (.s .o (.s .o (.x 1237940039287069124759395968 (.b (.s .o (.s .o (.x 1237940039287069124760379008 .o (.s .o (.s .o (.x 1237940039287069124759461504 (.s .o (.b (.l [112] 3894223881841160008466997006376576 10628631669420792155601925985921925120 .o))) (.s .o (.s .o (.s .o (.b (.l [145] 33451117797795935950243616696041667018366592 365330807842328668304638136742525458191440937024 .o)))))))))))) .o)))))) .o)))))) .o)))))) .o))))))))
abbrev f8_e (K : K1) : KF := endK Tryz.prog Tryz.f8.results.toList K
def f8_k1_o (K : K1) : KF := fun fr w => ∀ σ, cP (pr (pr (pr (pr (pr (pr (pr f8_u))))))) (f8_e K) (f8_e K) nX (mixF 0 σ 0 fr) w
def f8_k1 (K : K1) (w : World) : Prop := f8_k1_o K (fz 164 0 []) w
def f8_l1 (K : K1) (x7 x9 x10 x11 x49 x50 : Value) (w : World) : Prop := loopT [11, 50] 562949953422976 (fun E => cP (pl (pl (pr (pl (pr (pr (pr (pr (pr (pr f8_u)))))))))) E (f8_e K) (exB 0 (f8_k1_o K) nX)) (fz 164 0 [(7, x7), (9, x9), (10, x10), (11, x11), (49, x49), (50, x50)]) w
def f8_k2_o (K : K1) (E1 : VP2) : KF := fun fr w => ∀ σ, cP (pr (pr (pr (pl (pl (pr (pl (pr (pr (pr (pr (pr (pr f8_u))))))))))))) (fun fr w => E1 (sv fr 11) (sv fr 50) w) (f8_e K) (exB 0 (f8_k1_o K) nX) (mixF 1688849860267648 σ 0 fr) w
def f8_k2 (K : K1) (E1 : VP2) (x7 x9 x10 x11 x49 x50 : Value) (w : World) : Prop := f8_k2_o K E1 (fz 164 0 [(7, x7), (9, x9), (10, x10), (11, x11), (49, x49), (50, x50)]) w
def f8_k3_o (K : K1) (E1 : VP2) : KF := fun fr w => ∀ σ, cP (pr (pr (pr (pr (pl (pl (pr (pr (pl (pl (pr (pl (pr (pr (pr (pr (pr (pr f8_u)))))))))))))))))) (f8_k2_o K E1) (f8_e K) (exB 1 (f8_k2_o K E1) (exB 0 (f8_k1_o K) nX)) (mixF 1688849860271744 σ 0 fr) w
def f8_k3 (K : K1) (E1 : VP2) (x7 x9 x10 x11 x12 x49 x50 : Value) (w : World) : Prop := f8_k3_o K E1 (fz 164 0 [(7, x7), (9, x9), (10, x10), (11, x11), (12, x12), (49, x49), (50, x50)]) w
def f8_l2 (K : K1) (E1 : VP2) (x7 x9 x10 x11 x12 x49 x50 x80 x81 x82 : Value) (w : World) : Prop := loopT [82] 3626777460532737384390272 (fun E => cP (pl (pl (pr (pl (pr (pr (pr (pl (pl (pr (pr (pl (pl (pr (pl (pr (pr (pr (pr (pr (pr f8_u))))))))))))))))))))) E (f8_e K) (exB 2 (f8_k3_o K E1) (exB 1 (f8_k2_o K E1) (exB 0 (f8_k1_o K) nX)))) (fz 164 0 [(7, x7), (9, x9), (10, x10), (11, x11), (12, x12), (49, x49), (50, x50), (80, x80), (81, x81), (82, x82)]) w
def f8_k4_o (K : K1) (E1 : VP2) : KF := fun fr w => ∀ σ, cP (pr (pr (pr (pr (pr (pl (pl (pr (pr (pl (pl (pr (pl (pr (pr (pr (pr (pr (pr f8_u))))))))))))))))))) (f8_k2_o K E1) (f8_e K) (exB 1 (f8_k2_o K E1) (exB 0 (f8_k1_o K) nX)) (mixF 1688849860271744 σ 0 fr) w
def f8_k4 (K : K1) (E1 : VP2) (x7 x9 x10 x11 x12 x49 x50 : Value) (w : World) : Prop := f8_k4_o K E1 (fz 164 0 [(7, x7), (9, x9), (10, x10), (11, x11), (12, x12), (49, x49), (50, x50)]) w
def f8_l3 (K : K1) (E1 : VP2) (x7 x9 x10 x11 x12 x49 x50 x90 : Value) (w : World) : Prop := loopT [90] 1688849860271744 (fun E => cP (pl (pl (pr (pl (pr (pr (pr (pr (pl (pl (pr (pr (pl (pl (pr (pl (pr (pr (pr (pr (pr (pr f8_u)))))))))))))))))))))) E (f8_e K) (exB 4 (f8_k4_o K E1) (exB 1 (f8_k2_o K E1) (exB 0 (f8_k1_o K) nX)))) (fz 164 0 [(7, x7), (9, x9), (10, x10), (11, x11), (12, x12), (49, x49), (50, x50), (90, x90)]) w
def f8_k5_o (K : K1) (E1 : VP2) (E2 : VP1) : KF := fun fr w => ∀ σ, cP (pr (pr (pr (pl (pl (pr (pl (pr (pr (pr (pr (pl (pl (pr (pr (pl (pl (pr (pl (pr (pr (pr (pr (pr (pr f8_u))))))))))))))))))))))))) (fun fr w => E2 (sv fr 90) w) (f8_e K) (exB 4 (f8_k4_o K E1) (exB 1 (f8_k2_o K E1) (exB 0 (f8_k1_o K) nX))) (mixF 1237940039287069124759395968 σ 0 fr) w
def f8_k5 (K : K1) (E1 : VP2) (E2 : VP1) (x7 x9 x10 x11 x12 x49 x50 x90 : Value) (w : World) : Prop := f8_k5_o K E1 E2 (fz 164 0 [(7, x7), (9, x9), (10, x10), (11, x11), (12, x12), (49, x49), (50, x50), (90, x90)]) w
def f8_k6_o (K : K1) (E1 : VP2) (E2 : VP1) : KF := fun fr w => ∀ σ, cP (pr (pr (pr (pl (pl (pr (pr (pl (pl (pr (pl (pr (pr (pr (pr (pl (pl (pr (pr (pl (pl (pr (pl (pr (pr (pr (pr (pr (pr f8_u))))))))))))))))))))))))))))) (f8_k5_o K E1 E2) (f8_e K) (exB 5 (f8_k5_o K E1 E2) (exB 4 (f8_k4_o K E1) (exB 1 (f8_k2_o K E1) (exB 0 (f8_k1_o K) nX)))) (mixF 1237940039287069124760379008 σ 0 fr) w
def f8_k6 (K : K1) (E1 : VP2) (E2 : VP1) (x7 x9 x10 x11 x12 x16 x17 x18 x19 x49 x50 x90 : Value) (w : World) : Prop := f8_k6_o K E1 E2 (fz 164 0 [(7, x7), (9, x9), (10, x10), (11, x11), (12, x12), (16, x16), (17, x17), (18, x18), (19, x19), (49, x49), (50, x50), (90, x90)]) w
def f8_k7_o (K : K1) (E1 : VP2) (E2 : VP1) : KF := fun fr w => ∀ σ, cP (pr (pr (pr (pr (pr (pr (pl (pl (pr (pr (pl (pl (pr (pl (pr (pr (pr (pr (pl (pl (pr (pr (pl (pl (pr (pl (pr (pr (pr (pr (pr (pr f8_u)))))))))))))))))))))))))))))))) (f8_k5_o K E1 E2) (f8_e K) (exB 5 (f8_k5_o K E1 E2) (exB 4 (f8_k4_o K E1) (exB 1 (f8_k2_o K E1) (exB 0 (f8_k1_o K) nX)))) (mixF 1237940039287069124759461504 σ 0 fr) w
def f8_k7 (K : K1) (E1 : VP2) (E2 : VP1) (x7 x9 x10 x11 x12 x16 x49 x50 x90 : Value) (w : World) : Prop := f8_k7_o K E1 E2 (fz 164 0 [(7, x7), (9, x9), (10, x10), (11, x11), (12, x12), (16, x16), (49, x49), (50, x50), (90, x90)]) w
def f8_l4 (K : K1) (E1 : VP2) (E2 : VP1) (x7 x9 x10 x11 x12 x16 x49 x50 x90 x110 x111 x112 : Value) (w : World) : Prop := loopT [112] 3894223881841160008466997006376576 (fun E => cP (pl (pl (pr (pl (pr (pr (pr (pr (pr (pl (pl (pr (pr (pl (pl (pr (pl (pr (pr (pr (pr (pl (pl (pr (pr (pl (pl (pr (pl (pr (pr (pr (pr (pr (pr f8_u))))))))))))))))))))))))))))))))))) E (f8_e K) (exB 6 (f8_k7_o K E1 E2) (exB 5 (f8_k5_o K E1 E2) (exB 4 (f8_k4_o K E1) (exB 1 (f8_k2_o K E1) (exB 0 (f8_k1_o K) nX)))))) (fz 164 0 [(7, x7), (9, x9), (10, x10), (11, x11), (12, x12), (16, x16), (49, x49), (50, x50), (90, x90), (110, x110), (111, x111), (112, x112)]) w
def f8_l5 (K : K1) (E1 : VP2) (E2 : VP1) (x7 x9 x10 x11 x12 x49 x50 x90 x143 x144 x145 : Value) (w : World) : Prop := loopT [145] 33451117797795935950243616696041667018366592 (fun E => cP (pl (pl (pr (pr (pr (pr (pr (pr (pr (pr (pr (pl (pl (pr (pr (pl (pl (pr (pl (pr (pr (pr (pr (pl (pl (pr (pr (pl (pl (pr (pl (pr (pr (pr (pr (pr (pr f8_u))))))))))))))))))))))))))))))))))))) E (f8_e K) (exB 8 (f8_k5_o K E1 E2) (exB 5 (f8_k5_o K E1 E2) (exB 4 (f8_k4_o K E1) (exB 1 (f8_k2_o K E1) (exB 0 (f8_k1_o K) nX)))))) (fz 164 0 [(7, x7), (9, x9), (10, x10), (11, x11), (12, x12), (49, x49), (50, x50), (90, x90), (143, x143), (144, x144), (145, x145)]) w
def f8_k1_t (K : K1) (w : World) : Prop :=
 K (.bool true) w
theorem f8_k1_eq (K : K1) (w : World) : f8_k1 K w = f8_k1_t K w := cutE fun σ => by kernel_rfl
def f8_l1_t (x7 x9 x10 x11 x49 x50 : Value) (K : K1) (E1 : VP2) (w : World) : Prop :=
 ev Tryz.prog (binM .lss 3 (.tmp 50) (.tmp 49) x50 x49) w fun t51 w_1 =>
 cndS t51 (
 ldS Tryz.prog 58 x7 w_1 fun t53 w_2 =>
 callS Tryz.prog 55 (pA #[t53, x10, (.int .u8 ((64 : Nat) : Int))]) w_2 fun t55 w_3 =>
 ev Tryz.prog (Instr.extract t55 0) w_3 fun t56 w_4 =>
 ev Tryz.prog (Instr.extract t55 1) w_4 fun t57 w_5 =>
 ev Tryz.prog (binM .eql 28 (.tmp 58) (.const (.int .i64 12)) t57 (.int .i64 12)) w_5 fun t59 w_6 =>
 cndS t59 (
 ldS Tryz.prog 58 x7 w_6 fun t60 w_7 =>
 callS Tryz.prog 49 (pA #[t60, x10]) w_7 fun t62 w_8 =>
 gd t62 true (fun k => k x11 w_8) w_8 fun t64 w_9 =>
 gd t62 true (fun k => bltS Tryz.prog .len #[117] 3 #[false] #[t64] w_9 k) w_9 fun t65 w_10 =>
 gd t62 true (fun k => ev Tryz.prog (binM .gtr 3 (.tmp 65) (.const (.int .i64 0)) t65 (.int .i64 0)) w_10 k) w_10 fun t66 w_11 =>
 pickS t62 t66 (.bool false) w_11 fun t67 w_12 =>
 gd t67 true (fun k => k x11 w_12) w_12 fun t69 w_13 =>
 gd t67 true (fun k => k x11 w_13) w_13 fun t70 w_14 =>
 gd t67 true (fun k => bltS Tryz.prog .len #[117] 3 #[false] #[t70] w_14 k) w_14 fun t71 w_15 =>
 gd t67 true (fun k => ev Tryz.prog (binM .sub 3 (.tmp 71) (.const (.int .i64 1)) t71 (.int .i64 1)) w_15 k) w_15 fun t72 w_16 =>
 gd t67 true (fun k => ev Tryz.prog (Instr.indexAt 117 t69 t72) w_16 k) w_16 fun t73 w_17 =>
 gd t67 true (fun k => ldS Tryz.prog 103 t73 w_17 k) w_17 fun t74 w_18 =>
 gd t67 true (fun k => callS Tryz.prog 60 (pA #[t74]) w_18 k) w_18 fun t75 w_19 =>
 gd t67 true (fun k => ev Tryz.prog (binM .eql 22 (.tmp 75) (.const (.int .u16 ((65535 : Nat) : Int))) t75 (.int .u16 ((65535 : Nat) : Int))) w_19 k) w_19 fun t76 w_20 =>
 pickS t67 t76 (.bool false) w_20 fun t77 w_21 =>
 K t77 w_21) (
 ev Tryz.prog (binM .neq 28 (.tmp 78) (.const (.int .i64 0)) t57 (.int .i64 0)) w_6 fun t79 w_22 =>
 cndS t79 (
 K (.bool false) w_22) (
 bltS Tryz.prog .len #[117] 3 #[false] #[x11] w_22 fun t81 w_23 =>
 f8_l2 K E1 x7 x9 x10 x11 t56 x49 x50 x11 t81 (.int .i64 0) w_23))) (
 f8_k1 K w_1)
theorem f8_l1_rule (x7 x9 x10 x11 x49 x50 : Value) (K : K1) (w : World) (I : VP2) (μ : Value → Value → World → Nat) (h0 : I x11 x50 w)
    (hr : ∀ (x11 x50 : Value) (w : World), I x11 x50 w → ∀ E1 : VP2, (∀ (y11 y50 : Value) (w' : World), I y11 y50 w' → μ y11 y50 w' < μ x11 x50 w → E1 y11 y50 w') → f8_l1_t x7 x9 x10 x11 x49 x50 K E1 w) : f8_l1 K x7 x9 x10 x11 x49 x50 w :=
  ⟨I, μ, h0, fun σ w hI E hE => cast (by kernel_rfl) (hr (σ 11) (σ 50) w hI E hE)⟩
def f8_k2_t (x7 x9 x10 x11 x49 x50 : Value) (K : K1) (E1 : VP2) (w : World) : Prop :=
 ev Tryz.prog (binM .add 3 (.tmp 50) (.const (.int .i64 1)) x50 (.int .i64 1)) w fun t163 w_1 =>
 E1 x11 t163 w_1
theorem f8_k2_eq (K : K1) (E1 : VP2) (x7 x9 x10 x11 x49 x50 : Value) (w : World) : f8_k2 K E1 x7 x9 x10 x11 x49 x50 w = f8_k2_t x7 x9 x10 x11 x49 x50 K E1 w := cutE fun σ => by kernel_rfl
def f8_k3_t (x7 x9 x10 x11 x12 x49 x50 : Value) (K : K1) (E1 : VP2) (w : World) : Prop :=
 f8_l3 K E1 x7 x9 x10 x11 x12 x49 x50 (.int .i64 0) w
theorem f8_k3_eq (K : K1) (E1 : VP2) (x7 x9 x10 x11 x12 x49 x50 : Value) (w : World) : f8_k3 K E1 x7 x9 x10 x11 x12 x49 x50 w = f8_k3_t x7 x9 x10 x11 x12 x49 x50 K E1 w := cutE fun σ => by kernel_rfl
def f8_l2_t (x7 x9 x10 x11 x12 x49 x50 x80 x81 x82 : Value) (K : K1) (E1 : VP2) (E2 : VP1) (w : World) : Prop :=
 ev Tryz.prog (binM .lss 3 (.tmp 82) (.tmp 81) x82 x81) w fun t83 w_1 =>
 cndS t83 (
 ev Tryz.prog (Instr.indexAt 117 x80 x82) w_1 fun t84 w_2 =>
 ldS Tryz.prog 103 t84 w_2 fun t85 w_3 =>
 ev Tryz.prog (binM .eql 103 (.tmp 86) (.tmp 87) t85 x12) w_3 fun t88 w_4 =>
 cndS t88 (
 K (.bool false) w_4) (
 ev Tryz.prog (binM .add 3 (.tmp 82) (.const (.int .i64 1)) x82 (.int .i64 1)) w_4 fun t89 w_5 =>
 E2 t89 w_5)) (
 f8_k3 K E1 x7 x9 x10 x11 x12 x49 x50 w_1)
theorem f8_l2_rule (x7 x9 x10 x11 x12 x49 x50 x80 x81 x82 : Value) (K : K1) (E1 : VP2) (w : World) (I : VP1) (μ : Value → World → Nat) (h0 : I x82 w)
    (hr : ∀ (x82 : Value) (w : World), I x82 w → ∀ E2 : VP1, (∀ (y82 : Value) (w' : World), I y82 w' → μ y82 w' < μ x82 w → E2 y82 w') → f8_l2_t x7 x9 x10 x11 x12 x49 x50 x80 x81 x82 K E1 E2 w) : f8_l2 K E1 x7 x9 x10 x11 x12 x49 x50 x80 x81 x82 w :=
  ⟨I, μ, h0, fun σ w hI E hE => cast (by kernel_rfl) (hr (σ 82) w hI E hE)⟩
def f8_k4_t (x7 x9 x10 x11 x12 x49 x50 : Value) (K : K1) (E1 : VP2) (w : World) : Prop :=
 ev Tryz.prog (Instr.buildSlice 117 1 #[(0, x12)]) w fun t161 w_1 =>
 bltS Tryz.prog .append #[117, 117] 117 #[false, false] (pA #[x11, t161]) w_1 fun t162 w_2 =>
 f8_k2 K E1 x7 x9 x10 t162 x49 x50 w_2
theorem f8_k4_eq (K : K1) (E1 : VP2) (x7 x9 x10 x11 x12 x49 x50 : Value) (w : World) : f8_k4 K E1 x7 x9 x10 x11 x12 x49 x50 w = f8_k4_t x7 x9 x10 x11 x12 x49 x50 K E1 w := cutE fun σ => by kernel_rfl
def f8_l3_t (x7 x9 x10 x11 x12 x49 x50 x90 : Value) (K : K1) (E1 : VP2) (E2 : VP1) (w : World) : Prop :=
 ev Tryz.prog (binM .lss 3 (.tmp 90) (.const (.int .i64 2)) x90 (.int .i64 2)) w fun t91 w_1 =>
 cndS t91 (
 ev Tryz.prog (Instr.buildSlice 74 1 #[(0, x10)]) w_1 fun t94 w_2 =>
 ev Tryz.prog (Instr.buildSlice 75 1 #[(0, (.int .u8 ((64 : Nat) : Int)))]) w_2 fun t95 w_3 =>
 ev Tryz.prog (binM .eql 3 (.tmp 96) (.const (.int .i64 1)) x90 (.int .i64 1)) w_3 fun t97 w_4 =>
 cndS t97 (
 ev Tryz.prog (Instr.buildSlice 74 1 #[(0, x10)]) w_4 fun t99 w_5 =>
 f8_k6 K E1 E2 x7 x9 x10 x11 x12 x90 (.slice none 0 0) (.slice none 0 0) t99 x49 x50 x90 w_5) (
 f8_k6 K E1 E2 x7 x9 x10 x11 x12 x90 t94 t95 (.slice none 0 0) x49 x50 x90 w_4)) (
 f8_k4 K E1 x7 x9 x10 x11 x12 x49 x50 w_1)
theorem f8_l3_rule (x7 x9 x10 x11 x12 x49 x50 x90 : Value) (K : K1) (E1 : VP2) (w : World) (I : VP1) (μ : Value → World → Nat) (h0 : I x90 w)
    (hr : ∀ (x90 : Value) (w : World), I x90 w → ∀ E2 : VP1, (∀ (y90 : Value) (w' : World), I y90 w' → μ y90 w' < μ x90 w → E2 y90 w') → f8_l3_t x7 x9 x10 x11 x12 x49 x50 x90 K E1 E2 w) : f8_l3 K E1 x7 x9 x10 x11 x12 x49 x50 x90 w :=
  ⟨I, μ, h0, fun σ w hI E hE => cast (by kernel_rfl) (hr (σ 90) w hI E hE)⟩
def f8_k5_t (x7 x9 x10 x11 x12 x49 x50 x90 : Value) (K : K1) (E1 : VP2) (E2 : VP1) (w : World) : Prop :=
 ev Tryz.prog (binM .add 3 (.tmp 90) (.const (.int .i64 1)) x90 (.int .i64 1)) w fun t158 w_1 =>
 E2 t158 w_1
theorem f8_k5_eq (K : K1) (E1 : VP2) (E2 : VP1) (x7 x9 x10 x11 x12 x49 x50 x90 : Value) (w : World) : f8_k5 K E1 E2 x7 x9 x10 x11 x12 x49 x50 x90 w = f8_k5_t x7 x9 x10 x11 x12 x49 x50 x90 K E1 E2 w := cutE fun σ => by kernel_rfl
def f8_k6_t (x7 x9 x10 x11 x12 x16 x17 x18 x19 x49 x50 x90 : Value) (K : K1) (E1 : VP2) (E2 : VP1) (w : World) : Prop :=
 ldS Tryz.prog 58 x7 w fun t101 w_1 =>
 callS Tryz.prog 37 (pA #[t101, x17, x18, x19]) w_1 fun t105 w_2 =>
 ev Tryz.prog (Instr.extract t105 0) w_2 fun t106 w_3 =>
 ev Tryz.prog (Instr.extract t105 1) w_3 fun t107 w_4 =>
 ev Tryz.prog (binM .neq 28 (.tmp 108) (.const (.int .i64 0)) t107 (.int .i64 0)) w_4 fun t109 w_5 =>
 cndS t109 (
 K (.bool false) w_5) (
 bltS Tryz.prog .len #[38] 3 #[false] #[t106] w_5 fun t111 w_6 =>
 f8_l4 K E1 E2 x7 x9 x10 x11 x12 x16 x49 x50 x90 t106 t111 (.int .i64 0) w_6)
theorem f8_k6_eq (K : K1) (E1 : VP2) (E2 : VP1) (x7 x9 x10 x11 x12 x16 x17 x18 x19 x49 x50 x90 : Value) (w : World) : f8_k6 K E1 E2 x7 x9 x10 x11 x12 x16 x17 x18 x19 x49 x50 x90 w = f8_k6_t x7 x9 x10 x11 x12 x16 x17 x18 x19 x49 x50 x90 K E1 E2 w := cutE fun σ => by kernel_rfl
def f8_k7_t (x7 x9 x10 x11 x12 x16 x49 x50 x90 : Value) (K : K1) (E1 : VP2) (E2 : VP1) (w : World) : Prop :=
 ldS Tryz.prog 58 x7 w fun t124 w_1 =>
 callS Tryz.prog 58 (pA #[t124, x12]) w_1 fun t126 w_2 =>
 ev Tryz.prog (Instr.extract t126 0) w_2 fun t127 w_3 =>
 ev Tryz.prog (Instr.extract t126 1) w_3 fun t128 w_4 =>
 ev Tryz.prog (binM .eql 28 (.tmp 129) (.const (.int .i64 0)) t128 (.int .i64 0)) w_4 fun t130 w_5 =>
 ev Tryz.prog (binM .eql 3 (.tmp 131) (.const (.int .i64 0)) x16 (.int .i64 0)) w_5 fun t132 w_6 =>
 ev Tryz.prog (binM .neq 4 (.tmp 130) (.tmp 132) t130 t132) w_6 fun t133 w_7 =>
 gd t133 false (fun k => k x16 w_7) w_7 fun t135 w_8 =>
 gd t133 false (fun k => ev Tryz.prog (binM .eql 3 (.tmp 135) (.const (.int .i64 0)) t135 (.int .i64 0)) w_8 k) w_8 fun t136 w_9 =>
 gd t133 false (fun k => k t136 w_9) w_9 fun t137 w_10 =>
 gd t137 true (fun k => k t127 w_10) w_10 fun t138 w_11 =>
 gd t137 true (fun k => k x10 w_11) w_11 fun t139 w_12 =>
 gd t137 true (fun k => ev Tryz.prog (binM .neq 3 (.tmp 138) (.tmp 139) t138 t139) w_12 k) w_12 fun t140 w_13 =>
 gd t133 false (fun k => pickS t137 t140 (.bool false) w_13 k) w_13 fun t141 w_14 =>
 pickS t133 (.bool true) t141 w_14 fun t142 w_15 =>
 cndS t142 (
 K (.bool false) w_15) (
 bltS Tryz.prog .len #[117] 3 #[false] #[x11] w_15 fun t144 w_16 =>
 f8_l5 K E1 E2 x7 x9 x10 x11 x12 x49 x50 x90 x11 t144 (.int .i64 0) w_16)
theorem f8_k7_eq (K : K1) (E1 : VP2) (E2 : VP1) (x7 x9 x10 x11 x12 x16 x49 x50 x90 : Value) (w : World) : f8_k7 K E1 E2 x7 x9 x10 x11 x12 x16 x49 x50 x90 w = f8_k7_t x7 x9 x10 x11 x12 x16 x49 x50 x90 K E1 E2 w := cutE fun σ => by kernel_rfl
def f8_l4_t (x7 x9 x10 x11 x12 x16 x49 x50 x90 x110 x111 x112 : Value) (K : K1) (E1 : VP2) (E2 : VP1) (E3 : VP1) (w : World) : Prop :=
 ev Tryz.prog (binM .lss 3 (.tmp 112) (.tmp 111) x112 x111) w fun t113 w_1 =>
 cndS t113 (
 ev Tryz.prog (Instr.indexAt 38 x110 x112) w_1 fun t114 w_2 =>
 ldS Tryz.prog 37 t114 w_2 fun t115 w_3 =>
 ev Tryz.prog (Instr.alloc 37 true (.tuple #[])) w_3 fun t23 w_4 =>
 stS Tryz.prog 37 t23 t115 w_4 fun w_5 =>
 ev Tryz.prog (Instr.fieldAt 37 t23 0) w_5 fun t117 w_6 =>
 ldS Tryz.prog 33 t117 w_6 fun t118 w_7 =>
 ev Tryz.prog (Instr.fieldAt 37 t23 1) w_7 fun t119 w_8 =>
 ldS Tryz.prog 33 t119 w_8 fun t120 w_9 =>
 callS Tryz.prog 25 (pA #[x9, t118, t120]) w_9 fun t121 w_10 =>
 ev Tryz.prog (binM .add 3 (.tmp 112) (.const (.int .i64 1)) x112 (.int .i64 1)) w_10 fun t122 w_11 =>
 E3 t122 w_11) (
 f8_k7 K E1 E2 x7 x9 x10 x11 x12 x16 x49 x50 x90 w_1)
theorem f8_l4_rule (x7 x9 x10 x11 x12 x16 x49 x50 x90 x110 x111 x112 : Value) (K : K1) (E1 : VP2) (E2 : VP1) (w : World) (I : VP1) (μ : Value → World → Nat) (h0 : I x112 w)
    (hr : ∀ (x112 : Value) (w : World), I x112 w → ∀ E3 : VP1, (∀ (y112 : Value) (w' : World), I y112 w' → μ y112 w' < μ x112 w → E3 y112 w') → f8_l4_t x7 x9 x10 x11 x12 x16 x49 x50 x90 x110 x111 x112 K E1 E2 E3 w) : f8_l4 K E1 E2 x7 x9 x10 x11 x12 x16 x49 x50 x90 x110 x111 x112 w :=
  ⟨I, μ, h0, fun σ w hI E hE => cast (by kernel_rfl) (hr (σ 112) w hI E hE)⟩
def f8_l5_t (x7 x9 x10 x11 x12 x49 x50 x90 x143 x144 x145 : Value) (K : K1) (E1 : VP2) (E2 : VP1) (E3 : VP1) (w : World) : Prop :=
 ev Tryz.prog (binM .lss 3 (.tmp 145) (.tmp 144) x145 x144) w fun t146 w_1 =>
 cndS t146 (
 ev Tryz.prog (Instr.indexAt 117 x143 x145) w_1 fun t147 w_2 =>
 ldS Tryz.prog 103 t147 w_2 fun t148 w_3 =>
 ldS Tryz.prog 58 x7 w_3 fun t150 w_4 =>
 callS Tryz.prog 58 (pA #[t150, t148]) w_4 fun t152 w_5 =>
 ev Tryz.prog (Instr.extract t152 0) w_5 fun t153 w_6 =>
 ev Tryz.prog (Instr.extract t152 1) w_6 fun t154 w_7 =>
 ev Tryz.prog (binM .neq 28 (.tmp 155) (.const (.int .i64 12)) t154 (.int .i64 12)) w_7 fun t156 w_8 =>
 cndS t156 (
 K (.bool false) w_8) (
 ev Tryz.prog (binM .add 3 (.tmp 145) (.const (.int .i64 1)) x145 (.int .i64 1)) w_8 fun t157 w_9 =>
 E3 t157 w_9)) (
 f8_k5 K E1 E2 x7 x9 x10 x11 x12 x49 x50 x90 w_1)
theorem f8_l5_rule (x7 x9 x10 x11 x12 x49 x50 x90 x143 x144 x145 : Value) (K : K1) (E1 : VP2) (E2 : VP1) (w : World) (I : VP1) (μ : Value → World → Nat) (h0 : I x145 w)
    (hr : ∀ (x145 : Value) (w : World), I x145 w → ∀ E3 : VP1, (∀ (y145 : Value) (w' : World), I y145 w' → μ y145 w' < μ x145 w → E3 y145 w') → f8_l5_t x7 x9 x10 x11 x12 x49 x50 x90 x143 x144 x145 K E1 E2 E3 w) : f8_l5 K E1 E2 x7 x9 x10 x11 x12 x49 x50 x90 x143 x144 x145 w :=
  ⟨I, μ, h0, fun σ w hI E hE => cast (by kernel_rfl) (hr (σ 145) w hI E hE)⟩
def f8_t (x0 x1 x2 : Value) (K : K1) (w : World) : Prop :=
 ev Tryz.prog (Instr.box 67 x0) w fun t3 w_1 =>
 callS Tryz.prog 12 (pA #[]) w_1 fun t29 w_2 =>
 ev Tryz.prog (Op.unary .not t29) w_2 fun t30 w_3 =>
 cndS t30 (
 K (.bool false) w_3) (
 ldS Tryz.prog 67 t3 w_3 fun t32 w_4 =>
 callS Tryz.prog 33 (pA #[t32]) w_4 fun t33 w_5 =>
 ev Tryz.prog (Instr.extract t33 0) w_5 fun t34 w_6 =>
 ev Tryz.prog (Instr.extract t33 1) w_6 fun t35 w_7 =>
 ev Tryz.prog (Instr.extract t33 2) w_7 fun t36 w_8 =>
 ev Tryz.prog (Instr.alloc 58 true (.tuple #[])) w_8 fun t7 w_9 =>
 stS Tryz.prog 58 t7 t34 w_9 fun w_10 =>
 ev Tryz.prog (binM .eql 48 (.tmp 37) (.const (.pointer none)) t36 (.pointer none)) w_10 fun t38 w_11 =>
 cndS t38 (
 K (.bool false) w_11) (
 ev Tryz.prog (convert 5 3 x1) w_11 fun t40 w_12 =>
 ldS Tryz.prog 67 t3 w_12 fun t41 w_13 =>
 callS Tryz.prog 34 (pA #[t41]) w_13 fun t42 w_14 =>
 ev Tryz.prog (Instr.field 24 t42 0) w_14 fun t43 w_15 =>
 callS Tryz.prog 19 (pA #[t43]) w_15 fun t44 w_16 =>
 ev Tryz.prog (binM .rem 3 (.tmp 40) (.tmp 44) t40 t44) w_16 fun t45 w_17 =>
 ev Tryz.prog (convert 5 3 x2) w_17 fun t47 w_18 =>
 ev Tryz.prog (binM .rem 3 (.tmp 47) (.const (.int .i64 20)) t47 (.int .i64 20)) w_18 fun t48 w_19 =>
 ev Tryz.prog (binM .add 3 (.const (.int .i64 1)) (.tmp 48) (.int .i64 1) t48) w_19 fun t49 w_20 =>
 f8_l1 K t7 t36 t45 (.slice none 0 0) t49 (.int .i64 0) w_20))
theorem f8_call (x0 x1 x2 : Value) (K : K1) (w : World) (h : f8_t x0 x1 x2 K w) : callS Tryz.prog 8 #[x0, x1, x2] w K :=
  call_of_txt (args := [x0, x1, x2]) mixed Tryz.func8 f8_u.2 (by kernel_rfl) (cast (by kernel_rfl) h)
end Go.Proofs.YtaeopkhdokaaoaaGreatDoor
namespace Go.Proofs.YtaeopkhdokaaoaaGreatDoor
open Go Go.Sh
set_option maxRecDepth 100000
set_option maxHeartbeats 4000000
set_option linter.unusedSimpArgs false
set_option linter.unusedVariables false
abbrev ptL (ps : List Nat) : List Value := ps.map u64
theorem elPtr : ElT Tryz.prog 117 117 103 1 8 (.int .u64 0) := ⟨by kernel_rfl, by kernel_rfl, by kernel_rfl, by kernel_rfl, by decide⟩
section
variable {w0 w w' : World} {Y Y' : Lay} {D D' : DS} {B l k : Nat} {c o : Int} {g : Nat} {K : K1} {E1 : VP2} {E2 E3 : VP1} {v x49 x50 x90 : Value} {ps : List Nat}
theorem ptL_len (ps : List Nat) : (ptL ps).length = ps.length := by simp
theorem st_l2 (hs : SlO w 103 1 v ps.length (ptL ps)) (hl : ps.length < 1000) (hb : ∀ q ∈ ps, q < 18446744073709551616) (p : Nat) (hp : p < 18446744073709551616) (hne : ∀ q ∈ ps, q ≠ p) (x7 x9 x10 : Value) (H : f8_k3 K E1 x7 x9 x10 v (u64 p) x49 x50 w) :
    f8_l2 K E1 x7 x9 x10 v (u64 p) x49 x50 v (.int .i64 (ps.length : Int)) (.int .i64 0) w := by
  apply f8_l2_rule (I := fun z w' => ∃ j : Nat, z = .int .i64 (j : Int) ∧ j ≤ ps.length ∧ w' = w) (μ := fun z _ => ps.length - (Go.RowKit.intOf z).toNat)
  · exact ⟨0, rfl, by omega, rfl⟩
  · intros; rename_i w1 hI E2 hE
    obtain ⟨j, rfl, hj, rfl⟩ := hI
    by_cases hjl : j < ps.length
    · obtain ⟨b, ob, cap, rfl, _⟩ := hs.isS (by omega)
      have hc := hs.cell rfl (i := j) (u := u64 ps[j]) (by simp [hjl])
      have hq := hne ps[j] (List.getElem_mem hjl)
      have hqb := hb ps[j] (List.getElem_mem hjl)
      generalize ps[j] = q at hc hq hqb
      unfold f8_l2_t
      simp (disch := first | omega | simp only [RO] | (simp only [RZ] <;> omega) | fail) only [↓RBp, ↓RA, ↓reduceIte, Nat.reduceAdd, Nat.reduceMul, Nat.reduceEqDiff, RB, RBr, RW, RS, RA2, hc, hq]
      apply hE
      · exact ⟨j + 1, by simp, by omega, rfl⟩
      · simp [Go.RowKit.intOf]; omega
    · unfold f8_l2_t
      simp (disch := first | omega | simp only [RO] | (simp only [RZ] <;> omega) | fail) only [↓RBp, ↓RA, ↓reduceIte, Nat.reduceAdd, Nat.reduceMul, Nat.reduceEqDiff, RB, RBr, RW, RS, RA2]
      exact H
theorem st_l5 (h : Loc w0 w Y D B l c o g) (hs : SlO w 103 1 v ps.length (ptL ps)) (hl : ps.length < 1000) (hb : ∀ q ∈ ps, q ≠ 0 ∧ q < 72057594037927936 ∧ (∃ k : Nat, (k : Int) < perS c ∧ pO q = pOff l c k ∧ ¬ liveB D l c k (pG q))) (x9 x10 x12 : Value) (H : ∀ w', Ext w w' → f8_k5 K E1 E2 (.pointer (some ⟨B, 0, none⟩)) x9 x10 v x12 x49 x50 x90 w') :
    f8_l5 K E1 E2 (.pointer (some ⟨B, 0, none⟩)) x9 x10 v x12 x49 x50 x90 v (.int .i64 (ps.length : Int)) (.int .i64 0) w := by
  apply f8_l5_rule (I := fun z w' => ∃ j : Nat, z = .int .i64 (j : Int) ∧ j ≤ ps.length ∧ Ext w w') (μ := fun z _ => ps.length - (Go.RowKit.intOf z).toNat)
  · exact ⟨0, rfl, by omega, Ext.refl _⟩
  · intros; rename_i w1 hI E3 hE
    obtain ⟨j, rfl, hj, e1⟩ := hI
    by_cases hjl : j < ps.length
    · obtain ⟨b, ob, cap, rfl, _⟩ := hs.isS (by omega)
      have hc := (hs.ext e1).cell rfl (i := j) (u := u64 ps[j]) (by simp [hjl])
      obtain ⟨q0, q1, k, hk, hq2, hq3⟩ := hb ps[j] (List.getElem_mem hjl)
      generalize ps[j] = q at hc q0 q1 hq2 hq3
      have h1 := h.ext e1
      have ob1 := h1.cells; have c0 := ob1.1; have c1 := ob1.2.1; have c2 := ob1.2.2.1; have c3 := ob1.2.2.2.1; have c4 := ob1.2.2.2.2
      unfold f8_l5_t
      simp (disch := first | omega | simp only [RO] | (simp only [RZ] <;> omega) | fail) only [↓RBp, ↓RA, ↓reduceIte, Nat.reduceAdd, Nat.reduceMul, Nat.reduceEqDiff, RB, RBr, RW, RS, RA2, hc, c0, c1, c2, c3, c4]
      have inj : ∀ k' : Nat, pO q = pOff l c k' → k' = k := fun k' e => by
        rw [hq2] at e; unfold pOff at e; exact (offN_inj h.c0 h.c5 (by omega)).symm
      refine k_Block h1.cx h1.on.err o g q (by omega) _ (fun e => absurd e q0) (fun _ hr => ?_) (fun _ _ k' _ ek hn w2 e2 => ?_) (fun _ _ k' _ ek hn => ?_) (fun _ _ k' _ ek hn => ?_)
      · rcases hr with hr | hr
        · omega
        · exact absurd hq2 (hr k hk)
      · simp (disch := first | omega | simp only [RO] | (simp only [RZ] <;> omega) | fail) only [↓RBp, ↓RA, ↓reduceIte, Nat.reduceAdd, Nat.reduceMul, Nat.reduceEqDiff, RB, RBr, RW, RS, RA2]
        apply hE
        · exact ⟨j + 1, by simp, by omega, e1.trans e2⟩
        · simp [Go.RowKit.intOf]; omega
      · obtain rfl := inj k' ek; exact absurd hn hq3
      · obtain rfl := inj k' ek; exact absurd hn hq3
    · unfold f8_l5_t
      simp (disch := first | omega | simp only [RO] | (simp only [RZ] <;> omega) | fail) only [↓RBp, ↓RA, ↓reduceIte, Nat.reduceAdd, Nat.reduceMul, Nat.reduceEqDiff, RB, RBr, RW, RS, RA2]
      exact H _ e1
theorem st_l4 (h : Loc w0 w Y D B l c o g) (hs : Snd D l c o) {L M : List Int} {ks : List Nat} {ws : List (Nat × Nat)} (ha : ActA c L ks M) (hw : actN D l c L ks M = some ws) (hx : D.exe < 1000000000) (hwl : ws.length < 1000) (u : Value) (hu : SlO w 37 2 u ws.length (wrL ws)) (ou : Out w0 Y B u) {T : Nat} (hT : Y.tb 0 = T) (x7 x10 x11 x12 x16 : Value)
    (H : ∀ w' Y', Stp w Y w' Y' (D.strs ws) → f8_k7 K E1 E2 x7 (.pointer (some ⟨T, 0, none⟩)) x10 x11 x12 x16 x49 x50 x90 w') :
    f8_l4 K E1 E2 x7 (.pointer (some ⟨T, 0, none⟩)) x10 x11 x12 x16 x49 x50 x90 u (.int .i64 (ws.length : Int)) (.int .i64 0) w := by
  subst hT
  have hA := h.acts hs ha hw
  have gt : ∀ j, Good (D.strs (ws.take j)) := fun j => strs_good h.L.gd (fun x hx => by have h1 := hA.e.ok x (mem_take hx); have := h.L.gd.n; exact ⟨by omega, h1.2.2⟩)
  have xt : ∀ j, (D.strs (ws.take j)).exe ≤ D.exe + ws.length := fun j => by
    have := strs_exe D (ws.take j); rw [List.length_take] at this
    have := Nat.min_le_right j ws.length; omega
  apply f8_l4_rule (I := fun z w' => ∃ (j : Nat) (Y' : Lay), z = .int .i64 (j : Int) ∧ j ≤ ws.length ∧ Stp w Y w' Y' (D.strs (ws.take j))) (μ := fun z _ => ws.length - (Go.RowKit.intOf z).toNat)
  · exact ⟨0, Y, rfl, by omega, (Stp.refl h.L.dv).to (strs_zero _ _).symm⟩
  · intros; rename_i w1 hI E3 hE
    obtain ⟨j, Y1, rfl, hj, st⟩ := hI
    have tb : Y1.tb 0 = Y.tb 0 := by rw [st.tb]
    by_cases hjl : j < ws.length
    · have hxm := hA.e.ok ws[j] (List.getElem_mem hjl)
      have hn := h.L.gd.n
      have htk := strs_take (D := D) (wr_get hjl)
      have xj := xt j
      obtain ⟨_, s1⟩ := ou.step hu st
      obtain ⟨b, ob, cap, rfl, hc1, hc2⟩ := wr_cells s1 hjl
      generalize ws[j] = x at hc1 hc2 hxm htk
      obtain ⟨xo, xv⟩ := x
      simp only at hc1 hc2 hxm htk
      unfold f8_l4_t
      simp (disch := first | omega | simp only [RO] | (simp only [RZ] <;> omega) | fail) only [↓RBp, ↓RA, ↓reduceIte, Nat.reduceAdd, Nat.reduceMul, Nat.reduceEqDiff, RB, RBr, RW, RS, RA2, hc1, hc2]
      have stg := st.grow (Ext.alloc_self w1 (.cells #[.int .u64 (xo : Int), .int .u64 (xv : Int)] 37))
      rw [← tb]
      refine k_Store stg.dv (gt j) 0 (by omega) xo xv (by omega) _ (fun w2 Y2 st2 => ?_)
      simp (disch := first | omega | simp only [RO] | (simp only [RZ] <;> omega) | fail) only [↓RBp, ↓RA, ↓reduceIte, Nat.reduceAdd, Nat.reduceMul, Nat.reduceEqDiff, RB, RBr, RW, RS, RA2]
      apply hE
      · exact ⟨j + 1, Y2, by simp, by omega, by rw [htk]; exact stg.trans st2⟩
      · simp [Go.RowKit.intOf]; omega
    · have : j = ws.length := by omega
      subst this
      rw [List.take_length] at st
      unfold f8_l4_t
      simp (disch := first | omega | simp only [RO] | (simp only [RZ] <;> omega) | fail) only [↓RBp, ↓RA, ↓reduceIte, Nat.reduceAdd, Nat.reduceMul, Nat.reduceEqDiff, RB, RBr, RW, RS, RA2]
      exact H _ _ st
def FreeAt (D : DS) (l : Nat) (c o : Int) (k gi : Nat) : Prop := Snd D l c o ∧ bS (wd D l (offN c k)) = 176 ∧ bG (wd D l (offN c k)) = gi
def TakenAt (D : DS) (l : Nat) (c o : Int) (k gi kd : Nat) : Prop := Snd D l c o ∧ bS (wd D l (offN c k)) = 177 ∧ bG (wd D l (offN c k)) = gi ∧ bK (wd D l (offN c k)) = kd
theorem act1 {c : Int} {k : Nat} (hk : (k : Int) < perS c) (kd : Nat) (h0 : kd ≠ 0) (h1 : kd ≤ 127) : ActA c [(k : Int)] [kd] [] ∧ ActA c [] [] [(k : Int)] := by
  have e : onc (perS c) [(k : Int)] 0 = some (0 ||| 2 ^ k) := by
    simp only [onc, Int.toNat_natCast]
    rw [if_pos ⟨⟨by omega, hk⟩, bit0 k⟩]
  refine ⟨⟨rfl, fun x hx => ?_, ?_⟩, ⟨rfl, fun x hx => (by cases hx), ?_⟩⟩
  · simp only [List.mem_singleton] at hx; subst hx; exact ⟨h0, h1⟩
  · rw [e]; rfl
  · simp only [onc, Option.bind_some, Int.toNat_natCast]
    rw [if_pos ⟨⟨by omega, hk⟩, bit0 k⟩]; rfl
theorem take_act (hf : FreeAt D l c o k g) (hp : perS c ≤ 64) (hk : (k : Int) < perS c) (kd : Nat) : ∃ ws, actN D l c [(k : Int)] [kd] [] = some ws ∧ ws.length = 2 := by
  obtain ⟨hs, h1, h2⟩ := hf
  have hb := hs.bit k (by omega)
  rw [decide_eq_true hk, h1] at hb
  have ht : tkOk D l c k = true := by
    unfold tkOk
    rw [hs.sl k hk, hb, hs.gd k hk, h1]; rfl
  exact ⟨_, actN_eq (by simp) (by rw [chT_cons, Int.toNat_natCast, if_pos ht, chT_nil]) (chDr_nil ..), rfl⟩
theorem drop_act {kd : Nat} (hf : TakenAt D l c o k g kd) (hp : perS c ≤ 64) (hk : (k : Int) < perS c) : ∃ ws, actN D l c [] [] [(k : Int)] = some ws ∧ ws.length = 2 := by
  obtain ⟨hs, h1, h2, h3⟩ := hf
  have hb := hs.bit k (by omega)
  rw [decide_eq_true hk, h1] at hb
  have ht : dpOk D l c k = true := by
    unfold dpOk
    rw [hs.sl k hk, hb, h1]; rfl
  exact ⟨_, actN_eq (by simp) (chT_nil ..) (by rw [chDr_cons, Int.toNat_natCast, if_pos ht, chDr_nil]), rfl⟩
theorem took {ws : List (Nat × Nat)} {kd : Nat} (hk : (k : Int) < perS c) (hkd : kd < 256) (hf : FreeAt D l c o k g) (h : ActS D D' l c o [(k : Int)] [kd] [] ws) : TakenAt D' l c o k g kd := by
  obtain ⟨hs, h1, h2⟩ := hf
  have hx := h.e.blk k hk
  have ha : actX D l c [(k : Int)] [kd] [] k = (tkW D l c k kd).2 := by unfold actX; simp [kOf]
  rw [ha] at hx
  obtain ⟨_, a, b, d⟩ := tkW_parts (D := D) (l := l) (c := c) k kd hkd
  exact ⟨h.snd, by rw [hx, d], by rw [hx, a, h2], by rw [hx, b]⟩
theorem dropped {ws : List (Nat × Nat)} {kd : Nat} (hk : (k : Int) < perS c) (hf : TakenAt D l c o k g kd) (h : ActS D D' l c o [] [] [(k : Int)] ws) : Snd D' l c o ∧ bS (wd D' l (offN c k)) = freS g ∧ bG (wd D' l (offN c k)) = freG g := by
  obtain ⟨hs, h1, h2, h3⟩ := hf
  have hx := h.e.blk k hk
  have ha : actX D l c [] [] [(k : Int)] k = (dpW D l c k).2 := by unfold actX; simp [kOf, hasI]
  rw [ha] at hx
  obtain ⟨_, a, b, d⟩ := dpW_parts (D := D) (l := l) (c := c) k
  exact ⟨h.snd, by rw [hx, d, h2], by rw [hx, a, h2]⟩
theorem taken_live {kd : Nat} (hp : perS c ≤ 64) (hk : (k : Int) < perS c) (h : TakenAt D l c o k g kd) : liveB D l c k g := by
  obtain ⟨hs, h1, h2, h3⟩ := h
  have hb := hs.bit k (by omega)
  rw [decide_eq_true hk, h1] at hb
  exact ⟨hs.sl k hk, hb, h1, h2⟩
theorem st_k7 (h : Loc w0 w Y D B l c o g) (hp : perS c ≤ 64) (hk : (k : Int) < perS c) (gi : Nat) (hgi : gi < 65536) (n : Nat) (hn : (n = 0 ∧ liveB D l c k gi ∧ bK (wd D l (offN c k)) = 64) ∨ (n = 1 ∧ ¬ liveB D l c k gi)) (hs : SlO w 103 1 v ps.length (ptL ps)) (hl : ps.length < 1000) (hb : ∀ q ∈ ps, q ≠ 0 ∧ q < 72057594037927936 ∧ (∃ k : Nat, (k : Int) < perS c ∧ pO q = pOff l c k ∧ ¬ liveB D l c k (pG q))) (x9 : Value)
    (H : ∀ w', Ext w w' → f8_k5 K E1 E2 (.pointer (some ⟨B, 0, none⟩)) x9 (.int .i64 (k : Int)) v (u64 (ptrN (pOff l c k) gi 64)) x49 x50 x90 w') :
    f8_k7 K E1 E2 (.pointer (some ⟨B, 0, none⟩)) x9 (.int .i64 (k : Int)) v (u64 (ptrN (pOff l c k) gi 64)) (.int .i64 (n : Int)) x49 x50 x90 w := by
  have hL := h.L.gd.n
  have hlt := h.lt
  have hpo := pOff_bd (l := l) (c := c) (i := k) (by omega) h.c0 h.c5 hk
  have hptr := ptr_bd (pOff l c k) gi 64 hpo.2.1 hgi (by omega) hpo.2.2 hpo.1
  have hptO := pO_ptr (pOff l c k) gi 64 hpo.1 hpo.2.1
  have hptG := pG_ptr (pOff l c k) gi 64 hpo.2.1 hgi
  have hptK := pK_ptr (pOff l c k) gi 64 hpo.2.1 hgi (by omega)
  have inj : ∀ k' : Nat, pO (ptrN (pOff l c k) gi 64) = pOff l c k' → k' = k := fun k' e => by
    rw [hptO] at e; unfold pOff at e; exact (offN_inj h.c0 h.c5 (by omega)).symm
  have nor : ¬ (72057594037927936 ≤ ptrN (pOff l c k) gi 64 ∨ ∀ k' : Nat, (k' : Int) < perS c → pO (ptrN (pOff l c k) gi 64) ≠ pOff l c k') := fun hr => by
    rcases hr with hr | hr
    · omega
    · exact hr k hk hptO
  have hn' : (n = 0 ∧ liveB D l c k (pG (ptrN (pOff l c k) gi 64)) ∧ bK (wd D l (offN c k)) = pK (ptrN (pOff l c k) gi 64)) ∨ (n = 1 ∧ ¬ liveB D l c k (pG (ptrN (pOff l c k) gi 64))) := by rw [hptG, hptK]; exact hn
  clear hn hptG hptK
  generalize ptrN (pOff l c k) gi 64 = P at *
  have ob2 := h.cells; have c0 := ob2.1; have c1 := ob2.2.1; have c2 := ob2.2.2.1; have c3 := ob2.2.2.2.1; have c4 := ob2.2.2.2.2
  have go : ∀ w', Ext w w' → f8_l5 K E1 E2 (.pointer (some ⟨B, 0, none⟩)) x9 (.int .i64 (k : Int)) v (u64 P) x49 x50 x90 v (.int .i64 (ps.length : Int)) (.int .i64 0) w' := fun w' e => st_l5 (h.ext e) (hs.ext e) hl hb x9 _ _ (fun w2 e2 => H w2 (e.trans e2))
  obtain ⟨vb, vc, rfl, _⟩ := hs.isS'
  rw [f8_k7_eq]
  unfold f8_k7_t
  simp (disch := first | omega | simp only [RO] | (simp only [RZ] <;> omega) | fail) only [↓RBp, ↓RA, ↓reduceIte, Nat.reduceAdd, Nat.reduceMul, Nat.reduceEqDiff, RB, RBr, RW, RS, RA2, c0, c1, c2, c3, c4]
  rcases hn' with ⟨rfl, hv, hkd⟩ | ⟨rfl, hv⟩
  · refine k_Block h.cx h.on.err o g P (by omega) _ (fun e => absurd e hptr.1) (fun _ hr => absurd hr nor) (fun _ _ k' _ ek hn2 => ?_) (fun _ _ k' _ ek hn2 hw => ?_) (fun _ _ k' _ ek hn2 hw w2 e2 => ?_)
    · obtain rfl := inj k' ek; exact absurd hv hn2
    · obtain rfl := inj k' ek; exact absurd hkd hw
    · obtain rfl := inj k' ek
      simp (disch := first | omega | simp only [RO] | (simp only [RZ] <;> omega) | fail) only [↓RBp, ↓RA, ↓reduceIte, Nat.reduceAdd, Nat.reduceMul, Nat.reduceEqDiff, RB, RBr, RW, RS, RA2, bq1, bq2, bq3, bq4]
      exact go _ e2
  · refine k_Block h.cx h.on.err o g P (by omega) _ (fun e => absurd e hptr.1) (fun _ hr => absurd hr nor) (fun _ _ k' _ ek hn2 w2 e2 => ?_) (fun _ _ k' _ ek hn2 hw => ?_) (fun _ _ k' _ ek hn2 hw => ?_)
    · simp (disch := first | omega | simp only [RO] | (simp only [RZ] <;> omega) | fail) only [↓RBp, ↓RA, ↓reduceIte, Nat.reduceAdd, Nat.reduceMul, Nat.reduceEqDiff, RB, RBr, RW, RS, RA2, bq1, bq2, bq3, bq4]
      exact go _ e2
    · obtain rfl := inj k' ek; exact absurd hn2 hv
    · obtain rfl := inj k' ek; exact absurd hn2 hv
theorem st_k6 (h : Loc w0 w Y D B l c o g) (hs : Snd D l c o) {T : Nat} (hT : Y.tb 0 = T) {L M : List Int} {ks : List Nat} {ws : List (Nat × Nat)} (ha : ActA c L ks M) (hw : actN D l c L ks M = some ws) (hx : D.exe < 1000000000) (hwl : ws.length < 1000) (lL : L.length < 1000) (lM : M.length < 1000) (lk : ks.length < 1000) (u1 u2 u3 : Value) {m : Nat} (h1 : RdS m w u1 (i64L L)) (h2 : RdS m w u2 (u8L ks)) (h3 : RdS m w u3 (i64L M)) (hv : SlO w 103 1 v ps.length (ptL ps)) (ov : Out w0 Y B v) (x10 x12 x16 : Value)
    (H : ∀ w' Y', Loc w0 w' Y' (D.strs ws) B l c o g → Y'.tb 0 = T → SlO w' 103 1 v ps.length (ptL ps) → Out w0 Y' B v → f8_k7 K E1 E2 (.pointer (some ⟨B, 0, none⟩)) (.pointer (some ⟨T, 0, none⟩)) x10 v x12 x16 x49 x50 x90 w') :
    f8_k6 K E1 E2 (.pointer (some ⟨B, 0, none⟩)) (.pointer (some ⟨T, 0, none⟩)) x10 v x12 x16 u1 u2 u3 x49 x50 x90 w := by
  have ob3 := h.cells; have c0 := ob3.1; have c1 := ob3.2.1; have c2 := ob3.2.2.1; have c3 := ob3.2.2.2.1; have c4 := ob3.2.2.2.2
  have hA := h.acts hs ha hw
  rw [f8_k6_eq]
  unfold f8_k6_t
  simp (disch := first | omega | simp only [RO] | (simp only [RZ] <;> omega) | fail) only [↓RBp, ↓RA, ↓reduceIte, Nat.reduceAdd, Nat.reduceMul, Nat.reduceEqDiff, RB, RBr, RW, RS, RA2, c0, c1, c2, c3, c4]
  refine k_Actions h.cx h.on.err o g L M ks u1 u2 u3 h1 h2 h3 (by omega) (by omega) (by omega) (fun k hk => by have := (ha.kin k hk).2; omega) _ (fun hn => absurd ha hn) (fun _ hn => by rw [hw] at hn; cases hn) (fun _ ws' hws v' w2 e2 hnv hsl => ?_)
  rw [hw] at hws; injection hws with hws; subst hws
  obtain ⟨pa, pc, rfl, hpc⟩ := hsl.isS'
  simp (disch := first | omega | simp only [RO] | (simp only [RZ] <;> omega) | fail) only [↓RBp, ↓RA, ↓reduceIte, Nat.reduceAdd, Nat.reduceMul, Nat.reduceEqDiff, RB, RBr, RW, RS, RA2]
  refine st_l4 (h.ext e2) hs ha hw hx hwl _ hsl (Out.new h hnv) hT _ _ _ _ _ (fun w3 Y3 st => ?_)
  obtain ⟨o3, s3⟩ := ov.step (hv.ext e2) st
  exact H w3 Y3 ((h.ext e2).step st hA.gd hA.e.on hA.n) (by rw [st.tb]; exact hT) s3 o3
theorem st_l3 (h : Loc w0 w Y D B l c o g) {T : Nat} (hT : Y.tb 0 = T) (hp : perS c ≤ 64) (hk : (k : Int) < perS c) (gi : Nat) (hgi : gi < 65536) (hf : FreeAt D l c o k gi) (hx : D.exe < 10000) (hv : SlO w 103 1 v ps.length (ptL ps)) (ov : Out w0 Y B v) (hl : ps.length < 1000) (hps : ∀ q ∈ ps, ∃ g', g' < gi ∧ q = ptrN (pOff l c k) g' 64)
    (H : ∀ w' Y' D', Loc w0 w' Y' D' B l c o g → Y'.tb 0 = T → Snd D' l c o ∧ bS (wd D' l (offN c k)) = freS gi ∧ bG (wd D' l (offN c k)) = freG gi → D'.exe ≤ D.exe + 4 → SlO w' 103 1 v ps.length (ptL ps) → Out w0 Y' B v → f8_k4 K E1 (.pointer (some ⟨B, 0, none⟩)) (.pointer (some ⟨T, 0, none⟩)) (.int .i64 (k : Int)) v (u64 (ptrN (pOff l c k) gi 64)) x49 x50 w') :
    f8_l3 K E1 (.pointer (some ⟨B, 0, none⟩)) (.pointer (some ⟨T, 0, none⟩)) (.int .i64 (k : Int)) v (u64 (ptrN (pOff l c k) gi 64)) x49 x50 (.int .i64 0) w := by
  have hL := h.L.gd.n
  have hlt := h.lt
  have hpo := pOff_bd (l := l) (c := c) (i := k) (by omega) h.c0 h.c5 hk
  have ha := act1 hk 64 (by omega) (by omega)
  have hbq : ∀ D2 : DS, ((∃ kd, TakenAt D2 l c o k gi kd) ∨ (bS (wd D2 l (offN c k)) = freS gi)) → ∀ q ∈ ps, q ≠ 0 ∧ q < 72057594037927936 ∧ (∃ k : Nat, (k : Int) < perS c ∧ pO q = pOff l c k ∧ ¬ liveB D2 l c k (pG q)) := by
    intro D2 hD q hq
    obtain ⟨g', hg', rfl⟩ := hps q hq
    have h1 := ptr_bd (pOff l c k) g' 64 hpo.2.1 (by omega) (by omega) hpo.2.2 hpo.1
    refine ⟨h1.1, h1.2, k, hk, pO_ptr _ _ _ hpo.1 hpo.2.1, fun hlv => ?_⟩
    rw [pG_ptr _ _ _ hpo.2.1 (by omega)] at hlv
    rcases hD with ⟨kd, hD⟩ | hD
    · have := hD.2.2.1; have := hlv.2.2.2; omega
    · have := hlv.2.2.1; rw [hD] at this; unfold freS at this; split at this <;> omega
  apply f8_l3_rule (I := fun z w' => ∃ (n : Nat) (Y' : Lay) (D' : DS), z = .int .i64 (n : Int) ∧ n ≤ 2 ∧ Loc w0 w' Y' D' B l c o g ∧ Y'.tb 0 = T ∧ SlO w' 103 1 v ps.length (ptL ps) ∧ Out w0 Y' B v ∧ D'.exe ≤ D.exe + 2 * n ∧ (n = 0 → FreeAt D' l c o k gi) ∧ (n = 1 → TakenAt D' l c o k gi 64) ∧ (n = 2 → Snd D' l c o ∧ bS (wd D' l (offN c k)) = freS gi ∧ bG (wd D' l (offN c k)) = freG gi)) (μ := fun z _ => 2 - (Go.RowKit.intOf z).toNat)
  · exact ⟨0, Y, D, rfl, by omega, h, hT, hv, ov, by omega, fun _ => hf, fun h => by omega, fun h => by omega⟩
  · intros; rename_i w1 hI E2 hE
    obtain ⟨n, Y1, D1, rfl, hn, h1, hT1, hv1, ov1, hx1, i0, i1, i2⟩ := hI
    have nt1 : ¬ Y1.F w1.heap.size := fun hf => by have := h1.L.dv.lt hf; omega
    have hB1 := h1.ltB
    have hcs : n = 0 ∨ n = 1 ∨ n = 2 := by omega
    rcases hcs with rfl | rfl | rfl
    · have hF := i0 rfl
      obtain ⟨ws, hw, hwl⟩ := take_act hF hp hk 64
      have hA := h1.acts hF.1 ha.1 hw
      have hTk := took hk (by omega) hF hA
      have hLv := taken_live hp hk hTk
      unfold f8_l3_t
      simp (disch := first | omega | simp only [RO] | (simp only [RZ] <;> omega) | fail) only [↓RBp, ↓RA, ↓reduceIte, Nat.reduceAdd, Nat.reduceMul, Nat.reduceEqDiff, RB, RBr, RW, RS, RA2]
      refine st_k6 (h1.ext (by repeat (first | with_reducible refine Ext.setB ?_ (by omega) _ | with_reducible refine Ext.setB ?_ (by simp only [RZ] <;> omega) _ | with_reducible assumption | exact Ext.refl _ | with_reducible refine Ext.alloc ?_ _ | with_reducible refine Ext.drew ?_ | with_reducible refine Ext.trans ?_ (by assumption)))) hF.1 hT1 ha.1 hw (by omega) (by omega) (by simp) (by simp) (by simp) _ _ _ (m := w1.heap.size + 2) ⟨some ⟨w1.heap.size, 0, none⟩, 1, rfl, .inr ⟨_, _, rfl, by omega, ?_⟩⟩ ⟨some ⟨w1.heap.size + 1, 0, none⟩, 1, rfl, .inr ⟨_, _, rfl, by omega, ?_⟩⟩ (RdS.nil _ _) (hv1.ext (by repeat (first | with_reducible refine Ext.setB ?_ (by omega) _ | with_reducible refine Ext.setB ?_ (by simp only [RZ] <;> omega) _ | with_reducible assumption | exact Ext.refl _ | with_reducible refine Ext.alloc ?_ _ | with_reducible refine Ext.drew ?_ | with_reducible refine Ext.trans ?_ (by assumption)))) ov1 _ _ _ (fun w2 Y2 h2 hT2 hv2 ov2 => ?_)
      · intro j u hj
        obtain ⟨rfl, rfl⟩ := one_get hj
        simp (disch := first | omega | simp only [RO] | (simp only [RZ] <;> omega) | fail) only [↓RBp, ↓RA, ↓reduceIte, Nat.reduceAdd, Nat.reduceMul, Nat.reduceEqDiff, RB, RBr, RW, RS, RA2]
      · intro j u hj
        obtain ⟨rfl, rfl⟩ := one_get hj
        simp (disch := first | omega | simp only [RO] | (simp only [RZ] <;> omega) | fail) only [↓RBp, ↓RA, ↓reduceIte, Nat.reduceAdd, Nat.reduceMul, Nat.reduceEqDiff, RB, RBr, RW, RS, RA2]
      refine st_k7 h2 hp hk gi hgi 0 (.inl ⟨rfl, hLv, hTk.2.2.2⟩) hv2 hl (hbq _ (.inl ⟨64, hTk⟩)) _ (fun w3 e3 => ?_)
      rw [f8_k5_eq]
      unfold f8_k5_t
      simp (disch := first | omega | simp only [RO] | (simp only [RZ] <;> omega) | fail) only [↓RBp, ↓RA, ↓reduceIte, Nat.reduceAdd, Nat.reduceMul, Nat.reduceEqDiff, RB, RBr, RW, RS, RA2]
      apply hE
      · exact ⟨1, Y2, _, rfl, by omega, h2.ext e3, hT2, hv2.ext e3, ov2, by have := hA.exe; omega, fun h => by omega, fun _ => hTk, fun h => by omega⟩
      · simp [Go.RowKit.intOf]
    · have hF := i1 rfl
      obtain ⟨ws, hw, hwl⟩ := drop_act hF hp hk
      have hA := h1.acts hF.1 ha.2 hw
      have hDr := dropped hk hF hA
      unfold f8_l3_t
      simp (disch := first | omega | simp only [RO] | (simp only [RZ] <;> omega) | fail) only [↓RBp, ↓RA, ↓reduceIte, Nat.reduceAdd, Nat.reduceMul, Nat.reduceEqDiff, RB, RBr, RW, RS, RA2]
      refine st_k6 (h1.ext (by repeat (first | with_reducible refine Ext.setB ?_ (by omega) _ | with_reducible refine Ext.setB ?_ (by simp only [RZ] <;> omega) _ | with_reducible assumption | exact Ext.refl _ | with_reducible refine Ext.alloc ?_ _ | with_reducible refine Ext.drew ?_ | with_reducible refine Ext.trans ?_ (by assumption)))) hF.1 hT1 ha.2 hw (by omega) (by omega) (by simp) (by simp) (by simp) _ _ _ (m := w1.heap.size + 3) (RdS.nil _ _) (RdS.nil _ _) ⟨some ⟨w1.heap.size + 2, 0, none⟩, 1, rfl, .inr ⟨_, _, rfl, by omega, ?_⟩⟩ (hv1.ext (by repeat (first | with_reducible refine Ext.setB ?_ (by omega) _ | with_reducible refine Ext.setB ?_ (by simp only [RZ] <;> omega) _ | with_reducible assumption | exact Ext.refl _ | with_reducible refine Ext.alloc ?_ _ | with_reducible refine Ext.drew ?_ | with_reducible refine Ext.trans ?_ (by assumption)))) ov1 _ _ _ (fun w2 Y2 h2 hT2 hv2 ov2 => ?_)
      · intro j u hj
        obtain ⟨rfl, rfl⟩ := one_get hj
        simp (disch := first | omega | simp only [RO] | (simp only [RZ] <;> omega) | fail) only [↓RBp, ↓RA, ↓reduceIte, Nat.reduceAdd, Nat.reduceMul, Nat.reduceEqDiff, RB, RBr, RW, RS, RA2]
      refine st_k7 h2 hp hk gi hgi 1 (.inr ⟨rfl, fun hlv => ?_⟩) hv2 hl (hbq _ (.inr hDr.2.1)) _ (fun w3 e3 => ?_)
      · have := hlv.2.2.1; rw [hDr.2.1] at this; unfold freS at this; split at this <;> omega
      rw [f8_k5_eq]
      unfold f8_k5_t
      simp (disch := first | omega | simp only [RO] | (simp only [RZ] <;> omega) | fail) only [↓RBp, ↓RA, ↓reduceIte, Nat.reduceAdd, Nat.reduceMul, Nat.reduceEqDiff, RB, RBr, RW, RS, RA2]
      apply hE
      · exact ⟨2, Y2, _, rfl, by omega, h2.ext e3, hT2, hv2.ext e3, ov2, by have := hA.exe; omega, fun h => by omega, fun h => by omega, fun _ => hDr⟩
      · simp [Go.RowKit.intOf]
    · unfold f8_l3_t
      simp (disch := first | omega | simp only [RO] | (simp only [RZ] <;> omega) | fail) only [↓RBp, ↓RA, ↓reduceIte, Nat.reduceAdd, Nat.reduceMul, Nat.reduceEqDiff, RB, RBr, RW, RS, RA2]
      exact H _ _ _ h1 hT1 (i2 rfl) (by omega) hv1 ov1
def stPs (off g0 r : Nat) : List Nat := (List.range r).map fun i => ptrN off (g0 + i) 64
theorem stPs_len (off g0 r : Nat) : (stPs off g0 r).length = r := by simp [stPs]
theorem stPs_snoc (off g0 r : Nat) : stPs off g0 (r + 1) = stPs off g0 r ++ [ptrN off (g0 + r) 64] := by simp [stPs, List.range_succ]
theorem stPs_mem {off g0 r q : Nat} (h : q ∈ stPs off g0 r) : ∃ g', g' < g0 + r ∧ q = ptrN off g' 64 := by
  obtain ⟨i, hi, rfl⟩ := List.mem_map.1 h
  rw [List.mem_range] at hi
  exact ⟨g0 + i, by omega, rfl⟩
end
section
variable {w0 w w' : World} {Y Y' : Lay} {D D' : DS} {B l k : Nat} {c o : Int} {g : Nat} {K : K1} {E1 : VP2} {v x49 x50 : Value} {ps : List Nat}
theorem st_k4 (h : Loc w0 w Y D B l c o g) (P : Nat) (x9 x10 : Value) (hv : SlO w 103 1 v ps.length (ptL ps)) (ov : Out w0 Y B v) (hl : ps.length < 1000) (r : Nat) (hr : r < 1000)
    (H : ∀ v' w', Loc w0 w' Y D B l c o g → SlO w' 103 1 v' (ps.length + 1) (ptL (ps ++ [P])) → Out w0 Y B v' → E1 v' (.int .i64 ((r + 1 : Nat) : Int)) w') :
    f8_k4 K E1 (.pointer (some ⟨B, 0, none⟩)) x9 x10 v (u64 P) x49 (.int .i64 (r : Int)) w := by
  have nt : ¬ Y.F w.heap.size := fun hf => by have := h.L.dv.lt hf; omega
  have hB := h.ltB
  have h1 : Loc w0 (w.alloc (.cells #[u64 P] 103)) Y D B l c o g := h.ext (Ext.alloc_self _ _)
  have hF : ∀ b, Y.F b → b < w.heap.size := fun b hb => h.L.dv.lt hb
  obtain ⟨pa, pc, rfl, hpc⟩ := hv.isS'
  rw [f8_k4_eq]
  unfold f8_k4_t
  simp (disch := first | omega | simp only [RO] | (simp only [RZ] <;> omega) | fail) only [↓RBp, ↓RA, ↓reduceIte, Nat.reduceAdd, Nat.reduceMul, Nat.reduceEqDiff, RB, RBr, RW, RS, RA2]
  refine app_new elPtr (w0 := w0) (hv.ext (by repeat (first | with_reducible refine Ext.setB ?_ (by omega) _ | with_reducible refine Ext.setB ?_ (by simp only [RZ] <;> omega) _ | with_reducible assumption | exact Ext.refl _ | with_reducible refine Ext.alloc ?_ _ | with_reducible refine Ext.drew ?_ | with_reducible refine Ext.trans ?_ (by assumption)))) (Frm.of_ext (h.L.ex.trans (by repeat (first | with_reducible refine Ext.setB ?_ (by omega) _ | with_reducible refine Ext.setB ?_ (by simp only [RZ] <;> omega) _ | with_reducible assumption | exact Ext.refl _ | with_reducible refine Ext.alloc ?_ _ | with_reducible refine Ext.drew ?_ | with_reducible refine Ext.trans ?_ (by assumption))))) (fun b hb => (ov b hb).1) (m := 1) (news := [u64 P]) rfl ?_ rfl (by omega) (by omega) (by omega) (fun v' w4 hsp hf4 n4 hfr4 hb4 => ?_)
  · intro j u hj
    obtain ⟨rfl, rfl⟩ := one_get hj
    simp (disch := first | omega | simp only [RO] | (simp only [RZ] <;> omega) | fail) only [↓RBp, ↓RA, ↓reduceIte, Nat.reduceAdd, Nat.reduceMul, Nat.reduceEqDiff, RB, RBr, RW, RS, RA2]
  have h4 := h1.frm hfr4 (fun b hb => ov b hb)
  rw [f8_k2_eq]
  unfold f8_k2_t
  simp (disch := first | omega | simp only [RO] | (simp only [RZ] <;> omega) | fail) only [↓RBp, ↓RA, ↓reduceIte, Nat.reduceAdd, Nat.reduceMul, Nat.reduceEqDiff, RB, RBr, RW, RS, RA2]
  refine H _ _ h4 (by rw [ptL, List.map_append]; exact hsp) (fun b hb => ?_)
  rcases hb4 b hb with e | e
  · exact ov b e
  · rw [size_alloc] at e
    exact ⟨n4 b hb, fun hf => by have := hF b hf; omega, by omega⟩
theorem st_l1 (h : Loc w0 w Y D B l c o g) (hp : perS c ≤ 64) (hk : (k : Int) < perS c) {T : Nat} (hT : Y.tb 0 = T) (g0 : Nat) (hg0 : g0 < 65536) (hf : FreeAt D l c o k g0) (hx : D.exe ≤ 400) (N : Nat) (hN : N ≤ 20) (hK : ∀ w', Ext w0 w' → K (.bool true) w') :
    f8_l1 K (.pointer (some ⟨B, 0, none⟩)) (.pointer (some ⟨T, 0, none⟩)) (.int .i64 (k : Int)) (.slice none 0 0) (.int .i64 (N : Int)) (.int .i64 0) w := by
  have hL := h.L.gd.n
  have hlt := h.lt
  have hpo := pOff_bd (l := l) (c := c) (i := k) (by omega) h.c0 h.c5 hk
  apply f8_l1_rule (I := fun x z w' => ∃ (r : Nat) (Y' : Lay) (D' : DS), z = .int .i64 (r : Int) ∧ r ≤ N ∧ Loc w0 w' Y' D' B l c o g ∧ Y'.tb 0 = T ∧ SlO w' 103 1 x r (ptL (stPs (pOff l c k) g0 r)) ∧ Out w0 Y' B x ∧ D'.exe ≤ 400 + 4 * r ∧ ((g0 + r < 65536 ∧ FreeAt D' l c o k (g0 + r)) ∨ (0 < r ∧ g0 + r = 65536 ∧ Snd D' l c o ∧ bS (wd D' l (offN c k)) = 178))) (μ := fun _ z _ => N - (Go.RowKit.intOf z).toNat)
  · exact ⟨0, Y, D, rfl, by omega, h, hT, SlO.nil _ _ _, Out.nil _ _ _, by omega, .inl ⟨by omega, hf⟩⟩
  · intros; rename_i x11 x50 w1 hI E1 hE
    obtain ⟨r, Y1, D1, rfl, hr, h1, hT1, hv1, ov1, hx1, hst⟩ := hI
    have hln := stPs_len (pOff l c k) g0 r
    have ob4 := h1.cells; have c0 := ob4.1; have c1 := ob4.2.1; have c2 := ob4.2.2.1; have c3 := ob4.2.2.2.1; have c4 := ob4.2.2.2.2
    by_cases hrN : r < N
    · rcases hst with ⟨hgr, hF⟩ | ⟨hr0, hgr, hS, hb⟩
      · have hsb := hF.1.sndB h.c0 h.c5 k hk
        have hPt : ∀ (w1 : World) (K : K1), Loc w0 w1 Y1 D1 B l c o g → (∀ w', Ext w1 w' → K (pE (ptrN (pOff l c k) (g0 + r) 64) 0) w') → callS Tryz.prog 55 #[chV Y1 l c o g, .int .i64 (k : Int), .int .u8 ((64 : Nat) : Int)] w1 K := fun w1 K x hk2 => by
          refine k_Pointer x.cx x.on.err o g k 64 (by omega) K (fun h => absurd ⟨by omega, hk⟩ h) (fun j hj hp1 hn1 => ?_) (fun j hj hp1 hn1 hs => ?_) (fun j hj hp1 hn1 hs => ?_) (fun j hj hp1 hn1 hs hk => ?_) (fun j hj hp1 hn1 hs hk0 hk1 => ?_)
          all_goals obtain rfl : k = j := by omega
          · exact absurd hsb hn1
          · rw [hF.2.1] at hs; omega
          · rw [hF.2.1] at hs; omega
          · omega
          · rw [hF.2.2]; exact hk2
        have hptr := ptr_bd (pOff l c k) (g0 + r) 64 hpo.2.1 hgr (by omega) hpo.2.2 hpo.1
        have hptG := pG_ptr (pOff l c k) (g0 + r) 64 hpo.2.1 hgr
        have hne : ∀ q ∈ stPs (pOff l c k) g0 r, q < 18446744073709551616 ∧ q ≠ ptrN (pOff l c k) (g0 + r) 64 := by
          intro q hq
          obtain ⟨g', hg', rfl⟩ := stPs_mem hq
          have h2 := ptr_bd (pOff l c k) g' 64 hpo.2.1 (by omega) (by omega) hpo.2.2 hpo.1
          refine ⟨by omega, fun e => ?_⟩
          have h3 := pG_ptr (pOff l c k) g' 64 hpo.2.1 (by omega)
          rw [e, hptG] at h3; omega
        have tail : ∀ w2, Loc w0 w2 Y1 D1 B l c o g → SlO w2 103 1 x11 r (ptL (stPs (pOff l c k) g0 r)) → f8_l2 K E1 (.pointer (some ⟨B, 0, none⟩)) (.pointer (some ⟨T, 0, none⟩)) (.int .i64 (k : Int)) x11 (u64 (ptrN (pOff l c k) (g0 + r) 64)) (.int .i64 (N : Int)) (.int .i64 (r : Int)) x11 (.int .i64 (r : Int)) (.int .i64 0) w2 := by
          intro w2 h2 hv2
          have hv2' : SlO w2 103 1 x11 (stPs (pOff l c k) g0 r).length (ptL (stPs (pOff l c k) g0 r)) := by rw [hln]; exact hv2
          have := st_l2 (K := K) (E1 := E1) (x49 := .int .i64 (N : Int)) (x50 := .int .i64 (r : Int)) hv2' (by omega) (fun q hq => (hne q hq).1) (ptrN (pOff l c k) (g0 + r) 64) (by omega) (fun q hq => (hne q hq).2) (.pointer (some ⟨B, 0, none⟩)) (.pointer (some ⟨T, 0, none⟩)) (.int .i64 (k : Int)) ?_
          · rw [hln] at this; exact this
          rw [f8_k3_eq]
          unfold f8_k3_t
          refine st_l3 h2 hT1 hp hk (g0 + r) hgr hF (by omega) hv2' ov1 (by omega) (fun q hq => stPs_mem hq) (fun w3 Y3 D3 h3 hT3 hD3 hx3 hv3 ov3 => ?_)
          refine st_k4 h3 _ _ _ hv3 ov3 (by omega) r (by omega) (fun v4 w4 h4 hv4 ov4 => ?_)
          rw [hln, ← stPs_snoc] at hv4
          apply hE
          · refine ⟨r + 1, Y3, D3, rfl, by omega, h4, hT3, hv4, ov4, by omega, ?_⟩
            obtain ⟨hS3, hb3, hg3⟩ := hD3
            unfold freS at hb3; unfold freG at hg3
            by_cases he : g0 + r = 65535
            · rw [if_pos he] at hb3
              exact .inr ⟨by omega, by omega, hS3, hb3⟩
            · rw [if_neg he] at hb3 hg3
              exact .inl ⟨by omega, hS3, hb3, hg3⟩
          · simp [Go.RowKit.intOf]; omega
        obtain ⟨pa, pc, rfl, hpc⟩ := hv1.isS'
        generalize ptrN (pOff l c k) (g0 + r) 64 = P at *
        unfold f8_l1_t
        simp (disch := first | omega | simp only [RO] | (simp only [RZ] <;> omega) | fail) only [↓RBp, ↓RA, ↓reduceIte, Nat.reduceAdd, Nat.reduceMul, Nat.reduceEqDiff, RB, RBr, RW, RS, RA2, c0, c1, c2, c3, c4]
        refine hPt _ _ h1 (fun w2 e2 => ?_)
        simp (disch := first | omega | simp only [RO] | (simp only [RZ] <;> omega) | fail) only [↓RBp, ↓RA, ↓reduceIte, Nat.reduceAdd, Nat.reduceMul, Nat.reduceEqDiff, RB, RBr, RW, RS, RA2]
        exact tail _ (h1.ext e2) (hv1.ext e2)
      · have hsb := hS.sndB h.c0 h.c5 k hk
        have hPt : ∀ (w1 : World) (K : K1), Loc w0 w1 Y1 D1 B l c o g → (∀ w', Ext w1 w' → K (pE 0 12) w') → callS Tryz.prog 55 #[chV Y1 l c o g, .int .i64 (k : Int), .int .u8 ((64 : Nat) : Int)] w1 K := fun w1 K x hk2 => by
          refine k_Pointer x.cx x.on.err o g k 64 (by omega) K (fun h => absurd ⟨by omega, hk⟩ h) (fun j hj hp1 hn1 => ?_) (fun j hj hp1 hn1 hs => ?_) (fun j hj hp1 hn1 hs => ?_) (fun j hj hp1 hn1 hs hk => ?_) (fun j hj hp1 hn1 hs hk0 hk1 => ?_)
          all_goals obtain rfl : k = j := by omega
          · exact absurd hsb hn1
          · exact hk2
          · rw [hb] at hs; omega
          · rw [hb] at hs; omega
          · rw [hb] at hs; omega
        have hmk : mkB D1 l c (k : Int) 178 = true := by
          have hbt := hS.bit k (by omega)
          rw [decide_eq_true hk, hb] at hbt
          unfold mkB
          rw [Int.toNat_natCast, decide_eq_true (show 0 ≤ (k : Int) ∧ (k : Int) < perS c from ⟨by omega, hk⟩), hS.sl k hk, hbt, hb]; rfl
        have hlast : (stPs (pOff l c k) g0 r)[r - 1]? = some (ptrN (pOff l c k) 65535 64) := by
          unfold stPs
          rw [List.getElem?_map, List.getElem?_range (by omega), Option.map_some]
          rw [show g0 + (r - 1) = 65535 by omega]
        have hptG := pG_ptr (pOff l c k) 65535 64 hpo.2.1 (by omega)
        have hptr := ptr_bd (pOff l c k) 65535 64 hpo.2.1 (by omega) (by omega) hpo.2.2 hpo.1
        generalize ptrN (pOff l c k) 65535 64 = P at *
        obtain ⟨b, ob, cap, rfl, _⟩ := hv1.isS (by omega)
        have hcell := hv1.cell rfl (i := r - 1) (u := u64 P) (by rw [ptL, List.getElem?_map, hlast]; rfl)
        have hr1 : ((r : Int) - 1) = ((r - 1 : Nat) : Int) := by omega
        have hPG := fun (w : World) (K : K1) => c_PGen P w K (by omega)
        rw [hptG] at hPG
        unfold f8_l1_t
        simp (disch := first | omega | simp only [RO] | (simp only [RZ] <;> omega) | fail) only [↓RBp, ↓RA, ↓reduceIte, Nat.reduceAdd, Nat.reduceMul, Nat.reduceEqDiff, RB, RBr, RW, RS, RA2, c0, c1, c2, c3, c4]
        refine hPt _ _ h1 (fun w2 e2 => ?_)
        have h2 := h1.ext e2
        have ob5 := h2.cells; have d0 := ob5.1; have d1 := ob5.2.1; have d2 := ob5.2.2.1; have d3 := ob5.2.2.2.1; have d4 := ob5.2.2.2.2
        have hcell2 := e2.cell_some hcell
        simp (disch := first | omega | simp only [RO] | (simp only [RZ] <;> omega) | fail) only [↓RBp, ↓RA, ↓reduceIte, Nat.reduceAdd, Nat.reduceMul, Nat.reduceEqDiff, RB, RBr, RW, RS, RA2, d0, d1, d2, d3, d4]
        refine k_Spent h2.cx o g (k : Int) _ (fun w3 e3 => ?_)
        have hcell3 := e3.cell_some hcell2
        rw [hmk]
        simp (disch := first | omega | simp only [RO] | (simp only [RZ] <;> omega) | fail) only [↓RBp, ↓RA, ↓reduceIte, Nat.reduceAdd, Nat.reduceMul, Nat.reduceEqDiff, RB, RBr, RW, RS, RA2, hr1, hcell3, hPG]
        exact hK _ (h2.L.ex.trans e3)
    · unfold f8_l1_t
      simp (disch := first | omega | simp only [RO] | (simp only [RZ] <;> omega) | fail) only [↓RBp, ↓RA, ↓reduceIte, Nat.reduceAdd, Nat.reduceMul, Nat.reduceEqDiff, RB, RBr, RW, RS, RA2, f8_k1_eq, f8_k1_t]
      exact hK _ h1.L.ex
end
section
variable {w w' : World}
theorem law_stale (hG : Glob w) (a b c g : Nat) (ha : a < 256) (hb : b < 256) (hc : c < 256) (hg : g < 65536) (i u : Nat) (hi : i < 256) (hu : u < 256) (K : K1) (hK : ∀ w', Ext w w' → K (.bool true) w') :
    callS Tryz.prog 8 #[fmV a b c g, .int .u8 (i : Int), .int .u8 (u : Int)] w K := by
  have l8 : a % 9 ≤ 8 := by omega
  have c0 : (0 : Int) ≤ ((b % 5 : Nat) : Int) := by omega
  have c5 : ((b % 5 : Nat) : Int) < 5 := by omega
  have o0 : (0 : Int) ≤ ((c % 8 : Nat) : Int) := by omega
  have o8 : ((c % 8 : Nat) : Int) < 8 := by omega
  have hgn : genN g ≠ 0 ∧ genN g < 65536 := by unfold genN; split <;> omega
  have hfo := fun (w : World) (hG : Glob w) (K : K1) hK => k_fopen hG a b c g ha hb hc hg K hK
  have hhe := fun w1 K => c_fheader a b c g hb hc hg w1 K
  generalize genN g = gg at *
  generalize a % 9 = ll at *
  generalize ((b % 5 : Nat) : Int) = cc at *
  generalize ((c % 8 : Nat) : Int) = oo at *
  have hone := opened_on l8 c0 c5 o0 o8 hgn.2
  have hexe := (opened_exe l8 c0 c5 oo gg).1
  have hsnd := opened_snd l8 c0 c5 o0 o8 hgn.1 hgn.2
  have hn := opened_n ll cc oo gg
  have hp := perS_in c0 c5
  obtain ⟨n, hnp⟩ : ∃ n : Nat, perS cc = (n : Int) := ⟨(perS cc).toNat, by omega⟩
  have hkn : i % n < n := Nat.mod_lt _ (by omega)
  have hat := fmt_at l8 c0 c5 o0 o8 hgn.2 (i % n) (by omega)
  have hfree : FreeAt (DS.opened ll cc oo gg) ll cc oo (i % n) gg := by
    refine ⟨hsnd, ?_, ?_⟩
    · rw [hat]; exact bS_blk hgn.2 (by omega) (by omega)
    · rw [hat]; exact bG_blk hgn.2 (by omega) (by omega)
  have hrp := c_rPer cc
  rw [hnp] at hrp
  have e1 : ((i : Int) % (n : Int)) = ((i % n : Nat) : Int) := by omega
  have e2 : ((u : Int) % 20) = ((u % 20 : Nat) : Int) := by omega
  have e3 : (1 + ((u % 20 : Nat) : Int)) = ((1 + u % 20 : Nat) : Int) := by omega
  have hN : 1 + u % 20 ≤ 20 := by omega
  generalize DS.opened ll cc oo gg = D at *
  refine f8_call _ _ _ _ _ ?_
  unfold f8_t
  simp (disch := first | omega | simp only [RO] | (simp only [RZ] <;> omega) | fail) only [↓RBp, ↓RA, ↓reduceIte, Nat.reduceAdd, Nat.reduceMul, Nat.reduceEqDiff, RB, RBr, RW, RS, RA2]
  refine k_awake (hG.ext (by repeat (first | with_reducible refine Ext.setB ?_ (by omega) _ | with_reducible refine Ext.setB ?_ (by simp only [RZ] <;> omega) _ | with_reducible assumption | exact Ext.refl _ | with_reducible refine Ext.alloc ?_ _ | with_reducible refine Ext.drew ?_ | with_reducible refine Ext.trans ?_ (by assumption)))) _ (fun w1 he1 => ?_)
  have eA : Ext (w.alloc (fmO a b c g)) w1 := he1
  have e01 : Ext w w1 := (Ext.alloc_self _ _).trans eA
  have ob6 := fmCells eA; have q0 := ob6.1; have q1 := ob6.2.1; have q2 := ob6.2.2.1; have q3 := ob6.2.2.2
  have lt1 : w.heap.size < w1.heap.size := lt_of_cell q0
  simp (disch := first | omega | simp only [RO] | (simp only [RZ] <;> omega) | fail) only [↓RBp, ↓RA, ↓reduceIte, Nat.reduceAdd, Nat.reduceMul, Nat.reduceEqDiff, RB, RBr, RW, RS, RA2, q0, q1, q2, q3]
  refine hfo _ (hG.ext e01) _ (fun w2 Y L2 => ?_)
  have eB := eA.trans L2.ex
  have ob7 := fmCells eB; have r0 := ob7.1; have r1 := ob7.2.1; have r2 := ob7.2.2.1; have r3 := ob7.2.2.2
  have lt2 : w.heap.size < w2.heap.size := lt_of_cell r0
  have nt : ¬ Y.F w2.heap.size := fun hf => by have := L2.dv.lt hf; omega
  have hloc : Loc w1 (w2.alloc (chO Y ll cc oo gg)) Y D w2.heap.size ll cc oo gg := ⟨L2.ext (Ext.alloc_self _ _), Cells.new w2 [Value.iface 48 (.pointer (some ⟨Y.tb 0, 0, none⟩)), .int .i64 (ll : Int), .int .i64 cc, .int .i64 oo, .int .u16 (gg : Int)] 58, nt, hone.1, by omega, hG.ext e01, c0, c5⟩
  simp (disch := first | omega | simp only [RO] | (simp only [RZ] <;> omega) | fail) only [↓RBp, ↓RA, ↓reduceIte, Nat.reduceAdd, Nat.reduceMul, Nat.reduceEqDiff, RB, RBr, RW, RS, RA2, r0, r1, r2, r3, hhe, hrp, e1, e2, e3]
  refine st_l1 (hloc.ext (by repeat (first | with_reducible refine Ext.setB ?_ (by omega) _ | with_reducible refine Ext.setB ?_ (by simp only [RZ] <;> omega) _ | with_reducible assumption | exact Ext.refl _ | with_reducible refine Ext.alloc ?_ _ | with_reducible refine Ext.drew ?_ | with_reducible refine Ext.trans ?_ (by assumption)))) (by omega) (by omega) rfl gg hgn.2 hfree hexe _ hN (fun w' e => hK w' (e01.trans e))
end
end Go.Proofs.YtaeopkhdokaaoaaGreatDoor
