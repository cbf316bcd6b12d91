/-
  Part 5 of what the proofs of this seat share.
-/
import Derived.Test.YtifpinhjpbgnoaaGreatDoorBo1
import Derived.Test.YtifpinhjpbgnoaaGreatDoorBo4
namespace Go.Proofs.YtifpinhjpbgnoaaGreatDoor
open Go Go.Sh
set_option maxRecDepth 100000
set_option linter.unusedVariables false
def f8_t (K : K1) (w : World) : Prop :=
 callS Tryz.prog 9 (pA #[(.int .i64 2)]) w fun t13 w_1 =>
 ev Tryz.prog (Instr.extract t13 0) w_1 fun t14 w_2 =>
 ev Tryz.prog (Instr.extract t13 1) w_2 fun t15 w_3 =>
 ev Tryz.prog (Instr.extract t13 2) w_3 fun t16 w_4 =>
 ev Tryz.prog (binM .eql 26 (.tmp 17) (.const (.pointer none)) t16 (.pointer none)) w_4 fun t18 w_5 =>
 cndS t18 (
 K (.bool false) w_5) (
 callS Tryz.prog 22 (pA #[t16, (.int .i64 3), (.int .i64 0)]) w_5 fun t21 w_6 =>
 ev Tryz.prog (Instr.extract t21 0) w_6 fun t22 w_7 =>
 ev Tryz.prog (Instr.extract t21 1) w_7 fun t23 w_8 =>
 callS Tryz.prog 22 (pA #[t16, (.int .i64 5), (.int .i64 0)]) w_8 fun t26 w_9 =>
 ev Tryz.prog (Instr.extract t26 0) w_9 fun t27 w_10 =>
 ev Tryz.prog (Instr.extract t26 1) w_10 fun t28 w_11 =>
 callS Tryz.prog 37 (pA #[t16, (.int .i64 3)]) w_11 fun t30 w_12 =>
 callS Tryz.prog 29 (pA #[t16]) w_12 fun t32 w_13 =>
 callS Tryz.prog 22 (pA #[t16, (.int .i64 3), (.int .i64 1)]) w_13 fun t35 w_14 =>
 ev Tryz.prog (Instr.extract t35 0) w_14 fun t36 w_15 =>
 ev Tryz.prog (Instr.extract t35 1) w_15 fun t37 w_16 =>
 ev Tryz.prog (binM .eql 43 (.tmp 38) (.const (.int .i64 0)) t23 (.int .i64 0)) w_16 fun t39 w_17 =>
 gd t39 true (fun k => k t28 w_17) w_17 fun t41 w_18 =>
 gd t39 true (fun k => ev Tryz.prog (binM .eql 43 (.tmp 41) (.const (.int .i64 0)) t41 (.int .i64 0)) w_18 k) w_18 fun t42 w_19 =>
 pickS t39 t42 (.bool false) w_19 fun t43 w_20 =>
 gd t43 true (fun k => k t37 w_20) w_20 fun t45 w_21 =>
 gd t43 true (fun k => ev Tryz.prog (binM .eql 43 (.tmp 45) (.const (.int .i64 0)) t45 (.int .i64 0)) w_21 k) w_21 fun t46 w_22 =>
 pickS t43 t46 (.bool false) w_22 fun t47 w_23 =>
 gd t47 true (fun k => k t22 w_23) w_23 fun t49 w_24 =>
 gd t47 true (fun k => ev Tryz.prog (binM .eql 3 (.tmp 49) (.const (.int .i64 3)) t49 (.int .i64 3)) w_24 k) w_24 fun t50 w_25 =>
 pickS t47 t50 (.bool false) w_25 fun t51 w_26 =>
 gd t51 true (fun k => k t27 w_26) w_26 fun t53 w_27 =>
 gd t51 true (fun k => ev Tryz.prog (binM .eql 3 (.tmp 53) (.const (.int .i64 35)) t53 (.int .i64 35)) w_27 k) w_27 fun t54 w_28 =>
 pickS t51 t54 (.bool false) w_28 fun t55 w_29 =>
 gd t55 true (fun k => k t30 w_29) w_29 fun t57 w_30 =>
 gd t55 true (fun k => ev Tryz.prog (binM .eql 3 (.tmp 57) (.const (.int .i64 3)) t57 (.int .i64 3)) w_30 k) w_30 fun t58 w_31 =>
 pickS t55 t58 (.bool false) w_31 fun t59 w_32 =>
 gd t59 true (fun k => k t32 w_32) w_32 fun t61 w_33 =>
 gd t59 true (fun k => ev Tryz.prog (binM .eql 3 (.tmp 61) (.const (.int .i64 0)) t61 (.int .i64 0)) w_33 k) w_33 fun t62 w_34 =>
 pickS t59 t62 (.bool false) w_34 fun t63 w_35 =>
 gd t63 true (fun k => k t36 w_35) w_35 fun t65 w_36 =>
 gd t63 true (fun k => ev Tryz.prog (binM .eql 3 (.tmp 65) (.const (.int .i64 3)) t65 (.int .i64 3)) w_36 k) w_36 fun t66 w_37 =>
 pickS t63 t66 (.bool false) w_37 fun t67 w_38 =>
 K t67 w_38)
theorem f8_call (K : K1) (w : World) (h : f8_t K w) : callS Tryz.prog 8 #[] w K :=
  call_of_txt (args := []) mixed Tryz.func8 .o (by kernel_rfl) (cast (by kernel_rfl) h)
def f9_t (x0 : Value) (K : K1) (w : World) : Prop :=
 ev Tryz.prog (binM .mul 3 (.const (.int .i64 32)) (.tmp 10) (.int .i64 32) x0) w fun t11 w_1 =>
 ev Tryz.prog (binM .add 3 (.tmp 11) (.const (.int .i64 5)) t11 (.int .i64 5)) w_1 fun t12 w_2 =>
 callS Tryz.prog 38 (pA #[t12]) w_2 fun t13 w_3 =>
 ev Tryz.prog (Instr.extract t13 0) w_3 fun t14 w_4 =>
 ev Tryz.prog (Instr.extract t13 1) w_4 fun t15 w_5 =>
 ev Tryz.prog (binM .neq 43 (.tmp 16) (.const (.int .i64 0)) t15 (.int .i64 0)) w_5 fun t17 w_6 =>
 gd t17 false (fun k => k t14 w_6) w_6 fun t19 w_7 =>
 gd t17 false (fun k => ev Tryz.prog (binM .eql 24 (.tmp 19) (.const (.pointer none)) t19 (.pointer none)) w_7 k) w_7 fun t20 w_8 =>
 pickS t17 (.bool true) t20 w_8 fun t21 w_9 =>
 gd t21 false (fun k => k t14 w_9) w_9 fun t23 w_10 =>
 gd t21 false (fun k => callS Tryz.prog 21 (pA #[t23, (.int .i64 0)]) w_10 k) w_10 fun t24 w_11 =>
 gd t21 false (fun k => ev Tryz.prog (binM .eql 25 (.tmp 24) (.const (.pointer none)) t24 (.pointer none)) w_11 k) w_11 fun t25 w_12 =>
 pickS t21 (.bool true) t25 w_12 fun t26 w_13 =>
 cndS t26 (
 K (.tuple #[(.pointer none), (.pointer none), (.pointer none)]) w_13) (
 callS Tryz.prog 21 (pA #[t14, (.int .i64 0)]) w_13 fun t28 w_14 =>
 ev Tryz.prog (Instr.makeInterface 25 t28) w_14 fun t30 w_15 =>
 ev Tryz.prog (binM .mul 3 (.const (.int .i64 32)) (.tmp 31) (.int .i64 32) x0) w_15 fun t32 w_16 =>
 ev Tryz.prog (binM .add 3 (.tmp 32) (.const (.int .i64 1)) t32 (.int .i64 1)) w_16 fun t33 w_17 =>
 callS Tryz.prog 39 (pA #[t30, (.int .i64 3), t33]) w_17 fun t34 w_18 =>
 ev Tryz.prog (binM .neq 43 (.tmp 34) (.const (.int .i64 0)) t34 (.int .i64 0)) w_18 fun t35 w_19 =>
 cndS t35 (
 K (.tuple #[(.pointer none), (.pointer none), (.pointer none)]) w_19) (
 ev Tryz.prog (Instr.makeInterface 25 t28) w_19 fun t38 w_20 =>
 ev Tryz.prog (binM .mul 3 (.const (.int .i64 32)) (.tmp 39) (.int .i64 32) x0) w_20 fun t40 w_21 =>
 ev Tryz.prog (binM .add 3 (.tmp 40) (.const (.int .i64 1)) t40 (.int .i64 1)) w_21 fun t41 w_22 =>
 callS Tryz.prog 14 (pA #[t38, (.int .i64 3), t41]) w_22 fun t42 w_23 =>
 ev Tryz.prog (Instr.extract t42 0) w_23 fun t43 w_24 =>
 ev Tryz.prog (Instr.extract t42 1) w_24 fun t44 w_25 =>
 ev Tryz.prog (binM .neq 43 (.tmp 45) (.const (.int .i64 0)) t44 (.int .i64 0)) w_25 fun t46 w_26 =>
 cndS t46 (
 K (.tuple #[(.pointer none), (.pointer none), (.pointer none)]) w_26) (
 K (.tuple #[t14, t28, t43]) w_26)))
theorem f9_call (x0 : Value) (K : K1) (w : World) (h : f9_t x0 K w) : callS Tryz.prog 9 #[x0] w K :=
  call_of_txt (args := [x0]) mixed Tryz.func9 .o (by kernel_rfl) (cast (by kernel_rfl) h)
noncomputable def f13_u : Code × Dec := ((Tryz.f13.body).getD .skip, (.s .o (.s .o (.x 32 (.s .o (.b (.l [5, 7] 3 8388576 .o))) .o))))
abbrev f13_e (K : K1) : KF := endK Tryz.prog Tryz.f13.results.toList K
def f13_k1_o (K : K1) : KF := fun fr w => ∀ σ, cP (pr (pr (pr f13_u))) (f13_e K) (f13_e K) nX (mixF 32 σ 0 fr) w
def f13_k1 (K : K1) (x5 : Value) (w : World) : Prop := f13_k1_o K (fz 24 0 [(5, x5)]) w
def f13_l1 (K : K1) (x0 x1 x5 x7 : Value) (w : World) : Prop := loopT [5, 7] 3 (fun E => cP (pl (pl (pr (pl (pr (pr f13_u)))))) E (f13_e K) (exB 0 (f13_k1_o K) nX)) (fz 24 0 [(0, x0), (1, x1), (5, x5), (7, x7)]) w
def f13_k1_t (x5 : Value) (K : K1) (w : World) : Prop :=
 K x5 w
theorem f13_k1_eq (K : K1) (x5 : Value) (w : World) : f13_k1 K x5 w = f13_k1_t x5 K w := cutE fun σ => by kernel_rfl
def f13_l1_t (x0 x1 x5 x7 : Value) (K : K1) (E1 : VP2) (w : World) : Prop :=
 ev Tryz.prog (binM .lss 3 (.tmp 7) (.const (.int .i64 256)) x7 (.int .i64 256)) w fun t8 w_1 =>
 cndS t8 (
 ev Tryz.prog (convert 3 30 x1) w_1 fun t13 w_2 =>
 ev Tryz.prog (binM .mul 30 (.const (.int .u64 ((64 : Nat) : Int))) (.tmp 13) (.int .u64 ((64 : Nat) : Int)) t13) w_2 fun t14 w_3 =>
 ev Tryz.prog (convert 3 30 x7) w_3 fun t16 w_4 =>
 ev Tryz.prog (binM .mul 30 (.const (.int .u64 ((8 : Nat) : Int))) (.tmp 16) (.int .u64 ((8 : Nat) : Int)) t16) w_4 fun t17 w_5 =>
 ev Tryz.prog (binM .add 30 (.tmp 14) (.tmp 17) t14 t17) w_5 fun t18 w_6 =>
 callS Tryz.prog 46 (pA #[x0, t18]) w_6 fun t19 w_7 =>
 ev Tryz.prog (Instr.buildSlice 39 1 #[(0, t19)]) w_7 fun t20 w_8 =>
 bltS Tryz.prog .append #[39, 39] 39 #[false, false] (pA #[x5, t20]) w_8 fun t21 w_9 =>
 ev Tryz.prog (binM .add 3 (.tmp 7) (.const (.int .i64 1)) x7 (.int .i64 1)) w_9 fun t22 w_10 =>
 E1 t21 t22 w_10) (
 f13_k1 K x5 w_1)
theorem f13_l1_rule (x0 x1 x5 x7 : Value) (K : K1) (w : World) (I : VP2) (μ : Value → Value → World → Nat) (h0 : I x5 x7 w)
    (hr : ∀ (x5 x7 : Value) (w : World), I x5 x7 w → ∀ E1 : VP2, (∀ (y5 y7 : Value) (w' : World), I y5 y7 w' → μ y5 y7 w' < μ x5 x7 w → E1 y5 y7 w') → f13_l1_t x0 x1 x5 x7 K E1 w) : f13_l1 K x0 x1 x5 x7 w :=
  ⟨I, μ, h0, fun σ w hI E hE => cast (by kernel_rfl) (hr (σ 5) (σ 7) w hI E hE)⟩
def f13_t (x0 x1 : Value) (K : K1) (w : World) : Prop :=
 f13_l1 K x0 x1 (.slice none 0 0) (.int .i64 0) w
theorem f13_call (x0 x1 : Value) (K : K1) (w : World) (h : f13_t x0 x1 K w) : callS Tryz.prog 13 #[x0, x1] w K :=
  call_of_txt (args := [x0, x1]) mixed Tryz.func13 f13_u.2 (by kernel_rfl) (cast (by kernel_rfl) h)
noncomputable def f15_u : Code × Dec := ((Tryz.f15.body).getD .skip, (.s .o (.s .o (.s .o (.x 99 (.s .o (.b (.l [5, 6, 16] 32771 17592185979376 (.s .o (.s .o (.s (.b (.s .o (.s .o (.s .o (.x 98787 .o .o))))) .o)))))) (.x 97 (.s .o (.b (.l [44] 99 77371252455318674995166736 (.s .o (.s .o (.x 17592186044515 (.b (.s .o (.s .o (.b (.l [47] 17592186045027 38685626227527396102257680 (.s .o (.s .o (.x 158329674400355 (.b (.s .o (.s .o (.x 158329674403427 (.s .o (.b (.l [11, 52] 2410129488086627 151115722948229019482112 (.s .o (.s .o (.x 6913729115459171 .o .o)))))) .o)))) .o)))))))) .o)))))) .o))))))
abbrev f15_e (K : K1) : KF := endK Tryz.prog Tryz.f15.results.toList K
def f15_k1_o (K : K1) : KF := fun fr w => ∀ σ, cP (pr (pr (pr (pr f15_u)))) (f15_e K) (f15_e K) nX (mixF 99 σ 0 fr) w
def f15_k1 (K : K1) (x0 x1 x5 x6 : Value) (w : World) : Prop := f15_k1_o K (fz 96 0 [(0, x0), (1, x1), (5, x5), (6, x6)]) w
def f15_l1 (K : K1) (x0 x1 x5 x6 x15 x16 : Value) (w : World) : Prop := loopT [5, 6, 16] 32771 (fun E => cP (pl (pl (pr (pl (pr (pr (pr f15_u))))))) E (f15_e K) (exB 0 (f15_k1_o K) nX)) (fz 96 0 [(0, x0), (1, x1), (5, x5), (6, x6), (15, x15), (16, x16)]) w
def f15_k2_o (K : K1) : KF := fun fr w => ∀ σ, cP (pr (pr (pr (pr (pr f15_u))))) (f15_e K) (f15_e K) nX (mixF 97 σ 0 fr) w
def f15_k2 (K : K1) (x0 x5 x6 : Value) (w : World) : Prop := f15_k2_o K (fz 96 0 [(0, x0), (5, x5), (6, x6)]) w
def f15_l2 (K : K1) (x0 x1 x5 x6 x44 : Value) (w : World) : Prop := loopT [44] 99 (fun E => cP (pl (pl (pr (pl (pr (pr (pr (pr f15_u)))))))) E (f15_e K) (exB 2 (f15_k2_o K) nX)) (fz 96 0 [(0, x0), (1, x1), (5, x5), (6, x6), (44, x44)]) w
def f15_k3_o (K : K1) (E1 : VP3) : KF := fun fr w => ∀ σ, cP (pr (pr (pr (pr (pl (pl (pr (pr (pl (pl (pr (pl (pr (pr (pr f15_u))))))))))))))) (cP (pr (pr (pr (pl (pl (pr (pl (pr (pr (pr f15_u)))))))))) (fun fr w => E1 (sv fr 5) (sv fr 6) (sv fr 16) w) (f15_e K) (exB 0 (f15_k1_o K) nX)) (f15_e K) (exB 1 (cP (pr (pr (pr (pl (pl (pr (pl (pr (pr (pr f15_u)))))))))) (fun fr w => E1 (sv fr 5) (sv fr 6) (sv fr 16) w) (f15_e K) (exB 0 (f15_k1_o K) nX)) (exB 0 (f15_k1_o K) nX)) (mixF 98787 σ 0 fr) w
def f15_k3 (K : K1) (E1 : VP3) (x0 x1 x5 x6 x7 x8 x15 x16 : Value) (w : World) : Prop := f15_k3_o K E1 (fz 96 0 [(0, x0), (1, x1), (5, x5), (6, x6), (7, x7), (8, x8), (15, x15), (16, x16)]) w
def f15_k4_o (K : K1) (E1 : VP1) : KF := fun fr w => ∀ σ, cP (pr (pr (pr (pl (pl (pr (pl (pr (pr (pr (pr f15_u))))))))))) (fun fr w => E1 (sv fr 44) w) (f15_e K) (exB 2 (f15_k2_o K) nX) (mixF 17592186044515 σ 0 fr) w
def f15_k4 (K : K1) (E1 : VP1) (x0 x1 x5 x6 x44 : Value) (w : World) : Prop := f15_k4_o K E1 (fz 96 0 [(0, x0), (1, x1), (5, x5), (6, x6), (44, x44)]) w
def f15_l3 (K : K1) (E1 : VP1) (x0 x1 x5 x6 x9 x44 x47 : Value) (w : World) : Prop := loopT [47] 17592186045027 (fun E => cP (pl (pl (pr (pr (pl (pl (pr (pr (pl (pl (pr (pl (pr (pr (pr (pr f15_u)))))))))))))))) E (f15_e K) (exB 4 (f15_k4_o K E1) (exB 3 (f15_k4_o K E1) (exB 2 (f15_k2_o K) nX)))) (fz 96 0 [(0, x0), (1, x1), (5, x5), (6, x6), (9, x9), (44, x44), (47, x47)]) w
def f15_k5_o (K : K1) (E1 : VP1) (E2 : VP1) : KF := fun fr w => ∀ σ, cP (pr (pr (pr (pl (pl (pr (pr (pl (pl (pr (pr (pl (pl (pr (pl (pr (pr (pr (pr f15_u))))))))))))))))))) (fun fr w => E2 (sv fr 47) w) (f15_e K) (exB 4 (f15_k4_o K E1) (exB 3 (f15_k4_o K E1) (exB 2 (f15_k2_o K) nX))) (mixF 158329674400355 σ 0 fr) w
def f15_k5 (K : K1) (E1 : VP1) (E2 : VP1) (x0 x1 x5 x6 x9 x44 x47 : Value) (w : World) : Prop := f15_k5_o K E1 E2 (fz 96 0 [(0, x0), (1, x1), (5, x5), (6, x6), (9, x9), (44, x44), (47, x47)]) w
def f15_k6_o (K : K1) (E1 : VP1) (E2 : VP1) : KF := fun fr w => ∀ σ, cP (pr (pr (pr (pl (pl (pr (pr (pl (pl (pr (pr (pl (pl (pr (pr (pl (pl (pr (pl (pr (pr (pr (pr f15_u))))))))))))))))))))))) (f15_k5_o K E1 E2) (f15_e K) (exB 5 (f15_k5_o K E1 E2) (exB 4 (f15_k4_o K E1) (exB 3 (f15_k4_o K E1) (exB 2 (f15_k2_o K) nX)))) (mixF 158329674403427 σ 0 fr) w
def f15_k6 (K : K1) (E1 : VP1) (E2 : VP1) (x0 x1 x5 x6 x9 x10 x11 x44 x47 : Value) (w : World) : Prop := f15_k6_o K E1 E2 (fz 96 0 [(0, x0), (1, x1), (5, x5), (6, x6), (9, x9), (10, x10), (11, x11), (44, x44), (47, x47)]) w
def f15_l4 (K : K1) (E1 : VP1) (E2 : VP1) (x0 x1 x5 x6 x9 x10 x11 x44 x47 x51 x52 : Value) (w : World) : Prop := loopT [11, 52] 2410129488086627 (fun E => cP (pl (pl (pr (pl (pr (pr (pl (pl (pr (pr (pl (pl (pr (pr (pl (pl (pr (pr (pl (pl (pr (pl (pr (pr (pr (pr f15_u)))))))))))))))))))))))))) E (f15_e K) (exB 6 (f15_k6_o K E1 E2) (exB 5 (f15_k5_o K E1 E2) (exB 4 (f15_k4_o K E1) (exB 3 (f15_k4_o K E1) (exB 2 (f15_k2_o K) nX)))))) (fz 96 0 [(0, x0), (1, x1), (5, x5), (6, x6), (9, x9), (10, x10), (11, x11), (44, x44), (47, x47), (51, x51), (52, x52)]) w
def f15_k7_o (K : K1) (E1 : VP1) (E2 : VP1) (E3 : VP2) : KF := fun fr w => ∀ σ, cP (pr (pr (pr (pl (pl (pr (pl (pr (pr (pl (pl (pr (pr (pl (pl (pr (pr (pl (pl (pr (pr (pl (pl (pr (pl (pr (pr (pr (pr f15_u))))))))))))))))))))))))))))) (fun fr w => E3 (sv fr 11) (sv fr 52) w) (f15_e K) (exB 6 (f15_k6_o K E1 E2) (exB 5 (f15_k5_o K E1 E2) (exB 4 (f15_k4_o K E1) (exB 3 (f15_k4_o K E1) (exB 2 (f15_k2_o K) nX))))) (mixF 6913729115459171 σ 0 fr) w
def f15_k7 (K : K1) (E1 : VP1) (E2 : VP1) (E3 : VP2) (x0 x1 x5 x6 x9 x10 x11 x44 x47 x51 x52 : Value) (w : World) : Prop := f15_k7_o K E1 E2 E3 (fz 96 0 [(0, x0), (1, x1), (5, x5), (6, x6), (9, x9), (10, x10), (11, x11), (44, x44), (47, x47), (51, x51), (52, x52)]) w
def f15_k1_t (x0 x1 x5 x6 : Value) (K : K1) (w : World) : Prop :=
 f15_l2 K x0 x1 x5 x6 (.int .i64 0) w
theorem f15_k1_eq (K : K1) (x0 x1 x5 x6 : Value) (w : World) : f15_k1 K x0 x1 x5 x6 w = f15_k1_t x0 x1 x5 x6 K w := cutE fun σ => by kernel_rfl
def f15_l1_t (x0 x1 x5 x6 x15 x16 : Value) (K : K1) (E1 : VP3) (w : World) : Prop :=
 ev Tryz.prog (binM .lss 3 (.tmp 16) (.tmp 15) x16 x15) w fun t17 w_1 =>
 cndS t17 (
 ev Tryz.prog (Instr.indexAt 29 x1 x16) w_1 fun t21 w_2 =>
 ldS Tryz.prog 42 t21 w_2 fun t22 w_3 =>
 callS Tryz.prog 49 (pA #[t22]) w_3 fun t23 w_4 =>
 ev Tryz.prog (Instr.alloc 36 true (.tuple #[])) w_4 fun t8 w_5 =>
 stS Tryz.prog 36 t8 t23 w_5 fun w_6 =>
 ev Tryz.prog (binM .mul 3 (.const (.int .i64 32)) (.tmp 25) (.int .i64 32) x16) w_6 fun t26 w_7 =>
 ev Tryz.prog (binM .add 3 (.const (.int .i64 3)) (.tmp 26) (.int .i64 3) t26) w_7 fun t27 w_8 =>
 ev Tryz.prog (Instr.buildSlice 50 1 #[(0, t27)]) w_8 fun t28 w_9 =>
 bltS Tryz.prog .append #[50, 50] 50 #[false, false] (pA #[x5, t28]) w_9 fun t29 w_10 =>
 ev Tryz.prog (Instr.fieldAt 36 t8 0) w_10 fun t30 w_11 =>
 ldS Tryz.prog 3 t30 w_11 fun t31 w_12 =>
 ev Tryz.prog (binM .lss 3 (.tmp 31) (.const (.int .i64 0)) t31 (.int .i64 0)) w_12 fun t32 w_13 =>
 cndS t32 (
 ev Tryz.prog (binM .add 3 (.tmp 33) (.const (.int .i64 1)) x6 (.int .i64 1)) w_13 fun t34 w_14 =>
 f15_k3 K E1 x0 x1 t29 t34 x16 t8 x15 x16 w_14) (
 f15_k3 K E1 x0 x1 t29 x6 x16 t8 x15 x16 w_13)) (
 f15_k1 K x0 x1 x5 x6 w_1)
theorem f15_l1_rule (x0 x1 x5 x6 x15 x16 : Value) (K : K1) (w : World) (I : VP3) (μ : Value → Value → Value → World → Nat) (h0 : I x5 x6 x16 w)
    (hr : ∀ (x5 x6 x16 : Value) (w : World), I x5 x6 x16 w → ∀ E1 : VP3, (∀ (y5 y6 y16 : Value) (w' : World), I y5 y6 y16 w' → μ y5 y6 y16 w' < μ x5 x6 x16 w → E1 y5 y6 y16 w') → f15_l1_t x0 x1 x5 x6 x15 x16 K E1 w) : f15_l1 K x0 x1 x5 x6 x15 x16 w :=
  ⟨I, μ, h0, fun σ w hI E hE => cast (by kernel_rfl) (hr (σ 5) (σ 6) (σ 16) w hI E hE)⟩
def f15_k2_t (x0 x5 x6 : Value) (K : K1) (w : World) : Prop :=
 callS Tryz.prog 29 (pA #[x0]) w fun t87 w_1 =>
 ev Tryz.prog (binM .eql 3 (.tmp 87) (.tmp 88) t87 x6) w_1 fun t89 w_2 =>
 gd t89 true (fun k => k x0 w_2) w_2 fun t91 w_3 =>
 gd t89 true (fun k => callS Tryz.prog 31 (pA #[t91]) w_3 k) w_3 fun t92 w_4 =>
 gd t89 true (fun k => k x5 w_4) w_4 fun t93 w_5 =>
 gd t89 true (fun k => callS Tryz.prog 50 (pA #[t92, t93]) w_5 k) w_5 fun t94 w_6 =>
 pickS t89 t94 (.bool false) w_6 fun t95 w_7 =>
 K t95 w_7
theorem f15_k2_eq (K : K1) (x0 x5 x6 : Value) (w : World) : f15_k2 K x0 x5 x6 w = f15_k2_t x0 x5 x6 K w := cutE fun σ => by kernel_rfl
def f15_l2_t (x0 x1 x5 x6 x44 : Value) (K : K1) (E1 : VP1) (w : World) : Prop :=
 ev Tryz.prog (binM .lss 3 (.tmp 44) (.const (.int .i64 8)) x44 (.int .i64 8)) w fun t45 w_1 =>
 cndS t45 (
 f15_l3 K E1 x0 x1 x5 x6 x44 x44 (.int .i64 0) w_1) (
 f15_k2 K x0 x5 x6 w_1)
theorem f15_l2_rule (x0 x1 x5 x6 x44 : Value) (K : K1) (w : World) (I : VP1) (μ : Value → World → Nat) (h0 : I x44 w)
    (hr : ∀ (x44 : Value) (w : World), I x44 w → ∀ E1 : VP1, (∀ (y44 : Value) (w' : World), I y44 w' → μ y44 w' < μ x44 w → E1 y44 w') → f15_l2_t x0 x1 x5 x6 x44 K E1 w) : f15_l2 K x0 x1 x5 x6 x44 w :=
  ⟨I, μ, h0, fun σ w hI E hE => cast (by kernel_rfl) (hr (σ 44) w hI E hE)⟩
def f15_k3_t (x0 x1 x5 x6 x7 x8 x15 x16 : Value) (K : K1) (E1 : VP3) (w : World) : Prop :=
 rd Tryz.prog (binM .mul 3 (.const (.int .i64 32)) (.tmp 36) (.int .i64 32) x7) w.drew fun t37 =>
 rd Tryz.prog (binM .add 3 (.const (.int .i64 3)) (.tmp 37) (.int .i64 3) t37) w.drew fun t38 =>
 rd Tryz.prog (Instr.fieldAt 36 x8 1) w.drew fun t40 =>
 ldR Tryz.prog 3 t40 w.drew fun t41 =>
 callS Tryz.prog 37 (pA #[x0, t38]) w.drew fun t39 w_1 =>
 (ag Tryz.prog (Instr.fieldAt 36 x8 1) w_1 t40) ∧
 (ldG Tryz.prog 3 t40 w_1 t41) ∧
 rd Tryz.prog (binM .neq 3 (.tmp 39) (.tmp 41) t39 t41) w_1 fun t42 =>
 cndS t42 (
 K (.bool false) w_1) (
 ev Tryz.prog (binM .add 3 (.tmp 16) (.const (.int .i64 1)) x16 (.int .i64 1)) w_1 fun t43 w_2 =>
 E1 x5 x6 t43 w_2)
theorem f15_k3_eq (K : K1) (E1 : VP3) (x0 x1 x5 x6 x7 x8 x15 x16 : Value) (w : World) : f15_k3 K E1 x0 x1 x5 x6 x7 x8 x15 x16 w = f15_k3_t x0 x1 x5 x6 x7 x8 x15 x16 K E1 w := cutE fun σ => by kernel_rfl
def f15_k4_t (x0 x1 x5 x6 x44 : Value) (K : K1) (E1 : VP1) (w : World) : Prop :=
 ev Tryz.prog (binM .add 3 (.tmp 44) (.const (.int .i64 1)) x44 (.int .i64 1)) w fun t85 w_1 =>
 E1 t85 w_1
theorem f15_k4_eq (K : K1) (E1 : VP1) (x0 x1 x5 x6 x44 : Value) (w : World) : f15_k4 K E1 x0 x1 x5 x6 x44 w = f15_k4_t x0 x1 x5 x6 x44 K E1 w := cutE fun σ => by kernel_rfl
def f15_l3_t (x0 x1 x5 x6 x9 x44 x47 : Value) (K : K1) (E1 : VP1) (E2 : VP1) (w : World) : Prop :=
 ev Tryz.prog (binM .lss 3 (.tmp 47) (.const (.int .i64 5)) x47 (.int .i64 5)) w fun t48 w_1 =>
 cndS t48 (
 bltS Tryz.prog .len #[29] 3 #[false] #[x1] w_1 fun t51 w_2 =>
 f15_l4 K E1 E2 x0 x1 x5 x6 x9 x47 (.slice none 0 0) x44 x47 t51 (.int .i64 0) w_2) (
 f15_k4 K E1 x0 x1 x5 x6 x44 w_1)
theorem f15_l3_rule (x0 x1 x5 x6 x9 x44 x47 : Value) (K : K1) (E1 : VP1) (w : World) (I : VP1) (μ : Value → World → Nat) (h0 : I x47 w)
    (hr : ∀ (x47 : Value) (w : World), I x47 w → ∀ E2 : VP1, (∀ (y47 : Value) (w' : World), I y47 w' → μ y47 w' < μ x47 w → E2 y47 w') → f15_l3_t x0 x1 x5 x6 x9 x44 x47 K E1 E2 w) : f15_l3 K E1 x0 x1 x5 x6 x9 x44 x47 w :=
  ⟨I, μ, h0, fun σ w hI E hE => cast (by kernel_rfl) (hr (σ 47) w hI E hE)⟩
def f15_k5_t (x0 x1 x5 x6 x9 x44 x47 : Value) (K : K1) (E1 : VP1) (E2 : VP1) (w : World) : Prop :=
 ev Tryz.prog (binM .add 3 (.tmp 47) (.const (.int .i64 1)) x47 (.int .i64 1)) w fun t84 w_1 =>
 E2 t84 w_1
theorem f15_k5_eq (K : K1) (E1 : VP1) (E2 : VP1) (x0 x1 x5 x6 x9 x44 x47 : Value) (w : World) : f15_k5 K E1 E2 x0 x1 x5 x6 x9 x44 x47 w = f15_k5_t x0 x1 x5 x6 x9 x44 x47 K E1 E2 w := cutE fun σ => by kernel_rfl
def f15_k6_t (x0 x1 x5 x6 x9 x10 x11 x44 x47 : Value) (K : K1) (E1 : VP1) (E2 : VP1) (w : World) : Prop :=
 callS Tryz.prog 30 (pA #[x0, x9, x10]) w fun t80 w_1 =>
 callS Tryz.prog 50 (pA #[t80, x11]) w_1 fun t82 w_2 =>
 ev Tryz.prog (Op.unary .not t82) w_2 fun t83 w_3 =>
 cndS t83 (
 K (.bool false) w_3) (
 f15_k5 K E1 E2 x0 x1 x5 x6 x9 x44 x47 w_3)
theorem f15_k6_eq (K : K1) (E1 : VP1) (E2 : VP1) (x0 x1 x5 x6 x9 x10 x11 x44 x47 : Value) (w : World) : f15_k6 K E1 E2 x0 x1 x5 x6 x9 x10 x11 x44 x47 w = f15_k6_t x0 x1 x5 x6 x9 x10 x11 x44 x47 K E1 E2 w := cutE fun σ => by kernel_rfl
def f15_l4_t (x0 x1 x5 x6 x9 x10 x11 x44 x47 x51 x52 : Value) (K : K1) (E1 : VP1) (E2 : VP1) (E3 : VP2) (w : World) : Prop :=
 ev Tryz.prog (binM .lss 3 (.tmp 52) (.tmp 51) x52 x51) w fun t53 w_1 =>
 cndS t53 (
 ev Tryz.prog (Instr.indexAt 29 x1 x52) w_1 fun t57 w_2 =>
 ldS Tryz.prog 42 t57 w_2 fun t58 w_3 =>
 callS Tryz.prog 49 (pA #[t58]) w_3 fun t59 w_4 =>
 ev Tryz.prog (Instr.alloc 36 true (.tuple #[])) w_4 fun t13 w_5 =>
 stS Tryz.prog 36 t13 t59 w_5 fun w_6 =>
 ev Tryz.prog (Instr.fieldAt 36 t13 1) w_6 fun t60 w_7 =>
 ldS Tryz.prog 3 t60 w_7 fun t61 w_8 =>
 ev Tryz.prog (binM .eql 3 (.tmp 61) (.tmp 62) t61 x9) w_8 fun t63 w_9 =>
 gd t63 true (fun k => ev Tryz.prog (Instr.fieldAt 36 t13 0) w_9 k) w_9 fun t65 w_10 =>
 gd t63 true (fun k => ldS Tryz.prog 3 t65 w_10 k) w_10 fun t66 w_11 =>
 gd t63 true (fun k => k x10 w_11) w_11 fun t67 w_12 =>
 gd t63 true (fun k => ev Tryz.prog (binM .eql 3 (.tmp 66) (.tmp 67) t66 t67) w_12 k) w_12 fun t68 w_13 =>
 pickS t63 t68 (.bool false) w_13 fun t69 w_14 =>
 cndS t69 (
 ev Tryz.prog (binM .mul 3 (.const (.int .i64 32)) (.tmp 71) (.int .i64 32) x52) w_14 fun t72 w_15 =>
 ev Tryz.prog (binM .add 3 (.const (.int .i64 3)) (.tmp 72) (.int .i64 3) t72) w_15 fun t73 w_16 =>
 ev Tryz.prog (Instr.buildSlice 50 1 #[(0, t73)]) w_16 fun t74 w_17 =>
 bltS Tryz.prog .append #[50, 50] 50 #[false, false] (pA #[x11, t74]) w_17 fun t75 w_18 =>
 f15_k7 K E1 E2 E3 x0 x1 x5 x6 x9 x10 t75 x44 x47 x51 x52 w_18) (
 f15_k7 K E1 E2 E3 x0 x1 x5 x6 x9 x10 x11 x44 x47 x51 x52 w_14)) (
 f15_k6 K E1 E2 x0 x1 x5 x6 x9 x10 x11 x44 x47 w_1)
theorem f15_l4_rule (x0 x1 x5 x6 x9 x10 x11 x44 x47 x51 x52 : Value) (K : K1) (E1 : VP1) (E2 : VP1) (w : World) (I : VP2) (μ : Value → Value → World → Nat) (h0 : I x11 x52 w)
    (hr : ∀ (x11 x52 : Value) (w : World), I x11 x52 w → ∀ E3 : VP2, (∀ (y11 y52 : Value) (w' : World), I y11 y52 w' → μ y11 y52 w' < μ x11 x52 w → E3 y11 y52 w') → f15_l4_t x0 x1 x5 x6 x9 x10 x11 x44 x47 x51 x52 K E1 E2 E3 w) : f15_l4 K E1 E2 x0 x1 x5 x6 x9 x10 x11 x44 x47 x51 x52 w :=
  ⟨I, μ, h0, fun σ w hI E hE => cast (by kernel_rfl) (hr (σ 11) (σ 52) w hI E hE)⟩
def f15_k7_t (x0 x1 x5 x6 x9 x10 x11 x44 x47 x51 x52 : Value) (K : K1) (E1 : VP1) (E2 : VP1) (E3 : VP2) (w : World) : Prop :=
 ev Tryz.prog (binM .add 3 (.tmp 52) (.const (.int .i64 1)) x52 (.int .i64 1)) w fun t76 w_1 =>
 E3 x11 t76 w_1
theorem f15_k7_eq (K : K1) (E1 : VP1) (E2 : VP1) (E3 : VP2) (x0 x1 x5 x6 x9 x10 x11 x44 x47 x51 x52 : Value) (w : World) : f15_k7 K E1 E2 E3 x0 x1 x5 x6 x9 x10 x11 x44 x47 x51 x52 w = f15_k7_t x0 x1 x5 x6 x9 x10 x11 x44 x47 x51 x52 K E1 E2 E3 w := cutE fun σ => by kernel_rfl
def f15_t (x0 x1 : Value) (K : K1) (w : World) : Prop :=
 bltS Tryz.prog .len #[29] 3 #[false] #[x1] w fun t15 w_1 =>
 f15_l1 K x0 x1 (.slice none 0 0) (.int .i64 0) t15 (.int .i64 0) w_1
theorem f15_call (x0 x1 : Value) (K : K1) (w : World) (h : f15_t x0 x1 K w) : callS Tryz.prog 15 #[x0, x1] w K :=
  call_of_txt (args := [x0, x1]) mixed Tryz.func15 f15_u.2 (by kernel_rfl) (cast (by kernel_rfl) h)
noncomputable def f50_u : Code × Dec := ((Tryz.f50.body).getD .skip, (.s .o (.s .o (.x 0 (.s .o (.b (.l [13] 4099 67100720 .o))) .o))))
abbrev f50_e (K : K1) : KF := endK Tryz.prog Tryz.f50.results.toList K
def f50_k1_o (K : K1) : KF := fun fr w => ∀ σ, cP (pr (pr (pr f50_u))) (f50_e K) (f50_e K) nX (mixF 0 σ 0 fr) w
def f50_k1 (K : K1) (w : World) : Prop := f50_k1_o K (fz 26 0 []) w
def f50_l1 (K : K1) (x0 x1 x12 x13 : Value) (w : World) : Prop := loopT [13] 4099 (fun E => cP (pl (pl (pr (pl (pr (pr f50_u)))))) E (f50_e K) (exB 0 (f50_k1_o K) nX)) (fz 26 0 [(0, x0), (1, x1), (12, x12), (13, x13)]) w
def f50_k1_t (K : K1) (w : World) : Prop :=
 K (.bool true) w
theorem f50_k1_eq (K : K1) (w : World) : f50_k1 K w = f50_k1_t K w := cutE fun σ => by kernel_rfl
def f50_l1_t (x0 x1 x12 x13 : Value) (K : K1) (E1 : VP1) (w : World) : Prop :=
 ev Tryz.prog (binM .lss 3 (.tmp 13) (.tmp 12) x13 x12) w fun t14 w_1 =>
 cndS t14 (
 rd Tryz.prog (Instr.indexAt 50 x0 x13) w_1.drew fun t18 =>
 ldR Tryz.prog 3 t18 w_1.drew fun t19 =>
 rd Tryz.prog (Instr.indexAt 50 x1 x13) w_1.drew fun t22 =>
 ldR Tryz.prog 3 t22 w_1.drew fun t23 =>
 rd Tryz.prog (binM .neq 3 (.tmp 19) (.tmp 23) t19 t23) w_1.drew fun t24 =>
 cndS t24 (
 K (.bool false) w_1.drew) (
 ev Tryz.prog (binM .add 3 (.tmp 13) (.const (.int .i64 1)) x13 (.int .i64 1)) w_1.drew fun t25 w_2 =>
 E1 t25 w_2)) (
 f50_k1 K w_1)
theorem f50_l1_rule (x0 x1 x12 x13 : Value) (K : K1) (w : World) (I : VP1) (μ : Value → World → Nat) (h0 : I x13 w)
    (hr : ∀ (x13 : Value) (w : World), I x13 w → ∀ E1 : VP1, (∀ (y13 : Value) (w' : World), I y13 w' → μ y13 w' < μ x13 w → E1 y13 w') → f50_l1_t x0 x1 x12 x13 K E1 w) : f50_l1 K x0 x1 x12 x13 w :=
  ⟨I, μ, h0, fun σ w hI E hE => cast (by kernel_rfl) (hr (σ 13) w hI E hE)⟩
def f50_t (x0 x1 : Value) (K : K1) (w : World) : Prop :=
 bltS Tryz.prog .len #[50] 3 #[false] #[x0] w fun t7 w_1 =>
 bltS Tryz.prog .len #[50] 3 #[false] #[x1] w_1 fun t9 w_2 =>
 ev Tryz.prog (binM .neq 3 (.tmp 7) (.tmp 9) t7 t9) w_2 fun t10 w_3 =>
 cndS t10 (
 K (.bool false) w_3) (
 bltS Tryz.prog .len #[50] 3 #[false] #[x0] w_3 fun t12 w_4 =>
 f50_l1 K x0 x1 t12 (.int .i64 0) w_4)
theorem f50_call (x0 x1 : Value) (K : K1) (w : World) (h : f50_t x0 x1 K w) : callS Tryz.prog 50 #[x0, x1] w K :=
  call_of_txt (args := [x0, x1]) mixed Tryz.func50 f50_u.2 (by kernel_rfl) (cast (by kernel_rfl) h)
end Go.Proofs.YtifpinhjpbgnoaaGreatDoor
namespace Go.Proofs.YtifpinhjpbgnoaaGreatDoor
open Go Go.Sh
set_option maxRecDepth 100000
set_option maxHeartbeats 4000000
set_option linter.unusedSimpArgs false
set_option linter.unusedVariables false
def bgD (n : Nat) : DS := fmtD (DS.zero (32 * n + 5)) 3 n
def bgF (_ : Nat) : Int × Int × Bool := (-1, -1, false)
section
variable {w0 w w' : World} {Y : Lay} {D D2 : DS} {S b o cp l0 n k g : Nat} {f f2 : Nat → Int × Int × Bool} {c t : Int}
theorem ArS.fcongr (h : ArS w0 w Y D S b o cp l0 n f) (e : ∀ k, k < n → f k = f2 k) : ArS w0 w Y D S b o cp l0 n f2 := ⟨h.L, h.gl, h.st, by have := h.pl; rwa [plL_congr e] at this, h.nS, h.nb, h.n0, h.lt⟩
theorem fmt_wd (on : On D) (gd : Good D) (hl : l0 + 32 * n ≤ D.n) : ∀ m, m ≤ n → ∀ k, k < n → ∀ i, i < 256 → wd (fmtD D l0 m) (l0 + 32 * k) i = if i = 0 ∧ k < m then sealN (hdX (-1) (-1) 1) else wd D (l0 + 32 * k) i
  | 0, _, k, hk, i, hi => by rw [if_neg (by omega)]; rfl
  | m + 1, hm, k, hk, i, hi => by
    obtain ⟨h1, h2, h3, h4⟩ := fmtD_ok on gd hl m (by omega)
    have ih := fmt_wd on gd hl m (by omega) k hk i hi
    have cg := clr_gen h1 h2 (l := l0 + 32 * m) (g := 1) (by omega) (by omega)
    have cc := clr_cur (l := l0 + 32 * m) (g := 1) h1.off h1.err (by omega) cg.1.err
    have w1 := fun l' => wd_one (l' := l') cc.1
    show wd ((fmtD D l0 m).run 0 (clrI (l0 + 32 * m) 1)) (l0 + 32 * k) i = _
    by_cases e : k = m
    · subst e
      rw [(w1 0).1 i hi, ih]
      by_cases h0 : i = 0
      · rw [if_pos h0, if_pos (by omega)]
      · rw [if_neg h0, if_neg (by omega), if_neg (by omega)]
    · rw [(w1 (l0 + 32 * k)).2 (by omega) i hi, ih]
      by_cases h0 : i = 0 ∧ k < m
      · rw [if_pos h0, if_pos (by omega)]
      · rw [if_neg h0, if_neg (by omega)]
theorem wd_zero (n l i : Nat) : wd (DS.zero n) l i = 0 := by
  unfold wd
  show (List.replicate (8 * n) 0).getD _ 0 = 0
  rw [List.getD_eq_getElem?_getD, List.getElem?_replicate]
  split <;> rfl
theorem bg_ok (h0 : 0 < n) (h5 : n ≤ 5) : RgS (bgD n) 3 n bgF ∧ (bgD n).n = 32 * n + 5 ∧ (bgD n).exe ≤ 15 ∧ ∀ k, k < n → ∀ i, i < 256 → wd (bgD n) (3 + 32 * k) i = if i = 0 then sealN (hdX (-1) (-1) 1) else 0 := by
  have zn : (DS.zero (32 * n + 5)).n = 32 * n + 5 := rfl
  have hlt : 3 + 32 * n ≤ (DS.zero (32 * n + 5)).n := by rw [zn]; omega
  obtain ⟨h1, h2, h3, h4⟩ := fmtD_ok (On.zero (32 * n + 5)) (Good.zero (32 * n + 5) (by omega) (by omega)) hlt n (Nat.le_refl _)
  have hw : ∀ k, k < n → ∀ i, i < 256 → wd (bgD n) (3 + 32 * k) i = if i = 0 then sealN (hdX (-1) (-1) 1) else 0 := fun k hk i hi => by
    have := fmt_wd (On.zero (32 * n + 5)) (Good.zero (32 * n + 5) (by omega) (by omega)) hlt n (Nat.le_refl _) k hk i hi
    unfold bgD
    rw [this, wd_zero]
    by_cases e : i = 0
    · rw [if_pos ⟨e, hk⟩, if_pos e]
    · rw [if_neg (by omega), if_neg e]
  have hfr := hd_free (g := 1) (by omega) (by omega)
  have hx : (DS.zero (32 * n + 5)).exe = 0 := rfl
  refine ⟨⟨h1, h2, by unfold bgD; rw [h3]; exact hlt, fun k hk => ?_, fun k hk hh => ?_⟩, by unfold bgD; rw [h3, zn], by unfold bgD; omega, hw⟩
  · rw [hw k hk 0 (by omega), if_pos rfl]
    exact ⟨hfr.1, hfr.2.1.symm, hfr.2.2.1.symm⟩
  · exact absurd (show (0 : Int) ≤ -1 from hh) (by decide)
theorem k_begin22 (hG : Glob w) (h0 : 0 < n) (h5 : n ≤ 5) (K : K1) (hK : ∀ w' Y S b o cp, ArS w w' Y (bgD n) S b o cp 3 n bgF → K (.tuple #[.pointer (some ⟨Y.d, 0, none⟩), .pointer (some ⟨Y.tb 0, 0, none⟩), stV S]) w') :
    callS Tryz.prog 9 #[.int .i64 (n : Int)] w K := by
  have e0 : (32 : Int) * (n : Int) + 5 = ((32 * n + 5 : Nat) : Int) := by omega
  have e1 : (32 : Int) * (n : Int) + 1 = ((32 * n + 1 : Nat) : Int) := by omega
  have zn : (DS.zero (32 * n + 5)).n = 32 * n + 5 := rfl
  have zx : (DS.zero (32 * n + 5)).exe = 0 := rfl
  have hz := On.zero (32 * n + 5)
  have hgz := Good.zero (32 * n + 5) (by omega) (by omega)
  obtain ⟨hb, hbn, hbx, hbw⟩ := bg_ok h0 h5
  have hq : (32 * n + 1) / 32 = n := by omega
  refine f9_call _ _ _ ?_
  unfold f9_t
  simp (disch := first | omega | simp only [RO] | (simp only [RZ] <;> omega) | fail) only [↓RBp, ↓RA, ↓reduceIte, Nat.reduceAdd, Nat.reduceMul, Nat.reduceEqDiff, RB, RX, RA2, e0, e1]
  refine k_New (32 * n + 5) (by omega) (by omega) _ (fun w1 Y he hd hF => ?_)
  have hT : ∀ (w2 : World) (K : K1), Ext w1 w2 → callS Tryz.prog 21 #[.pointer (some ⟨Y.d, 0, none⟩), .int .i64 0] w2 K = K (.pointer (some ⟨Y.tb 0, 0, none⟩)) w2 := fun w2 K e => c_Thread (hd.ext e) 0 (by omega) K
  simp (disch := first | omega | simp only [RO] | (simp only [RZ] <;> omega) | (with_reducible (repeat (first | assumption | exact Ext.refl _ | refine Ext.alloc ?_ _ | refine Ext.drew ?_ | refine Ext.trans ?_ (by assumption)))) | fail) only [↓RBp, ↓RA, ↓reduceIte, Nat.reduceAdd, Nat.reduceMul, Nat.reduceEqDiff, RB, RX, RA2, hT, e0, e1]
  have L1 : Lv w w1 Y (DS.zero (32 * n + 5)) := ⟨hd, hgz, he.trans (by repeat (first | (with_reducible first | refine eB ?_ (by first | omega | (simp only [RZ] <;> omega)) _ | assumption | exact eR _ | refine eA ?_ _ | refine eD ?_ | refine eT ?_ (by assumption)) | exact eR _)), hF⟩
  refine k_AFormat (l0 := 3) (q := 32 * n + 1) L1 hG hz hgz (by omega) (by omega) (by omega) _ (fun w2 Y2 st => ?_)
  rw [hq] at st
  have L2 : Lv w w2 Y2 (bgD n) := L1.step st hb.gd
  have tb := st.tb
  have dd := st.d
  rw [← tb, ← dd]
  simp (disch := first | omega | simp only [RO] | (simp only [RZ] <;> omega) | (with_reducible (repeat (first | assumption | exact Ext.refl _ | refine Ext.alloc ?_ _ | refine Ext.drew ?_ | refine Ext.trans ?_ (by assumption)))) | fail) only [↓RBp, ↓RA, ↓reduceIte, Nat.reduceAdd, Nat.reduceMul, Nat.reduceEqDiff, RB, RX, RA2, e1]
  refine k_AOpen (l0 := 3) (q := 32 * n + 1) (n := n) L2 hG hb.on.off hb.on.err (by omega) (by omega) hq _ (fun hn => absurd (fun k hk => (hb.ag k hk).1) hn) (fun _ S b o cp w3 e3 _ _ h3 => ?_)
  simp (disch := first | omega | simp only [RO] | (simp only [RZ] <;> omega) | fail) only [↓RBp, ↓RA, ↓reduceIte, Nat.reduceAdd, Nat.reduceMul, Nat.reduceEqDiff, RB, RX, RA2]
  refine hK _ Y2 S b o cp (h3.fcongr (fun k hk => ?_))
  have := hb.ag k hk
  unfold opF
  rw [← this.2.1, ← this.2.2]; rfl
theorem ClOk.al (h : ClOk D l0 n f c t D2 f2 k g) (c0 : 0 ≤ c) (c5 : c < 5) : alF D2 (l0 + 32 * k) c (perS c).toNat = true := by
  refine alF_of (fun i hi => ?_)
  have hp := perS_in c0 c5
  have hi' : (i : Int) < perS c := by omega
  have bd := offN_bd c0 c5 hi'
  have h1 := h.own (offN c i) bd.2.2
  have h2 := h.own 1 (by omega)
  have e1 : planF c t g (wd D (l0 + 32 * k)) (offN c i) = sealN (blkX g 0 176) := by
    unfold planF; rw [if_neg (by omega), if_pos (isB_mem.2 ⟨i, hi, rfl⟩)]
  have e2 : planF c t g (wd D (l0 + 32 * k)) 1 = 0 := by
    unfold planF
    rw [if_neg (by omega), if_neg, if_pos (by omega)]
    intro hb
    obtain ⟨q, hq, he⟩ := isB_mem.1 hb
    have := offN_bd c0 c5 (show (q : Int) < perS c by omega)
    omega
  unfold okF
  rw [h1, h2, e1, e2, isS_blk h.g6 (by omega) (by omega), bit0, bS_blk h.g6 (by omega) (by omega), bG_blk h.g6 (by omega) (by omega)]
  have := h.g0
  simp [this]
theorem k_awake22 (hG : Glob w) (K : K1) (hK : ∀ w', Ext w w' → K (.bool true) w') :
    callS Tryz.prog 8 #[] w K := by
  obtain ⟨hb, hbn, hbx, hbw⟩ := bg_ok (n := 2) (by omega) (by omega)
  refine f8_call _ _ ?_
  unfold f8_t
  simp (disch := first | omega | simp only [RO] | (simp only [RZ] <;> omega) | fail) only [↓RBp, ↓RA, ↓reduceIte, Nat.reduceAdd, Nat.reduceMul, Nat.reduceEqDiff, RB, RX, RA2]
  refine k_begin22 (n := 2) hG (by omega) (by omega) _ (fun w1 Y1 S b o cp h1 => ?_)
  have ow : ∀ D2 f2 r e c t, ClRes (bgD 2) 3 2 bgF c t D2 f2 r e → True := fun _ _ _ _ _ _ _ => trivial
  simp (disch := first | omega | simp only [RO] | (simp only [RZ] <;> omega) | fail) only [↓RBp, ↓RA, ↓reduceIte, Nat.reduceAdd, Nat.reduceMul, Nat.reduceEqDiff, RB, RX, RA2]
  refine k_Claim h1 hb.ag hb.on.off hb.on.err (by omega) (by omega) (by omega) (by omega) (by omega) _ (fun D2 f2 r2 e2 hr2 w2 Y2 a2 h2 => ?_)
  rcases cl_ok hb (by omega) (by omega) (by omega) (by omega) hr2 with ⟨_, _, _, _, hn, _⟩ | ⟨rfl, k2, g2, rfl, ok2, rg2, n2, x2⟩
  · exact absurd (show (bgF 0).1 < 0 by decide) (hn 0 (by omega))
  have k20 : k2 = 0 := by
    rcases ok2.how with ⟨_, h, _⟩ | ⟨h, _⟩
    · rcases Nat.eq_zero_or_pos k2 with h3 | h3
      · exact h3
      · exact absurd (show (bgF 0).1 < 0 by decide) (h 0 h3)
    · exact absurd (show (bgF 0).1 < 0 by decide) (h 0 (by omega))
  subst k20
  have f20 : f2 0 = (0, 3, false) := by rw [ok2.fe, upF_eq]; rfl
  have f21 : f2 1 = (-1, -1, false) := by rw [ok2.fe, upF_ne _ _ (by omega)]; rfl
  simp (disch := first | omega | simp only [RO] | (simp only [RZ] <;> omega) | fail) only [↓RBp, ↓RA, ↓reduceIte, Nat.reduceAdd, Nat.reduceMul, Nat.reduceEqDiff, RB, RX, RA2]
  refine k_Claim h2 rg2.ag rg2.on.off rg2.on.err (by omega) (by omega) (by omega) (by omega) (by omega) _ (fun D3 f3 r3 e3 hr3 w3 Y3 a3 h3 => ?_)
  rcases cl_ok rg2 (by omega) (by omega) (by omega) (by omega) hr3 with ⟨_, _, _, _, hn, _⟩ | ⟨rfl, k3, g3, rfl, ok3, rg3, n3, x3⟩
  · exact absurd (show (f2 1).1 < 0 by rw [f21]; decide) (hn 1 (by omega))
  have k31 : k3 = 1 := by
    have := ok3.kn
    rcases ok3.how with ⟨h, _, _⟩ | ⟨h, _⟩
    · by_cases h0 : k3 = 0
      · subst h0; rw [f20] at h; exact absurd h (by decide)
      · omega
    · exact absurd (show (f2 1).1 < 0 by rw [f21]; decide) (h 1 (by omega))
  subst k31
  have f30 : f3 0 = (0, 3, false) := by rw [ok3.fe, upF_ne _ _ (by omega)]; exact f20
  have f31 : f3 1 = (0, 5, false) := by rw [ok3.fe, upF_eq, f21]
  have fr3 : frC f3 2 = 0 := by simp [frC, f30, f31]
  simp (disch := first | omega | simp only [RO] | (simp only [RZ] <;> omega) | fail) only [↓RBp, ↓RA, ↓reduceIte, Nat.reduceAdd, Nat.reduceMul, Nat.reduceEqDiff, RB, RX, RA2]
  refine k_OwnerAt (k := 0) h3 (by omega) _ (fun w4 e4 => ?_)
  have h4 := h3.ext e4
  rw [f30]
  simp (disch := first | omega | simp only [RO] | (simp only [RZ] <;> omega) | fail) only [↓RBp, ↓RA, ↓reduceIte, Nat.reduceAdd, Nat.reduceMul, Nat.reduceEqDiff, RB, RX, RA2]
  refine k_FreeChunks h4 _ (fun w5 e5 => ?_)
  have h5 := h4.ext e5
  rw [fr3]
  simp (disch := first | omega | simp only [RO] | (simp only [RZ] <;> omega) | fail) only [↓RBp, ↓RA, ↓reduceIte, Nat.reduceAdd, Nat.reduceMul, Nat.reduceEqDiff, RB, RX, RA2]
  refine k_Claim h5 rg3.ag rg3.on.off rg3.on.err (by omega) (by omega) (by omega) (by omega) (by omega) _ (fun D6 f6 r6 e6 hr6 w6 Y6 a6 h6 => ?_)
  have al := ok2.al (by omega) (by omega)
  have hp := perS_in (c := 0) (by omega) (by omega)
  have al3 := (alF_congr (D := D2) (D' := D3) (l := 3 + 32 * 0) (c := 0) (ok3.oth 0 (by omega) (by omega)) (by omega) (by omega) (perS 0).toNat (by omega)).1
  rw [al] at al3
  have em : emG D3 3 f3 0 ≠ none := by
    unfold emG
    rw [f30, if_neg (by decide), if_neg (by decide), if_pos al3]
    intro h; cases h
  rcases cl_ok rg3 (by omega) (by omega) (by omega) (by omega) hr6 with ⟨_, _, _, _, _, hn⟩ | ⟨rfl, k6, g6, rfl, ok6, rg6, n6, x6⟩
  · exact absurd (hn 0 (by omega)) em
  have k60 : k6 = 0 := by
    have := ok6.kn
    rcases ok6.how with ⟨h, _, _⟩ | ⟨_, _, h⟩
    · exfalso
      by_cases h0 : k6 = 0
      · subst h0; rw [f30] at h; exact absurd h (by decide)
      · have : k6 = 1 := by omega
        subst this; rw [f31] at h; exact absurd h (by decide)
    · rcases Nat.eq_zero_or_pos k6 with h3 | h3
      · exact h3
      · exact absurd (h 0 h3) em
  subst k60
  simp (disch := first | omega | simp only [RO] | (simp only [RZ] <;> omega) | fail) only [↓RBp, ↓RA, ↓reduceIte, Nat.reduceAdd, Nat.reduceMul, Nat.reduceEqDiff, RB, RX, RA2]
  exact hK _ h6.L.ex
end
end Go.Proofs.YtifpinhjpbgnoaaGreatDoor
