/-
  Part 2 of the proof in YtaeopkhdokaaoaaGreatDoorPa6.
-/
import Derived.Test.YtaeopkhdokaaoaaGreatDoorPa1
import Derived.Below
import Derived.Laws.AppendOwn
import Derived.Laws.OwnMore
import Derived.Laws.IdiomRangeMap
import Derived.MapKept
import Derived.Laws.MakeOwn
namespace Go.Proofs.YtaeopkhdokaaoaaGreatDoor
open Go Go.Sh
set_option maxRecDepth 100000
set_option linter.unusedVariables false
noncomputable def f76_c : Code := (Tryz.f76.body).getD .skip
def f76_rs : List ResultVar := []
abbrev f76_e (K : K1) : KF := endK Tryz.prog f76_rs K
def f76_t (x0 : Value) (K : K1) (w : World) : Prop :=
 bltS Tryz.prog .len #[72] 3 #[false] #[x0] w fun t4 w_1 =>
 ev Tryz.prog (convert 3 100 t4) w_1 fun t8 w_2 =>
 callS Tryz.prog 108 (pA #[t8]) w_2 fun t9 w_3 =>
 callS Tryz.prog 107 (pA #[x0, (.int .i64 0), t4, t9]) w_3 fun t10 w_4 =>
 K (.tuple #[]) w_4
theorem f76_sk (x0 : Value) (K : K1) (w : World) : (cS f76_c (f76_e K) (f76_e K) nX ([x0] ++ List.replicate (11 - 1) undef) w) = f76_t x0 K w := by kernel_rfl
theorem f76_ok : codeOk Tryz.prog 11 f76_c = true := by kernel_rfl
theorem f76_call (x0 : Value) (K : K1) (w : World) (h : f76_t x0 K w) : callS Tryz.prog 76 #[x0] w K :=
  calls_of_codeS (args := [x0]) mixed Tryz.func76 (show Tryz.f76.body = some f76_c from rfl) rfl (show Tryz.f76.results = f76_rs.toArray from rfl) f76_ok (by simp) (cast ((Eq.trans (by kernel_rfl) (f76_sk x0 K w) : (cS f76_c (f76_e K) (f76_e K) nX ([x0] ++ List.replicate (11 - 1) undef) w) = f76_t x0 K w)).symm h)
noncomputable def f107_c : Code := (Tryz.f107.body).getD .skip
def f107_rs : List ResultVar := []
abbrev f107_e (K : K1) : KF := endK Tryz.prog f107_rs K
def f107_k3_t (x0 x1 x2 x3 x8 x9 x10 x11 : Value) (K : K1) (E1 : Value → Value → Value → Value → Value → World → Prop) (w : World) : Prop :=
 rd Tryz.prog (binM .gtr 3 (.tmp 73) (.const (.int .i64 0)) x1 (.int .i64 0)) w.drew fun t74 =>
 gdR t74 true (fun k => k x0) fun t76 =>
 gdR t74 true (fun k => k x1) fun t77 =>
 gdR t74 true (fun k => rd Tryz.prog (binM .sub 3 (.tmp 77) (.const (.int .i64 1)) t77 (.int .i64 1)) w.drew k) fun t78 =>
 gdR t74 true (fun k => rd Tryz.prog (Instr.indexAt 72 t76 t78) w.drew k) fun t79 =>
 gdR t74 true (fun k => ldR Tryz.prog 33 t79 w.drew k) fun t80 =>
 gdR t74 true (fun k => k x0) fun t81 =>
 gdR t74 true (fun k => k x11) fun t82 =>
 gdR t74 true (fun k => rd Tryz.prog (Instr.indexAt 72 t81 t82) w.drew k) fun t83 =>
 gdR t74 true (fun k => ldR Tryz.prog 33 t83 w.drew k) fun t84 =>
 gd t74 true (fun k => callS Tryz.prog 127 (pA #[t80, t84]) w.drew k) w.drew fun t85 w_1 =>
 gdR t74 true (fun k => rd Tryz.prog (Op.unary .not t85) w_1 k) fun t86 =>
 pickV t74 t86 (.bool false) fun t87 =>
 cndS t87 (
 callS Tryz.prog 128 (pA #[x0, x1, x2, x11]) w_1 fun t92 w_2 =>
 E1 t92 x2 x3 x8 x9 w_2) (
 callS Tryz.prog 129 (pA #[x0, x1, x2, x11]) w_1 fun t99 w_3 =>
 ev Tryz.prog (Instr.extract t99 0) w_3 fun t100 w_4 =>
 ev Tryz.prog (Instr.extract t99 1) w_4 fun t101 w_5 =>
 ev Tryz.prog (binM .sub 3 (.tmp 103) (.tmp 104) t100 x1) w_5 fun t105 w_6 =>
 ev Tryz.prog (binM .sub 3 (.tmp 106) (.tmp 107) x2 t100) w_6 fun t108 w_7 =>
 ev Tryz.prog (binM .quo 3 (.tmp 109) (.const (.int .i64 8)) x10 (.int .i64 8)) w_7 fun t110 w_8 =>
 ev Tryz.prog (binM .lss 3 (.tmp 111) (.tmp 112) t105 t108) w_8 fun t113 w_9 =>
 cndS t113 (
 ev Tryz.prog (binM .geq 3 (.tmp 114) (.tmp 115) t105 t110) w_9 fun t116 w_10 =>
 callS Tryz.prog 107 (pA #[x0, x1, t100, x3]) w_10 fun t121 w_11 =>
 ev Tryz.prog (binM .add 3 (.tmp 122) (.const (.int .i64 1)) t100 (.int .i64 1)) w_11 fun t123 w_12 =>
 E1 t123 x2 x3 t116 t101 w_12) (
 ev Tryz.prog (binM .geq 3 (.tmp 124) (.tmp 125) t108 t110) w_9 fun t126 w_13 =>
 ev Tryz.prog (binM .add 3 (.tmp 128) (.const (.int .i64 1)) t100 (.int .i64 1)) w_13 fun t129 w_14 =>
 callS Tryz.prog 107 (pA #[x0, t129, x2, x3]) w_14 fun t132 w_15 =>
 E1 x1 t100 x3 t126 t101 w_15))
theorem f107_k3_sk (z : Nat → Value) (K : K1) (E1 : Value → Value → Value → Value → Value → World → Prop) (w : World) : (cS (cr (cr (cr (cr (cr (cr (cr (cl (cl (cl (cr (cr f107_c)))))))))))) (fun fr w => E1 (sv fr 1) (sv fr 2) (sv fr 3) (sv fr 8) (sv fr 9) w) (f107_e K) (exB 1 (fun fr w => E1 (sv fr 1) (sv fr 2) (sv fr 3) (sv fr 8) (sv fr 9) w) (exB 0 (f107_e K) nX)) (frL 134 z 0) w) = f107_k3_t (z 0) (z 1) (z 2) (z 3) (z 8) (z 9) (z 10) (z 11) K E1 w := by kernel_rfl
def f107_k3 (K : K1) (E1 : Value → Value → Value → Value → Value → World → Prop) (x0 x1 x2 x3 x8 x9 x10 x11 : Value) (w : World) : Prop := f107_k3_t x0 x1 x2 x3 x8 x9 x10 x11 K E1 w
theorem f107_k3_eq (K : K1) (E1 : Value → Value → Value → Value → Value → World → Prop) (x0 x1 x2 x3 x8 x9 x10 x11 : Value) (w : World) : f107_k3 K E1 x0 x1 x2 x3 x8 x9 x10 x11 w = f107_k3_t x0 x1 x2 x3 x8 x9 x10 x11 K E1 w := rfl
def f107_k3_o (K : K1) (F1 : KF) : KF := fun fr w => cS (cr (cr (cr (cr (cr (cr (cr (cl (cl (cl (cr (cr f107_c)))))))))))) F1 (f107_e K) (exB 1 F1 (exB 0 (f107_e K) nX)) fr w
theorem f107_k3_s (K : K1)  (E1 : Value → Value → Value → Value → Value → World → Prop) (F1 : KF) (f0 : Fr) (hn : f0.length = 134) (f1 : Fr) (a1 : Same 21778071482940061661655974875633165533183 f0 f1) (b1 : ∀ fr w, Same 21778071482940061661655974875633165532942 f1 fr → E1 (sv fr 1) (sv fr 2) (sv fr 3) (sv fr 8) (sv fr 9) w → F1 fr w) (fr : Fr) (w : World) (hs : Same 21778071482940061661655974875633165532942 f1 fr) (h : f107_k3 K E1 (sv fr 0) (sv fr 1) (sv fr 2) (sv fr 3) (sv fr 8) (sv fr 9) (sv fr 10) (sv fr 11) w) : f107_k3_o K F1 fr w := by
  have h1 := cast (f107_k3_sk (fun i => sv fr i) K E1 w).symm h
  rw [show frL 134 (fun i => sv fr i) 0 = fr from frL_of (hs.len.trans (a1.len.trans hn))] at h1
  have h2 : cS (cr (cr (cr (cr (cr (cr (cr (cl (cl (cl (cr (cr f107_c)))))))))))) F1 (f107_e K) (exB 1 F1 (exB 0 (f107_e K) nX)) fr w := (codeS_mono (m := 21778071482940061661655974875633165532942) (f0 := f1) (cr (cr (cr (cr (cr (cr (cr (cl (cl (cl (cr (cr f107_c)))))))))))) (by kernel_rfl) (fun fr w hs h => b1 fr w hs h) (fun _ _ _ h => h) (exB_mono (fun fr w hs h => b1 fr w hs h) (exB_mono (fun _ _ _ h => h) (fun _ _ _ _ h => h))) fr w hs) h1
  exact cast (by kernel_rfl) h2
def f107_k2_t (x0 x1 x2 x3 x8 x9 x10 x11 x12 : Value) (K : K1) (E1 : Value → Value → Value → Value → Value → World → Prop) (c_f107_k3 : Value → Value → Value → Value → Value → Value → Value → Value → World → Prop) (w : World) : Prop :=
 gd x8 true (fun k => k x9 w) w fun t63 w_1 =>
 pickS x8 t63 (.bool false) w_1 fun t64 w_2 =>
 gd t64 true (fun k => k x12 w_2) w_2 fun t66 w_3 =>
 gd t64 true (fun k => ev Tryz.prog (binM .eql 184 (.tmp 66) (.const (.int .i64 1)) t66 (.int .i64 1)) w_3 k) w_3 fun t67 w_4 =>
 pickS t64 t67 (.bool false) w_4 fun t68 w_5 =>
 cndS t68 (
 callS Tryz.prog 126 (pA #[x0, x1, x2]) w_5 fun t72 w_6 =>
 cndS t72 (
 K (.tuple #[]) w_6) (
 c_f107_k3 x0 x1 x2 x3 x8 x9 x10 x11 w_6)) (
 c_f107_k3 x0 x1 x2 x3 x8 x9 x10 x11 w_5)
theorem f107_k2_sk (z : Nat → Value) (K : K1) (E1 : Value → Value → Value → Value → Value → World → Prop) (c_f107_k3 : Value → Value → Value → Value → Value → Value → Value → Value → World → Prop) (w : World) : (cS (cl (cr (cr (cr (cr (cr (cr (cl (cl (cl (cr (cr f107_c)))))))))))) (fun fr w => c_f107_k3 (sv fr 0) (sv fr 1) (sv fr 2) (sv fr 3) (sv fr 8) (sv fr 9) (sv fr 10) (sv fr 11) w) (f107_e K) (exB 1 (fun fr w => E1 (sv fr 1) (sv fr 2) (sv fr 3) (sv fr 8) (sv fr 9) w) (exB 0 (f107_e K) nX)) (frL 134 z 0) w) = f107_k2_t (z 0) (z 1) (z 2) (z 3) (z 8) (z 9) (z 10) (z 11) (z 12) K E1 c_f107_k3 w := by kernel_rfl
def f107_k2 (K : K1) (E1 : Value → Value → Value → Value → Value → World → Prop) (x0 x1 x2 x3 x8 x9 x10 x11 x12 : Value) (w : World) : Prop := f107_k2_t x0 x1 x2 x3 x8 x9 x10 x11 x12 K E1 (f107_k3 K E1) w
theorem f107_k2_eq (K : K1) (E1 : Value → Value → Value → Value → Value → World → Prop) (x0 x1 x2 x3 x8 x9 x10 x11 x12 : Value) (w : World) : f107_k2 K E1 x0 x1 x2 x3 x8 x9 x10 x11 x12 w = f107_k2_t x0 x1 x2 x3 x8 x9 x10 x11 x12 K E1 (f107_k3 K E1) w := rfl
def f107_k2_o (K : K1) (F1 : KF) : KF := fun fr w => cS (cr (cr (cr (cr (cr (cr (cl (cl (cl (cr (cr f107_c))))))))))) F1 (f107_e K) (exB 1 F1 (exB 0 (f107_e K) nX)) fr w
theorem f107_k2_s (K : K1)  (E1 : Value → Value → Value → Value → Value → World → Prop) (F1 : KF) (f0 : Fr) (hn : f0.length = 134) (f1 : Fr) (a1 : Same 21778071482940061661655974875633165533183 f0 f1) (b1 : ∀ fr w, Same 21778071482940061661655974875633165532942 f1 fr → E1 (sv fr 1) (sv fr 2) (sv fr 3) (sv fr 8) (sv fr 9) w → F1 fr w) (fr : Fr) (w : World) (hs : Same 21778071482940061661655974875633165532942 f1 fr) (h : f107_k2 K E1 (sv fr 0) (sv fr 1) (sv fr 2) (sv fr 3) (sv fr 8) (sv fr 9) (sv fr 10) (sv fr 11) (sv fr 12) w) : f107_k2_o K F1 fr w := by
  have h1 := cast (f107_k2_sk (fun i => sv fr i) K E1 (f107_k3 K E1) w).symm h
  rw [show frL 134 (fun i => sv fr i) 0 = fr from frL_of (hs.len.trans (a1.len.trans hn))] at h1
  have h2 : cS (cl (cr (cr (cr (cr (cr (cr (cl (cl (cl (cr (cr f107_c)))))))))))) (f107_k3_o K F1) (f107_e K) (exB 1 F1 (exB 0 (f107_e K) nX)) fr w := (codeS_mono (m := 21778071482940061661655974875633165532942) (f0 := f1) (cl (cr (cr (cr (cr (cr (cr (cl (cl (cl (cr (cr f107_c)))))))))))) (by kernel_rfl) (fun fr w hs h => f107_k3_s K E1 F1 f0 hn f1 a1 b1 fr w hs h) (fun _ _ _ h => h) (exB_mono (fun fr w hs h => b1 fr w hs h) (exB_mono (fun _ _ _ h => h) (fun _ _ _ _ h => h))) fr w hs) h1
  exact cast (by kernel_rfl) h2
def f107_k1_t (x0 x1 x2 x3 x8 x9 x10 : Value) (K : K1) (E1 : Value → Value → Value → Value → Value → World → Prop) (c_f107_k2 : Value → Value → Value → Value → Value → Value → Value → Value → Value → World → Prop) (w : World) : Prop :=
 callS Tryz.prog 124 (pA #[x0, x1, x2]) w fun t46 w_1 =>
 ev Tryz.prog (Instr.extract t46 0) w_1 fun t47 w_2 =>
 ev Tryz.prog (Instr.extract t46 1) w_2 fun t48 w_3 =>
 ev Tryz.prog (binM .eql 184 (.tmp 49) (.const (.int .i64 2)) t48 (.int .i64 2)) w_3 fun t50 w_4 =>
 cndS t50 (
 callS Tryz.prog 125 (pA #[x0, x1, x2]) w_4 fun t54 w_5 =>
 ev Tryz.prog (binM .sub 3 (.tmp 55) (.const (.int .i64 1)) x2 (.int .i64 1)) w_5 fun t56 w_6 =>
 ev Tryz.prog (binM .sub 3 (.tmp 57) (.tmp 58) t47 x1) w_6 fun t59 w_7 =>
 ev Tryz.prog (binM .sub 3 (.tmp 56) (.tmp 59) t56 t59) w_7 fun t60 w_8 =>
 c_f107_k2 x0 x1 x2 x3 x8 x9 x10 t60 (.int .i64 1) w_8) (
 c_f107_k2 x0 x1 x2 x3 x8 x9 x10 t47 t48 w_4)
theorem f107_k1_sk (z : Nat → Value) (K : K1) (E1 : Value → Value → Value → Value → Value → World → Prop) (c_f107_k2 : Value → Value → Value → Value → Value → Value → Value → Value → Value → World → Prop) (w : World) : (cS (cl (cr (cr (cr (cr (cl (cl (cl (cr (cr f107_c)))))))))) (fun fr w => cS (cl (cr (cr (cr (cr (cr (cl (cl (cl (cr (cr f107_c))))))))))) (fun fr w => c_f107_k2 (sv fr 0) (sv fr 1) (sv fr 2) (sv fr 3) (sv fr 8) (sv fr 9) (sv fr 10) (sv fr 11) (sv fr 12) w) (f107_e K) (exB 1 (fun fr w => E1 (sv fr 1) (sv fr 2) (sv fr 3) (sv fr 8) (sv fr 9) w) (exB 0 (f107_e K) nX)) fr w) (f107_e K) (exB 1 (fun fr w => E1 (sv fr 1) (sv fr 2) (sv fr 3) (sv fr 8) (sv fr 9) w) (exB 0 (f107_e K) nX)) (frL 134 z 0) w) = f107_k1_t (z 0) (z 1) (z 2) (z 3) (z 8) (z 9) (z 10) K E1 c_f107_k2 w := by kernel_rfl
def f107_k1 (K : K1) (E1 : Value → Value → Value → Value → Value → World → Prop) (x0 x1 x2 x3 x8 x9 x10 : Value) (w : World) : Prop := f107_k1_t x0 x1 x2 x3 x8 x9 x10 K E1 (f107_k2 K E1) w
theorem f107_k1_eq (K : K1) (E1 : Value → Value → Value → Value → Value → World → Prop) (x0 x1 x2 x3 x8 x9 x10 : Value) (w : World) : f107_k1 K E1 x0 x1 x2 x3 x8 x9 x10 w = f107_k1_t x0 x1 x2 x3 x8 x9 x10 K E1 (f107_k2 K E1) w := rfl
def f107_k1_o (K : K1) (F1 : KF) : KF := fun fr w => cS (cr (cr (cr (cr (cl (cl (cl (cr (cr f107_c))))))))) F1 (f107_e K) (exB 1 F1 (exB 0 (f107_e K) nX)) fr w
theorem f107_k1_s (K : K1)  (E1 : Value → Value → Value → Value → Value → World → Prop) (F1 : KF) (f0 : Fr) (hn : f0.length = 134) (f1 : Fr) (a1 : Same 21778071482940061661655974875633165533183 f0 f1) (b1 : ∀ fr w, Same 21778071482940061661655974875633165532942 f1 fr → E1 (sv fr 1) (sv fr 2) (sv fr 3) (sv fr 8) (sv fr 9) w → F1 fr w) (fr : Fr) (w : World) (hs : Same 21778071482940061661655974875633165532942 f1 fr) (h : f107_k1 K E1 (sv fr 0) (sv fr 1) (sv fr 2) (sv fr 3) (sv fr 8) (sv fr 9) (sv fr 10) w) : f107_k1_o K F1 fr w := by
  have h1 := cast (f107_k1_sk (fun i => sv fr i) K E1 (f107_k2 K E1) w).symm h
  rw [show frL 134 (fun i => sv fr i) 0 = fr from frL_of (hs.len.trans (a1.len.trans hn))] at h1
  have h2 : cS (cl (cr (cr (cr (cr (cl (cl (cl (cr (cr f107_c)))))))))) (fun fr w => cS (cl (cr (cr (cr (cr (cr (cl (cl (cl (cr (cr f107_c))))))))))) (f107_k2_o K F1) (f107_e K) (exB 1 F1 (exB 0 (f107_e K) nX)) fr w) (f107_e K) (exB 1 F1 (exB 0 (f107_e K) nX)) fr w := (codeS_mono (m := 21778071482940061661655974875633165532942) (f0 := f1) (cl (cr (cr (cr (cr (cl (cl (cl (cr (cr f107_c)))))))))) (by kernel_rfl) (fun fr w hs => codeS_mono (m := 21778071482940061661655974875633165532942) (f0 := f1) (cl (cr (cr (cr (cr (cr (cl (cl (cl (cr (cr f107_c))))))))))) (by kernel_rfl) (fun fr w hs h => f107_k2_s K E1 F1 f0 hn f1 a1 b1 fr w hs h) (fun _ _ _ h => h) (exB_mono (fun fr w hs h => b1 fr w hs h) (exB_mono (fun _ _ _ h => h) (fun _ _ _ _ h => h))) fr w hs) (fun _ _ _ h => h) (exB_mono (fun fr w hs h => b1 fr w hs h) (exB_mono (fun _ _ _ h => h) (fun _ _ _ _ h => h))) fr w hs) h1
  exact cast (by kernel_rfl) h2
def f107_l1_t (x0 x1 x2 x3 x8 x9 : Value) (K : K1) (E1 : Value → Value → Value → Value → Value → World → Prop) (c_f107_k1 : Value → Value → Value → Value → Value → Value → Value → World → Prop) (w : World) : Prop :=
 ev Tryz.prog (binM .sub 3 (.tmp 19) (.tmp 20) x2 x1) w fun t21 w_1 =>
 ev Tryz.prog (binM .leq 3 (.tmp 22) (.const (.int .i64 12)) t21 (.int .i64 12)) w_1 fun t23 w_2 =>
 cndS t23 (
 callS Tryz.prog 121 (pA #[x0, x1, x2]) w_2 fun t27 w_3 =>
 K (.tuple #[]) w_3) (
 ev Tryz.prog (binM .eql 3 (.tmp 28) (.const (.int .i64 0)) x3 (.int .i64 0)) w_2 fun t29 w_4 =>
 cndS t29 (
 callS Tryz.prog 122 (pA #[x0, x1, x2]) w_4 fun t33 w_5 =>
 K (.tuple #[]) w_5) (
 ev Tryz.prog (Op.unary .not x8) w_4 fun t35 w_6 =>
 cndS t35 (
 callS Tryz.prog 123 (pA #[x0, x1, x2]) w_6 fun t39 w_7 =>
 ev Tryz.prog (binM .sub 3 (.tmp 40) (.const (.int .i64 1)) x3 (.int .i64 1)) w_7 fun t41 w_8 =>
 c_f107_k1 x0 x1 x2 t41 x8 x9 t21 w_8) (
 c_f107_k1 x0 x1 x2 x3 x8 x9 t21 w_6)))
theorem f107_l1_sk (z : Nat → Value) (K : K1) (E1 : Value → Value → Value → Value → Value → World → Prop) (c_f107_k1 : Value → Value → Value → Value → Value → Value → Value → World → Prop) (w : World) : (cS (cl (cl (cl (cl (cr (cr f107_c)))))) (fun fr w => cS (cl (cr (cl (cl (cl (cr (cr f107_c))))))) (fun fr w => cS (cl (cr (cr (cl (cl (cl (cr (cr f107_c)))))))) (fun fr w => cS (cl (cr (cr (cr (cl (cl (cl (cr (cr f107_c))))))))) (fun fr w => c_f107_k1 (sv fr 0) (sv fr 1) (sv fr 2) (sv fr 3) (sv fr 8) (sv fr 9) (sv fr 10) w) (f107_e K) (exB 1 (fun fr w => E1 (sv fr 1) (sv fr 2) (sv fr 3) (sv fr 8) (sv fr 9) w) (exB 0 (f107_e K) nX)) fr w) (f107_e K) (exB 1 (fun fr w => E1 (sv fr 1) (sv fr 2) (sv fr 3) (sv fr 8) (sv fr 9) w) (exB 0 (f107_e K) nX)) fr w) (f107_e K) (exB 1 (fun fr w => E1 (sv fr 1) (sv fr 2) (sv fr 3) (sv fr 8) (sv fr 9) w) (exB 0 (f107_e K) nX)) fr w) (f107_e K) (exB 1 (fun fr w => E1 (sv fr 1) (sv fr 2) (sv fr 3) (sv fr 8) (sv fr 9) w) (exB 0 (f107_e K) nX)) (frL 134 z 0) w) = f107_l1_t (z 0) (z 1) (z 2) (z 3) (z 8) (z 9) K E1 c_f107_k1 w := by kernel_rfl
def f107_l1 (K : K1) (x0 x1 x2 x3 x8 x9 : Value) (w : World) : Prop := ∃ (I : Value → Value → Value → Value → Value → World → Prop) (μ : Value → Value → Value → Value → Value → World → Nat), I x1 x2 x3 x8 x9 w ∧ ∀ (x1 x2 x3 x8 x9 : Value) (w : World), I x1 x2 x3 x8 x9 w → ∀ E1 : Value → Value → Value → Value → Value → World → Prop, (∀ (y1 y2 y3 y8 y9 : Value) (w' : World), I y1 y2 y3 y8 y9 w' → μ y1 y2 y3 y8 y9 w' < μ x1 x2 x3 x8 x9 w → E1 y1 y2 y3 y8 y9 w') → f107_l1_t x0 x1 x2 x3 x8 x9 K E1 (f107_k1 K E1) w
theorem f107_l1_rule (x0 x1 x2 x3 x8 x9 : Value) (K : K1) (w : World) (I : Value → Value → Value → Value → Value → World → Prop) (μ : Value → Value → Value → Value → Value → World → Nat) (h0 : I x1 x2 x3 x8 x9 w)
    (hr : ∀ (x1 x2 x3 x8 x9 : Value) (w : World), I x1 x2 x3 x8 x9 w → ∀ E1 : Value → Value → Value → Value → Value → World → Prop, (∀ (y1 y2 y3 y8 y9 : Value) (w' : World), I y1 y2 y3 y8 y9 w' → μ y1 y2 y3 y8 y9 w' < μ x1 x2 x3 x8 x9 w → E1 y1 y2 y3 y8 y9 w') → f107_l1_t x0 x1 x2 x3 x8 x9 K E1 (f107_k1 K E1) w) : f107_l1 K x0 x1 x2 x3 x8 x9 w := ⟨I, μ, h0, hr⟩
def f107_l1_o (K : K1) : KF := fun fr w => cS (cl (cr (cr f107_c))) (fun _ _ => False) (f107_e K) (exB 0 (f107_e K) nX) fr w
theorem f107_l1_b (K : K1)  (E1 : Value → Value → Value → Value → Value → World → Prop) (F1 : KF) (f0 : Fr) (hn : f0.length = 134) (f1 : Fr) (a1 : Same 21778071482940061661655974875633165533183 f0 f1) (b1 : ∀ fr w, Same 21778071482940061661655974875633165532942 f1 fr → E1 (sv fr 1) (sv fr 2) (sv fr 3) (sv fr 8) (sv fr 9) w → F1 fr w) (fr : Fr) (w : World) (hs : Same 21778071482940061661655974875633165532942 f1 fr) (h : f107_l1_t (sv fr 0) (sv fr 1) (sv fr 2) (sv fr 3) (sv fr 8) (sv fr 9) K E1 (f107_k1 K E1) w) : cS (cl (cl (cr (cr f107_c)))) F1 (f107_e K) (exB 0 (f107_e K) nX) fr w := by
  have h1 := cast (f107_l1_sk (fun i => sv fr i) K E1 (f107_k1 K E1) w).symm h
  rw [show frL 134 (fun i => sv fr i) 0 = fr from frL_of (hs.len.trans (a1.len.trans hn))] at h1
  have h2 : cS (cl (cl (cl (cl (cr (cr f107_c)))))) (fun fr w => cS (cl (cr (cl (cl (cl (cr (cr f107_c))))))) (fun fr w => cS (cl (cr (cr (cl (cl (cl (cr (cr f107_c)))))))) (fun fr w => cS (cl (cr (cr (cr (cl (cl (cl (cr (cr f107_c))))))))) (f107_k1_o K F1) (f107_e K) (exB 1 F1 (exB 0 (f107_e K) nX)) fr w) (f107_e K) (exB 1 F1 (exB 0 (f107_e K) nX)) fr w) (f107_e K) (exB 1 F1 (exB 0 (f107_e K) nX)) fr w) (f107_e K) (exB 1 F1 (exB 0 (f107_e K) nX)) fr w := (codeS_mono (m := 21778071482940061661655974875633165532942) (f0 := f1) (cl (cl (cl (cl (cr (cr f107_c)))))) (by kernel_rfl) (fun fr w hs => codeS_mono (m := 21778071482940061661655974875633165532942) (f0 := f1) (cl (cr (cl (cl (cl (cr (cr f107_c))))))) (by kernel_rfl) (fun fr w hs => codeS_mono (m := 21778071482940061661655974875633165532942) (f0 := f1) (cl (cr (cr (cl (cl (cl (cr (cr f107_c)))))))) (by kernel_rfl) (fun fr w hs => codeS_mono (m := 21778071482940061661655974875633165532942) (f0 := f1) (cl (cr (cr (cr (cl (cl (cl (cr (cr f107_c))))))))) (by kernel_rfl) (fun fr w hs h => f107_k1_s K E1 F1 f0 hn f1 a1 b1 fr w hs h) (fun _ _ _ h => h) (exB_mono (fun fr w hs h => b1 fr w hs h) (exB_mono (fun _ _ _ h => h) (fun _ _ _ _ h => h))) fr w hs) (fun _ _ _ h => h) (exB_mono (fun fr w hs h => b1 fr w hs h) (exB_mono (fun _ _ _ h => h) (fun _ _ _ _ h => h))) fr w hs) (fun _ _ _ h => h) (exB_mono (fun fr w hs h => b1 fr w hs h) (exB_mono (fun _ _ _ h => h) (fun _ _ _ _ h => h))) fr w hs) (fun _ _ _ h => h) (exB_mono (fun fr w hs h => b1 fr w hs h) (exB_mono (fun _ _ _ h => h) (fun _ _ _ _ h => h))) fr w hs) h1
  exact cast (by kernel_rfl) h2
theorem f107_l1_s (K : K1)  (f0 : Fr) (hn : f0.length = 134) (fr : Fr) (w : World) (hs : Same 21778071482940061661655974875633165533183 f0 fr) (h : f107_l1 K (sv fr 0) (sv fr 1) (sv fr 2) (sv fr 3) (sv fr 8) (sv fr 9) w) : f107_l1_o K fr w := by
  obtain ⟨I, μ, h0, hr⟩ := h
  have hL : loopS (fun E fr w => cS (cl (cl (cr (cr f107_c)))) E (f107_e K) (exB 0 (f107_e K) nX) fr w) fr w := by
    refine ⟨fun f' w' => Same 21778071482940061661655974875633165532942 fr f' ∧ I (sv f' 1) (sv f' 2) (sv f' 3) (sv f' 8) (sv f' 9) w', fun f' w' => μ (sv f' 1) (sv f' 2) (sv f' 3) (sv f' 8) (sv f' 9) w', ⟨Same.refl _ _, h0⟩, ?_⟩
    intro f' w' hI
    have hb := hr (sv f' 1) (sv f' 2) (sv f' 3) (sv f' 8) (sv f' 9) w' hI.2 (fun y1 y2 y3 y8 y9 w2 => I y1 y2 y3 y8 y9 w2 ∧ μ y1 y2 y3 y8 y9 w2 < μ (sv f' 1) (sv f' 2) (sv f' 3) (sv f' 8) (sv f' 9) w') (fun y1 y2 y3 y8 y9 w2 a b => ⟨a, b⟩)
    rw [← hI.1.sv 0 (by kernel_rfl)] at hb
    exact f107_l1_b K _ _ f0 hn fr hs (fun f w h1 h2 => ⟨⟨h1, h2.1⟩, h2.2⟩) f' w' hI.1 hb
  exact cast (by kernel_rfl) hL
def f107_t (x0 x1 x2 x3 : Value) (K : K1) (c_f107_l1 : Value → Value → Value → Value → Value → Value → World → Prop) (w : World) : Prop :=
 c_f107_l1 x0 x1 x2 x3 (.bool true) (.bool true) w
theorem f107_sk (x0 x1 x2 x3 : Value) (K : K1) (c_f107_l1 : Value → Value → Value → Value → Value → Value → World → Prop) (w : World) : (cS (cl f107_c) (fun fr w => cS (cl (cr f107_c)) (fun fr w => c_f107_l1 (sv fr 0) (sv fr 1) (sv fr 2) (sv fr 3) (sv fr 8) (sv fr 9) w) (f107_e K) nX fr w) (f107_e K) nX ([x0, x1, x2, x3] ++ List.replicate (134 - 4) undef) w) = f107_t x0 x1 x2 x3 K c_f107_l1 w := by kernel_rfl
theorem f107_ok : codeOk Tryz.prog 134 f107_c = true := by kernel_rfl
theorem f107_m (K : K1) (f0 : Fr) (hn : f0.length = 134) (w : World) (h1 : cS (cl f107_c) (fun fr w => cS (cl (cr f107_c)) (fun fr w => f107_l1 K (sv fr 0) (sv fr 1) (sv fr 2) (sv fr 3) (sv fr 8) (sv fr 9) w) (f107_e K) nX fr w) (f107_e K) nX f0 w) : cS f107_c (f107_e K) (f107_e K) nX f0 w := by
  have hs := Same.refl 21778071482940061661655974875633165533183 f0
  let fr := f0
  have h2 : cS (cl f107_c) (fun fr w => cS (cl (cr f107_c)) (fun fr w => f107_l1_o K fr w) (f107_e K) nX fr w) (f107_e K) nX fr w := (codeS_mono (m := 21778071482940061661655974875633165533183) (f0 := f0) (cl f107_c) (by kernel_rfl) (fun fr w hs => codeS_mono (m := 21778071482940061661655974875633165533183) (f0 := f0) (cl (cr f107_c)) (by kernel_rfl) (fun fr w hs => (fun h => f107_l1_s K f0 hn fr w hs h)) (fun _ _ _ h => h) (fun _ _ _ _ h => h) fr w hs) (fun _ _ _ h => h) (fun _ _ _ _ h => h) fr w hs) h1
  exact cast (by kernel_rfl) h2
theorem f107_call (x0 x1 x2 x3 : Value) (K : K1) (w : World) (h : f107_t x0 x1 x2 x3 K (f107_l1 K) w) : callS Tryz.prog 107 #[x0, x1, x2, x3] w K :=
  calls_of_codeS (args := [x0, x1, x2, x3]) mixed Tryz.func107 (show Tryz.f107.body = some f107_c from rfl) rfl (show Tryz.f107.results = f107_rs.toArray from rfl) f107_ok (by simp) (f107_m K _ (by simp) w (cast (f107_sk x0 x1 x2 x3 K (f107_l1 K) w).symm h))
noncomputable def f108_c : Code := (Tryz.f108.body).getD .skip
def f108_rs : List ResultVar := [.tmp 2]
abbrev f108_e (K : K1) : KF := endK Tryz.prog f108_rs K
def f108_t (x0 : Value) (K : K1) (w : World) : Prop :=
 cndS (.bool false) (
 ev Tryz.prog (convert 100 44 x0) w fun t4 w_1 =>
 callS Tryz.prog 130 (pA #[t4]) w_1 fun t5 w_2 =>
 K t5 w_2) (
 callS Tryz.prog 131 (pA #[x0]) w fun t7 w_3 =>
 K t7 w_3)
theorem f108_sk (x0 : Value) (K : K1) (w : World) : (cS f108_c (f108_e K) (f108_e K) nX ([x0] ++ List.replicate (8 - 1) undef) w) = f108_t x0 K w := by kernel_rfl
theorem f108_ok : codeOk Tryz.prog 8 f108_c = true := by kernel_rfl
theorem f108_call (x0 : Value) (K : K1) (w : World) (h : f108_t x0 K w) : callS Tryz.prog 108 #[x0] w K :=
  calls_of_codeS (args := [x0]) mixed Tryz.func108 (show Tryz.f108.body = some f108_c from rfl) rfl (show Tryz.f108.results = f108_rs.toArray from rfl) f108_ok (by simp) (cast ((Eq.trans (by kernel_rfl) (f108_sk x0 K w) : (cS f108_c (f108_e K) (f108_e K) nX ([x0] ++ List.replicate (8 - 1) undef) w) = f108_t x0 K w)).symm h)
noncomputable def f121_c : Code := (Tryz.f121.body).getD .skip
def f121_rs : List ResultVar := []
abbrev f121_e (K : K1) : KF := endK Tryz.prog f121_rs K
def f121_k1_t (x0 x1 x2 x6 : Value) (K : K1) (E1 : Value → World → Prop) (w : World) : Prop :=
 ev Tryz.prog (binM .add 3 (.tmp 13) (.const (.int .i64 1)) x6 (.int .i64 1)) w fun t14 w_1 =>
 E1 t14 w_1
theorem f121_k1_sk (z : Nat → Value) (K : K1) (E1 : Value → World → Prop) (w : World) : (cS (cr (cr (cl (cl (cr f121_c))))) (fun fr w => E1 (sv fr 6) w) (f121_e K) (exB 0 (f121_e K) nX) (frL 49 z 0) w) = f121_k1_t (z 0) (z 1) (z 2) (z 6) K E1 w := by kernel_rfl
def f121_k1 (K : K1) (E1 : Value → World → Prop) (x0 x1 x2 x6 : Value) (w : World) : Prop := f121_k1_t x0 x1 x2 x6 K E1 w
theorem f121_k1_eq (K : K1) (E1 : Value → World → Prop) (x0 x1 x2 x6 : Value) (w : World) : f121_k1 K E1 x0 x1 x2 x6 w = f121_k1_t x0 x1 x2 x6 K E1 w := rfl
def f121_k1_o (K : K1) (F1 : KF) : KF := fun fr w => cS (cr (cr (cl (cl (cr f121_c))))) F1 (f121_e K) (exB 0 (f121_e K) nX) fr w
theorem f121_k1_s (K : K1)  (E1 : Value → World → Prop) (F1 : KF) (f0 : Fr) (hn : f0.length = 49) (f1 : Fr) (a1 : Same 562949953421311 f0 f1) (b1 : ∀ fr w, Same 562949953420480 f1 fr → E1 (sv fr 6) w → F1 fr w) (fr : Fr) (w : World) (hs : Same 562949953420480 f1 fr) (h : f121_k1 K E1 (sv fr 0) (sv fr 1) (sv fr 2) (sv fr 6) w) : f121_k1_o K F1 fr w := by
  have h1 := cast (f121_k1_sk (fun i => sv fr i) K E1 w).symm h
  rw [show frL 49 (fun i => sv fr i) 0 = fr from frL_of (hs.len.trans (a1.len.trans hn))] at h1
  have h2 : cS (cr (cr (cl (cl (cr f121_c))))) F1 (f121_e K) (exB 0 (f121_e K) nX) fr w := (codeS_mono (m := 562949953420480) (f0 := f1) (cr (cr (cl (cl (cr f121_c))))) (by kernel_rfl) (fun fr w hs h => b1 fr w hs h) (fun _ _ _ h => h) (exB_mono (fun _ _ _ h => h) (fun _ _ _ _ h => h)) fr w hs) h1
  exact cast (by kernel_rfl) h2
def f121_l2_t (x0 x1 x2 x6 x7 : Value) (K : K1) (E1 : Value → World → Prop) (E2 : Value → World → Prop) (c_f121_k1 : Value → Value → Value → Value → World → Prop) (w : World) : Prop :=
 rd Tryz.prog (binM .gtr 3 (.tmp 16) (.tmp 17) x7 x1) w.drew fun t18 =>
 gdR t18 true (fun k => k x0) fun t20 =>
 gdR t18 true (fun k => k x7) fun t21 =>
 gdR t18 true (fun k => rd Tryz.prog (Instr.indexAt 72 t20 t21) w.drew k) fun t22 =>
 gdR t18 true (fun k => ldR Tryz.prog 33 t22 w.drew k) fun t23 =>
 gdR t18 true (fun k => k x0) fun t24 =>
 gdR t18 true (fun k => k x7) fun t25 =>
 gdR t18 true (fun k => rd Tryz.prog (binM .sub 3 (.tmp 25) (.const (.int .i64 1)) t25 (.int .i64 1)) w.drew k) fun t26 =>
 gdR t18 true (fun k => rd Tryz.prog (Instr.indexAt 72 t24 t26) w.drew k) fun t27 =>
 gdR t18 true (fun k => ldR Tryz.prog 33 t27 w.drew k) fun t28 =>
 gd t18 true (fun k => callS Tryz.prog 127 (pA #[t23, t28]) w.drew k) w.drew fun t29 w_1 =>
 pickV t18 t29 (.bool false) fun t30 =>
 cndS t30 (
 rd Tryz.prog (binM .sub 3 (.tmp 36) (.const (.int .i64 1)) x7 (.int .i64 1)) w_1.drew fun t37 =>
 rd Tryz.prog (binM .sub 3 (.tmp 39) (.const (.int .i64 1)) x7 (.int .i64 1)) w_1.drew fun t40 =>
 rd Tryz.prog (Instr.indexAt 72 x0 t40) w_1.drew fun t41 =>
 ldR Tryz.prog 33 t41 w_1.drew fun t42 =>
 rd Tryz.prog (Instr.indexAt 72 x0 x7) w_1.drew fun t45 =>
 ldR Tryz.prog 33 t45 w_1.drew fun t46 =>
 rd Tryz.prog (Instr.indexAt 72 x0 x7) w_1.drew fun t47 =>
 stS Tryz.prog 33 t47 t42 w_1.drew fun w_2 =>
 (ag Tryz.prog (binM .sub 3 (.tmp 36) (.const (.int .i64 1)) x7 (.int .i64 1)) w_2 t37) ∧
 rd Tryz.prog (Instr.indexAt 72 x0 t37) w_2 fun t48 =>
 stS Tryz.prog 33 t48 t46 w_2 fun w_3 =>
 ev Tryz.prog (binM .sub 3 (.tmp 31) (.const (.int .i64 1)) x7 (.int .i64 1)) w_3 fun t32 w_4 =>
 E2 t32 w_4) (
 c_f121_k1 x0 x1 x2 x6 w_1)
theorem f121_l2_sk (z : Nat → Value) (K : K1) (E1 : Value → World → Prop) (E2 : Value → World → Prop) (c_f121_k1 : Value → Value → Value → Value → World → Prop) (w : World) : (cS (cl (cl (cr (cl (cl (cr (cl (cl (cr f121_c))))))))) (fun fr w => E2 (sv fr 7) w) (f121_e K) (exB 2 (fun fr w => c_f121_k1 (sv fr 0) (sv fr 1) (sv fr 2) (sv fr 6) w) (exB 1 (fun fr w => c_f121_k1 (sv fr 0) (sv fr 1) (sv fr 2) (sv fr 6) w) (exB 0 (f121_e K) nX))) (frL 49 z 0) w) = f121_l2_t (z 0) (z 1) (z 2) (z 6) (z 7) K E1 E2 c_f121_k1 w := by kernel_rfl
def f121_l2 (K : K1) (E1 : Value → World → Prop) (x0 x1 x2 x6 x7 : Value) (w : World) : Prop := ∃ (I : Value → World → Prop) (μ : Value → World → Nat), I x7 w ∧ ∀ (x7 : Value) (w : World), I x7 w → ∀ E2 : Value → World → Prop, (∀ (y7 : Value) (w' : World), I y7 w' → μ y7 w' < μ x7 w → E2 y7 w') → f121_l2_t x0 x1 x2 x6 x7 K E1 E2 (f121_k1 K E1) w
theorem f121_l2_rule (x0 x1 x2 x6 x7 : Value) (K : K1) (E1 : Value → World → Prop) (w : World) (I : Value → World → Prop) (μ : Value → World → Nat) (h0 : I x7 w)
    (hr : ∀ (x7 : Value) (w : World), I x7 w → ∀ E2 : Value → World → Prop, (∀ (y7 : Value) (w' : World), I y7 w' → μ y7 w' < μ x7 w → E2 y7 w') → f121_l2_t x0 x1 x2 x6 x7 K E1 E2 (f121_k1 K E1) w) : f121_l2 K E1 x0 x1 x2 x6 x7 w := ⟨I, μ, h0, hr⟩
def f121_l2_o (K : K1) (F1 : KF) : KF := fun fr w => cS (cl (cr (cl (cl (cr (cl (cl (cr f121_c)))))))) (fun _ _ => False) (f121_e K) (exB 2 (f121_k1_o K F1) (exB 1 (f121_k1_o K F1) (exB 0 (f121_e K) nX))) fr w
theorem f121_l2_b (K : K1)  (E1 : Value → World → Prop) (E2 : Value → World → Prop) (F1 : KF) (F2 : KF) (f0 : Fr) (hn : f0.length = 49) (f1 : Fr) (a1 : Same 562949953421311 f0 f1) (b1 : ∀ fr w, Same 562949953420480 f1 fr → E1 (sv fr 6) w → F1 fr w) (f2 : Fr) (a2 : Same 562949953420480 f1 f2) (b2 : ∀ fr w, Same 562949953355904 f2 fr → E2 (sv fr 7) w → F2 fr w) (fr : Fr) (w : World) (hs : Same 562949953355904 f2 fr) (h : f121_l2_t (sv fr 0) (sv fr 1) (sv fr 2) (sv fr 6) (sv fr 7) K E1 E2 (f121_k1 K E1) w) : cS (cl (cl (cr (cl (cl (cr (cl (cl (cr f121_c))))))))) F2 (f121_e K) (exB 2 (f121_k1_o K F1) (exB 1 (f121_k1_o K F1) (exB 0 (f121_e K) nX))) fr w := by
  have h1 := cast (f121_l2_sk (fun i => sv fr i) K E1 E2 (f121_k1 K E1) w).symm h
  rw [show frL 49 (fun i => sv fr i) 0 = fr from frL_of (hs.len.trans (a2.len.trans (a1.len.trans hn)))] at h1
  have h2 : cS (cl (cl (cr (cl (cl (cr (cl (cl (cr f121_c))))))))) F2 (f121_e K) (exB 2 (f121_k1_o K F1) (exB 1 (f121_k1_o K F1) (exB 0 (f121_e K) nX))) fr w := (codeS_mono (m := 562949953355904) (f0 := f2) (cl (cl (cr (cl (cl (cr (cl (cl (cr f121_c))))))))) (by kernel_rfl) (fun fr w hs h => b2 fr w hs h) (fun _ _ _ h => h) (exB_mono (fun fr w hs h => f121_k1_s K E1 F1 f0 hn f1 a1 b1 fr w (Same.up (by kernel_rfl) a2 hs) h) (exB_mono (fun fr w hs h => f121_k1_s K E1 F1 f0 hn f1 a1 b1 fr w (Same.up (by kernel_rfl) a2 hs) h) (exB_mono (fun _ _ _ h => h) (fun _ _ _ _ h => h)))) fr w hs) h1
  exact cast (by kernel_rfl) h2
theorem f121_l2_s (K : K1)  (E1 : Value → World → Prop) (F1 : KF) (f0 : Fr) (hn : f0.length = 49) (f1 : Fr) (a1 : Same 562949953421311 f0 f1) (b1 : ∀ fr w, Same 562949953420480 f1 fr → E1 (sv fr 6) w → F1 fr w) (fr : Fr) (w : World) (hs : Same 562949953420480 f1 fr) (h : f121_l2 K E1 (sv fr 0) (sv fr 1) (sv fr 2) (sv fr 6) (sv fr 7) w) : f121_l2_o K F1 fr w := by
  obtain ⟨I, μ, h0, hr⟩ := h
  have hL : loopS (fun E fr w => cS (cl (cl (cr (cl (cl (cr (cl (cl (cr f121_c))))))))) E (f121_e K) (exB 2 (f121_k1_o K F1) (exB 1 (f121_k1_o K F1) (exB 0 (f121_e K) nX))) fr w) fr w := by
    refine ⟨fun f' w' => Same 562949953355904 fr f' ∧ I (sv f' 7) w', fun f' w' => μ (sv f' 7) w', ⟨Same.refl _ _, h0⟩, ?_⟩
    intro f' w' hI
    have hb := hr (sv f' 7) w' hI.2 (fun y7 w2 => I y7 w2 ∧ μ y7 w2 < μ (sv f' 7) w') (fun y7 w2 a b => ⟨a, b⟩)
    rw [← hI.1.sv 0 (by kernel_rfl), ← hI.1.sv 1 (by kernel_rfl), ← hI.1.sv 2 (by kernel_rfl), ← hI.1.sv 6 (by kernel_rfl)] at hb
    exact f121_l2_b K E1 _ F1 _ f0 hn f1 a1 b1 fr hs (fun f w h1 h2 => ⟨⟨h1, h2.1⟩, h2.2⟩) f' w' hI.1 hb
  exact cast (by kernel_rfl) hL
def f121_l1_t (x0 x1 x2 x6 : Value) (K : K1) (E1 : Value → World → Prop) (c_f121_k1 : Value → Value → Value → Value → World → Prop) (c_f121_l2 : Value → Value → Value → Value → Value → World → Prop) (w : World) : Prop :=
 ev Tryz.prog (binM .lss 3 (.tmp 10) (.tmp 11) x6 x2) w fun t12 w_1 =>
 cndS t12 (
 c_f121_l2 x0 x1 x2 x6 x6 w_1) (
 K (.tuple #[]) w_1)
theorem f121_l1_sk (z : Nat → Value) (K : K1) (E1 : Value → World → Prop) (c_f121_k1 : Value → Value → Value → Value → World → Prop) (c_f121_l2 : Value → Value → Value → Value → Value → World → Prop) (w : World) : (cS (cl (cl (cl (cr f121_c)))) (fun fr w => cS (cl (cl (cl (cr (cl (cl (cr f121_c))))))) (fun fr w => c_f121_l2 (sv fr 0) (sv fr 1) (sv fr 2) (sv fr 6) (sv fr 7) w) (f121_e K) (exB 1 (fun fr w => c_f121_k1 (sv fr 0) (sv fr 1) (sv fr 2) (sv fr 6) w) (exB 0 (f121_e K) nX)) fr w) (f121_e K) (exB 0 (f121_e K) nX) (frL 49 z 0) w) = f121_l1_t (z 0) (z 1) (z 2) (z 6) K E1 c_f121_k1 c_f121_l2 w := by kernel_rfl
def f121_l1 (K : K1) (x0 x1 x2 x6 : Value) (w : World) : Prop := ∃ (I : Value → World → Prop) (μ : Value → World → Nat), I x6 w ∧ ∀ (x6 : Value) (w : World), I x6 w → ∀ E1 : Value → World → Prop, (∀ (y6 : Value) (w' : World), I y6 w' → μ y6 w' < μ x6 w → E1 y6 w') → f121_l1_t x0 x1 x2 x6 K E1 (f121_k1 K E1) (f121_l2 K E1) w
theorem f121_l1_rule (x0 x1 x2 x6 : Value) (K : K1) (w : World) (I : Value → World → Prop) (μ : Value → World → Nat) (h0 : I x6 w)
    (hr : ∀ (x6 : Value) (w : World), I x6 w → ∀ E1 : Value → World → Prop, (∀ (y6 : Value) (w' : World), I y6 w' → μ y6 w' < μ x6 w → E1 y6 w') → f121_l1_t x0 x1 x2 x6 K E1 (f121_k1 K E1) (f121_l2 K E1) w) : f121_l1 K x0 x1 x2 x6 w := ⟨I, μ, h0, hr⟩
def f121_l1_o (K : K1) : KF := fun fr w => cS (cl (cr f121_c)) (fun _ _ => False) (f121_e K) (exB 0 (f121_e K) nX) fr w
theorem f121_l1_b (K : K1)  (E1 : Value → World → Prop) (F1 : KF) (f0 : Fr) (hn : f0.length = 49) (f1 : Fr) (a1 : Same 562949953421311 f0 f1) (b1 : ∀ fr w, Same 562949953420480 f1 fr → E1 (sv fr 6) w → F1 fr w) (fr : Fr) (w : World) (hs : Same 562949953420480 f1 fr) (h : f121_l1_t (sv fr 0) (sv fr 1) (sv fr 2) (sv fr 6) K E1 (f121_k1 K E1) (f121_l2 K E1) w) : cS (cl (cl (cr f121_c))) F1 (f121_e K) (exB 0 (f121_e K) nX) fr w := by
  have h1 := cast (f121_l1_sk (fun i => sv fr i) K E1 (f121_k1 K E1) (f121_l2 K E1) w).symm h
  rw [show frL 49 (fun i => sv fr i) 0 = fr from frL_of (hs.len.trans (a1.len.trans hn))] at h1
  have h2 : cS (cl (cl (cl (cr f121_c)))) (fun fr w => cS (cl (cl (cl (cr (cl (cl (cr f121_c))))))) (fun fr w => f121_l2_o K F1 fr w) (f121_e K) (exB 1 (f121_k1_o K F1) (exB 0 (f121_e K) nX)) fr w) (f121_e K) (exB 0 (f121_e K) nX) fr w := (codeS_mono (m := 562949953420480) (f0 := f1) (cl (cl (cl (cr f121_c)))) (by kernel_rfl) (fun fr w hs => codeS_mono (m := 562949953420480) (f0 := f1) (cl (cl (cl (cr (cl (cl (cr f121_c))))))) (by kernel_rfl) (fun fr w hs => (fun h => f121_l2_s K E1 F1 f0 hn f1 a1 b1 fr w hs h)) (fun _ _ _ h => h) (exB_mono (fun fr w hs h => f121_k1_s K E1 F1 f0 hn f1 a1 b1 fr w hs h) (exB_mono (fun _ _ _ h => h) (fun _ _ _ _ h => h))) fr w hs) (fun _ _ _ h => h) (exB_mono (fun _ _ _ h => h) (fun _ _ _ _ h => h)) fr w hs) h1
  exact cast (by kernel_rfl) h2
theorem f121_l1_s (K : K1)  (f0 : Fr) (hn : f0.length = 49) (fr : Fr) (w : World) (hs : Same 562949953421311 f0 fr) (h : f121_l1 K (sv fr 0) (sv fr 1) (sv fr 2) (sv fr 6) w) : f121_l1_o K fr w := by
  obtain ⟨I, μ, h0, hr⟩ := h
  have hL : loopS (fun E fr w => cS (cl (cl (cr f121_c))) E (f121_e K) (exB 0 (f121_e K) nX) fr w) fr w := by
    refine ⟨fun f' w' => Same 562949953420480 fr f' ∧ I (sv f' 6) w', fun f' w' => μ (sv f' 6) w', ⟨Same.refl _ _, h0⟩, ?_⟩
    intro f' w' hI
    have hb := hr (sv f' 6) w' hI.2 (fun y6 w2 => I y6 w2 ∧ μ y6 w2 < μ (sv f' 6) w') (fun y6 w2 a b => ⟨a, b⟩)
    rw [← hI.1.sv 0 (by kernel_rfl), ← hI.1.sv 1 (by kernel_rfl), ← hI.1.sv 2 (by kernel_rfl)] at hb
    exact f121_l1_b K _ _ f0 hn fr hs (fun f w h1 h2 => ⟨⟨h1, h2.1⟩, h2.2⟩) f' w' hI.1 hb
  exact cast (by kernel_rfl) hL
def f121_t (x0 x1 x2 : Value) (K : K1) (c_f121_l1 : Value → Value → Value → Value → World → Prop) (w : World) : Prop :=
 ev Tryz.prog (binM .add 3 (.tmp 8) (.const (.int .i64 1)) x1 (.int .i64 1)) w fun t9 w_1 =>
 c_f121_l1 x0 x1 x2 t9 w_1
theorem f121_sk (x0 x1 x2 : Value) (K : K1) (c_f121_l1 : Value → Value → Value → Value → World → Prop) (w : World) : (cS (cl f121_c) (fun fr w => c_f121_l1 (sv fr 0) (sv fr 1) (sv fr 2) (sv fr 6) w) (f121_e K) nX ([x0, x1, x2] ++ List.replicate (49 - 3) undef) w) = f121_t x0 x1 x2 K c_f121_l1 w := by kernel_rfl
theorem f121_ok : codeOk Tryz.prog 49 f121_c = true := by kernel_rfl
theorem f121_m (K : K1) (f0 : Fr) (hn : f0.length = 49) (w : World) (h1 : cS (cl f121_c) (fun fr w => f121_l1 K (sv fr 0) (sv fr 1) (sv fr 2) (sv fr 6) w) (f121_e K) nX f0 w) : cS f121_c (f121_e K) (f121_e K) nX f0 w := by
  have hs := Same.refl 562949953421311 f0
  let fr := f0
  have h2 : cS (cl f121_c) (fun fr w => f121_l1_o K fr w) (f121_e K) nX fr w := (codeS_mono (m := 562949953421311) (f0 := f0) (cl f121_c) (by kernel_rfl) (fun fr w hs => (fun h => f121_l1_s K f0 hn fr w hs h)) (fun _ _ _ h => h) (fun _ _ _ _ h => h) fr w hs) h1
  exact cast (by kernel_rfl) h2
theorem f121_call (x0 x1 x2 : Value) (K : K1) (w : World) (h : f121_t x0 x1 x2 K (f121_l1 K) w) : callS Tryz.prog 121 #[x0, x1, x2] w K :=
  calls_of_codeS (args := [x0, x1, x2]) mixed Tryz.func121 (show Tryz.f121.body = some f121_c from rfl) rfl (show Tryz.f121.results = f121_rs.toArray from rfl) f121_ok (by simp) (f121_m K _ (by simp) w (cast (f121_sk x0 x1 x2 K (f121_l1 K) w).symm h))
noncomputable def f122_c : Code := (Tryz.f122.body).getD .skip
def f122_rs : List ResultVar := []
abbrev f122_e (K : K1) : KF := endK Tryz.prog f122_rs K
def f122_l2_t (x0 x6 x7 x10 : Value) (K : K1) (E1 : Value → World → Prop) (w : World) : Prop :=
 ev Tryz.prog (binM .geq 3 (.tmp 29) (.const (.int .i64 0)) x10 (.int .i64 0)) w fun t30 w_1 =>
 cndS t30 (
 rd Tryz.prog (binM .add 3 (.tmp 36) (.tmp 37) x6 x10) w_1.drew fun t38 =>
 rd Tryz.prog (binM .add 3 (.tmp 40) (.tmp 41) x6 x10) w_1.drew fun t42 =>
 rd Tryz.prog (Instr.indexAt 72 x0 t42) w_1.drew fun t43 =>
 ldR Tryz.prog 33 t43 w_1.drew fun t44 =>
 rd Tryz.prog (Instr.indexAt 72 x0 x6) w_1.drew fun t47 =>
 ldR Tryz.prog 33 t47 w_1.drew fun t48 =>
 rd Tryz.prog (Instr.indexAt 72 x0 x6) w_1.drew fun t49 =>
 stS Tryz.prog 33 t49 t44 w_1.drew fun w_2 =>
 (ag Tryz.prog (binM .add 3 (.tmp 36) (.tmp 37) x6 x10) w_2 t38) ∧
 rd Tryz.prog (Instr.indexAt 72 x0 t38) w_2 fun t50 =>
 stS Tryz.prog 33 t50 t48 w_2 fun w_3 =>
 callS Tryz.prog 135 (pA #[x0, x7, x10, x6]) w_3 fun t55 w_4 =>
 ev Tryz.prog (binM .sub 3 (.tmp 31) (.const (.int .i64 1)) x10 (.int .i64 1)) w_4 fun t32 w_5 =>
 E1 t32 w_5) (
 K (.tuple #[]) w_1)
theorem f122_l2_sk (z : Nat → Value) (K : K1) (E1 : Value → World → Prop) (w : World) : (cS (cl (cl (cr (cr (cr (cr (cr f122_c))))))) (fun fr w => E1 (sv fr 10) w) (f122_e K) (exB 2 (f122_e K) nX) (frL 56 z 0) w) = f122_l2_t (z 0) (z 6) (z 7) (z 10) K E1 w := by kernel_rfl
def f122_l2 (K : K1) (x0 x6 x7 x10 : Value) (w : World) : Prop := ∃ (I : Value → World → Prop) (μ : Value → World → Nat), I x10 w ∧ ∀ (x10 : Value) (w : World), I x10 w → ∀ E1 : Value → World → Prop, (∀ (y10 : Value) (w' : World), I y10 w' → μ y10 w' < μ x10 w → E1 y10 w') → f122_l2_t x0 x6 x7 x10 K E1 w
theorem f122_l2_rule (x0 x6 x7 x10 : Value) (K : K1) (w : World) (I : Value → World → Prop) (μ : Value → World → Nat) (h0 : I x10 w)
    (hr : ∀ (x10 : Value) (w : World), I x10 w → ∀ E1 : Value → World → Prop, (∀ (y10 : Value) (w' : World), I y10 w' → μ y10 w' < μ x10 w → E1 y10 w') → f122_l2_t x0 x6 x7 x10 K E1 w) : f122_l2 K x0 x6 x7 x10 w := ⟨I, μ, h0, hr⟩
def f122_l2_o (K : K1) : KF := fun fr w => cS (cl (cr (cr (cr (cr (cr f122_c)))))) (fun _ _ => False) (f122_e K) (exB 2 (f122_e K) nX) fr w
theorem f122_l2_b (K : K1)  (E1 : Value → World → Prop) (F1 : KF) (f0 : Fr) (hn : f0.length = 56) (f1 : Fr) (a1 : Same 72057594037927935 f0 f1) (b1 : ∀ fr w, Same 72057593501058048 f1 fr → E1 (sv fr 10) w → F1 fr w) (fr : Fr) (w : World) (hs : Same 72057593501058048 f1 fr) (h : f122_l2_t (sv fr 0) (sv fr 6) (sv fr 7) (sv fr 10) K E1 w) : cS (cl (cl (cr (cr (cr (cr (cr f122_c))))))) F1 (f122_e K) (exB 2 (f122_e K) nX) fr w := by
  have h1 := cast (f122_l2_sk (fun i => sv fr i) K E1 w).symm h
  rw [show frL 56 (fun i => sv fr i) 0 = fr from frL_of (hs.len.trans (a1.len.trans hn))] at h1
  have h2 : cS (cl (cl (cr (cr (cr (cr (cr f122_c))))))) F1 (f122_e K) (exB 2 (f122_e K) nX) fr w := (codeS_mono (m := 72057593501058048) (f0 := f1) (cl (cl (cr (cr (cr (cr (cr f122_c))))))) (by kernel_rfl) (fun fr w hs h => b1 fr w hs h) (fun _ _ _ h => h) (exB_mono (fun _ _ _ h => h) (fun _ _ _ _ h => h)) fr w hs) h1
  exact cast (by kernel_rfl) h2
theorem f122_l2_s (K : K1)  (f0 : Fr) (hn : f0.length = 56) (fr : Fr) (w : World) (hs : Same 72057594037927935 f0 fr) (h : f122_l2 K (sv fr 0) (sv fr 6) (sv fr 7) (sv fr 10) w) : f122_l2_o K fr w := by
  obtain ⟨I, μ, h0, hr⟩ := h
  have hL : loopS (fun E fr w => cS (cl (cl (cr (cr (cr (cr (cr f122_c))))))) E (f122_e K) (exB 2 (f122_e K) nX) fr w) fr w := by
    refine ⟨fun f' w' => Same 72057593501058048 fr f' ∧ I (sv f' 10) w', fun f' w' => μ (sv f' 10) w', ⟨Same.refl _ _, h0⟩, ?_⟩
    intro f' w' hI
    have hb := hr (sv f' 10) w' hI.2 (fun y10 w2 => I y10 w2 ∧ μ y10 w2 < μ (sv f' 10) w') (fun y10 w2 a b => ⟨a, b⟩)
    rw [← hI.1.sv 0 (by kernel_rfl), ← hI.1.sv 6 (by kernel_rfl), ← hI.1.sv 7 (by kernel_rfl)] at hb
    exact f122_l2_b K _ _ f0 hn fr hs (fun f w h1 h2 => ⟨⟨h1, h2.1⟩, h2.2⟩) f' w' hI.1 hb
  exact cast (by kernel_rfl) hL
def f122_k1_t (x0 x6 x7 x8 : Value) (K : K1) (c_f122_l2 : Value → Value → Value → Value → World → Prop) (w : World) : Prop :=
 ev Tryz.prog (binM .sub 3 (.tmp 27) (.const (.int .i64 1)) x8 (.int .i64 1)) w fun t28 w_1 =>
 c_f122_l2 x0 x6 x7 t28 w_1
theorem f122_k1_sk (z : Nat → Value) (K : K1) (c_f122_l2 : Value → Value → Value → Value → World → Prop) (w : World) : (cS (cl (cr (cr (cr (cr f122_c))))) (fun fr w => c_f122_l2 (sv fr 0) (sv fr 6) (sv fr 7) (sv fr 10) w) (f122_e K) nX (frL 56 z 0) w) = f122_k1_t (z 0) (z 6) (z 7) (z 8) K c_f122_l2 w := by kernel_rfl
def f122_k1 (K : K1) (x0 x6 x7 x8 : Value) (w : World) : Prop := f122_k1_t x0 x6 x7 x8 K (f122_l2 K) w
theorem f122_k1_eq (K : K1) (x0 x6 x7 x8 : Value) (w : World) : f122_k1 K x0 x6 x7 x8 w = f122_k1_t x0 x6 x7 x8 K (f122_l2 K) w := rfl
def f122_k1_o (K : K1) : KF := fun fr w => cS (cr (cr (cr (cr f122_c)))) (f122_e K) (f122_e K) nX fr w
theorem f122_k1_s (K : K1)  (f0 : Fr) (hn : f0.length = 56) (fr : Fr) (w : World) (hs : Same 72057594037927935 f0 fr) (h : f122_k1 K (sv fr 0) (sv fr 6) (sv fr 7) (sv fr 8) w) : f122_k1_o K fr w := by
  have h1 := cast (f122_k1_sk (fun i => sv fr i) K (f122_l2 K) w).symm h
  rw [show frL 56 (fun i => sv fr i) 0 = fr from frL_of (hs.len.trans hn)] at h1
  have h2 : cS (cl (cr (cr (cr (cr f122_c))))) (fun fr w => f122_l2_o K fr w) (f122_e K) nX fr w := (codeS_mono (m := 72057594037927935) (f0 := f0) (cl (cr (cr (cr (cr f122_c))))) (by kernel_rfl) (fun fr w hs => (fun h => f122_l2_s K f0 hn fr w hs h)) (fun _ _ _ h => h) (fun _ _ _ _ h => h) fr w hs) h1
  exact cast (by kernel_rfl) h2
def f122_l1_t (x0 x6 x7 x8 x9 : Value) (K : K1) (E1 : Value → World → Prop) (c_f122_k1 : Value → Value → Value → Value → World → Prop) (w : World) : Prop :=
 ev Tryz.prog (binM .geq 3 (.tmp 18) (.const (.int .i64 0)) x9 (.int .i64 0)) w fun t19 w_1 =>
 cndS t19 (
 callS Tryz.prog 135 (pA #[x0, x9, x8, x6]) w_1 fun t26 w_2 =>
 ev Tryz.prog (binM .sub 3 (.tmp 20) (.const (.int .i64 1)) x9 (.int .i64 1)) w_2 fun t21 w_3 =>
 E1 t21 w_3) (
 c_f122_k1 x0 x6 x7 x8 w_1)
theorem f122_l1_sk (z : Nat → Value) (K : K1) (E1 : Value → World → Prop) (c_f122_k1 : Value → Value → Value → Value → World → Prop) (w : World) : (cS (cl (cl (cr (cl (cr (cr (cr f122_c))))))) (fun fr w => E1 (sv fr 9) w) (f122_e K) (exB 0 (fun fr w => c_f122_k1 (sv fr 0) (sv fr 6) (sv fr 7) (sv fr 8) w) nX) (frL 56 z 0) w) = f122_l1_t (z 0) (z 6) (z 7) (z 8) (z 9) K E1 c_f122_k1 w := by kernel_rfl
def f122_l1 (K : K1) (x0 x6 x7 x8 x9 : Value) (w : World) : Prop := ∃ (I : Value → World → Prop) (μ : Value → World → Nat), I x9 w ∧ ∀ (x9 : Value) (w : World), I x9 w → ∀ E1 : Value → World → Prop, (∀ (y9 : Value) (w' : World), I y9 w' → μ y9 w' < μ x9 w → E1 y9 w') → f122_l1_t x0 x6 x7 x8 x9 K E1 (f122_k1 K) w
theorem f122_l1_rule (x0 x6 x7 x8 x9 : Value) (K : K1) (w : World) (I : Value → World → Prop) (μ : Value → World → Nat) (h0 : I x9 w)
    (hr : ∀ (x9 : Value) (w : World), I x9 w → ∀ E1 : Value → World → Prop, (∀ (y9 : Value) (w' : World), I y9 w' → μ y9 w' < μ x9 w → E1 y9 w') → f122_l1_t x0 x6 x7 x8 x9 K E1 (f122_k1 K) w) : f122_l1 K x0 x6 x7 x8 x9 w := ⟨I, μ, h0, hr⟩
def f122_l1_o (K : K1) : KF := fun fr w => cS (cl (cr (cl (cr (cr (cr f122_c)))))) (fun _ _ => False) (f122_e K) (exB 0 (f122_k1_o K) nX) fr w
theorem f122_l1_b (K : K1)  (E1 : Value → World → Prop) (F1 : KF) (f0 : Fr) (hn : f0.length = 56) (f1 : Fr) (a1 : Same 72057594037927935 f0 f1) (b1 : ∀ fr w, Same 133956096 f1 fr → E1 (sv fr 9) w → F1 fr w) (fr : Fr) (w : World) (hs : Same 133956096 f1 fr) (h : f122_l1_t (sv fr 0) (sv fr 6) (sv fr 7) (sv fr 8) (sv fr 9) K E1 (f122_k1 K) w) : cS (cl (cl (cr (cl (cr (cr (cr f122_c))))))) F1 (f122_e K) (exB 0 (f122_k1_o K) nX) fr w := by
  have h1 := cast (f122_l1_sk (fun i => sv fr i) K E1 (f122_k1 K) w).symm h
  rw [show frL 56 (fun i => sv fr i) 0 = fr from frL_of (hs.len.trans (a1.len.trans hn))] at h1
  have h2 : cS (cl (cl (cr (cl (cr (cr (cr f122_c))))))) F1 (f122_e K) (exB 0 (f122_k1_o K) nX) fr w := (codeS_mono (m := 133956096) (f0 := f1) (cl (cl (cr (cl (cr (cr (cr f122_c))))))) (by kernel_rfl) (fun fr w hs h => b1 fr w hs h) (fun _ _ _ h => h) (exB_mono (fun fr w hs h => f122_k1_s K f0 hn fr w (Same.up (by kernel_rfl) a1 hs) h) (fun _ _ _ _ h => h)) fr w hs) h1
  exact cast (by kernel_rfl) h2
theorem f122_l1_s (K : K1)  (f0 : Fr) (hn : f0.length = 56) (fr : Fr) (w : World) (hs : Same 72057594037927935 f0 fr) (h : f122_l1 K (sv fr 0) (sv fr 6) (sv fr 7) (sv fr 8) (sv fr 9) w) : f122_l1_o K fr w := by
  obtain ⟨I, μ, h0, hr⟩ := h
  have hL : loopS (fun E fr w => cS (cl (cl (cr (cl (cr (cr (cr f122_c))))))) E (f122_e K) (exB 0 (f122_k1_o K) nX) fr w) fr w := by
    refine ⟨fun f' w' => Same 133956096 fr f' ∧ I (sv f' 9) w', fun f' w' => μ (sv f' 9) w', ⟨Same.refl _ _, h0⟩, ?_⟩
    intro f' w' hI
    have hb := hr (sv f' 9) w' hI.2 (fun y9 w2 => I y9 w2 ∧ μ y9 w2 < μ (sv f' 9) w') (fun y9 w2 a b => ⟨a, b⟩)
    rw [← hI.1.sv 0 (by kernel_rfl), ← hI.1.sv 6 (by kernel_rfl), ← hI.1.sv 7 (by kernel_rfl), ← hI.1.sv 8 (by kernel_rfl)] at hb
    exact f122_l1_b K _ _ f0 hn fr hs (fun f w h1 h2 => ⟨⟨h1, h2.1⟩, h2.2⟩) f' w' hI.1 hb
  exact cast (by kernel_rfl) hL
def f122_t (x0 x1 x2 : Value) (K : K1) (c_f122_l1 : Value → Value → Value → Value → Value → World → Prop) (w : World) : Prop :=
 ev Tryz.prog (binM .sub 3 (.tmp 12) (.tmp 13) x2 x1) w fun t14 w_1 =>
 ev Tryz.prog (binM .sub 3 (.tmp 15) (.const (.int .i64 1)) t14 (.int .i64 1)) w_1 fun t16 w_2 =>
 ev Tryz.prog (binM .quo 3 (.tmp 16) (.const (.int .i64 2)) t16 (.int .i64 2)) w_2 fun t17 w_3 =>
 c_f122_l1 x0 x1 (.int .i64 0) t14 t17 w_3
theorem f122_sk (x0 x1 x2 : Value) (K : K1) (c_f122_l1 : Value → Value → Value → Value → Value → World → Prop) (w : World) : (cS (cl f122_c) (fun fr w => cS (cl (cr f122_c)) (fun fr w => cS (cl (cr (cr f122_c))) (fun fr w => cS (cl (cl (cr (cr (cr f122_c))))) (fun fr w => c_f122_l1 (sv fr 0) (sv fr 6) (sv fr 7) (sv fr 8) (sv fr 9) w) (f122_e K) nX fr w) (f122_e K) nX fr w) (f122_e K) nX fr w) (f122_e K) nX ([x0, x1, x2] ++ List.replicate (56 - 3) undef) w) = f122_t x0 x1 x2 K c_f122_l1 w := by kernel_rfl
theorem f122_ok : codeOk Tryz.prog 56 f122_c = true := by kernel_rfl
theorem f122_m (K : K1) (f0 : Fr) (hn : f0.length = 56) (w : World) (h1 : cS (cl f122_c) (fun fr w => cS (cl (cr f122_c)) (fun fr w => cS (cl (cr (cr f122_c))) (fun fr w => cS (cl (cl (cr (cr (cr f122_c))))) (fun fr w => f122_l1 K (sv fr 0) (sv fr 6) (sv fr 7) (sv fr 8) (sv fr 9) w) (f122_e K) nX fr w) (f122_e K) nX fr w) (f122_e K) nX fr w) (f122_e K) nX f0 w) : cS f122_c (f122_e K) (f122_e K) nX f0 w := by
  have hs := Same.refl 72057594037927935 f0
  let fr := f0
  have h2 : cS (cl f122_c) (fun fr w => cS (cl (cr f122_c)) (fun fr w => cS (cl (cr (cr f122_c))) (fun fr w => cS (cl (cl (cr (cr (cr f122_c))))) (fun fr w => f122_l1_o K fr w) (f122_e K) nX fr w) (f122_e K) nX fr w) (f122_e K) nX fr w) (f122_e K) nX fr w := (codeS_mono (m := 72057594037927935) (f0 := f0) (cl f122_c) (by kernel_rfl) (fun fr w hs => codeS_mono (m := 72057594037927935) (f0 := f0) (cl (cr f122_c)) (by kernel_rfl) (fun fr w hs => codeS_mono (m := 72057594037927935) (f0 := f0) (cl (cr (cr f122_c))) (by kernel_rfl) (fun fr w hs => codeS_mono (m := 72057594037927935) (f0 := f0) (cl (cl (cr (cr (cr f122_c))))) (by kernel_rfl) (fun fr w hs => (fun h => f122_l1_s K f0 hn fr w hs h)) (fun _ _ _ h => h) (fun _ _ _ _ h => h) fr w hs) (fun _ _ _ h => h) (fun _ _ _ _ h => h) fr w hs) (fun _ _ _ h => h) (fun _ _ _ _ h => h) fr w hs) (fun _ _ _ h => h) (fun _ _ _ _ h => h) fr w hs) h1
  exact cast (by kernel_rfl) h2
theorem f122_call (x0 x1 x2 : Value) (K : K1) (w : World) (h : f122_t x0 x1 x2 K (f122_l1 K) w) : callS Tryz.prog 122 #[x0, x1, x2] w K :=
  calls_of_codeS (args := [x0, x1, x2]) mixed Tryz.func122 (show Tryz.f122.body = some f122_c from rfl) rfl (show Tryz.f122.results = f122_rs.toArray from rfl) f122_ok (by simp) (f122_m K _ (by simp) w (cast (f122_sk x0 x1 x2 K (f122_l1 K) w).symm h))
noncomputable def f123_c : Code := (Tryz.f123.body).getD .skip
def f123_rs : List ResultVar := []
abbrev f123_e (K : K1) : KF := endK Tryz.prog f123_rs K
def f123_k1_t (x0 x1 x6 x7 x8 x9 x10 : Value) (K : K1) (E1 : Value → World → Prop) (w : World) : Prop :=
 rd Tryz.prog (binM .add 3 (.tmp 50) (.tmp 51) x1 x10) w.drew fun t52 =>
 rd Tryz.prog (binM .add 3 (.tmp 54) (.tmp 55) x1 x10) w.drew fun t56 =>
 rd Tryz.prog (Instr.indexAt 72 x0 t56) w.drew fun t57 =>
 ldR Tryz.prog 33 t57 w.drew fun t58 =>
 rd Tryz.prog (Instr.indexAt 72 x0 x9) w.drew fun t61 =>
 ldR Tryz.prog 33 t61 w.drew fun t62 =>
 rd Tryz.prog (Instr.indexAt 72 x0 x9) w.drew fun t63 =>
 stS Tryz.prog 33 t63 t58 w.drew fun w_1 =>
 (ag Tryz.prog (binM .add 3 (.tmp 50) (.tmp 51) x1 x10) w_1 t52) ∧
 rd Tryz.prog (Instr.indexAt 72 x0 t52) w_1 fun t64 =>
 stS Tryz.prog 33 t64 t62 w_1 fun w_2 =>
 ev Tryz.prog (binM .add 3 (.tmp 34) (.const (.int .i64 1)) x9 (.int .i64 1)) w_2 fun t35 w_3 =>
 E1 t35 w_3
theorem f123_k1_sk (z : Nat → Value) (K : K1) (E1 : Value → World → Prop) (w : World) : (cS (cr (cr (cl (cl (cr (cl (cl (cr (cr (cr (cl (cr (cr f123_c))))))))))))) (fun fr w => cS (cr (cr (cl (cl (cr (cr (cr (cl (cr (cr f123_c)))))))))) (fun fr w => E1 (sv fr 9) w) (f123_e K) (exB 0 (f123_e K) nX) fr w) (f123_e K) (exB 1 (fun fr w => cS (cr (cr (cl (cl (cr (cr (cr (cl (cr (cr f123_c)))))))))) (fun fr w => E1 (sv fr 9) w) (f123_e K) (exB 0 (f123_e K) nX) fr w) (exB 0 (f123_e K) nX)) (frL 65 z 0) w) = f123_k1_t (z 0) (z 1) (z 6) (z 7) (z 8) (z 9) (z 10) K E1 w := by kernel_rfl
def f123_k1 (K : K1) (E1 : Value → World → Prop) (x0 x1 x6 x7 x8 x9 x10 : Value) (w : World) : Prop := f123_k1_t x0 x1 x6 x7 x8 x9 x10 K E1 w
theorem f123_k1_eq (K : K1) (E1 : Value → World → Prop) (x0 x1 x6 x7 x8 x9 x10 : Value) (w : World) : f123_k1 K E1 x0 x1 x6 x7 x8 x9 x10 w = f123_k1_t x0 x1 x6 x7 x8 x9 x10 K E1 w := rfl
def f123_k1_o (K : K1) (F1 : KF) : KF := fun fr w => cS (cr (cr (cl (cl (cr (cl (cl (cr (cr (cr (cl (cr (cr f123_c))))))))))))) (fun fr w => cS (cr (cr (cl (cl (cr (cr (cr (cl (cr (cr f123_c)))))))))) F1 (f123_e K) (exB 0 (f123_e K) nX) fr w) (f123_e K) (exB 1 (fun fr w => cS (cr (cr (cl (cl (cr (cr (cr (cl (cr (cr f123_c)))))))))) F1 (f123_e K) (exB 0 (f123_e K) nX) fr w) (exB 0 (f123_e K) nX)) fr w
theorem f123_k1_s (K : K1)  (E1 : Value → World → Prop) (F1 : KF) (f0 : Fr) (hn : f0.length = 65) (f1 : Fr) (a1 : Same 36893488147419103231 f0 f1) (b1 : ∀ fr w, Same 36893488147351995904 f1 fr → E1 (sv fr 9) w → F1 fr w) (fr : Fr) (w : World) (hs : Same 36893488147351995904 f1 fr) (h : f123_k1 K E1 (sv fr 0) (sv fr 1) (sv fr 6) (sv fr 7) (sv fr 8) (sv fr 9) (sv fr 10) w) : f123_k1_o K F1 fr w := by
  have h1 := cast (f123_k1_sk (fun i => sv fr i) K E1 w).symm h
  rw [show frL 65 (fun i => sv fr i) 0 = fr from frL_of (hs.len.trans (a1.len.trans hn))] at h1
  have h2 : cS (cr (cr (cl (cl (cr (cl (cl (cr (cr (cr (cl (cr (cr f123_c))))))))))))) (fun fr w => cS (cr (cr (cl (cl (cr (cr (cr (cl (cr (cr f123_c)))))))))) F1 (f123_e K) (exB 0 (f123_e K) nX) fr w) (f123_e K) (exB 1 (fun fr w => cS (cr (cr (cl (cl (cr (cr (cr (cl (cr (cr f123_c)))))))))) F1 (f123_e K) (exB 0 (f123_e K) nX) fr w) (exB 0 (f123_e K) nX)) fr w := (codeS_mono (m := 36893488147351995904) (f0 := f1) (cr (cr (cl (cl (cr (cl (cl (cr (cr (cr (cl (cr (cr f123_c))))))))))))) (by kernel_rfl) (fun fr w hs => codeS_mono (m := 36893488147351995904) (f0 := f1) (cr (cr (cl (cl (cr (cr (cr (cl (cr (cr f123_c)))))))))) (by kernel_rfl) (fun fr w hs h => b1 fr w hs h) (fun _ _ _ h => h) (exB_mono (fun _ _ _ h => h) (fun _ _ _ _ h => h)) fr w hs) (fun _ _ _ h => h) (exB_mono (fun fr w hs => codeS_mono (m := 36893488147351995904) (f0 := f1) (cr (cr (cl (cl (cr (cr (cr (cl (cr (cr f123_c)))))))))) (by kernel_rfl) (fun fr w hs h => b1 fr w hs h) (fun _ _ _ h => h) (exB_mono (fun _ _ _ h => h) (fun _ _ _ _ h => h)) fr w hs) (exB_mono (fun _ _ _ h => h) (fun _ _ _ _ h => h))) fr w hs) h1
  exact cast (by kernel_rfl) h2
def f123_l1_t (x0 x1 x6 x7 x8 x9 : Value) (K : K1) (E1 : Value → World → Prop) (c_f123_k1 : Value → Value → Value → Value → Value → Value → Value → World → Prop) (w : World) : Prop :=
 ev Tryz.prog (binM .quo 3 (.tmp 28) (.const (.int .i64 4)) x6 (.int .i64 4)) w fun t29 w_1 =>
 ev Tryz.prog (binM .mul 3 (.tmp 29) (.const (.int .i64 2)) t29 (.int .i64 2)) w_1 fun t30 w_2 =>
 ev Tryz.prog (binM .add 3 (.tmp 27) (.tmp 30) x1 t30) w_2 fun t31 w_3 =>
 ev Tryz.prog (binM .add 3 (.tmp 31) (.const (.int .i64 1)) t31 (.int .i64 1)) w_3 fun t32 w_4 =>
 ev Tryz.prog (binM .leq 3 (.tmp 26) (.tmp 32) x9 t32) w_4 fun t33 w_5 =>
 cndS t33 (
 callS Tryz.prog 137 (pA #[x7]) w_5 fun t36 w_6 =>
 ev Tryz.prog (binM .sub 100 (.tmp 37) (.const (.int .u64 ((1 : Nat) : Int))) x8 (.int .u64 ((1 : Nat) : Int))) w_6 fun t38 w_7 =>
 ev Tryz.prog (binM .and 100 (.tmp 36) (.tmp 38) t36 t38) w_7 fun t39 w_8 =>
 ev Tryz.prog (convert 100 3 t39) w_8 fun t40 w_9 =>
 ev Tryz.prog (binM .geq 3 (.tmp 41) (.tmp 42) t40 x6) w_9 fun t43 w_10 =>
 cndS t43 (
 ev Tryz.prog (binM .sub 3 (.tmp 44) (.tmp 45) t40 x6) w_10 fun t46 w_11 =>
 c_f123_k1 x0 x1 x6 x7 x8 x9 t46 w_11) (
 c_f123_k1 x0 x1 x6 x7 x8 x9 t40 w_10)) (
 K (.tuple #[]) w_5)
theorem f123_l1_sk (z : Nat → Value) (K : K1) (E1 : Value → World → Prop) (c_f123_k1 : Value → Value → Value → Value → Value → Value → Value → World → Prop) (w : World) : (cS (cl (cl (cl (cr (cr (cr (cl (cr (cr f123_c))))))))) (fun fr w => cS (cl (cl (cl (cr (cl (cl (cr (cr (cr (cl (cr (cr f123_c)))))))))))) (fun fr w => cS (cl (cr (cl (cl (cr (cl (cl (cr (cr (cr (cl (cr (cr f123_c))))))))))))) (fun fr w => c_f123_k1 (sv fr 0) (sv fr 1) (sv fr 6) (sv fr 7) (sv fr 8) (sv fr 9) (sv fr 10) w) (f123_e K) (exB 1 (fun fr w => cS (cr (cr (cl (cl (cr (cr (cr (cl (cr (cr f123_c)))))))))) (fun fr w => E1 (sv fr 9) w) (f123_e K) (exB 0 (f123_e K) nX) fr w) (exB 0 (f123_e K) nX)) fr w) (f123_e K) (exB 1 (fun fr w => cS (cr (cr (cl (cl (cr (cr (cr (cl (cr (cr f123_c)))))))))) (fun fr w => E1 (sv fr 9) w) (f123_e K) (exB 0 (f123_e K) nX) fr w) (exB 0 (f123_e K) nX)) fr w) (f123_e K) (exB 0 (f123_e K) nX) (frL 65 z 0) w) = f123_l1_t (z 0) (z 1) (z 6) (z 7) (z 8) (z 9) K E1 c_f123_k1 w := by kernel_rfl
def f123_l1 (K : K1) (x0 x1 x6 x7 x8 x9 : Value) (w : World) : Prop := ∃ (I : Value → World → Prop) (μ : Value → World → Nat), I x9 w ∧ ∀ (x9 : Value) (w : World), I x9 w → ∀ E1 : Value → World → Prop, (∀ (y9 : Value) (w' : World), I y9 w' → μ y9 w' < μ x9 w → E1 y9 w') → f123_l1_t x0 x1 x6 x7 x8 x9 K E1 (f123_k1 K E1) w
theorem f123_l1_rule (x0 x1 x6 x7 x8 x9 : Value) (K : K1) (w : World) (I : Value → World → Prop) (μ : Value → World → Nat) (h0 : I x9 w)
    (hr : ∀ (x9 : Value) (w : World), I x9 w → ∀ E1 : Value → World → Prop, (∀ (y9 : Value) (w' : World), I y9 w' → μ y9 w' < μ x9 w → E1 y9 w') → f123_l1_t x0 x1 x6 x7 x8 x9 K E1 (f123_k1 K E1) w) : f123_l1 K x0 x1 x6 x7 x8 x9 w := ⟨I, μ, h0, hr⟩
def f123_l1_o (K : K1) : KF := fun fr w => cS (cl (cr (cr (cr (cl (cr (cr f123_c))))))) (fun _ _ => False) (f123_e K) (exB 0 (f123_e K) nX) fr w
theorem f123_l1_b (K : K1)  (E1 : Value → World → Prop) (F1 : KF) (f0 : Fr) (hn : f0.length = 65) (f1 : Fr) (a1 : Same 36893488147419103231 f0 f1) (b1 : ∀ fr w, Same 36893488147351995904 f1 fr → E1 (sv fr 9) w → F1 fr w) (fr : Fr) (w : World) (hs : Same 36893488147351995904 f1 fr) (h : f123_l1_t (sv fr 0) (sv fr 1) (sv fr 6) (sv fr 7) (sv fr 8) (sv fr 9) K E1 (f123_k1 K E1) w) : cS (cl (cl (cr (cr (cr (cl (cr (cr f123_c)))))))) F1 (f123_e K) (exB 0 (f123_e K) nX) fr w := by
  have h1 := cast (f123_l1_sk (fun i => sv fr i) K E1 (f123_k1 K E1) w).symm h
  rw [show frL 65 (fun i => sv fr i) 0 = fr from frL_of (hs.len.trans (a1.len.trans hn))] at h1
  have h2 : cS (cl (cl (cl (cr (cr (cr (cl (cr (cr f123_c))))))))) (fun fr w => cS (cl (cl (cl (cr (cl (cl (cr (cr (cr (cl (cr (cr f123_c)))))))))))) (fun fr w => cS (cl (cr (cl (cl (cr (cl (cl (cr (cr (cr (cl (cr (cr f123_c))))))))))))) (f123_k1_o K F1) (f123_e K) (exB 1 (fun fr w => cS (cr (cr (cl (cl (cr (cr (cr (cl (cr (cr f123_c)))))))))) F1 (f123_e K) (exB 0 (f123_e K) nX) fr w) (exB 0 (f123_e K) nX)) fr w) (f123_e K) (exB 1 (fun fr w => cS (cr (cr (cl (cl (cr (cr (cr (cl (cr (cr f123_c)))))))))) F1 (f123_e K) (exB 0 (f123_e K) nX) fr w) (exB 0 (f123_e K) nX)) fr w) (f123_e K) (exB 0 (f123_e K) nX) fr w := (codeS_mono (m := 36893488147351995904) (f0 := f1) (cl (cl (cl (cr (cr (cr (cl (cr (cr f123_c))))))))) (by kernel_rfl) (fun fr w hs => codeS_mono (m := 36893488147351995904) (f0 := f1) (cl (cl (cl (cr (cl (cl (cr (cr (cr (cl (cr (cr f123_c)))))))))))) (by kernel_rfl) (fun fr w hs => codeS_mono (m := 36893488147351995904) (f0 := f1) (cl (cr (cl (cl (cr (cl (cl (cr (cr (cr (cl (cr (cr f123_c))))))))))))) (by kernel_rfl) (fun fr w hs h => f123_k1_s K E1 F1 f0 hn f1 a1 b1 fr w hs h) (fun _ _ _ h => h) (exB_mono (fun fr w hs => codeS_mono (m := 36893488147351995904) (f0 := f1) (cr (cr (cl (cl (cr (cr (cr (cl (cr (cr f123_c)))))))))) (by kernel_rfl) (fun fr w hs h => b1 fr w hs h) (fun _ _ _ h => h) (exB_mono (fun _ _ _ h => h) (fun _ _ _ _ h => h)) fr w hs) (exB_mono (fun _ _ _ h => h) (fun _ _ _ _ h => h))) fr w hs) (fun _ _ _ h => h) (exB_mono (fun fr w hs => codeS_mono (m := 36893488147351995904) (f0 := f1) (cr (cr (cl (cl (cr (cr (cr (cl (cr (cr f123_c)))))))))) (by kernel_rfl) (fun fr w hs h => b1 fr w hs h) (fun _ _ _ h => h) (exB_mono (fun _ _ _ h => h) (fun _ _ _ _ h => h)) fr w hs) (exB_mono (fun _ _ _ h => h) (fun _ _ _ _ h => h))) fr w hs) (fun _ _ _ h => h) (exB_mono (fun _ _ _ h => h) (fun _ _ _ _ h => h)) fr w hs) h1
  exact cast (by kernel_rfl) h2
theorem f123_l1_s (K : K1)  (f0 : Fr) (hn : f0.length = 65) (fr : Fr) (w : World) (hs : Same 36893488147419103231 f0 fr) (h : f123_l1 K (sv fr 0) (sv fr 1) (sv fr 6) (sv fr 7) (sv fr 8) (sv fr 9) w) : f123_l1_o K fr w := by
  obtain ⟨I, μ, h0, hr⟩ := h
  have hL : loopS (fun E fr w => cS (cl (cl (cr (cr (cr (cl (cr (cr f123_c)))))))) E (f123_e K) (exB 0 (f123_e K) nX) fr w) fr w := by
    refine ⟨fun f' w' => Same 36893488147351995904 fr f' ∧ I (sv f' 9) w', fun f' w' => μ (sv f' 9) w', ⟨Same.refl _ _, h0⟩, ?_⟩
    intro f' w' hI
    have hb := hr (sv f' 9) w' hI.2 (fun y9 w2 => I y9 w2 ∧ μ y9 w2 < μ (sv f' 9) w') (fun y9 w2 a b => ⟨a, b⟩)
    rw [← hI.1.sv 0 (by kernel_rfl), ← hI.1.sv 1 (by kernel_rfl), ← hI.1.sv 6 (by kernel_rfl), ← hI.1.sv 7 (by kernel_rfl), ← hI.1.sv 8 (by kernel_rfl)] at hb
    exact f123_l1_b K _ _ f0 hn fr hs (fun f w h1 h2 => ⟨⟨h1, h2.1⟩, h2.2⟩) f' w' hI.1 hb
  exact cast (by kernel_rfl) hL
def f123_t (x0 x1 x2 : Value) (K : K1) (c_f123_l1 : Value → Value → Value → Value → Value → Value → World → Prop) (w : World) : Prop :=
 ev Tryz.prog (binM .sub 3 (.tmp 11) (.tmp 12) x2 x1) w fun t13 w_1 =>
 ev Tryz.prog (binM .geq 3 (.tmp 14) (.const (.int .i64 8)) t13 (.int .i64 8)) w_1 fun t15 w_2 =>
 cndS t15 (
 ev Tryz.prog (convert 3 195 t13) w_2 fun t17 w_3 =>
 ev Tryz.prog (Instr.alloc 195 true (.tuple #[])) w_3 fun t7 w_4 =>
 stS Tryz.prog 195 t7 t17 w_4 fun w_5 =>
 callS Tryz.prog 136 (pA #[t13]) w_5 fun t19 w_6 =>
 ev Tryz.prog (binM .quo 3 (.tmp 21) (.const (.int .i64 4)) t13 (.int .i64 4)) w_6 fun t22 w_7 =>
 ev Tryz.prog (binM .mul 3 (.tmp 22) (.const (.int .i64 2)) t22 (.int .i64 2)) w_7 fun t23 w_8 =>
 ev Tryz.prog (binM .add 3 (.tmp 20) (.tmp 23) x1 t23) w_8 fun t24 w_9 =>
 ev Tryz.prog (binM .sub 3 (.tmp 24) (.const (.int .i64 1)) t24 (.int .i64 1)) w_9 fun t25 w_10 =>
 c_f123_l1 x0 x1 t13 t7 t19 t25 w_10) (
 K (.tuple #[]) w_2)
theorem f123_sk (x0 x1 x2 : Value) (K : K1) (c_f123_l1 : Value → Value → Value → Value → Value → Value → World → Prop) (w : World) : (cS (cl f123_c) (fun fr w => cS (cl (cr f123_c)) (fun fr w => cndS (evO fr (.tmp 15)) (cS (cl (cl (cr (cr f123_c)))) (fun fr w => cS (cl (cr (cl (cr (cr f123_c))))) (fun fr w => cS (cl (cr (cr (cl (cr (cr f123_c)))))) (fun fr w => c_f123_l1 (sv fr 0) (sv fr 1) (sv fr 6) (sv fr 7) (sv fr 8) (sv fr 9) w) (f123_e K) nX fr w) (f123_e K) nX fr w) (f123_e K) nX fr w) (cS (cr (cr (cr f123_c))) (f123_e K) (f123_e K) nX fr w)) (f123_e K) nX fr w) (f123_e K) nX ([x0, x1, x2] ++ List.replicate (65 - 3) undef) w) = f123_t x0 x1 x2 K c_f123_l1 w := by kernel_rfl
theorem f123_ok : codeOk Tryz.prog 65 f123_c = true := by kernel_rfl
theorem f123_m (K : K1) (f0 : Fr) (hn : f0.length = 65) (w : World) (h1 : cS (cl f123_c) (fun fr w => cS (cl (cr f123_c)) (fun fr w => cndS (evO fr (.tmp 15)) (cS (cl (cl (cr (cr f123_c)))) (fun fr w => cS (cl (cr (cl (cr (cr f123_c))))) (fun fr w => cS (cl (cr (cr (cl (cr (cr f123_c)))))) (fun fr w => f123_l1 K (sv fr 0) (sv fr 1) (sv fr 6) (sv fr 7) (sv fr 8) (sv fr 9) w) (f123_e K) nX fr w) (f123_e K) nX fr w) (f123_e K) nX fr w) (cS (cr (cr (cr f123_c))) (f123_e K) (f123_e K) nX fr w)) (f123_e K) nX fr w) (f123_e K) nX f0 w) : cS f123_c (f123_e K) (f123_e K) nX f0 w := by
  have hs := Same.refl 36893488147419103231 f0
  let fr := f0
  have h2 : cS (cl f123_c) (fun fr w => cS (cl (cr f123_c)) (fun fr w => cndS (evO fr (.tmp 15)) (cS (cl (cl (cr (cr f123_c)))) (fun fr w => cS (cl (cr (cl (cr (cr f123_c))))) (fun fr w => cS (cl (cr (cr (cl (cr (cr f123_c)))))) (fun fr w => f123_l1_o K fr w) (f123_e K) nX fr w) (f123_e K) nX fr w) (f123_e K) nX fr w) (cS (cr (cr (cr f123_c))) (f123_e K) (f123_e K) nX fr w)) (f123_e K) nX fr w) (f123_e K) nX fr w := (codeS_mono (m := 36893488147419103231) (f0 := f0) (cl f123_c) (by kernel_rfl) (fun fr w hs => codeS_mono (m := 36893488147419103231) (f0 := f0) (cl (cr f123_c)) (by kernel_rfl) (fun fr w hs => cndS_mono (codeS_mono (m := 36893488147419103231) (f0 := f0) (cl (cl (cr (cr f123_c)))) (by kernel_rfl) (fun fr w hs => codeS_mono (m := 36893488147419103231) (f0 := f0) (cl (cr (cl (cr (cr f123_c))))) (by kernel_rfl) (fun fr w hs => codeS_mono (m := 36893488147419103231) (f0 := f0) (cl (cr (cr (cl (cr (cr f123_c)))))) (by kernel_rfl) (fun fr w hs => (fun h => f123_l1_s K f0 hn fr w hs h)) (fun _ _ _ h => h) (fun _ _ _ _ h => h) fr w hs) (fun _ _ _ h => h) (fun _ _ _ _ h => h) fr w hs) (fun _ _ _ h => h) (fun _ _ _ _ h => h) fr w hs) (codeS_mono (m := 36893488147419103231) (f0 := f0) (cr (cr (cr f123_c))) (by kernel_rfl) (fun _ _ _ h => h) (fun _ _ _ h => h) (fun _ _ _ _ h => h) fr w hs)) (fun _ _ _ h => h) (fun _ _ _ _ h => h) fr w hs) (fun _ _ _ h => h) (fun _ _ _ _ h => h) fr w hs) h1
  exact cast (by kernel_rfl) h2
theorem f123_call (x0 x1 x2 : Value) (K : K1) (w : World) (h : f123_t x0 x1 x2 K (f123_l1 K) w) : callS Tryz.prog 123 #[x0, x1, x2] w K :=
  calls_of_codeS (args := [x0, x1, x2]) mixed Tryz.func123 (show Tryz.f123.body = some f123_c from rfl) rfl (show Tryz.f123.results = f123_rs.toArray from rfl) f123_ok (by simp) (f123_m K _ (by simp) w (cast (f123_sk x0 x1 x2 K (f123_l1 K) w).symm h))
noncomputable def f124_c : Code := (Tryz.f124.body).getD .skip
def f124_rs : List ResultVar := [.tmp 6, .tmp 7]
abbrev f124_e (K : K1) : KF := endK Tryz.prog f124_rs K
def f124_k1_t (x9 x11 : Value) (K : K1) (w : World) : Prop :=
 ldS Tryz.prog 3 x9 w fun t49 w_1 =>
 ev Tryz.prog (binM .eql 3 (.tmp 49) (.const (.int .i64 0)) t49 (.int .i64 0)) w_1 fun t52 w_2 =>
 cndS t52 (
 K (.tuple #[x11, (.int .i64 1)]) w_2) (
 ev Tryz.prog (binM .eql 3 (.tmp 49) (.const (.int .i64 12)) t49 (.int .i64 12)) w_2 fun t55 w_3 =>
 cndS t55 (
 K (.tuple #[x11, (.int .i64 2)]) w_3) (
 K (.tuple #[x11, (.int .i64 0)]) w_3))
theorem f124_k1_sk (z : Nat → Value) (K : K1) (w : World) : (cS (cr (cr (cr (cr (cr (cr (cr f124_c))))))) (f124_e K) (f124_e K) nX (frL 57 z 0) w) = f124_k1_t (z 9) (z 11) K w := by kernel_rfl
def f124_k1 (K : K1) (x9 x11 : Value) (w : World) : Prop := f124_k1_t x9 x11 K w
theorem f124_k1_eq (K : K1) (x9 x11 : Value) (w : World) : f124_k1 K x9 x11 w = f124_k1_t x9 x11 K w := rfl
def f124_k1_o (K : K1) : KF := fun fr w => cS (cr (cr (cr (cr (cr (cr (cr f124_c))))))) (f124_e K) (f124_e K) nX fr w
theorem f124_k1_s (K : K1)  (f0 : Fr) (hn : f0.length = 57) (fr : Fr) (w : World) (hs : Same 144115188075855871 f0 fr) (h : f124_k1 K (sv fr 9) (sv fr 11) w) : f124_k1_o K fr w := by
  have h1 := cast (f124_k1_sk (fun i => sv fr i) K w).symm h
  rw [show frL 57 (fun i => sv fr i) 0 = fr from frL_of (hs.len.trans hn)] at h1
  have h2 : cS (cr (cr (cr (cr (cr (cr (cr f124_c))))))) (f124_e K) (f124_e K) nX fr w := (codeS_mono (m := 144115188075855871) (f0 := f0) (cr (cr (cr (cr (cr (cr (cr f124_c))))))) (by kernel_rfl) (fun _ _ _ h => h) (fun _ _ _ h => h) (fun _ _ _ _ h => h) fr w hs) h1
  exact cast (by kernel_rfl) h2
def f124_k2_t (x0 x9 x10 x11 x12 : Value) (K : K1) (c_f124_k1 : Value → Value → World → Prop) (w : World) : Prop :=
 callS Tryz.prog 139 (pA #[x0, x10, x11, x12, x9]) w fun t48 w_1 =>
 c_f124_k1 x9 t48 w_1
theorem f124_k2_sk (z : Nat → Value) (K : K1) (c_f124_k1 : Value → Value → World → Prop) (w : World) : (cS (cr (cl (cr (cl (cr (cr (cr (cr (cr (cr f124_c)))))))))) (fun fr w => c_f124_k1 (sv fr 9) (sv fr 11) w) (f124_e K) nX (frL 57 z 0) w) = f124_k2_t (z 0) (z 9) (z 10) (z 11) (z 12) K c_f124_k1 w := by kernel_rfl
def f124_k2 (K : K1) (x0 x9 x10 x11 x12 : Value) (w : World) : Prop := f124_k2_t x0 x9 x10 x11 x12 K (f124_k1 K) w
theorem f124_k2_eq (K : K1) (x0 x9 x10 x11 x12 : Value) (w : World) : f124_k2 K x0 x9 x10 x11 x12 w = f124_k2_t x0 x9 x10 x11 x12 K (f124_k1 K) w := rfl
def f124_k2_o (K : K1) : KF := fun fr w => cS (cr (cl (cr (cl (cr (cr (cr (cr (cr (cr f124_c)))))))))) (f124_k1_o K) (f124_e K) nX fr w
theorem f124_k2_s (K : K1)  (f0 : Fr) (hn : f0.length = 57) (fr : Fr) (w : World) (hs : Same 144115188075855871 f0 fr) (h : f124_k2 K (sv fr 0) (sv fr 9) (sv fr 10) (sv fr 11) (sv fr 12) w) : f124_k2_o K fr w := by
  have h1 := cast (f124_k2_sk (fun i => sv fr i) K (f124_k1 K) w).symm h
  rw [show frL 57 (fun i => sv fr i) 0 = fr from frL_of (hs.len.trans hn)] at h1
  have h2 : cS (cr (cl (cr (cl (cr (cr (cr (cr (cr (cr f124_c)))))))))) (f124_k1_o K) (f124_e K) nX fr w := (codeS_mono (m := 144115188075855871) (f0 := f0) (cr (cl (cr (cl (cr (cr (cr (cr (cr (cr f124_c)))))))))) (by kernel_rfl) (fun fr w hs h => f124_k1_s K f0 hn fr w hs h) (fun _ _ _ h => h) (fun _ _ _ _ h => h) fr w hs) h1
  exact cast (by kernel_rfl) h2
def f124_t (x0 x1 x2 : Value) (K : K1) (c_f124_k1 : Value → Value → World → Prop) (c_f124_k2 : Value → Value → Value → Value → Value → World → Prop) (w : World) : Prop :=
 ev Tryz.prog (binM .sub 3 (.tmp 13) (.tmp 14) x2 x1) w fun t15 w_1 =>
 ev Tryz.prog (Instr.alloc 3 true (.tuple #[])) w_1 fun t9 w_2 =>
 ev Tryz.prog (binM .quo 3 (.tmp 17) (.const (.int .i64 4)) t15 (.int .i64 4)) w_2 fun t18 w_3 =>
 ev Tryz.prog (binM .mul 3 (.tmp 18) (.const (.int .i64 1)) t18 (.int .i64 1)) w_3 fun t19 w_4 =>
 ev Tryz.prog (binM .add 3 (.tmp 16) (.tmp 19) x1 t19) w_4 fun t20 w_5 =>
 ev Tryz.prog (binM .quo 3 (.tmp 22) (.const (.int .i64 4)) t15 (.int .i64 4)) w_5 fun t23 w_6 =>
 ev Tryz.prog (binM .mul 3 (.tmp 23) (.const (.int .i64 2)) t23 (.int .i64 2)) w_6 fun t24 w_7 =>
 ev Tryz.prog (binM .add 3 (.tmp 21) (.tmp 24) x1 t24) w_7 fun t25 w_8 =>
 ev Tryz.prog (binM .quo 3 (.tmp 27) (.const (.int .i64 4)) t15 (.int .i64 4)) w_8 fun t28 w_9 =>
 ev Tryz.prog (binM .mul 3 (.tmp 28) (.const (.int .i64 3)) t28 (.int .i64 3)) w_9 fun t29 w_10 =>
 ev Tryz.prog (binM .add 3 (.tmp 26) (.tmp 29) x1 t29) w_10 fun t30 w_11 =>
 ev Tryz.prog (binM .geq 3 (.tmp 31) (.const (.int .i64 8)) t15 (.int .i64 8)) w_11 fun t32 w_12 =>
 cndS t32 (
 ev Tryz.prog (binM .geq 3 (.tmp 33) (.const (.int .i64 50)) t15 (.int .i64 50)) w_12 fun t34 w_13 =>
 cndS t34 (
 callS Tryz.prog 138 (pA #[x0, t20, t9]) w_13 fun t37 w_14 =>
 callS Tryz.prog 138 (pA #[x0, t25, t9]) w_14 fun t40 w_15 =>
 callS Tryz.prog 138 (pA #[x0, t30, t9]) w_15 fun t43 w_16 =>
 c_f124_k2 x0 t9 t37 t40 t43 w_16) (
 c_f124_k2 x0 t9 t20 t25 t30 w_13)) (
 c_f124_k1 t9 t25 w_12)
theorem f124_sk (x0 x1 x2 : Value) (K : K1) (c_f124_k1 : Value → Value → World → Prop) (c_f124_k2 : Value → Value → Value → Value → Value → World → Prop) (w : World) : (cS (cl f124_c) (fun fr w => cS (cl (cr f124_c)) (fun fr w => cS (cl (cr (cr f124_c))) (fun fr w => cS (cl (cr (cr (cr f124_c)))) (fun fr w => cS (cl (cr (cr (cr (cr f124_c))))) (fun fr w => cS (cl (cr (cr (cr (cr (cr f124_c)))))) (fun fr w => cS (cl (cl (cr (cr (cr (cr (cr (cr f124_c)))))))) (fun fr w => cndS (evO fr (.tmp 32)) (cS (cl (cl (cr (cl (cr (cr (cr (cr (cr (cr f124_c)))))))))) (fun fr w => c_f124_k2 (sv fr 0) (sv fr 9) (sv fr 10) (sv fr 11) (sv fr 12) w) (f124_e K) nX fr w) (cS (cr (cr (cl (cr (cr (cr (cr (cr (cr f124_c))))))))) (fun fr w => c_f124_k1 (sv fr 9) (sv fr 11) w) (f124_e K) nX fr w)) (f124_e K) nX fr w) (f124_e K) nX fr w) (f124_e K) nX fr w) (f124_e K) nX fr w) (f124_e K) nX fr w) (f124_e K) nX fr w) (f124_e K) nX ([x0, x1, x2] ++ List.replicate (57 - 3) undef) w) = f124_t x0 x1 x2 K c_f124_k1 c_f124_k2 w := by kernel_rfl
theorem f124_ok : codeOk Tryz.prog 57 f124_c = true := by kernel_rfl
theorem f124_m (K : K1) (f0 : Fr) (hn : f0.length = 57) (w : World) (h1 : cS (cl f124_c) (fun fr w => cS (cl (cr f124_c)) (fun fr w => cS (cl (cr (cr f124_c))) (fun fr w => cS (cl (cr (cr (cr f124_c)))) (fun fr w => cS (cl (cr (cr (cr (cr f124_c))))) (fun fr w => cS (cl (cr (cr (cr (cr (cr f124_c)))))) (fun fr w => cS (cl (cl (cr (cr (cr (cr (cr (cr f124_c)))))))) (fun fr w => cndS (evO fr (.tmp 32)) (cS (cl (cl (cr (cl (cr (cr (cr (cr (cr (cr f124_c)))))))))) (fun fr w => f124_k2 K (sv fr 0) (sv fr 9) (sv fr 10) (sv fr 11) (sv fr 12) w) (f124_e K) nX fr w) (cS (cr (cr (cl (cr (cr (cr (cr (cr (cr f124_c))))))))) (fun fr w => f124_k1 K (sv fr 9) (sv fr 11) w) (f124_e K) nX fr w)) (f124_e K) nX fr w) (f124_e K) nX fr w) (f124_e K) nX fr w) (f124_e K) nX fr w) (f124_e K) nX fr w) (f124_e K) nX fr w) (f124_e K) nX f0 w) : cS f124_c (f124_e K) (f124_e K) nX f0 w := by
  have hs := Same.refl 144115188075855871 f0
  let fr := f0
  have h2 : cS (cl f124_c) (fun fr w => cS (cl (cr f124_c)) (fun fr w => cS (cl (cr (cr f124_c))) (fun fr w => cS (cl (cr (cr (cr f124_c)))) (fun fr w => cS (cl (cr (cr (cr (cr f124_c))))) (fun fr w => cS (cl (cr (cr (cr (cr (cr f124_c)))))) (fun fr w => cS (cl (cl (cr (cr (cr (cr (cr (cr f124_c)))))))) (fun fr w => cndS (evO fr (.tmp 32)) (cS (cl (cl (cr (cl (cr (cr (cr (cr (cr (cr f124_c)))))))))) (f124_k2_o K) (f124_e K) nX fr w) (cS (cr (cr (cl (cr (cr (cr (cr (cr (cr f124_c))))))))) (f124_k1_o K) (f124_e K) nX fr w)) (f124_e K) nX fr w) (f124_e K) nX fr w) (f124_e K) nX fr w) (f124_e K) nX fr w) (f124_e K) nX fr w) (f124_e K) nX fr w) (f124_e K) nX fr w := (codeS_mono (m := 144115188075855871) (f0 := f0) (cl f124_c) (by kernel_rfl) (fun fr w hs => codeS_mono (m := 144115188075855871) (f0 := f0) (cl (cr f124_c)) (by kernel_rfl) (fun fr w hs => codeS_mono (m := 144115188075855871) (f0 := f0) (cl (cr (cr f124_c))) (by kernel_rfl) (fun fr w hs => codeS_mono (m := 144115188075855871) (f0 := f0) (cl (cr (cr (cr f124_c)))) (by kernel_rfl) (fun fr w hs => codeS_mono (m := 144115188075855871) (f0 := f0) (cl (cr (cr (cr (cr f124_c))))) (by kernel_rfl) (fun fr w hs => codeS_mono (m := 144115188075855871) (f0 := f0) (cl (cr (cr (cr (cr (cr f124_c)))))) (by kernel_rfl) (fun fr w hs => codeS_mono (m := 144115188075855871) (f0 := f0) (cl (cl (cr (cr (cr (cr (cr (cr f124_c)))))))) (by kernel_rfl) (fun fr w hs => cndS_mono (codeS_mono (m := 144115188075855871) (f0 := f0) (cl (cl (cr (cl (cr (cr (cr (cr (cr (cr f124_c)))))))))) (by kernel_rfl) (fun fr w hs h => f124_k2_s K f0 hn fr w hs h) (fun _ _ _ h => h) (fun _ _ _ _ h => h) fr w hs) (codeS_mono (m := 144115188075855871) (f0 := f0) (cr (cr (cl (cr (cr (cr (cr (cr (cr f124_c))))))))) (by kernel_rfl) (fun fr w hs h => f124_k1_s K f0 hn fr w hs h) (fun _ _ _ h => h) (fun _ _ _ _ h => h) fr w hs)) (fun _ _ _ h => h) (fun _ _ _ _ h => h) fr w hs) (fun _ _ _ h => h) (fun _ _ _ _ h => h) fr w hs) (fun _ _ _ h => h) (fun _ _ _ _ h => h) fr w hs) (fun _ _ _ h => h) (fun _ _ _ _ h => h) fr w hs) (fun _ _ _ h => h) (fun _ _ _ _ h => h) fr w hs) (fun _ _ _ h => h) (fun _ _ _ _ h => h) fr w hs) (fun _ _ _ h => h) (fun _ _ _ _ h => h) fr w hs) h1
  exact cast (by kernel_rfl) h2
theorem f124_call (x0 x1 x2 : Value) (K : K1) (w : World) (h : f124_t x0 x1 x2 K (f124_k1 K) (f124_k2 K) w) : callS Tryz.prog 124 #[x0, x1, x2] w K :=
  calls_of_codeS (args := [x0, x1, x2]) mixed Tryz.func124 (show Tryz.f124.body = some f124_c from rfl) rfl (show Tryz.f124.results = f124_rs.toArray from rfl) f124_ok (by simp) (f124_m K _ (by simp) w (cast (f124_sk x0 x1 x2 K (f124_k1 K) (f124_k2 K) w).symm h))
noncomputable def f125_c : Code := (Tryz.f125.body).getD .skip
def f125_rs : List ResultVar := []
abbrev f125_e (K : K1) : KF := endK Tryz.prog f125_rs K
def f125_l1_t (x0 x6 x7 : Value) (K : K1) (E1 : Value → Value → World → Prop) (w : World) : Prop :=
 ev Tryz.prog (binM .lss 3 (.tmp 11) (.tmp 12) x6 x7) w fun t13 w_1 =>
 cndS t13 (
 rd Tryz.prog (Instr.indexAt 72 x0 x7) w_1.drew fun t20 =>
 ldR Tryz.prog 33 t20 w_1.drew fun t21 =>
 rd Tryz.prog (Instr.indexAt 72 x0 x6) w_1.drew fun t24 =>
 ldR Tryz.prog 33 t24 w_1.drew fun t25 =>
 rd Tryz.prog (Instr.indexAt 72 x0 x6) w_1.drew fun t26 =>
 stS Tryz.prog 33 t26 t21 w_1.drew fun w_2 =>
 rd Tryz.prog (Instr.indexAt 72 x0 x7) w_2 fun t27 =>
 stS Tryz.prog 33 t27 t25 w_2 fun w_3 =>
 ev Tryz.prog (binM .add 3 (.tmp 28) (.const (.int .i64 1)) x6 (.int .i64 1)) w_3 fun t29 w_4 =>
 ev Tryz.prog (binM .sub 3 (.tmp 30) (.const (.int .i64 1)) x7 (.int .i64 1)) w_4 fun t31 w_5 =>
 E1 t29 t31 w_5) (
 K (.tuple #[]) w_1)
theorem f125_l1_sk (z : Nat → Value) (K : K1) (E1 : Value → Value → World → Prop) (w : World) : (cS (cl (cl (cr (cr f125_c)))) (fun fr w => E1 (sv fr 6) (sv fr 7) w) (f125_e K) (exB 0 (f125_e K) nX) (frL 32 z 0) w) = f125_l1_t (z 0) (z 6) (z 7) K E1 w := by kernel_rfl
def f125_l1 (K : K1) (x0 x6 x7 : Value) (w : World) : Prop := ∃ (I : Value → Value → World → Prop) (μ : Value → Value → World → Nat), I x6 x7 w ∧ ∀ (x6 x7 : Value) (w : World), I x6 x7 w → ∀ E1 : Value → Value → World → Prop, (∀ (y6 y7 : Value) (w' : World), I y6 y7 w' → μ y6 y7 w' < μ x6 x7 w → E1 y6 y7 w') → f125_l1_t x0 x6 x7 K E1 w
theorem f125_l1_rule (x0 x6 x7 : Value) (K : K1) (w : World) (I : Value → Value → World → Prop) (μ : Value → Value → World → Nat) (h0 : I x6 x7 w)
    (hr : ∀ (x6 x7 : Value) (w : World), I x6 x7 w → ∀ E1 : Value → Value → World → Prop, (∀ (y6 y7 : Value) (w' : World), I y6 y7 w' → μ y6 y7 w' < μ x6 x7 w → E1 y6 y7 w') → f125_l1_t x0 x6 x7 K E1 w) : f125_l1 K x0 x6 x7 w := ⟨I, μ, h0, hr⟩
def f125_l1_o (K : K1) : KF := fun fr w => cS (cl (cr (cr f125_c))) (fun _ _ => False) (f125_e K) (exB 0 (f125_e K) nX) fr w
theorem f125_l1_b (K : K1)  (E1 : Value → Value → World → Prop) (F1 : KF) (f0 : Fr) (hn : f0.length = 32) (f1 : Fr) (a1 : Same 4294967295 f0 f1) (b1 : ∀ fr w, Same 4294965440 f1 fr → E1 (sv fr 6) (sv fr 7) w → F1 fr w) (fr : Fr) (w : World) (hs : Same 4294965440 f1 fr) (h : f125_l1_t (sv fr 0) (sv fr 6) (sv fr 7) K E1 w) : cS (cl (cl (cr (cr f125_c)))) F1 (f125_e K) (exB 0 (f125_e K) nX) fr w := by
  have h1 := cast (f125_l1_sk (fun i => sv fr i) K E1 w).symm h
  rw [show frL 32 (fun i => sv fr i) 0 = fr from frL_of (hs.len.trans (a1.len.trans hn))] at h1
  have h2 : cS (cl (cl (cr (cr f125_c)))) F1 (f125_e K) (exB 0 (f125_e K) nX) fr w := (codeS_mono (m := 4294965440) (f0 := f1) (cl (cl (cr (cr f125_c)))) (by kernel_rfl) (fun fr w hs h => b1 fr w hs h) (fun _ _ _ h => h) (exB_mono (fun _ _ _ h => h) (fun _ _ _ _ h => h)) fr w hs) h1
  exact cast (by kernel_rfl) h2
theorem f125_l1_s (K : K1)  (f0 : Fr) (hn : f0.length = 32) (fr : Fr) (w : World) (hs : Same 4294967295 f0 fr) (h : f125_l1 K (sv fr 0) (sv fr 6) (sv fr 7) w) : f125_l1_o K fr w := by
  obtain ⟨I, μ, h0, hr⟩ := h
  have hL : loopS (fun E fr w => cS (cl (cl (cr (cr f125_c)))) E (f125_e K) (exB 0 (f125_e K) nX) fr w) fr w := by
    refine ⟨fun f' w' => Same 4294965440 fr f' ∧ I (sv f' 6) (sv f' 7) w', fun f' w' => μ (sv f' 6) (sv f' 7) w', ⟨Same.refl _ _, h0⟩, ?_⟩
    intro f' w' hI
    have hb := hr (sv f' 6) (sv f' 7) w' hI.2 (fun y6 y7 w2 => I y6 y7 w2 ∧ μ y6 y7 w2 < μ (sv f' 6) (sv f' 7) w') (fun y6 y7 w2 a b => ⟨a, b⟩)
    rw [← hI.1.sv 0 (by kernel_rfl)] at hb
    exact f125_l1_b K _ _ f0 hn fr hs (fun f w h1 h2 => ⟨⟨h1, h2.1⟩, h2.2⟩) f' w' hI.1 hb
  exact cast (by kernel_rfl) hL
def f125_t (x0 x1 x2 : Value) (K : K1) (c_f125_l1 : Value → Value → Value → World → Prop) (w : World) : Prop :=
 ev Tryz.prog (binM .sub 3 (.tmp 9) (.const (.int .i64 1)) x2 (.int .i64 1)) w fun t10 w_1 =>
 c_f125_l1 x0 x1 t10 w_1
theorem f125_sk (x0 x1 x2 : Value) (K : K1) (c_f125_l1 : Value → Value → Value → World → Prop) (w : World) : (cS (cl f125_c) (fun fr w => cS (cl (cr f125_c)) (fun fr w => c_f125_l1 (sv fr 0) (sv fr 6) (sv fr 7) w) (f125_e K) nX fr w) (f125_e K) nX ([x0, x1, x2] ++ List.replicate (32 - 3) undef) w) = f125_t x0 x1 x2 K c_f125_l1 w := by kernel_rfl
theorem f125_ok : codeOk Tryz.prog 32 f125_c = true := by kernel_rfl
theorem f125_m (K : K1) (f0 : Fr) (hn : f0.length = 32) (w : World) (h1 : cS (cl f125_c) (fun fr w => cS (cl (cr f125_c)) (fun fr w => f125_l1 K (sv fr 0) (sv fr 6) (sv fr 7) w) (f125_e K) nX fr w) (f125_e K) nX f0 w) : cS f125_c (f125_e K) (f125_e K) nX f0 w := by
  have hs := Same.refl 4294967295 f0
  let fr := f0
  have h2 : cS (cl f125_c) (fun fr w => cS (cl (cr f125_c)) (fun fr w => f125_l1_o K fr w) (f125_e K) nX fr w) (f125_e K) nX fr w := (codeS_mono (m := 4294967295) (f0 := f0) (cl f125_c) (by kernel_rfl) (fun fr w hs => codeS_mono (m := 4294967295) (f0 := f0) (cl (cr f125_c)) (by kernel_rfl) (fun fr w hs => (fun h => f125_l1_s K f0 hn fr w hs h)) (fun _ _ _ h => h) (fun _ _ _ _ h => h) fr w hs) (fun _ _ _ h => h) (fun _ _ _ _ h => h) fr w hs) h1
  exact cast (by kernel_rfl) h2
theorem f125_call (x0 x1 x2 : Value) (K : K1) (w : World) (h : f125_t x0 x1 x2 K (f125_l1 K) w) : callS Tryz.prog 125 #[x0, x1, x2] w K :=
  calls_of_codeS (args := [x0, x1, x2]) mixed Tryz.func125 (show Tryz.f125.body = some f125_c from rfl) rfl (show Tryz.f125.results = f125_rs.toArray from rfl) f125_ok (by simp) (f125_m K _ (by simp) w (cast (f125_sk x0 x1 x2 K (f125_l1 K) w).symm h))
noncomputable def f126_c : Code := (Tryz.f126.body).getD .skip
def f126_rs : List ResultVar := [.tmp 6]
abbrev f126_e (K : K1) : KF := endK Tryz.prog f126_rs K
def f126_k1_t (K : K1) (w : World) : Prop :=
 K (.bool false) w
theorem f126_k1_sk (z : Nat → Value) (K : K1) (w : World) : (cS (cr (cr (cr f126_c))) (f126_e K) (f126_e K) nX (frL 133 z 0) w) = f126_k1_t K w := by kernel_rfl
def f126_k1 (K : K1) (w : World) : Prop := f126_k1_t K w
theorem f126_k1_eq (K : K1) (w : World) : f126_k1 K w = f126_k1_t K w := rfl
def f126_k1_o (K : K1) : KF := fun fr w => cS (cr (cr (cr f126_c))) (f126_e K) (f126_e K) nX fr w
theorem f126_k1_s (K : K1)  (f0 : Fr) (hn : f0.length = 133) (fr : Fr) (w : World) (hs : Same 10889035741470030830827987437816582766591 f0 fr) (h : f126_k1 K w) : f126_k1_o K fr w := by
  have h1 := cast (f126_k1_sk (fun i => sv fr i) K w).symm h
  rw [show frL 133 (fun i => sv fr i) 0 = fr from frL_of (hs.len.trans hn)] at h1
  have h2 : cS (cr (cr (cr f126_c))) (f126_e K) (f126_e K) nX fr w := (codeS_mono (m := 10889035741470030830827987437816582766591) (f0 := f0) (cr (cr (cr f126_c))) (by kernel_rfl) (fun _ _ _ h => h) (fun _ _ _ h => h) (fun _ _ _ _ h => h) fr w hs) h1
  exact cast (by kernel_rfl) h2
def f126_k2_t (x0 x1 x2 x7 x8 : Value) (K : K1) (E1 : Value → Value → World → Prop) (c_f126_k1 : World → Prop) (w : World) : Prop :=
 ev Tryz.prog (binM .add 3 (.tmp 15) (.const (.int .i64 1)) x8 (.int .i64 1)) w fun t16 w_1 =>
 E1 x7 t16 w_1
theorem f126_k2_sk (z : Nat → Value) (K : K1) (E1 : Value → Value → World → Prop) (c_f126_k1 : World → Prop) (w : World) : (cS (cr (cr (cl (cl (cr (cl (cr (cr f126_c)))))))) (fun fr w => E1 (sv fr 7) (sv fr 8) w) (f126_e K) (exB 0 (fun fr w => c_f126_k1 w) nX) (frL 133 z 0) w) = f126_k2_t (z 0) (z 1) (z 2) (z 7) (z 8) K E1 c_f126_k1 w := by kernel_rfl
def f126_k2 (K : K1) (E1 : Value → Value → World → Prop) (x0 x1 x2 x7 x8 : Value) (w : World) : Prop := f126_k2_t x0 x1 x2 x7 x8 K E1 (f126_k1 K) w
theorem f126_k2_eq (K : K1) (E1 : Value → Value → World → Prop) (x0 x1 x2 x7 x8 : Value) (w : World) : f126_k2 K E1 x0 x1 x2 x7 x8 w = f126_k2_t x0 x1 x2 x7 x8 K E1 (f126_k1 K) w := rfl
def f126_k2_o (K : K1) (F1 : KF) : KF := fun fr w => cS (cr (cr (cl (cl (cr (cl (cr (cr f126_c)))))))) F1 (f126_e K) (exB 0 (f126_k1_o K) nX) fr w
theorem f126_k2_s (K : K1)  (E1 : Value → Value → World → Prop) (F1 : KF) (f0 : Fr) (hn : f0.length = 133) (f1 : Fr) (a1 : Same 10889035741470030830827987437816582766591 f0 f1) (b1 : ∀ fr w, Same 10889035741470030830827987437816582760384 f1 fr → E1 (sv fr 7) (sv fr 8) w → F1 fr w) (fr : Fr) (w : World) (hs : Same 10889035741470030830827987437816582760384 f1 fr) (h : f126_k2 K E1 (sv fr 0) (sv fr 1) (sv fr 2) (sv fr 7) (sv fr 8) w) : f126_k2_o K F1 fr w := by
  have h1 := cast (f126_k2_sk (fun i => sv fr i) K E1 (f126_k1 K) w).symm h
  rw [show frL 133 (fun i => sv fr i) 0 = fr from frL_of (hs.len.trans (a1.len.trans hn))] at h1
  have h2 : cS (cr (cr (cl (cl (cr (cl (cr (cr f126_c)))))))) F1 (f126_e K) (exB 0 (f126_k1_o K) nX) fr w := (codeS_mono (m := 10889035741470030830827987437816582760384) (f0 := f1) (cr (cr (cl (cl (cr (cl (cr (cr f126_c)))))))) (by kernel_rfl) (fun fr w hs h => b1 fr w hs h) (fun _ _ _ h => h) (exB_mono (fun fr w hs h => f126_k1_s K f0 hn fr w (Same.up (by kernel_rfl) a1 hs) h) (fun _ _ _ _ h => h)) fr w hs) h1
  exact cast (by kernel_rfl) h2
def f126_l4_t (x0 x1 x2 x7 x8 x10 : Value) (K : K1) (E1 : Value → Value → World → Prop) (E2 : Value → World → Prop) (c_f126_k1 : World → Prop) (c_f126_k2 : Value → Value → Value → Value → Value → World → Prop) (w : World) : Prop :=
 ev Tryz.prog (binM .lss 3 (.tmp 101) (.tmp 102) x10 x2) w fun t103 w_1 =>
 cndS t103 (
 rd Tryz.prog (Instr.indexAt 72 x0 x10) w_1.drew fun t108 =>
 ldR Tryz.prog 33 t108 w_1.drew fun t109 =>
 rd Tryz.prog (binM .sub 3 (.tmp 111) (.const (.int .i64 1)) x10 (.int .i64 1)) w_1.drew fun t112 =>
 rd Tryz.prog (Instr.indexAt 72 x0 t112) w_1.drew fun t113 =>
 ldR Tryz.prog 33 t113 w_1.drew fun t114 =>
 callS Tryz.prog 127 (pA #[t109, t114]) w_1.drew fun t115 w_2 =>
 rd Tryz.prog (Op.unary .not t115) w_2 fun t116 =>
 cndS t116 (
 c_f126_k2 x0 x1 x2 x7 x8 w_2) (
 rd Tryz.prog (binM .sub 3 (.tmp 120) (.const (.int .i64 1)) x10 (.int .i64 1)) w_2.drew fun t121 =>
 rd Tryz.prog (binM .sub 3 (.tmp 123) (.const (.int .i64 1)) x10 (.int .i64 1)) w_2.drew fun t124 =>
 rd Tryz.prog (Instr.indexAt 72 x0 t124) w_2.drew fun t125 =>
 ldR Tryz.prog 33 t125 w_2.drew fun t126 =>
 rd Tryz.prog (Instr.indexAt 72 x0 x10) w_2.drew fun t129 =>
 ldR Tryz.prog 33 t129 w_2.drew fun t130 =>
 rd Tryz.prog (Instr.indexAt 72 x0 x10) w_2.drew fun t131 =>
 stS Tryz.prog 33 t131 t126 w_2.drew fun w_3 =>
 (ag Tryz.prog (binM .sub 3 (.tmp 120) (.const (.int .i64 1)) x10 (.int .i64 1)) w_3 t121) ∧
 rd Tryz.prog (Instr.indexAt 72 x0 t121) w_3 fun t132 =>
 stS Tryz.prog 33 t132 t130 w_3 fun w_4 =>
 ev Tryz.prog (binM .add 3 (.tmp 104) (.const (.int .i64 1)) x10 (.int .i64 1)) w_4 fun t105 w_5 =>
 E2 t105 w_5)) (
 c_f126_k2 x0 x1 x2 x7 x8 w_1)
theorem f126_l4_sk (z : Nat → Value) (K : K1) (E1 : Value → Value → World → Prop) (E2 : Value → World → Prop) (c_f126_k1 : World → Prop) (c_f126_k2 : Value → Value → Value → Value → Value → World → Prop) (w : World) : (cS (cl (cl (cr (cl (cr (cr (cr (cr (cr (cr (cl (cl (cr (cl (cl (cr (cl (cr (cr f126_c))))))))))))))))))) (fun fr w => E2 (sv fr 10) w) (f126_e K) (exB 6 (fun fr w => c_f126_k2 (sv fr 0) (sv fr 1) (sv fr 2) (sv fr 7) (sv fr 8) w) (exB 1 (fun fr w => c_f126_k2 (sv fr 0) (sv fr 1) (sv fr 2) (sv fr 7) (sv fr 8) w) (exB 0 (fun fr w => c_f126_k1 w) nX))) (frL 133 z 0) w) = f126_l4_t (z 0) (z 1) (z 2) (z 7) (z 8) (z 10) K E1 E2 c_f126_k1 c_f126_k2 w := by kernel_rfl
def f126_l4 (K : K1) (E1 : Value → Value → World → Prop) (x0 x1 x2 x7 x8 x10 : Value) (w : World) : Prop := ∃ (I : Value → World → Prop) (μ : Value → World → Nat), I x10 w ∧ ∀ (x10 : Value) (w : World), I x10 w → ∀ E2 : Value → World → Prop, (∀ (y10 : Value) (w' : World), I y10 w' → μ y10 w' < μ x10 w → E2 y10 w') → f126_l4_t x0 x1 x2 x7 x8 x10 K E1 E2 (f126_k1 K) (f126_k2 K E1) w
theorem f126_l4_rule (x0 x1 x2 x7 x8 x10 : Value) (K : K1) (E1 : Value → Value → World → Prop) (w : World) (I : Value → World → Prop) (μ : Value → World → Nat) (h0 : I x10 w)
    (hr : ∀ (x10 : Value) (w : World), I x10 w → ∀ E2 : Value → World → Prop, (∀ (y10 : Value) (w' : World), I y10 w' → μ y10 w' < μ x10 w → E2 y10 w') → f126_l4_t x0 x1 x2 x7 x8 x10 K E1 E2 (f126_k1 K) (f126_k2 K E1) w) : f126_l4 K E1 x0 x1 x2 x7 x8 x10 w := ⟨I, μ, h0, hr⟩
def f126_l4_o (K : K1) (F1 : KF) : KF := fun fr w => cS (cl (cr (cl (cr (cr (cr (cr (cr (cr (cl (cl (cr (cl (cl (cr (cl (cr (cr f126_c)))))))))))))))))) (fun _ _ => False) (f126_e K) (exB 6 (f126_k2_o K F1) (exB 1 (f126_k2_o K F1) (exB 0 (f126_k1_o K) nX))) fr w
theorem f126_l4_b (K : K1)  (E1 : Value → Value → World → Prop) (E2 : Value → World → Prop) (F1 : KF) (F2 : KF) (f0 : Fr) (hn : f0.length = 133) (f1 : Fr) (a1 : Same 10889035741470030830827987437816582766591 f0 f1) (b1 : ∀ fr w, Same 10889035741470030830827987437816582760384 f1 fr → E1 (sv fr 7) (sv fr 8) w → F1 fr w) (f2 : Fr) (a2 : Same 10889035741470030830827987437816582760384 f1 f2) (b2 : ∀ fr w, Same 10889035738934729630371528634823176356864 f2 fr → E2 (sv fr 10) w → F2 fr w) (fr : Fr) (w : World) (hs : Same 10889035738934729630371528634823176356864 f2 fr) (h : f126_l4_t (sv fr 0) (sv fr 1) (sv fr 2) (sv fr 7) (sv fr 8) (sv fr 10) K E1 E2 (f126_k1 K) (f126_k2 K E1) w) : cS (cl (cl (cr (cl (cr (cr (cr (cr (cr (cr (cl (cl (cr (cl (cl (cr (cl (cr (cr f126_c))))))))))))))))))) F2 (f126_e K) (exB 6 (f126_k2_o K F1) (exB 1 (f126_k2_o K F1) (exB 0 (f126_k1_o K) nX))) fr w := by
  have h1 := cast (f126_l4_sk (fun i => sv fr i) K E1 E2 (f126_k1 K) (f126_k2 K E1) w).symm h
  rw [show frL 133 (fun i => sv fr i) 0 = fr from frL_of (hs.len.trans (a2.len.trans (a1.len.trans hn)))] at h1
  have h2 : cS (cl (cl (cr (cl (cr (cr (cr (cr (cr (cr (cl (cl (cr (cl (cl (cr (cl (cr (cr f126_c))))))))))))))))))) F2 (f126_e K) (exB 6 (f126_k2_o K F1) (exB 1 (f126_k2_o K F1) (exB 0 (f126_k1_o K) nX))) fr w := (codeS_mono (m := 10889035738934729630371528634823176356864) (f0 := f2) (cl (cl (cr (cl (cr (cr (cr (cr (cr (cr (cl (cl (cr (cl (cl (cr (cl (cr (cr f126_c))))))))))))))))))) (by kernel_rfl) (fun fr w hs h => b2 fr w hs h) (fun _ _ _ h => h) (exB_mono (fun fr w hs h => f126_k2_s K E1 F1 f0 hn f1 a1 b1 fr w (Same.up (by kernel_rfl) a2 hs) h) (exB_mono (fun fr w hs h => f126_k2_s K E1 F1 f0 hn f1 a1 b1 fr w (Same.up (by kernel_rfl) a2 hs) h) (exB_mono (fun fr w hs h => f126_k1_s K f0 hn fr w (Same.up (by kernel_rfl) a1 (Same.up (by kernel_rfl) a2 hs)) h) (fun _ _ _ _ h => h)))) fr w hs) h1
  exact cast (by kernel_rfl) h2
theorem f126_l4_s (K : K1)  (E1 : Value → Value → World → Prop) (F1 : KF) (f0 : Fr) (hn : f0.length = 133) (f1 : Fr) (a1 : Same 10889035741470030830827987437816582766591 f0 f1) (b1 : ∀ fr w, Same 10889035741470030830827987437816582760384 f1 fr → E1 (sv fr 7) (sv fr 8) w → F1 fr w) (fr : Fr) (w : World) (hs : Same 10889035741470030830827987437816582760384 f1 fr) (h : f126_l4 K E1 (sv fr 0) (sv fr 1) (sv fr 2) (sv fr 7) (sv fr 8) (sv fr 10) w) : f126_l4_o K F1 fr w := by
  obtain ⟨I, μ, h0, hr⟩ := h
  have hL : loopS (fun E fr w => cS (cl (cl (cr (cl (cr (cr (cr (cr (cr (cr (cl (cl (cr (cl (cl (cr (cl (cr (cr f126_c))))))))))))))))))) E (f126_e K) (exB 6 (f126_k2_o K F1) (exB 1 (f126_k2_o K F1) (exB 0 (f126_k1_o K) nX))) fr w) fr w := by
    refine ⟨fun f' w' => Same 10889035738934729630371528634823176356864 fr f' ∧ I (sv f' 10) w', fun f' w' => μ (sv f' 10) w', ⟨Same.refl _ _, h0⟩, ?_⟩
    intro f' w' hI
    have hb := hr (sv f' 10) w' hI.2 (fun y10 w2 => I y10 w2 ∧ μ y10 w2 < μ (sv f' 10) w') (fun y10 w2 a b => ⟨a, b⟩)
    rw [← hI.1.sv 0 (by kernel_rfl), ← hI.1.sv 1 (by kernel_rfl), ← hI.1.sv 2 (by kernel_rfl), ← hI.1.sv 7 (by kernel_rfl), ← hI.1.sv 8 (by kernel_rfl)] at hb
    exact f126_l4_b K E1 _ F1 _ f0 hn f1 a1 b1 fr hs (fun f w h1 h2 => ⟨⟨h1, h2.1⟩, h2.2⟩) f' w' hI.1 hb
  exact cast (by kernel_rfl) hL
def f126_k4_t (x0 x1 x2 x7 x8 : Value) (K : K1) (E1 : Value → Value → World → Prop) (c_f126_k1 : World → Prop) (c_f126_k2 : Value → Value → Value → Value → Value → World → Prop) (c_f126_l4 : Value → Value → Value → Value → Value → Value → World → Prop) (w : World) : Prop :=
 ev Tryz.prog (binM .sub 3 (.tmp 95) (.tmp 96) x2 x7) w fun t97 w_1 =>
 ev Tryz.prog (binM .geq 3 (.tmp 97) (.const (.int .i64 2)) t97 (.int .i64 2)) w_1 fun t98 w_2 =>
 cndS t98 (
 ev Tryz.prog (binM .add 3 (.tmp 99) (.const (.int .i64 1)) x7 (.int .i64 1)) w_2 fun t100 w_3 =>
 c_f126_l4 x0 x1 x2 x7 x8 t100 w_3) (
 c_f126_k2 x0 x1 x2 x7 x8 w_2)
theorem f126_k4_sk (z : Nat → Value) (K : K1) (E1 : Value → Value → World → Prop) (c_f126_k1 : World → Prop) (c_f126_k2 : Value → Value → Value → Value → Value → World → Prop) (c_f126_l4 : Value → Value → Value → Value → Value → Value → World → Prop) (w : World) : (cS (cl (cr (cr (cr (cr (cr (cl (cl (cr (cl (cl (cr (cl (cr (cr f126_c))))))))))))))) (fun fr w => cndS (evO fr (.tmp 98)) (cS (cl (cl (cr (cr (cr (cr (cr (cr (cl (cl (cr (cl (cl (cr (cl (cr (cr f126_c))))))))))))))))) (fun fr w => c_f126_l4 (sv fr 0) (sv fr 1) (sv fr 2) (sv fr 7) (sv fr 8) (sv fr 10) w) (f126_e K) (exB 1 (fun fr w => c_f126_k2 (sv fr 0) (sv fr 1) (sv fr 2) (sv fr 7) (sv fr 8) w) (exB 0 (fun fr w => c_f126_k1 w) nX)) fr w) (cS (cr (cr (cr (cr (cr (cr (cr (cl (cl (cr (cl (cl (cr (cl (cr (cr f126_c)))))))))))))))) (fun fr w => c_f126_k2 (sv fr 0) (sv fr 1) (sv fr 2) (sv fr 7) (sv fr 8) w) (f126_e K) (exB 1 (fun fr w => c_f126_k2 (sv fr 0) (sv fr 1) (sv fr 2) (sv fr 7) (sv fr 8) w) (exB 0 (fun fr w => c_f126_k1 w) nX)) fr w)) (f126_e K) (exB 1 (fun fr w => c_f126_k2 (sv fr 0) (sv fr 1) (sv fr 2) (sv fr 7) (sv fr 8) w) (exB 0 (fun fr w => c_f126_k1 w) nX)) (frL 133 z 0) w) = f126_k4_t (z 0) (z 1) (z 2) (z 7) (z 8) K E1 c_f126_k1 c_f126_k2 c_f126_l4 w := by kernel_rfl
def f126_k4 (K : K1) (E1 : Value → Value → World → Prop) (x0 x1 x2 x7 x8 : Value) (w : World) : Prop := f126_k4_t x0 x1 x2 x7 x8 K E1 (f126_k1 K) (f126_k2 K E1) (f126_l4 K E1) w
theorem f126_k4_eq (K : K1) (E1 : Value → Value → World → Prop) (x0 x1 x2 x7 x8 : Value) (w : World) : f126_k4 K E1 x0 x1 x2 x7 x8 w = f126_k4_t x0 x1 x2 x7 x8 K E1 (f126_k1 K) (f126_k2 K E1) (f126_l4 K E1) w := rfl
def f126_k4_o (K : K1) (F1 : KF) : KF := fun fr w => cS (cr (cr (cr (cr (cr (cl (cl (cr (cl (cl (cr (cl (cr (cr f126_c)))))))))))))) (f126_k2_o K F1) (f126_e K) (exB 1 (f126_k2_o K F1) (exB 0 (f126_k1_o K) nX)) fr w
theorem f126_k4_s (K : K1)  (E1 : Value → Value → World → Prop) (F1 : KF) (f0 : Fr) (hn : f0.length = 133) (f1 : Fr) (a1 : Same 10889035741470030830827987437816582766591 f0 f1) (b1 : ∀ fr w, Same 10889035741470030830827987437816582760384 f1 fr → E1 (sv fr 7) (sv fr 8) w → F1 fr w) (fr : Fr) (w : World) (hs : Same 10889035741470030830827987437816582760384 f1 fr) (h : f126_k4 K E1 (sv fr 0) (sv fr 1) (sv fr 2) (sv fr 7) (sv fr 8) w) : f126_k4_o K F1 fr w := by
  have h1 := cast (f126_k4_sk (fun i => sv fr i) K E1 (f126_k1 K) (f126_k2 K E1) (f126_l4 K E1) w).symm h
  rw [show frL 133 (fun i => sv fr i) 0 = fr from frL_of (hs.len.trans (a1.len.trans hn))] at h1
  have h2 : cS (cl (cr (cr (cr (cr (cr (cl (cl (cr (cl (cl (cr (cl (cr (cr f126_c))))))))))))))) (fun fr w => cndS (evO fr (.tmp 98)) (cS (cl (cl (cr (cr (cr (cr (cr (cr (cl (cl (cr (cl (cl (cr (cl (cr (cr f126_c))))))))))))))))) (fun fr w => f126_l4_o K F1 fr w) (f126_e K) (exB 1 (f126_k2_o K F1) (exB 0 (f126_k1_o K) nX)) fr w) (cS (cr (cr (cr (cr (cr (cr (cr (cl (cl (cr (cl (cl (cr (cl (cr (cr f126_c)))))))))))))))) (f126_k2_o K F1) (f126_e K) (exB 1 (f126_k2_o K F1) (exB 0 (f126_k1_o K) nX)) fr w)) (f126_e K) (exB 1 (f126_k2_o K F1) (exB 0 (f126_k1_o K) nX)) fr w := (codeS_mono (m := 10889035741470030830827987437816582760384) (f0 := f1) (cl (cr (cr (cr (cr (cr (cl (cl (cr (cl (cl (cr (cl (cr (cr f126_c))))))))))))))) (by kernel_rfl) (fun fr w hs => cndS_mono (codeS_mono (m := 10889035741470030830827987437816582760384) (f0 := f1) (cl (cl (cr (cr (cr (cr (cr (cr (cl (cl (cr (cl (cl (cr (cl (cr (cr f126_c))))))))))))))))) (by kernel_rfl) (fun fr w hs => (fun h => f126_l4_s K E1 F1 f0 hn f1 a1 b1 fr w hs h)) (fun _ _ _ h => h) (exB_mono (fun fr w hs h => f126_k2_s K E1 F1 f0 hn f1 a1 b1 fr w hs h) (exB_mono (fun fr w hs h => f126_k1_s K f0 hn fr w (Same.up (by kernel_rfl) a1 hs) h) (fun _ _ _ _ h => h))) fr w hs) (codeS_mono (m := 10889035741470030830827987437816582760384) (f0 := f1) (cr (cr (cr (cr (cr (cr (cr (cl (cl (cr (cl (cl (cr (cl (cr (cr f126_c)))))))))))))))) (by kernel_rfl) (fun fr w hs h => f126_k2_s K E1 F1 f0 hn f1 a1 b1 fr w hs h) (fun _ _ _ h => h) (exB_mono (fun fr w hs h => f126_k2_s K E1 F1 f0 hn f1 a1 b1 fr w hs h) (exB_mono (fun fr w hs h => f126_k1_s K f0 hn fr w (Same.up (by kernel_rfl) a1 hs) h) (fun _ _ _ _ h => h))) fr w hs)) (fun _ _ _ h => h) (exB_mono (fun fr w hs h => f126_k2_s K E1 F1 f0 hn f1 a1 b1 fr w hs h) (exB_mono (fun fr w hs h => f126_k1_s K f0 hn fr w (Same.up (by kernel_rfl) a1 hs) h) (fun _ _ _ _ h => h))) fr w hs) h1
  exact cast (by kernel_rfl) h2
def f126_l3_t (x0 x1 x2 x7 x8 x9 : Value) (K : K1) (E1 : Value → Value → World → Prop) (E2 : Value → World → Prop) (c_f126_k1 : World → Prop) (c_f126_k2 : Value → Value → Value → Value → Value → World → Prop) (c_f126_k4 : Value → Value → Value → Value → Value → World → Prop) (w : World) : Prop :=
 ev Tryz.prog (binM .geq 3 (.tmp 64) (.const (.int .i64 1)) x9 (.int .i64 1)) w fun t65 w_1 =>
 cndS t65 (
 rd Tryz.prog (Instr.indexAt 72 x0 x9) w_1.drew fun t70 =>
 ldR Tryz.prog 33 t70 w_1.drew fun t71 =>
 rd Tryz.prog (binM .sub 3 (.tmp 73) (.const (.int .i64 1)) x9 (.int .i64 1)) w_1.drew fun t74 =>
 rd Tryz.prog (Instr.indexAt 72 x0 t74) w_1.drew fun t75 =>
 ldR Tryz.prog 33 t75 w_1.drew fun t76 =>
 callS Tryz.prog 127 (pA #[t71, t76]) w_1.drew fun t77 w_2 =>
 rd Tryz.prog (Op.unary .not t77) w_2 fun t78 =>
 cndS t78 (
 c_f126_k4 x0 x1 x2 x7 x8 w_2) (
 rd Tryz.prog (binM .sub 3 (.tmp 82) (.const (.int .i64 1)) x9 (.int .i64 1)) w_2.drew fun t83 =>
 rd Tryz.prog (binM .sub 3 (.tmp 85) (.const (.int .i64 1)) x9 (.int .i64 1)) w_2.drew fun t86 =>
 rd Tryz.prog (Instr.indexAt 72 x0 t86) w_2.drew fun t87 =>
 ldR Tryz.prog 33 t87 w_2.drew fun t88 =>
 rd Tryz.prog (Instr.indexAt 72 x0 x9) w_2.drew fun t91 =>
 ldR Tryz.prog 33 t91 w_2.drew fun t92 =>
 rd Tryz.prog (Instr.indexAt 72 x0 x9) w_2.drew fun t93 =>
 stS Tryz.prog 33 t93 t88 w_2.drew fun w_3 =>
 (ag Tryz.prog (binM .sub 3 (.tmp 82) (.const (.int .i64 1)) x9 (.int .i64 1)) w_3 t83) ∧
 rd Tryz.prog (Instr.indexAt 72 x0 t83) w_3 fun t94 =>
 stS Tryz.prog 33 t94 t92 w_3 fun w_4 =>
 ev Tryz.prog (binM .sub 3 (.tmp 66) (.const (.int .i64 1)) x9 (.int .i64 1)) w_4 fun t67 w_5 =>
 E2 t67 w_5)) (
 c_f126_k4 x0 x1 x2 x7 x8 w_1)
theorem f126_l3_sk (z : Nat → Value) (K : K1) (E1 : Value → Value → World → Prop) (E2 : Value → World → Prop) (c_f126_k1 : World → Prop) (c_f126_k2 : Value → Value → Value → Value → Value → World → Prop) (c_f126_k4 : Value → Value → Value → Value → Value → World → Prop) (w : World) : (cS (cl (cl (cr (cl (cr (cl (cr (cr (cr (cr (cl (cl (cr (cl (cl (cr (cl (cr (cr f126_c))))))))))))))))))) (fun fr w => E2 (sv fr 9) w) (f126_e K) (exB 4 (fun fr w => c_f126_k4 (sv fr 0) (sv fr 1) (sv fr 2) (sv fr 7) (sv fr 8) w) (exB 1 (fun fr w => c_f126_k2 (sv fr 0) (sv fr 1) (sv fr 2) (sv fr 7) (sv fr 8) w) (exB 0 (fun fr w => c_f126_k1 w) nX))) (frL 133 z 0) w) = f126_l3_t (z 0) (z 1) (z 2) (z 7) (z 8) (z 9) K E1 E2 c_f126_k1 c_f126_k2 c_f126_k4 w := by kernel_rfl
def f126_l3 (K : K1) (E1 : Value → Value → World → Prop) (x0 x1 x2 x7 x8 x9 : Value) (w : World) : Prop := ∃ (I : Value → World → Prop) (μ : Value → World → Nat), I x9 w ∧ ∀ (x9 : Value) (w : World), I x9 w → ∀ E2 : Value → World → Prop, (∀ (y9 : Value) (w' : World), I y9 w' → μ y9 w' < μ x9 w → E2 y9 w') → f126_l3_t x0 x1 x2 x7 x8 x9 K E1 E2 (f126_k1 K) (f126_k2 K E1) (f126_k4 K E1) w
theorem f126_l3_rule (x0 x1 x2 x7 x8 x9 : Value) (K : K1) (E1 : Value → Value → World → Prop) (w : World) (I : Value → World → Prop) (μ : Value → World → Nat) (h0 : I x9 w)
    (hr : ∀ (x9 : Value) (w : World), I x9 w → ∀ E2 : Value → World → Prop, (∀ (y9 : Value) (w' : World), I y9 w' → μ y9 w' < μ x9 w → E2 y9 w') → f126_l3_t x0 x1 x2 x7 x8 x9 K E1 E2 (f126_k1 K) (f126_k2 K E1) (f126_k4 K E1) w) : f126_l3 K E1 x0 x1 x2 x7 x8 x9 w := ⟨I, μ, h0, hr⟩
def f126_l3_o (K : K1) (F1 : KF) : KF := fun fr w => cS (cl (cr (cl (cr (cl (cr (cr (cr (cr (cl (cl (cr (cl (cl (cr (cl (cr (cr f126_c)))))))))))))))))) (fun _ _ => False) (f126_e K) (exB 4 (f126_k4_o K F1) (exB 1 (f126_k2_o K F1) (exB 0 (f126_k1_o K) nX))) fr w
theorem f126_l3_b (K : K1)  (E1 : Value → Value → World → Prop) (E2 : Value → World → Prop) (F1 : KF) (F2 : KF) (f0 : Fr) (hn : f0.length = 133) (f1 : Fr) (a1 : Same 10889035741470030830827987437816582766591 f0 f1) (b1 : ∀ fr w, Same 10889035741470030830827987437816582760384 f1 fr → E1 (sv fr 7) (sv fr 8) w → F1 fr w) (f2 : Fr) (a2 : Same 10889035741470030830827987437816582760384 f1 f2) (b2 : ∀ fr w, Same 39614081238685424723062424064 f2 fr → E2 (sv fr 9) w → F2 fr w) (fr : Fr) (w : World) (hs : Same 39614081238685424723062424064 f2 fr) (h : f126_l3_t (sv fr 0) (sv fr 1) (sv fr 2) (sv fr 7) (sv fr 8) (sv fr 9) K E1 E2 (f126_k1 K) (f126_k2 K E1) (f126_k4 K E1) w) : cS (cl (cl (cr (cl (cr (cl (cr (cr (cr (cr (cl (cl (cr (cl (cl (cr (cl (cr (cr f126_c))))))))))))))))))) F2 (f126_e K) (exB 4 (f126_k4_o K F1) (exB 1 (f126_k2_o K F1) (exB 0 (f126_k1_o K) nX))) fr w := by
  have h1 := cast (f126_l3_sk (fun i => sv fr i) K E1 E2 (f126_k1 K) (f126_k2 K E1) (f126_k4 K E1) w).symm h
  rw [show frL 133 (fun i => sv fr i) 0 = fr from frL_of (hs.len.trans (a2.len.trans (a1.len.trans hn)))] at h1
  have h2 : cS (cl (cl (cr (cl (cr (cl (cr (cr (cr (cr (cl (cl (cr (cl (cl (cr (cl (cr (cr f126_c))))))))))))))))))) F2 (f126_e K) (exB 4 (f126_k4_o K F1) (exB 1 (f126_k2_o K F1) (exB 0 (f126_k1_o K) nX))) fr w := (codeS_mono (m := 39614081238685424723062424064) (f0 := f2) (cl (cl (cr (cl (cr (cl (cr (cr (cr (cr (cl (cl (cr (cl (cl (cr (cl (cr (cr f126_c))))))))))))))))))) (by kernel_rfl) (fun fr w hs h => b2 fr w hs h) (fun _ _ _ h => h) (exB_mono (fun fr w hs h => f126_k4_s K E1 F1 f0 hn f1 a1 b1 fr w (Same.up (by kernel_rfl) a2 hs) h) (exB_mono (fun fr w hs h => f126_k2_s K E1 F1 f0 hn f1 a1 b1 fr w (Same.up (by kernel_rfl) a2 hs) h) (exB_mono (fun fr w hs h => f126_k1_s K f0 hn fr w (Same.up (by kernel_rfl) a1 (Same.up (by kernel_rfl) a2 hs)) h) (fun _ _ _ _ h => h)))) fr w hs) h1
  exact cast (by kernel_rfl) h2
theorem f126_l3_s (K : K1)  (E1 : Value → Value → World → Prop) (F1 : KF) (f0 : Fr) (hn : f0.length = 133) (f1 : Fr) (a1 : Same 10889035741470030830827987437816582766591 f0 f1) (b1 : ∀ fr w, Same 10889035741470030830827987437816582760384 f1 fr → E1 (sv fr 7) (sv fr 8) w → F1 fr w) (fr : Fr) (w : World) (hs : Same 10889035741470030830827987437816582760384 f1 fr) (h : f126_l3 K E1 (sv fr 0) (sv fr 1) (sv fr 2) (sv fr 7) (sv fr 8) (sv fr 9) w) : f126_l3_o K F1 fr w := by
  obtain ⟨I, μ, h0, hr⟩ := h
  have hL : loopS (fun E fr w => cS (cl (cl (cr (cl (cr (cl (cr (cr (cr (cr (cl (cl (cr (cl (cl (cr (cl (cr (cr f126_c))))))))))))))))))) E (f126_e K) (exB 4 (f126_k4_o K F1) (exB 1 (f126_k2_o K F1) (exB 0 (f126_k1_o K) nX))) fr w) fr w := by
    refine ⟨fun f' w' => Same 39614081238685424723062424064 fr f' ∧ I (sv f' 9) w', fun f' w' => μ (sv f' 9) w', ⟨Same.refl _ _, h0⟩, ?_⟩
    intro f' w' hI
    have hb := hr (sv f' 9) w' hI.2 (fun y9 w2 => I y9 w2 ∧ μ y9 w2 < μ (sv f' 9) w') (fun y9 w2 a b => ⟨a, b⟩)
    rw [← hI.1.sv 0 (by kernel_rfl), ← hI.1.sv 1 (by kernel_rfl), ← hI.1.sv 2 (by kernel_rfl), ← hI.1.sv 7 (by kernel_rfl), ← hI.1.sv 8 (by kernel_rfl)] at hb
    exact f126_l3_b K E1 _ F1 _ f0 hn f1 a1 b1 fr hs (fun f w h1 h2 => ⟨⟨h1, h2.1⟩, h2.2⟩) f' w' hI.1 hb
  exact cast (by kernel_rfl) hL
def f126_k3_t (x0 x1 x2 x7 x8 : Value) (K : K1) (E1 : Value → Value → World → Prop) (c_f126_k1 : World → Prop) (c_f126_k2 : Value → Value → Value → Value → Value → World → Prop) (c_f126_k4 : Value → Value → Value → Value → Value → World → Prop) (c_f126_l3 : Value → Value → Value → Value → Value → Value → World → Prop) (w : World) : Prop :=
 ev Tryz.prog (binM .eql 3 (.tmp 35) (.tmp 36) x7 x2) w fun t37 w_1 =>
 cndS t37 (
 K (.bool true) w_1) (
 ev Tryz.prog (binM .sub 3 (.tmp 38) (.tmp 39) x2 x1) w_1 fun t40 w_2 =>
 ev Tryz.prog (binM .lss 3 (.tmp 40) (.const (.int .i64 50)) t40 (.int .i64 50)) w_2 fun t41 w_3 =>
 cndS t41 (
 K (.bool false) w_3) (
 rd Tryz.prog (binM .sub 3 (.tmp 45) (.const (.int .i64 1)) x7 (.int .i64 1)) w_3.drew fun t46 =>
 rd Tryz.prog (binM .sub 3 (.tmp 48) (.const (.int .i64 1)) x7 (.int .i64 1)) w_3.drew fun t49 =>
 rd Tryz.prog (Instr.indexAt 72 x0 t49) w_3.drew fun t50 =>
 ldR Tryz.prog 33 t50 w_3.drew fun t51 =>
 rd Tryz.prog (Instr.indexAt 72 x0 x7) w_3.drew fun t54 =>
 ldR Tryz.prog 33 t54 w_3.drew fun t55 =>
 rd Tryz.prog (Instr.indexAt 72 x0 x7) w_3.drew fun t56 =>
 stS Tryz.prog 33 t56 t51 w_3.drew fun w_4 =>
 (ag Tryz.prog (binM .sub 3 (.tmp 45) (.const (.int .i64 1)) x7 (.int .i64 1)) w_4 t46) ∧
 rd Tryz.prog (Instr.indexAt 72 x0 t46) w_4 fun t57 =>
 stS Tryz.prog 33 t57 t55 w_4 fun w_5 =>
 ev Tryz.prog (binM .sub 3 (.tmp 58) (.tmp 59) x7 x1) w_5 fun t60 w_6 =>
 ev Tryz.prog (binM .geq 3 (.tmp 60) (.const (.int .i64 2)) t60 (.int .i64 2)) w_6 fun t61 w_7 =>
 cndS t61 (
 ev Tryz.prog (binM .sub 3 (.tmp 62) (.const (.int .i64 1)) x7 (.int .i64 1)) w_7 fun t63 w_8 =>
 c_f126_l3 x0 x1 x2 x7 x8 t63 w_8) (
 c_f126_k4 x0 x1 x2 x7 x8 w_7)))
theorem f126_k3_sk (z : Nat → Value) (K : K1) (E1 : Value → Value → World → Prop) (c_f126_k1 : World → Prop) (c_f126_k2 : Value → Value → Value → Value → Value → World → Prop) (c_f126_k4 : Value → Value → Value → Value → Value → World → Prop) (c_f126_l3 : Value → Value → Value → Value → Value → Value → World → Prop) (w : World) : (cS (cl (cr (cl (cl (cr (cl (cl (cr (cl (cr (cr f126_c))))))))))) (fun fr w => cS (cl (cr (cr (cl (cl (cr (cl (cl (cr (cl (cr (cr f126_c)))))))))))) (fun fr w => cS (cl (cr (cr (cr (cl (cl (cr (cl (cl (cr (cl (cr (cr f126_c))))))))))))) (fun fr w => cS (cl (cl (cr (cr (cr (cr (cl (cl (cr (cl (cl (cr (cl (cr (cr f126_c))))))))))))))) (fun fr w => cndS (evO fr (.tmp 61)) (cS (cl (cl (cr (cl (cr (cr (cr (cr (cl (cl (cr (cl (cl (cr (cl (cr (cr f126_c))))))))))))))))) (fun fr w => c_f126_l3 (sv fr 0) (sv fr 1) (sv fr 2) (sv fr 7) (sv fr 8) (sv fr 9) w) (f126_e K) (exB 1 (fun fr w => c_f126_k2 (sv fr 0) (sv fr 1) (sv fr 2) (sv fr 7) (sv fr 8) w) (exB 0 (fun fr w => c_f126_k1 w) nX)) fr w) (cS (cr (cr (cl (cr (cr (cr (cr (cl (cl (cr (cl (cl (cr (cl (cr (cr f126_c)))))))))))))))) (fun fr w => c_f126_k4 (sv fr 0) (sv fr 1) (sv fr 2) (sv fr 7) (sv fr 8) w) (f126_e K) (exB 1 (fun fr w => c_f126_k2 (sv fr 0) (sv fr 1) (sv fr 2) (sv fr 7) (sv fr 8) w) (exB 0 (fun fr w => c_f126_k1 w) nX)) fr w)) (f126_e K) (exB 1 (fun fr w => c_f126_k2 (sv fr 0) (sv fr 1) (sv fr 2) (sv fr 7) (sv fr 8) w) (exB 0 (fun fr w => c_f126_k1 w) nX)) fr w) (f126_e K) (exB 1 (fun fr w => c_f126_k2 (sv fr 0) (sv fr 1) (sv fr 2) (sv fr 7) (sv fr 8) w) (exB 0 (fun fr w => c_f126_k1 w) nX)) fr w) (f126_e K) (exB 1 (fun fr w => c_f126_k2 (sv fr 0) (sv fr 1) (sv fr 2) (sv fr 7) (sv fr 8) w) (exB 0 (fun fr w => c_f126_k1 w) nX)) fr w) (f126_e K) (exB 1 (fun fr w => c_f126_k2 (sv fr 0) (sv fr 1) (sv fr 2) (sv fr 7) (sv fr 8) w) (exB 0 (fun fr w => c_f126_k1 w) nX)) (frL 133 z 0) w) = f126_k3_t (z 0) (z 1) (z 2) (z 7) (z 8) K E1 c_f126_k1 c_f126_k2 c_f126_k4 c_f126_l3 w := by kernel_rfl
def f126_k3 (K : K1) (E1 : Value → Value → World → Prop) (x0 x1 x2 x7 x8 : Value) (w : World) : Prop := f126_k3_t x0 x1 x2 x7 x8 K E1 (f126_k1 K) (f126_k2 K E1) (f126_k4 K E1) (f126_l3 K E1) w
theorem f126_k3_eq (K : K1) (E1 : Value → Value → World → Prop) (x0 x1 x2 x7 x8 : Value) (w : World) : f126_k3 K E1 x0 x1 x2 x7 x8 w = f126_k3_t x0 x1 x2 x7 x8 K E1 (f126_k1 K) (f126_k2 K E1) (f126_k4 K E1) (f126_l3 K E1) w := rfl
def f126_k3_o (K : K1) (F1 : KF) : KF := fun fr w => cS (cr (cl (cl (cr (cl (cl (cr (cl (cr (cr f126_c)))))))))) (f126_k2_o K F1) (f126_e K) (exB 1 (f126_k2_o K F1) (exB 0 (f126_k1_o K) nX)) fr w
theorem f126_k3_s (K : K1)  (E1 : Value → Value → World → Prop) (F1 : KF) (f0 : Fr) (hn : f0.length = 133) (f1 : Fr) (a1 : Same 10889035741470030830827987437816582766591 f0 f1) (b1 : ∀ fr w, Same 10889035741470030830827987437816582760384 f1 fr → E1 (sv fr 7) (sv fr 8) w → F1 fr w) (fr : Fr) (w : World) (hs : Same 10889035741470030830827987437816582760384 f1 fr) (h : f126_k3 K E1 (sv fr 0) (sv fr 1) (sv fr 2) (sv fr 7) (sv fr 8) w) : f126_k3_o K F1 fr w := by
  have h1 := cast (f126_k3_sk (fun i => sv fr i) K E1 (f126_k1 K) (f126_k2 K E1) (f126_k4 K E1) (f126_l3 K E1) w).symm h
  rw [show frL 133 (fun i => sv fr i) 0 = fr from frL_of (hs.len.trans (a1.len.trans hn))] at h1
  have h2 : cS (cl (cr (cl (cl (cr (cl (cl (cr (cl (cr (cr f126_c))))))))))) (fun fr w => cS (cl (cr (cr (cl (cl (cr (cl (cl (cr (cl (cr (cr f126_c)))))))))))) (fun fr w => cS (cl (cr (cr (cr (cl (cl (cr (cl (cl (cr (cl (cr (cr f126_c))))))))))))) (fun fr w => cS (cl (cl (cr (cr (cr (cr (cl (cl (cr (cl (cl (cr (cl (cr (cr f126_c))))))))))))))) (fun fr w => cndS (evO fr (.tmp 61)) (cS (cl (cl (cr (cl (cr (cr (cr (cr (cl (cl (cr (cl (cl (cr (cl (cr (cr f126_c))))))))))))))))) (fun fr w => f126_l3_o K F1 fr w) (f126_e K) (exB 1 (f126_k2_o K F1) (exB 0 (f126_k1_o K) nX)) fr w) (cS (cr (cr (cl (cr (cr (cr (cr (cl (cl (cr (cl (cl (cr (cl (cr (cr f126_c)))))))))))))))) (f126_k4_o K F1) (f126_e K) (exB 1 (f126_k2_o K F1) (exB 0 (f126_k1_o K) nX)) fr w)) (f126_e K) (exB 1 (f126_k2_o K F1) (exB 0 (f126_k1_o K) nX)) fr w) (f126_e K) (exB 1 (f126_k2_o K F1) (exB 0 (f126_k1_o K) nX)) fr w) (f126_e K) (exB 1 (f126_k2_o K F1) (exB 0 (f126_k1_o K) nX)) fr w) (f126_e K) (exB 1 (f126_k2_o K F1) (exB 0 (f126_k1_o K) nX)) fr w := (codeS_mono (m := 10889035741470030830827987437816582760384) (f0 := f1) (cl (cr (cl (cl (cr (cl (cl (cr (cl (cr (cr f126_c))))))))))) (by kernel_rfl) (fun fr w hs => codeS_mono (m := 10889035741470030830827987437816582760384) (f0 := f1) (cl (cr (cr (cl (cl (cr (cl (cl (cr (cl (cr (cr f126_c)))))))))))) (by kernel_rfl) (fun fr w hs => codeS_mono (m := 10889035741470030830827987437816582760384) (f0 := f1) (cl (cr (cr (cr (cl (cl (cr (cl (cl (cr (cl (cr (cr f126_c))))))))))))) (by kernel_rfl) (fun fr w hs => codeS_mono (m := 10889035741470030830827987437816582760384) (f0 := f1) (cl (cl (cr (cr (cr (cr (cl (cl (cr (cl (cl (cr (cl (cr (cr f126_c))))))))))))))) (by kernel_rfl) (fun fr w hs => cndS_mono (codeS_mono (m := 10889035741470030830827987437816582760384) (f0 := f1) (cl (cl (cr (cl (cr (cr (cr (cr (cl (cl (cr (cl (cl (cr (cl (cr (cr f126_c))))))))))))))))) (by kernel_rfl) (fun fr w hs => (fun h => f126_l3_s K E1 F1 f0 hn f1 a1 b1 fr w hs h)) (fun _ _ _ h => h) (exB_mono (fun fr w hs h => f126_k2_s K E1 F1 f0 hn f1 a1 b1 fr w hs h) (exB_mono (fun fr w hs h => f126_k1_s K f0 hn fr w (Same.up (by kernel_rfl) a1 hs) h) (fun _ _ _ _ h => h))) fr w hs) (codeS_mono (m := 10889035741470030830827987437816582760384) (f0 := f1) (cr (cr (cl (cr (cr (cr (cr (cl (cl (cr (cl (cl (cr (cl (cr (cr f126_c)))))))))))))))) (by kernel_rfl) (fun fr w hs h => f126_k4_s K E1 F1 f0 hn f1 a1 b1 fr w hs h) (fun _ _ _ h => h) (exB_mono (fun fr w hs h => f126_k2_s K E1 F1 f0 hn f1 a1 b1 fr w hs h) (exB_mono (fun fr w hs h => f126_k1_s K f0 hn fr w (Same.up (by kernel_rfl) a1 hs) h) (fun _ _ _ _ h => h))) fr w hs)) (fun _ _ _ h => h) (exB_mono (fun fr w hs h => f126_k2_s K E1 F1 f0 hn f1 a1 b1 fr w hs h) (exB_mono (fun fr w hs h => f126_k1_s K f0 hn fr w (Same.up (by kernel_rfl) a1 hs) h) (fun _ _ _ _ h => h))) fr w hs) (fun _ _ _ h => h) (exB_mono (fun fr w hs h => f126_k2_s K E1 F1 f0 hn f1 a1 b1 fr w hs h) (exB_mono (fun fr w hs h => f126_k1_s K f0 hn fr w (Same.up (by kernel_rfl) a1 hs) h) (fun _ _ _ _ h => h))) fr w hs) (fun _ _ _ h => h) (exB_mono (fun fr w hs h => f126_k2_s K E1 F1 f0 hn f1 a1 b1 fr w hs h) (exB_mono (fun fr w hs h => f126_k1_s K f0 hn fr w (Same.up (by kernel_rfl) a1 hs) h) (fun _ _ _ _ h => h))) fr w hs) (fun _ _ _ h => h) (exB_mono (fun fr w hs h => f126_k2_s K E1 F1 f0 hn f1 a1 b1 fr w hs h) (exB_mono (fun fr w hs h => f126_k1_s K f0 hn fr w (Same.up (by kernel_rfl) a1 hs) h) (fun _ _ _ _ h => h))) fr w hs) h1
  exact cast (by kernel_rfl) h2
def f126_l2_t (x0 x1 x2 x7 x8 : Value) (K : K1) (E1 : Value → Value → World → Prop) (E2 : Value → World → Prop) (c_f126_k1 : World → Prop) (c_f126_k2 : Value → Value → Value → Value → Value → World → Prop) (c_f126_k3 : Value → Value → Value → Value → Value → World → Prop) (w : World) : Prop :=
 rd Tryz.prog (binM .lss 3 (.tmp 17) (.tmp 18) x7 x2) w.drew fun t19 =>
 gdR t19 true (fun k => k x0) fun t21 =>
 gdR t19 true (fun k => k x7) fun t22 =>
 gdR t19 true (fun k => rd Tryz.prog (Instr.indexAt 72 t21 t22) w.drew k) fun t23 =>
 gdR t19 true (fun k => ldR Tryz.prog 33 t23 w.drew k) fun t24 =>
 gdR t19 true (fun k => k x0) fun t25 =>
 gdR t19 true (fun k => k x7) fun t26 =>
 gdR t19 true (fun k => rd Tryz.prog (binM .sub 3 (.tmp 26) (.const (.int .i64 1)) t26 (.int .i64 1)) w.drew k) fun t27 =>
 gdR t19 true (fun k => rd Tryz.prog (Instr.indexAt 72 t25 t27) w.drew k) fun t28 =>
 gdR t19 true (fun k => ldR Tryz.prog 33 t28 w.drew k) fun t29 =>
 gd t19 true (fun k => callS Tryz.prog 127 (pA #[t24, t29]) w.drew k) w.drew fun t30 w_1 =>
 gdR t19 true (fun k => rd Tryz.prog (Op.unary .not t30) w_1 k) fun t31 =>
 pickV t19 t31 (.bool false) fun t32 =>
 cndS t32 (
 ev Tryz.prog (binM .add 3 (.tmp 33) (.const (.int .i64 1)) x7 (.int .i64 1)) w_1 fun t34 w_2 =>
 E2 t34 w_2) (
 c_f126_k3 x0 x1 x2 x7 x8 w_1)
theorem f126_l2_sk (z : Nat → Value) (K : K1) (E1 : Value → Value → World → Prop) (E2 : Value → World → Prop) (c_f126_k1 : World → Prop) (c_f126_k2 : Value → Value → Value → Value → Value → World → Prop) (c_f126_k3 : Value → Value → Value → Value → Value → World → Prop) (w : World) : (cS (cl (cl (cl (cl (cl (cr (cl (cl (cr (cl (cr (cr f126_c)))))))))))) (fun fr w => E2 (sv fr 7) w) (f126_e K) (exB 2 (fun fr w => c_f126_k3 (sv fr 0) (sv fr 1) (sv fr 2) (sv fr 7) (sv fr 8) w) (exB 1 (fun fr w => c_f126_k2 (sv fr 0) (sv fr 1) (sv fr 2) (sv fr 7) (sv fr 8) w) (exB 0 (fun fr w => c_f126_k1 w) nX))) (frL 133 z 0) w) = f126_l2_t (z 0) (z 1) (z 2) (z 7) (z 8) K E1 E2 c_f126_k1 c_f126_k2 c_f126_k3 w := by kernel_rfl
def f126_l2 (K : K1) (E1 : Value → Value → World → Prop) (x0 x1 x2 x7 x8 : Value) (w : World) : Prop := ∃ (I : Value → World → Prop) (μ : Value → World → Nat), I x7 w ∧ ∀ (x7 : Value) (w : World), I x7 w → ∀ E2 : Value → World → Prop, (∀ (y7 : Value) (w' : World), I y7 w' → μ y7 w' < μ x7 w → E2 y7 w') → f126_l2_t x0 x1 x2 x7 x8 K E1 E2 (f126_k1 K) (f126_k2 K E1) (f126_k3 K E1) w
theorem f126_l2_rule (x0 x1 x2 x7 x8 : Value) (K : K1) (E1 : Value → Value → World → Prop) (w : World) (I : Value → World → Prop) (μ : Value → World → Nat) (h0 : I x7 w)
    (hr : ∀ (x7 : Value) (w : World), I x7 w → ∀ E2 : Value → World → Prop, (∀ (y7 : Value) (w' : World), I y7 w' → μ y7 w' < μ x7 w → E2 y7 w') → f126_l2_t x0 x1 x2 x7 x8 K E1 E2 (f126_k1 K) (f126_k2 K E1) (f126_k3 K E1) w) : f126_l2 K E1 x0 x1 x2 x7 x8 w := ⟨I, μ, h0, hr⟩
def f126_l2_o (K : K1) (F1 : KF) : KF := fun fr w => cS (cl (cl (cl (cl (cr (cl (cl (cr (cl (cr (cr f126_c))))))))))) (fun _ _ => False) (f126_e K) (exB 2 (f126_k3_o K F1) (exB 1 (f126_k2_o K F1) (exB 0 (f126_k1_o K) nX))) fr w
theorem f126_l2_b (K : K1)  (E1 : Value → Value → World → Prop) (E2 : Value → World → Prop) (F1 : KF) (F2 : KF) (f0 : Fr) (hn : f0.length = 133) (f1 : Fr) (a1 : Same 10889035741470030830827987437816582766591 f0 f1) (b1 : ∀ fr w, Same 10889035741470030830827987437816582760384 f1 fr → E1 (sv fr 7) (sv fr 8) w → F1 fr w) (f2 : Fr) (a2 : Same 10889035741470030830827987437816582760384 f1 f2) (b2 : ∀ fr w, Same 34359607424 f2 fr → E2 (sv fr 7) w → F2 fr w) (fr : Fr) (w : World) (hs : Same 34359607424 f2 fr) (h : f126_l2_t (sv fr 0) (sv fr 1) (sv fr 2) (sv fr 7) (sv fr 8) K E1 E2 (f126_k1 K) (f126_k2 K E1) (f126_k3 K E1) w) : cS (cl (cl (cl (cl (cl (cr (cl (cl (cr (cl (cr (cr f126_c)))))))))))) F2 (f126_e K) (exB 2 (f126_k3_o K F1) (exB 1 (f126_k2_o K F1) (exB 0 (f126_k1_o K) nX))) fr w := by
  have h1 := cast (f126_l2_sk (fun i => sv fr i) K E1 E2 (f126_k1 K) (f126_k2 K E1) (f126_k3 K E1) w).symm h
  rw [show frL 133 (fun i => sv fr i) 0 = fr from frL_of (hs.len.trans (a2.len.trans (a1.len.trans hn)))] at h1
  have h2 : cS (cl (cl (cl (cl (cl (cr (cl (cl (cr (cl (cr (cr f126_c)))))))))))) F2 (f126_e K) (exB 2 (f126_k3_o K F1) (exB 1 (f126_k2_o K F1) (exB 0 (f126_k1_o K) nX))) fr w := (codeS_mono (m := 34359607424) (f0 := f2) (cl (cl (cl (cl (cl (cr (cl (cl (cr (cl (cr (cr f126_c)))))))))))) (by kernel_rfl) (fun fr w hs h => b2 fr w hs h) (fun _ _ _ h => h) (exB_mono (fun fr w hs h => f126_k3_s K E1 F1 f0 hn f1 a1 b1 fr w (Same.up (by kernel_rfl) a2 hs) h) (exB_mono (fun fr w hs h => f126_k2_s K E1 F1 f0 hn f1 a1 b1 fr w (Same.up (by kernel_rfl) a2 hs) h) (exB_mono (fun fr w hs h => f126_k1_s K f0 hn fr w (Same.up (by kernel_rfl) a1 (Same.up (by kernel_rfl) a2 hs)) h) (fun _ _ _ _ h => h)))) fr w hs) h1
  exact cast (by kernel_rfl) h2
theorem f126_l2_s (K : K1)  (E1 : Value → Value → World → Prop) (F1 : KF) (f0 : Fr) (hn : f0.length = 133) (f1 : Fr) (a1 : Same 10889035741470030830827987437816582766591 f0 f1) (b1 : ∀ fr w, Same 10889035741470030830827987437816582760384 f1 fr → E1 (sv fr 7) (sv fr 8) w → F1 fr w) (fr : Fr) (w : World) (hs : Same 10889035741470030830827987437816582760384 f1 fr) (h : f126_l2 K E1 (sv fr 0) (sv fr 1) (sv fr 2) (sv fr 7) (sv fr 8) w) : f126_l2_o K F1 fr w := by
  obtain ⟨I, μ, h0, hr⟩ := h
  have hL : loopS (fun E fr w => cS (cl (cl (cl (cl (cl (cr (cl (cl (cr (cl (cr (cr f126_c)))))))))))) E (f126_e K) (exB 2 (f126_k3_o K F1) (exB 1 (f126_k2_o K F1) (exB 0 (f126_k1_o K) nX))) fr w) fr w := by
    refine ⟨fun f' w' => Same 34359607424 fr f' ∧ I (sv f' 7) w', fun f' w' => μ (sv f' 7) w', ⟨Same.refl _ _, h0⟩, ?_⟩
    intro f' w' hI
    have hb := hr (sv f' 7) w' hI.2 (fun y7 w2 => I y7 w2 ∧ μ y7 w2 < μ (sv f' 7) w') (fun y7 w2 a b => ⟨a, b⟩)
    rw [← hI.1.sv 0 (by kernel_rfl), ← hI.1.sv 1 (by kernel_rfl), ← hI.1.sv 2 (by kernel_rfl), ← hI.1.sv 8 (by kernel_rfl)] at hb
    exact f126_l2_b K E1 _ F1 _ f0 hn f1 a1 b1 fr hs (fun f w h1 h2 => ⟨⟨h1, h2.1⟩, h2.2⟩) f' w' hI.1 hb
  exact cast (by kernel_rfl) hL
def f126_l1_t (x0 x1 x2 x7 x8 : Value) (K : K1) (E1 : Value → Value → World → Prop) (c_f126_k1 : World → Prop) (c_f126_l2 : Value → Value → Value → Value → Value → World → Prop) (w : World) : Prop :=
 ev Tryz.prog (binM .lss 3 (.tmp 13) (.const (.int .i64 5)) x8 (.int .i64 5)) w fun t14 w_1 =>
 cndS t14 (
 c_f126_l2 x0 x1 x2 x7 x8 w_1) (
 c_f126_k1 w_1)
theorem f126_l1_sk (z : Nat → Value) (K : K1) (E1 : Value → Value → World → Prop) (c_f126_k1 : World → Prop) (c_f126_l2 : Value → Value → Value → Value → Value → World → Prop) (w : World) : (cS (cl (cl (cl (cr (cl (cr (cr f126_c))))))) (fun fr w => c_f126_l2 (sv fr 0) (sv fr 1) (sv fr 2) (sv fr 7) (sv fr 8) w) (f126_e K) (exB 0 (fun fr w => c_f126_k1 w) nX) (frL 133 z 0) w) = f126_l1_t (z 0) (z 1) (z 2) (z 7) (z 8) K E1 c_f126_k1 c_f126_l2 w := by kernel_rfl
def f126_l1 (K : K1) (x0 x1 x2 x7 x8 : Value) (w : World) : Prop := ∃ (I : Value → Value → World → Prop) (μ : Value → Value → World → Nat), I x7 x8 w ∧ ∀ (x7 x8 : Value) (w : World), I x7 x8 w → ∀ E1 : Value → Value → World → Prop, (∀ (y7 y8 : Value) (w' : World), I y7 y8 w' → μ y7 y8 w' < μ x7 x8 w → E1 y7 y8 w') → f126_l1_t x0 x1 x2 x7 x8 K E1 (f126_k1 K) (f126_l2 K E1) w
theorem f126_l1_rule (x0 x1 x2 x7 x8 : Value) (K : K1) (w : World) (I : Value → Value → World → Prop) (μ : Value → Value → World → Nat) (h0 : I x7 x8 w)
    (hr : ∀ (x7 x8 : Value) (w : World), I x7 x8 w → ∀ E1 : Value → Value → World → Prop, (∀ (y7 y8 : Value) (w' : World), I y7 y8 w' → μ y7 y8 w' < μ x7 x8 w → E1 y7 y8 w') → f126_l1_t x0 x1 x2 x7 x8 K E1 (f126_k1 K) (f126_l2 K E1) w) : f126_l1 K x0 x1 x2 x7 x8 w := ⟨I, μ, h0, hr⟩
def f126_l1_o (K : K1) : KF := fun fr w => cS (cl (cr (cl (cr (cr f126_c))))) (fun _ _ => False) (f126_e K) (exB 0 (f126_k1_o K) nX) fr w
theorem f126_l1_b (K : K1)  (E1 : Value → Value → World → Prop) (F1 : KF) (f0 : Fr) (hn : f0.length = 133) (f1 : Fr) (a1 : Same 10889035741470030830827987437816582766591 f0 f1) (b1 : ∀ fr w, Same 10889035741470030830827987437816582760384 f1 fr → E1 (sv fr 7) (sv fr 8) w → F1 fr w) (fr : Fr) (w : World) (hs : Same 10889035741470030830827987437816582760384 f1 fr) (h : f126_l1_t (sv fr 0) (sv fr 1) (sv fr 2) (sv fr 7) (sv fr 8) K E1 (f126_k1 K) (f126_l2 K E1) w) : cS (cl (cl (cr (cl (cr (cr f126_c)))))) F1 (f126_e K) (exB 0 (f126_k1_o K) nX) fr w := by
  have h1 := cast (f126_l1_sk (fun i => sv fr i) K E1 (f126_k1 K) (f126_l2 K E1) w).symm h
  rw [show frL 133 (fun i => sv fr i) 0 = fr from frL_of (hs.len.trans (a1.len.trans hn))] at h1
  have h2 : cS (cl (cl (cl (cr (cl (cr (cr f126_c))))))) (fun fr w => f126_l2_o K F1 fr w) (f126_e K) (exB 0 (f126_k1_o K) nX) fr w := (codeS_mono (m := 10889035741470030830827987437816582760384) (f0 := f1) (cl (cl (cl (cr (cl (cr (cr f126_c))))))) (by kernel_rfl) (fun fr w hs => (fun h => f126_l2_s K E1 F1 f0 hn f1 a1 b1 fr w hs h)) (fun _ _ _ h => h) (exB_mono (fun fr w hs h => f126_k1_s K f0 hn fr w (Same.up (by kernel_rfl) a1 hs) h) (fun _ _ _ _ h => h)) fr w hs) h1
  exact cast (by kernel_rfl) h2
theorem f126_l1_s (K : K1)  (f0 : Fr) (hn : f0.length = 133) (fr : Fr) (w : World) (hs : Same 10889035741470030830827987437816582766591 f0 fr) (h : f126_l1 K (sv fr 0) (sv fr 1) (sv fr 2) (sv fr 7) (sv fr 8) w) : f126_l1_o K fr w := by
  obtain ⟨I, μ, h0, hr⟩ := h
  have hL : loopS (fun E fr w => cS (cl (cl (cr (cl (cr (cr f126_c)))))) E (f126_e K) (exB 0 (f126_k1_o K) nX) fr w) fr w := by
    refine ⟨fun f' w' => Same 10889035741470030830827987437816582760384 fr f' ∧ I (sv f' 7) (sv f' 8) w', fun f' w' => μ (sv f' 7) (sv f' 8) w', ⟨Same.refl _ _, h0⟩, ?_⟩
    intro f' w' hI
    have hb := hr (sv f' 7) (sv f' 8) w' hI.2 (fun y7 y8 w2 => I y7 y8 w2 ∧ μ y7 y8 w2 < μ (sv f' 7) (sv f' 8) w') (fun y7 y8 w2 a b => ⟨a, b⟩)
    rw [← hI.1.sv 0 (by kernel_rfl), ← hI.1.sv 1 (by kernel_rfl), ← hI.1.sv 2 (by kernel_rfl)] at hb
    exact f126_l1_b K _ _ f0 hn fr hs (fun f w h1 h2 => ⟨⟨h1, h2.1⟩, h2.2⟩) f' w' hI.1 hb
  exact cast (by kernel_rfl) hL
def f126_t (x0 x1 x2 : Value) (K : K1) (c_f126_l1 : Value → Value → Value → Value → Value → World → Prop) (w : World) : Prop :=
 ev Tryz.prog (binM .add 3 (.tmp 11) (.const (.int .i64 1)) x1 (.int .i64 1)) w fun t12 w_1 =>
 c_f126_l1 x0 x1 x2 t12 (.int .i64 0) w_1
theorem f126_sk (x0 x1 x2 : Value) (K : K1) (c_f126_l1 : Value → Value → Value → Value → Value → World → Prop) (w : World) : (cS (cl f126_c) (fun fr w => cS (cl (cr f126_c)) (fun fr w => cS (cl (cl (cr (cr f126_c)))) (fun fr w => c_f126_l1 (sv fr 0) (sv fr 1) (sv fr 2) (sv fr 7) (sv fr 8) w) (f126_e K) nX fr w) (f126_e K) nX fr w) (f126_e K) nX ([x0, x1, x2] ++ List.replicate (133 - 3) undef) w) = f126_t x0 x1 x2 K c_f126_l1 w := by kernel_rfl
theorem f126_ok : codeOk Tryz.prog 133 f126_c = true := by kernel_rfl
theorem f126_m (K : K1) (f0 : Fr) (hn : f0.length = 133) (w : World) (h1 : cS (cl f126_c) (fun fr w => cS (cl (cr f126_c)) (fun fr w => cS (cl (cl (cr (cr f126_c)))) (fun fr w => f126_l1 K (sv fr 0) (sv fr 1) (sv fr 2) (sv fr 7) (sv fr 8) w) (f126_e K) nX fr w) (f126_e K) nX fr w) (f126_e K) nX f0 w) : cS f126_c (f126_e K) (f126_e K) nX f0 w := by
  have hs := Same.refl 10889035741470030830827987437816582766591 f0
  let fr := f0
  have h2 : cS (cl f126_c) (fun fr w => cS (cl (cr f126_c)) (fun fr w => cS (cl (cl (cr (cr f126_c)))) (fun fr w => f126_l1_o K fr w) (f126_e K) nX fr w) (f126_e K) nX fr w) (f126_e K) nX fr w := (codeS_mono (m := 10889035741470030830827987437816582766591) (f0 := f0) (cl f126_c) (by kernel_rfl) (fun fr w hs => codeS_mono (m := 10889035741470030830827987437816582766591) (f0 := f0) (cl (cr f126_c)) (by kernel_rfl) (fun fr w hs => codeS_mono (m := 10889035741470030830827987437816582766591) (f0 := f0) (cl (cl (cr (cr f126_c)))) (by kernel_rfl) (fun fr w hs => (fun h => f126_l1_s K f0 hn fr w hs h)) (fun _ _ _ h => h) (fun _ _ _ _ h => h) fr w hs) (fun _ _ _ h => h) (fun _ _ _ _ h => h) fr w hs) (fun _ _ _ h => h) (fun _ _ _ _ h => h) fr w hs) h1
  exact cast (by kernel_rfl) h2
theorem f126_call (x0 x1 x2 : Value) (K : K1) (w : World) (h : f126_t x0 x1 x2 K (f126_l1 K) w) : callS Tryz.prog 126 #[x0, x1, x2] w K :=
  calls_of_codeS (args := [x0, x1, x2]) mixed Tryz.func126 (show Tryz.f126.body = some f126_c from rfl) rfl (show Tryz.f126.results = f126_rs.toArray from rfl) f126_ok (by simp) (f126_m K _ (by simp) w (cast (f126_sk x0 x1 x2 K (f126_l1 K) w).symm h))
noncomputable def f127_c : Code := (Tryz.f127.body).getD .skip
def f127_rs : List ResultVar := [.tmp 4]
abbrev f127_e (K : K1) : KF := endK Tryz.prog f127_rs K
def f127_t (x0 x1 : Value) (K : K1) (w : World) : Prop :=
 callS Tryz.prog 140 (pA #[x0]) w fun t6 w_1 =>
 gd t6 true (fun k => k x1 w_1) w_1 fun t8 w_2 =>
 gd t6 true (fun k => callS Tryz.prog 140 (pA #[t8]) w_2 k) w_2 fun t9 w_3 =>
 gd t6 true (fun k => ev Tryz.prog (Op.unary .not t9) w_3 k) w_3 fun t10 w_4 =>
 pickS t6 t10 (.bool false) w_4 fun t11 w_5 =>
 gd t11 false (fun k => k x0 w_5) w_5 fun t13 w_6 =>
 gd t11 false (fun k => k x1 w_6) w_6 fun t14 w_7 =>
 gd t11 false (fun k => ev Tryz.prog (binM .lss 33 (.tmp 13) (.tmp 14) t13 t14) w_7 k) w_7 fun t15 w_8 =>
 pickS t11 (.bool true) t15 w_8 fun t16 w_9 =>
 K t16 w_9
theorem f127_sk (x0 x1 : Value) (K : K1) (w : World) : (cS f127_c (f127_e K) (f127_e K) nX ([x0, x1] ++ List.replicate (17 - 2) undef) w) = f127_t x0 x1 K w := by kernel_rfl
theorem f127_ok : codeOk Tryz.prog 17 f127_c = true := by kernel_rfl
theorem f127_call (x0 x1 : Value) (K : K1) (w : World) (h : f127_t x0 x1 K w) : callS Tryz.prog 127 #[x0, x1] w K :=
  calls_of_codeS (args := [x0, x1]) mixed Tryz.func127 (show Tryz.f127.body = some f127_c from rfl) rfl (show Tryz.f127.results = f127_rs.toArray from rfl) f127_ok (by simp) (cast ((Eq.trans (by kernel_rfl) (f127_sk x0 x1 K w) : (cS f127_c (f127_e K) (f127_e K) nX ([x0, x1] ++ List.replicate (17 - 2) undef) w) = f127_t x0 x1 K w)).symm h)
noncomputable def f128_c : Code := (Tryz.f128.body).getD .skip
def f128_rs : List ResultVar := [.tmp 8]
abbrev f128_e (K : K1) : KF := endK Tryz.prog f128_rs K
def f128_k1_t (x9 : Value) (K : K1) (w : World) : Prop :=
 K x9 w
theorem f128_k1_sk (z : Nat → Value) (K : K1) (w : World) : (cS (cr (cr (cr (cr f128_c)))) (f128_e K) (f128_e K) nX (frL 84 z 0) w) = f128_k1_t (z 9) K w := by kernel_rfl
def f128_k1 (K : K1) (x9 : Value) (w : World) : Prop := f128_k1_t x9 K w
theorem f128_k1_eq (K : K1) (x9 : Value) (w : World) : f128_k1 K x9 w = f128_k1_t x9 K w := rfl
def f128_k1_o (K : K1) : KF := fun fr w => cS (cr (cr (cr (cr f128_c)))) (f128_e K) (f128_e K) nX fr w
theorem f128_k1_s (K : K1)  (f0 : Fr) (hn : f0.length = 84) (fr : Fr) (w : World) (hs : Same 19342813113834066795298815 f0 fr) (h : f128_k1 K (sv fr 9) w) : f128_k1_o K fr w := by
  have h1 := cast (f128_k1_sk (fun i => sv fr i) K w).symm h
  rw [show frL 84 (fun i => sv fr i) 0 = fr from frL_of (hs.len.trans hn)] at h1
  have h2 : cS (cr (cr (cr (cr f128_c)))) (f128_e K) (f128_e K) nX fr w := (codeS_mono (m := 19342813113834066795298815) (f0 := f0) (cr (cr (cr (cr f128_c)))) (by kernel_rfl) (fun _ _ _ h => h) (fun _ _ _ h => h) (fun _ _ _ _ h => h) fr w hs) h1
  exact cast (by kernel_rfl) h2
def f128_k3_t (x0 x1 x9 x10 : Value) (K : K1) (E1 : Value → Value → World → Prop) (c_f128_k1 : Value → World → Prop) (w : World) : Prop :=
 ev Tryz.prog (binM .gtr 3 (.tmp 62) (.tmp 63) x9 x10) w fun t64 w_1 =>
 cndS t64 (
 c_f128_k1 x9 w_1) (
 rd Tryz.prog (Instr.indexAt 72 x0 x10) w_1.drew fun t71 =>
 ldR Tryz.prog 33 t71 w_1.drew fun t72 =>
 rd Tryz.prog (Instr.indexAt 72 x0 x9) w_1.drew fun t75 =>
 ldR Tryz.prog 33 t75 w_1.drew fun t76 =>
 rd Tryz.prog (Instr.indexAt 72 x0 x9) w_1.drew fun t77 =>
 stS Tryz.prog 33 t77 t72 w_1.drew fun w_2 =>
 rd Tryz.prog (Instr.indexAt 72 x0 x10) w_2 fun t78 =>
 stS Tryz.prog 33 t78 t76 w_2 fun w_3 =>
 ev Tryz.prog (binM .add 3 (.tmp 79) (.const (.int .i64 1)) x9 (.int .i64 1)) w_3 fun t80 w_4 =>
 ev Tryz.prog (binM .sub 3 (.tmp 81) (.const (.int .i64 1)) x10 (.int .i64 1)) w_4 fun t82 w_5 =>
 E1 t80 t82 w_5)
theorem f128_k3_sk (z : Nat → Value) (K : K1) (E1 : Value → Value → World → Prop) (c_f128_k1 : Value → World → Prop) (w : World) : (cS (cr (cr (cl (cl (cl (cl (cr (cr (cr f128_c))))))))) (fun fr w => E1 (sv fr 9) (sv fr 10) w) (f128_e K) (exB 1 (fun fr w => E1 (sv fr 9) (sv fr 10) w) (exB 0 (fun fr w => c_f128_k1 (sv fr 9) w) nX)) (frL 84 z 0) w) = f128_k3_t (z 0) (z 1) (z 9) (z 10) K E1 c_f128_k1 w := by kernel_rfl
def f128_k3 (K : K1) (E1 : Value → Value → World → Prop) (x0 x1 x9 x10 : Value) (w : World) : Prop := f128_k3_t x0 x1 x9 x10 K E1 (f128_k1 K) w
theorem f128_k3_eq (K : K1) (E1 : Value → Value → World → Prop) (x0 x1 x9 x10 : Value) (w : World) : f128_k3 K E1 x0 x1 x9 x10 w = f128_k3_t x0 x1 x9 x10 K E1 (f128_k1 K) w := rfl
def f128_k3_o (K : K1) (F1 : KF) : KF := fun fr w => cS (cr (cr (cl (cl (cl (cl (cr (cr (cr f128_c))))))))) F1 (f128_e K) (exB 1 F1 (exB 0 (f128_k1_o K) nX)) fr w
theorem f128_k3_s (K : K1)  (E1 : Value → Value → World → Prop) (F1 : KF) (f0 : Fr) (hn : f0.length = 84) (f1 : Fr) (a1 : Same 19342813113834066795298815 f0 f1) (b1 : ∀ fr w, Same 9671406556917032860780032 f1 fr → E1 (sv fr 9) (sv fr 10) w → F1 fr w) (fr : Fr) (w : World) (hs : Same 9671406556917032860780032 f1 fr) (h : f128_k3 K E1 (sv fr 0) (sv fr 1) (sv fr 9) (sv fr 10) w) : f128_k3_o K F1 fr w := by
  have h1 := cast (f128_k3_sk (fun i => sv fr i) K E1 (f128_k1 K) w).symm h
  rw [show frL 84 (fun i => sv fr i) 0 = fr from frL_of (hs.len.trans (a1.len.trans hn))] at h1
  have h2 : cS (cr (cr (cl (cl (cl (cl (cr (cr (cr f128_c))))))))) F1 (f128_e K) (exB 1 F1 (exB 0 (f128_k1_o K) nX)) fr w := (codeS_mono (m := 9671406556917032860780032) (f0 := f1) (cr (cr (cl (cl (cl (cl (cr (cr (cr f128_c))))))))) (by kernel_rfl) (fun fr w hs h => b1 fr w hs h) (fun _ _ _ h => h) (exB_mono (fun fr w hs h => b1 fr w hs h) (exB_mono (fun fr w hs h => f128_k1_s K f0 hn fr w (Same.up (by kernel_rfl) a1 hs) h) (fun _ _ _ _ h => h))) fr w hs) h1
  exact cast (by kernel_rfl) h2
def f128_l3_t (x0 x1 x9 x10 : Value) (K : K1) (E1 : Value → Value → World → Prop) (E2 : Value → World → Prop) (c_f128_k1 : Value → World → Prop) (c_f128_k3 : Value → Value → Value → Value → World → Prop) (w : World) : Prop :=
 rd Tryz.prog (binM .leq 3 (.tmp 46) (.tmp 47) x9 x10) w.drew fun t48 =>
 gdR t48 true (fun k => k x0) fun t50 =>
 gdR t48 true (fun k => k x1) fun t51 =>
 gdR t48 true (fun k => rd Tryz.prog (Instr.indexAt 72 t50 t51) w.drew k) fun t52 =>
 gdR t48 true (fun k => ldR Tryz.prog 33 t52 w.drew k) fun t53 =>
 gdR t48 true (fun k => k x0) fun t54 =>
 gdR t48 true (fun k => k x10) fun t55 =>
 gdR t48 true (fun k => rd Tryz.prog (Instr.indexAt 72 t54 t55) w.drew k) fun t56 =>
 gdR t48 true (fun k => ldR Tryz.prog 33 t56 w.drew k) fun t57 =>
 gd t48 true (fun k => callS Tryz.prog 127 (pA #[t53, t57]) w.drew k) w.drew fun t58 w_1 =>
 pickV t48 t58 (.bool false) fun t59 =>
 cndS t59 (
 ev Tryz.prog (binM .sub 3 (.tmp 60) (.const (.int .i64 1)) x10 (.int .i64 1)) w_1 fun t61 w_2 =>
 E2 t61 w_2) (
 c_f128_k3 x0 x1 x9 x10 w_1)
theorem f128_l3_sk (z : Nat → Value) (K : K1) (E1 : Value → Value → World → Prop) (E2 : Value → World → Prop) (c_f128_k1 : Value → World → Prop) (c_f128_k3 : Value → Value → Value → Value → World → Prop) (w : World) : (cS (cl (cl (cl (cr (cl (cl (cl (cl (cr (cr (cr f128_c))))))))))) (fun fr w => E2 (sv fr 10) w) (f128_e K) (exB 4 (fun fr w => c_f128_k3 (sv fr 0) (sv fr 1) (sv fr 9) (sv fr 10) w) (exB 1 (fun fr w => E1 (sv fr 9) (sv fr 10) w) (exB 0 (fun fr w => c_f128_k1 (sv fr 9) w) nX))) (frL 84 z 0) w) = f128_l3_t (z 0) (z 1) (z 9) (z 10) K E1 E2 c_f128_k1 c_f128_k3 w := by kernel_rfl
def f128_l3 (K : K1) (E1 : Value → Value → World → Prop) (x0 x1 x9 x10 : Value) (w : World) : Prop := ∃ (I : Value → World → Prop) (μ : Value → World → Nat), I x10 w ∧ ∀ (x10 : Value) (w : World), I x10 w → ∀ E2 : Value → World → Prop, (∀ (y10 : Value) (w' : World), I y10 w' → μ y10 w' < μ x10 w → E2 y10 w') → f128_l3_t x0 x1 x9 x10 K E1 E2 (f128_k1 K) (f128_k3 K E1) w
theorem f128_l3_rule (x0 x1 x9 x10 : Value) (K : K1) (E1 : Value → Value → World → Prop) (w : World) (I : Value → World → Prop) (μ : Value → World → Nat) (h0 : I x10 w)
    (hr : ∀ (x10 : Value) (w : World), I x10 w → ∀ E2 : Value → World → Prop, (∀ (y10 : Value) (w' : World), I y10 w' → μ y10 w' < μ x10 w → E2 y10 w') → f128_l3_t x0 x1 x9 x10 K E1 E2 (f128_k1 K) (f128_k3 K E1) w) : f128_l3 K E1 x0 x1 x9 x10 w := ⟨I, μ, h0, hr⟩
def f128_l3_o (K : K1) (F1 : KF) : KF := fun fr w => cS (cl (cl (cr (cl (cl (cl (cl (cr (cr (cr f128_c)))))))))) (fun _ _ => False) (f128_e K) (exB 4 (f128_k3_o K F1) (exB 1 F1 (exB 0 (f128_k1_o K) nX))) fr w
theorem f128_l3_b (K : K1)  (E1 : Value → Value → World → Prop) (E2 : Value → World → Prop) (F1 : KF) (F2 : KF) (f0 : Fr) (hn : f0.length = 84) (f1 : Fr) (a1 : Same 19342813113834066795298815 f0 f1) (b1 : ∀ fr w, Same 9671406556917032860780032 f1 fr → E1 (sv fr 9) (sv fr 10) w → F1 fr w) (f2 : Fr) (a2 : Same 9671406556917032860780032 f1 f2) (b2 : ∀ fr w, Same 4611615649683211264 f2 fr → E2 (sv fr 10) w → F2 fr w) (fr : Fr) (w : World) (hs : Same 4611615649683211264 f2 fr) (h : f128_l3_t (sv fr 0) (sv fr 1) (sv fr 9) (sv fr 10) K E1 E2 (f128_k1 K) (f128_k3 K E1) w) : cS (cl (cl (cl (cr (cl (cl (cl (cl (cr (cr (cr f128_c))))))))))) F2 (f128_e K) (exB 4 (f128_k3_o K F1) (exB 1 F1 (exB 0 (f128_k1_o K) nX))) fr w := by
  have h1 := cast (f128_l3_sk (fun i => sv fr i) K E1 E2 (f128_k1 K) (f128_k3 K E1) w).symm h
  rw [show frL 84 (fun i => sv fr i) 0 = fr from frL_of (hs.len.trans (a2.len.trans (a1.len.trans hn)))] at h1
  have h2 : cS (cl (cl (cl (cr (cl (cl (cl (cl (cr (cr (cr f128_c))))))))))) F2 (f128_e K) (exB 4 (f128_k3_o K F1) (exB 1 F1 (exB 0 (f128_k1_o K) nX))) fr w := (codeS_mono (m := 4611615649683211264) (f0 := f2) (cl (cl (cl (cr (cl (cl (cl (cl (cr (cr (cr f128_c))))))))))) (by kernel_rfl) (fun fr w hs h => b2 fr w hs h) (fun _ _ _ h => h) (exB_mono (fun fr w hs h => f128_k3_s K E1 F1 f0 hn f1 a1 b1 fr w (Same.up (by kernel_rfl) a2 hs) h) (exB_mono (fun fr w hs h => b1 fr w (Same.up (by kernel_rfl) a2 hs) h) (exB_mono (fun fr w hs h => f128_k1_s K f0 hn fr w (Same.up (by kernel_rfl) a1 (Same.up (by kernel_rfl) a2 hs)) h) (fun _ _ _ _ h => h)))) fr w hs) h1
  exact cast (by kernel_rfl) h2
theorem f128_l3_s (K : K1)  (E1 : Value → Value → World → Prop) (F1 : KF) (f0 : Fr) (hn : f0.length = 84) (f1 : Fr) (a1 : Same 19342813113834066795298815 f0 f1) (b1 : ∀ fr w, Same 9671406556917032860780032 f1 fr → E1 (sv fr 9) (sv fr 10) w → F1 fr w) (fr : Fr) (w : World) (hs : Same 9671406556917032860780032 f1 fr) (h : f128_l3 K E1 (sv fr 0) (sv fr 1) (sv fr 9) (sv fr 10) w) : f128_l3_o K F1 fr w := by
  obtain ⟨I, μ, h0, hr⟩ := h
  have hL : loopS (fun E fr w => cS (cl (cl (cl (cr (cl (cl (cl (cl (cr (cr (cr f128_c))))))))))) E (f128_e K) (exB 4 (f128_k3_o K F1) (exB 1 F1 (exB 0 (f128_k1_o K) nX))) fr w) fr w := by
    refine ⟨fun f' w' => Same 4611615649683211264 fr f' ∧ I (sv f' 10) w', fun f' w' => μ (sv f' 10) w', ⟨Same.refl _ _, h0⟩, ?_⟩
    intro f' w' hI
    have hb := hr (sv f' 10) w' hI.2 (fun y10 w2 => I y10 w2 ∧ μ y10 w2 < μ (sv f' 10) w') (fun y10 w2 a b => ⟨a, b⟩)
    rw [← hI.1.sv 0 (by kernel_rfl), ← hI.1.sv 1 (by kernel_rfl), ← hI.1.sv 9 (by kernel_rfl)] at hb
    exact f128_l3_b K E1 _ F1 _ f0 hn f1 a1 b1 fr hs (fun f w h1 h2 => ⟨⟨h1, h2.1⟩, h2.2⟩) f' w' hI.1 hb
  exact cast (by kernel_rfl) hL
def f128_k2_t (x0 x1 x9 x10 : Value) (K : K1) (E1 : Value → Value → World → Prop) (c_f128_l3 : Value → Value → Value → Value → World → Prop) (w : World) : Prop :=
 c_f128_l3 x0 x1 x9 x10 w
theorem f128_k2_sk (z : Nat → Value) (K : K1) (E1 : Value → Value → World → Prop) (c_f128_l3 : Value → Value → Value → Value → World → Prop) (w : World) : (c_f128_l3 (sv (frL 84 z 0) 0) (sv (frL 84 z 0) 1) (sv (frL 84 z 0) 9) (sv (frL 84 z 0) 10) w) = f128_k2_t (z 0) (z 1) (z 9) (z 10) K E1 c_f128_l3 w := by kernel_rfl
def f128_k2 (K : K1) (E1 : Value → Value → World → Prop) (x0 x1 x9 x10 : Value) (w : World) : Prop := f128_k2_t x0 x1 x9 x10 K E1 (f128_l3 K E1) w
theorem f128_k2_eq (K : K1) (E1 : Value → Value → World → Prop) (x0 x1 x9 x10 : Value) (w : World) : f128_k2 K E1 x0 x1 x9 x10 w = f128_k2_t x0 x1 x9 x10 K E1 (f128_l3 K E1) w := rfl
def f128_k2_o (K : K1) (F1 : KF) : KF := fun fr w => cS (cr (cl (cl (cl (cl (cr (cr (cr f128_c)))))))) F1 (f128_e K) (exB 1 F1 (exB 0 (f128_k1_o K) nX)) fr w
theorem f128_k2_s (K : K1)  (E1 : Value → Value → World → Prop) (F1 : KF) (f0 : Fr) (hn : f0.length = 84) (f1 : Fr) (a1 : Same 19342813113834066795298815 f0 f1) (b1 : ∀ fr w, Same 9671406556917032860780032 f1 fr → E1 (sv fr 9) (sv fr 10) w → F1 fr w) (fr : Fr) (w : World) (hs : Same 9671406556917032860780032 f1 fr) (h : f128_k2 K E1 (sv fr 0) (sv fr 1) (sv fr 9) (sv fr 10) w) : f128_k2_o K F1 fr w := by
  have h1 := cast (f128_k2_sk (fun i => sv fr i) K E1 (f128_l3 K E1) w).symm h
  rw [show frL 84 (fun i => sv fr i) 0 = fr from frL_of (hs.len.trans (a1.len.trans hn))] at h1
  have h2 : f128_l3_o K F1 fr w := ((fun h => f128_l3_s K E1 F1 f0 hn f1 a1 b1 fr w hs h)) h1
  exact cast (by kernel_rfl) h2
def f128_l2_t (x0 x1 x9 x10 : Value) (K : K1) (E1 : Value → Value → World → Prop) (E2 : Value → World → Prop) (c_f128_k1 : Value → World → Prop) (c_f128_k2 : Value → Value → Value → Value → World → Prop) (w : World) : Prop :=
 rd Tryz.prog (binM .leq 3 (.tmp 29) (.tmp 30) x9 x10) w.drew fun t31 =>
 gdR t31 true (fun k => k x0) fun t33 =>
 gdR t31 true (fun k => k x1) fun t34 =>
 gdR t31 true (fun k => rd Tryz.prog (Instr.indexAt 72 t33 t34) w.drew k) fun t35 =>
 gdR t31 true (fun k => ldR Tryz.prog 33 t35 w.drew k) fun t36 =>
 gdR t31 true (fun k => k x0) fun t37 =>
 gdR t31 true (fun k => k x9) fun t38 =>
 gdR t31 true (fun k => rd Tryz.prog (Instr.indexAt 72 t37 t38) w.drew k) fun t39 =>
 gdR t31 true (fun k => ldR Tryz.prog 33 t39 w.drew k) fun t40 =>
 gd t31 true (fun k => callS Tryz.prog 127 (pA #[t36, t40]) w.drew k) w.drew fun t41 w_1 =>
 gdR t31 true (fun k => rd Tryz.prog (Op.unary .not t41) w_1 k) fun t42 =>
 pickV t31 t42 (.bool false) fun t43 =>
 cndS t43 (
 ev Tryz.prog (binM .add 3 (.tmp 44) (.const (.int .i64 1)) x9 (.int .i64 1)) w_1 fun t45 w_2 =>
 E2 t45 w_2) (
 c_f128_k2 x0 x1 x9 x10 w_1)
theorem f128_l2_sk (z : Nat → Value) (K : K1) (E1 : Value → Value → World → Prop) (E2 : Value → World → Prop) (c_f128_k1 : Value → World → Prop) (c_f128_k2 : Value → Value → Value → Value → World → Prop) (w : World) : (cS (cl (cl (cl (cl (cl (cl (cl (cr (cr (cr f128_c)))))))))) (fun fr w => E2 (sv fr 9) w) (f128_e K) (exB 2 (fun fr w => c_f128_k2 (sv fr 0) (sv fr 1) (sv fr 9) (sv fr 10) w) (exB 1 (fun fr w => E1 (sv fr 9) (sv fr 10) w) (exB 0 (fun fr w => c_f128_k1 (sv fr 9) w) nX))) (frL 84 z 0) w) = f128_l2_t (z 0) (z 1) (z 9) (z 10) K E1 E2 c_f128_k1 c_f128_k2 w := by kernel_rfl
def f128_l2 (K : K1) (E1 : Value → Value → World → Prop) (x0 x1 x9 x10 : Value) (w : World) : Prop := ∃ (I : Value → World → Prop) (μ : Value → World → Nat), I x9 w ∧ ∀ (x9 : Value) (w : World), I x9 w → ∀ E2 : Value → World → Prop, (∀ (y9 : Value) (w' : World), I y9 w' → μ y9 w' < μ x9 w → E2 y9 w') → f128_l2_t x0 x1 x9 x10 K E1 E2 (f128_k1 K) (f128_k2 K E1) w
theorem f128_l2_rule (x0 x1 x9 x10 : Value) (K : K1) (E1 : Value → Value → World → Prop) (w : World) (I : Value → World → Prop) (μ : Value → World → Nat) (h0 : I x9 w)
    (hr : ∀ (x9 : Value) (w : World), I x9 w → ∀ E2 : Value → World → Prop, (∀ (y9 : Value) (w' : World), I y9 w' → μ y9 w' < μ x9 w → E2 y9 w') → f128_l2_t x0 x1 x9 x10 K E1 E2 (f128_k1 K) (f128_k2 K E1) w) : f128_l2 K E1 x0 x1 x9 x10 w := ⟨I, μ, h0, hr⟩
def f128_l2_o (K : K1) (F1 : KF) : KF := fun fr w => cS (cl (cl (cl (cl (cl (cl (cr (cr (cr f128_c))))))))) (fun _ _ => False) (f128_e K) (exB 2 (f128_k2_o K F1) (exB 1 F1 (exB 0 (f128_k1_o K) nX))) fr w
theorem f128_l2_b (K : K1)  (E1 : Value → Value → World → Prop) (E2 : Value → World → Prop) (F1 : KF) (F2 : KF) (f0 : Fr) (hn : f0.length = 84) (f1 : Fr) (a1 : Same 19342813113834066795298815 f0 f1) (b1 : ∀ fr w, Same 9671406556917032860780032 f1 fr → E1 (sv fr 9) (sv fr 10) w → F1 fr w) (f2 : Fr) (a2 : Same 9671406556917032860780032 f1 f2) (b2 : ∀ fr w, Same 70368207307264 f2 fr → E2 (sv fr 9) w → F2 fr w) (fr : Fr) (w : World) (hs : Same 70368207307264 f2 fr) (h : f128_l2_t (sv fr 0) (sv fr 1) (sv fr 9) (sv fr 10) K E1 E2 (f128_k1 K) (f128_k2 K E1) w) : cS (cl (cl (cl (cl (cl (cl (cl (cr (cr (cr f128_c)))))))))) F2 (f128_e K) (exB 2 (f128_k2_o K F1) (exB 1 F1 (exB 0 (f128_k1_o K) nX))) fr w := by
  have h1 := cast (f128_l2_sk (fun i => sv fr i) K E1 E2 (f128_k1 K) (f128_k2 K E1) w).symm h
  rw [show frL 84 (fun i => sv fr i) 0 = fr from frL_of (hs.len.trans (a2.len.trans (a1.len.trans hn)))] at h1
  have h2 : cS (cl (cl (cl (cl (cl (cl (cl (cr (cr (cr f128_c)))))))))) F2 (f128_e K) (exB 2 (f128_k2_o K F1) (exB 1 F1 (exB 0 (f128_k1_o K) nX))) fr w := (codeS_mono (m := 70368207307264) (f0 := f2) (cl (cl (cl (cl (cl (cl (cl (cr (cr (cr f128_c)))))))))) (by kernel_rfl) (fun fr w hs h => b2 fr w hs h) (fun _ _ _ h => h) (exB_mono (fun fr w hs h => f128_k2_s K E1 F1 f0 hn f1 a1 b1 fr w (Same.up (by kernel_rfl) a2 hs) h) (exB_mono (fun fr w hs h => b1 fr w (Same.up (by kernel_rfl) a2 hs) h) (exB_mono (fun fr w hs h => f128_k1_s K f0 hn fr w (Same.up (by kernel_rfl) a1 (Same.up (by kernel_rfl) a2 hs)) h) (fun _ _ _ _ h => h)))) fr w hs) h1
  exact cast (by kernel_rfl) h2
theorem f128_l2_s (K : K1)  (E1 : Value → Value → World → Prop) (F1 : KF) (f0 : Fr) (hn : f0.length = 84) (f1 : Fr) (a1 : Same 19342813113834066795298815 f0 f1) (b1 : ∀ fr w, Same 9671406556917032860780032 f1 fr → E1 (sv fr 9) (sv fr 10) w → F1 fr w) (fr : Fr) (w : World) (hs : Same 9671406556917032860780032 f1 fr) (h : f128_l2 K E1 (sv fr 0) (sv fr 1) (sv fr 9) (sv fr 10) w) : f128_l2_o K F1 fr w := by
  obtain ⟨I, μ, h0, hr⟩ := h
  have hL : loopS (fun E fr w => cS (cl (cl (cl (cl (cl (cl (cl (cr (cr (cr f128_c)))))))))) E (f128_e K) (exB 2 (f128_k2_o K F1) (exB 1 F1 (exB 0 (f128_k1_o K) nX))) fr w) fr w := by
    refine ⟨fun f' w' => Same 70368207307264 fr f' ∧ I (sv f' 9) w', fun f' w' => μ (sv f' 9) w', ⟨Same.refl _ _, h0⟩, ?_⟩
    intro f' w' hI
    have hb := hr (sv f' 9) w' hI.2 (fun y9 w2 => I y9 w2 ∧ μ y9 w2 < μ (sv f' 9) w') (fun y9 w2 a b => ⟨a, b⟩)
    rw [← hI.1.sv 0 (by kernel_rfl), ← hI.1.sv 1 (by kernel_rfl), ← hI.1.sv 10 (by kernel_rfl)] at hb
    exact f128_l2_b K E1 _ F1 _ f0 hn f1 a1 b1 fr hs (fun f w h1 h2 => ⟨⟨h1, h2.1⟩, h2.2⟩) f' w' hI.1 hb
  exact cast (by kernel_rfl) hL
def f128_l1_t (x0 x1 x9 x10 : Value) (K : K1) (E1 : Value → Value → World → Prop) (c_f128_l2 : Value → Value → Value → Value → World → Prop) (w : World) : Prop :=
 c_f128_l2 x0 x1 x9 x10 w
theorem f128_l1_sk (z : Nat → Value) (K : K1) (E1 : Value → Value → World → Prop) (c_f128_l2 : Value → Value → Value → Value → World → Prop) (w : World) : (c_f128_l2 (sv (frL 84 z 0) 0) (sv (frL 84 z 0) 1) (sv (frL 84 z 0) 9) (sv (frL 84 z 0) 10) w) = f128_l1_t (z 0) (z 1) (z 9) (z 10) K E1 c_f128_l2 w := by kernel_rfl
def f128_l1 (K : K1) (x0 x1 x9 x10 : Value) (w : World) : Prop := ∃ (I : Value → Value → World → Prop) (μ : Value → Value → World → Nat), I x9 x10 w ∧ ∀ (x9 x10 : Value) (w : World), I x9 x10 w → ∀ E1 : Value → Value → World → Prop, (∀ (y9 y10 : Value) (w' : World), I y9 y10 w' → μ y9 y10 w' < μ x9 x10 w → E1 y9 y10 w') → f128_l1_t x0 x1 x9 x10 K E1 (f128_l2 K E1) w
theorem f128_l1_rule (x0 x1 x9 x10 : Value) (K : K1) (w : World) (I : Value → Value → World → Prop) (μ : Value → Value → World → Nat) (h0 : I x9 x10 w)
    (hr : ∀ (x9 x10 : Value) (w : World), I x9 x10 w → ∀ E1 : Value → Value → World → Prop, (∀ (y9 y10 : Value) (w' : World), I y9 y10 w' → μ y9 y10 w' < μ x9 x10 w → E1 y9 y10 w') → f128_l1_t x0 x1 x9 x10 K E1 (f128_l2 K E1) w) : f128_l1 K x0 x1 x9 x10 w := ⟨I, μ, h0, hr⟩
def f128_l1_o (K : K1) : KF := fun fr w => cS (cl (cl (cr (cr (cr f128_c))))) (fun _ _ => False) (f128_e K) (exB 0 (f128_k1_o K) nX) fr w
theorem f128_l1_b (K : K1)  (E1 : Value → Value → World → Prop) (F1 : KF) (f0 : Fr) (hn : f0.length = 84) (f1 : Fr) (a1 : Same 19342813113834066795298815 f0 f1) (b1 : ∀ fr w, Same 9671406556917032860780032 f1 fr → E1 (sv fr 9) (sv fr 10) w → F1 fr w) (fr : Fr) (w : World) (hs : Same 9671406556917032860780032 f1 fr) (h : f128_l1_t (sv fr 0) (sv fr 1) (sv fr 9) (sv fr 10) K E1 (f128_l2 K E1) w) : cS (cl (cl (cl (cr (cr (cr f128_c)))))) F1 (f128_e K) (exB 0 (f128_k1_o K) nX) fr w := by
  have h1 := cast (f128_l1_sk (fun i => sv fr i) K E1 (f128_l2 K E1) w).symm h
  rw [show frL 84 (fun i => sv fr i) 0 = fr from frL_of (hs.len.trans (a1.len.trans hn))] at h1
  have h2 : f128_l2_o K F1 fr w := ((fun h => f128_l2_s K E1 F1 f0 hn f1 a1 b1 fr w hs h)) h1
  exact cast (by kernel_rfl) h2
theorem f128_l1_s (K : K1)  (f0 : Fr) (hn : f0.length = 84) (fr : Fr) (w : World) (hs : Same 19342813113834066795298815 f0 fr) (h : f128_l1 K (sv fr 0) (sv fr 1) (sv fr 9) (sv fr 10) w) : f128_l1_o K fr w := by
  obtain ⟨I, μ, h0, hr⟩ := h
  have hL : loopS (fun E fr w => cS (cl (cl (cl (cr (cr (cr f128_c)))))) E (f128_e K) (exB 0 (f128_k1_o K) nX) fr w) fr w := by
    refine ⟨fun f' w' => Same 9671406556917032860780032 fr f' ∧ I (sv f' 9) (sv f' 10) w', fun f' w' => μ (sv f' 9) (sv f' 10) w', ⟨Same.refl _ _, h0⟩, ?_⟩
    intro f' w' hI
    have hb := hr (sv f' 9) (sv f' 10) w' hI.2 (fun y9 y10 w2 => I y9 y10 w2 ∧ μ y9 y10 w2 < μ (sv f' 9) (sv f' 10) w') (fun y9 y10 w2 a b => ⟨a, b⟩)
    rw [← hI.1.sv 0 (by kernel_rfl), ← hI.1.sv 1 (by kernel_rfl)] at hb
    exact f128_l1_b K _ _ f0 hn fr hs (fun f w h1 h2 => ⟨⟨h1, h2.1⟩, h2.2⟩) f' w' hI.1 hb
  exact cast (by kernel_rfl) hL
def f128_t (x0 x1 x2 x3 : Value) (K : K1) (c_f128_l1 : Value → Value → Value → Value → World → Prop) (w : World) : Prop :=
 rd Tryz.prog (Instr.indexAt 72 x0 x3) w.drew fun t17 =>
 ldR Tryz.prog 33 t17 w.drew fun t18 =>
 rd Tryz.prog (Instr.indexAt 72 x0 x1) w.drew fun t21 =>
 ldR Tryz.prog 33 t21 w.drew fun t22 =>
 rd Tryz.prog (Instr.indexAt 72 x0 x1) w.drew fun t23 =>
 stS Tryz.prog 33 t23 t18 w.drew fun w_1 =>
 rd Tryz.prog (Instr.indexAt 72 x0 x3) w_1 fun t24 =>
 stS Tryz.prog 33 t24 t22 w_1 fun w_2 =>
 ev Tryz.prog (binM .add 3 (.tmp 25) (.const (.int .i64 1)) x1 (.int .i64 1)) w_2 fun t26 w_3 =>
 ev Tryz.prog (binM .sub 3 (.tmp 27) (.const (.int .i64 1)) x2 (.int .i64 1)) w_3 fun t28 w_4 =>
 c_f128_l1 x0 x1 t26 t28 w_4
theorem f128_sk (x0 x1 x2 x3 : Value) (K : K1) (c_f128_l1 : Value → Value → Value → Value → World → Prop) (w : World) : (cS (cl f128_c) (fun fr w => cS (cl (cr f128_c)) (fun fr w => cS (cl (cr (cr f128_c))) (fun fr w => c_f128_l1 (sv fr 0) (sv fr 1) (sv fr 9) (sv fr 10) w) (f128_e K) nX fr w) (f128_e K) nX fr w) (f128_e K) nX ([x0, x1, x2, x3] ++ List.replicate (84 - 4) undef) w) = f128_t x0 x1 x2 x3 K c_f128_l1 w := by kernel_rfl
theorem f128_ok : codeOk Tryz.prog 84 f128_c = true := by kernel_rfl
theorem f128_m (K : K1) (f0 : Fr) (hn : f0.length = 84) (w : World) (h1 : cS (cl f128_c) (fun fr w => cS (cl (cr f128_c)) (fun fr w => cS (cl (cr (cr f128_c))) (fun fr w => f128_l1 K (sv fr 0) (sv fr 1) (sv fr 9) (sv fr 10) w) (f128_e K) nX fr w) (f128_e K) nX fr w) (f128_e K) nX f0 w) : cS f128_c (f128_e K) (f128_e K) nX f0 w := by
  have hs := Same.refl 19342813113834066795298815 f0
  let fr := f0
  have h2 : cS (cl f128_c) (fun fr w => cS (cl (cr f128_c)) (fun fr w => cS (cl (cr (cr f128_c))) (fun fr w => f128_l1_o K fr w) (f128_e K) nX fr w) (f128_e K) nX fr w) (f128_e K) nX fr w := (codeS_mono (m := 19342813113834066795298815) (f0 := f0) (cl f128_c) (by kernel_rfl) (fun fr w hs => codeS_mono (m := 19342813113834066795298815) (f0 := f0) (cl (cr f128_c)) (by kernel_rfl) (fun fr w hs => codeS_mono (m := 19342813113834066795298815) (f0 := f0) (cl (cr (cr f128_c))) (by kernel_rfl) (fun fr w hs => (fun h => f128_l1_s K f0 hn fr w hs h)) (fun _ _ _ h => h) (fun _ _ _ _ h => h) fr w hs) (fun _ _ _ h => h) (fun _ _ _ _ h => h) fr w hs) (fun _ _ _ h => h) (fun _ _ _ _ h => h) fr w hs) h1
  exact cast (by kernel_rfl) h2
theorem f128_call (x0 x1 x2 x3 : Value) (K : K1) (w : World) (h : f128_t x0 x1 x2 x3 K (f128_l1 K) w) : callS Tryz.prog 128 #[x0, x1, x2, x3] w K :=
  calls_of_codeS (args := [x0, x1, x2, x3]) mixed Tryz.func128 (show Tryz.f128.body = some f128_c from rfl) rfl (show Tryz.f128.results = f128_rs.toArray from rfl) f128_ok (by simp) (f128_m K _ (by simp) w (cast (f128_sk x0 x1 x2 x3 K (f128_l1 K) w).symm h))
noncomputable def f129_c : Code := (Tryz.f129.body).getD .skip
def f129_rs : List ResultVar := [.tmp 8, .tmp 9]
abbrev f129_e (K : K1) : KF := endK Tryz.prog f129_rs K
def f129_k3_t (x0 x1 x11 : Value) (K : K1) (w : World) : Prop :=
 rd Tryz.prog (Instr.indexAt 72 x0 x1) w.drew fun t159 =>
 ldR Tryz.prog 33 t159 w.drew fun t160 =>
 rd Tryz.prog (Instr.indexAt 72 x0 x11) w.drew fun t163 =>
 ldR Tryz.prog 33 t163 w.drew fun t164 =>
 rd Tryz.prog (Instr.indexAt 72 x0 x11) w.drew fun t165 =>
 stS Tryz.prog 33 t165 t160 w.drew fun w_1 =>
 rd Tryz.prog (Instr.indexAt 72 x0 x1) w_1 fun t166 =>
 stS Tryz.prog 33 t166 t164 w_1 fun w_2 =>
 K (.tuple #[x11, (.bool false)]) w_2
theorem f129_k3_sk (z : Nat → Value) (K : K1) (w : World) : (cS (cr (cr (cr (cr (cr (cr (cr (cr (cr (cr f129_c)))))))))) (f129_e K) (f129_e K) nX (frL 168 z 0) w) = f129_k3_t (z 0) (z 1) (z 11) K w := by kernel_rfl
def f129_k3 (K : K1) (x0 x1 x11 : Value) (w : World) : Prop := f129_k3_t x0 x1 x11 K w
theorem f129_k3_eq (K : K1) (x0 x1 x11 : Value) (w : World) : f129_k3 K x0 x1 x11 w = f129_k3_t x0 x1 x11 K w := rfl
def f129_k3_o (K : K1) : KF := fun fr w => cS (cr (cr (cr (cr (cr (cr (cr (cr (cr (cr f129_c)))))))))) (f129_e K) (f129_e K) nX fr w
theorem f129_k3_s (K : K1)  (f0 : Fr) (hn : f0.length = 168) (fr : Fr) (w : World) (hs : Same 374144419156711147060143317175368453031918731001855 f0 fr) (h : f129_k3 K (sv fr 0) (sv fr 1) (sv fr 11) w) : f129_k3_o K fr w := by
  have h1 := cast (f129_k3_sk (fun i => sv fr i) K w).symm h
  rw [show frL 168 (fun i => sv fr i) 0 = fr from frL_of (hs.len.trans hn)] at h1
  have h2 : cS (cr (cr (cr (cr (cr (cr (cr (cr (cr (cr f129_c)))))))))) (f129_e K) (f129_e K) nX fr w := (codeS_mono (m := 374144419156711147060143317175368453031918731001855) (f0 := f0) (cr (cr (cr (cr (cr (cr (cr (cr (cr (cr f129_c)))))))))) (by kernel_rfl) (fun _ _ _ h => h) (fun _ _ _ h => h) (fun _ _ _ _ h => h) fr w hs) h1
  exact cast (by kernel_rfl) h2
def f129_k5_t (x0 x1 x10 x11 : Value) (K : K1) (E1 : Value → Value → World → Prop) (c_f129_k3 : Value → Value → Value → World → Prop) (w : World) : Prop :=
 ev Tryz.prog (binM .gtr 3 (.tmp 132) (.tmp 133) x10 x11) w fun t134 w_1 =>
 cndS t134 (
 c_f129_k3 x0 x1 x11 w_1) (
 rd Tryz.prog (Instr.indexAt 72 x0 x11) w_1.drew fun t141 =>
 ldR Tryz.prog 33 t141 w_1.drew fun t142 =>
 rd Tryz.prog (Instr.indexAt 72 x0 x10) w_1.drew fun t145 =>
 ldR Tryz.prog 33 t145 w_1.drew fun t146 =>
 rd Tryz.prog (Instr.indexAt 72 x0 x10) w_1.drew fun t147 =>
 stS Tryz.prog 33 t147 t142 w_1.drew fun w_2 =>
 rd Tryz.prog (Instr.indexAt 72 x0 x11) w_2 fun t148 =>
 stS Tryz.prog 33 t148 t146 w_2 fun w_3 =>
 ev Tryz.prog (binM .add 3 (.tmp 149) (.const (.int .i64 1)) x10 (.int .i64 1)) w_3 fun t150 w_4 =>
 ev Tryz.prog (binM .sub 3 (.tmp 151) (.const (.int .i64 1)) x11 (.int .i64 1)) w_4 fun t152 w_5 =>
 E1 t150 t152 w_5)
theorem f129_k5_sk (z : Nat → Value) (K : K1) (E1 : Value → Value → World → Prop) (c_f129_k3 : Value → Value → Value → World → Prop) (w : World) : (cS (cr (cr (cl (cl (cl (cl (cr (cr (cr (cr (cr (cr (cr (cr (cr f129_c))))))))))))))) (fun fr w => E1 (sv fr 10) (sv fr 11) w) (f129_e K) (exB 5 (fun fr w => E1 (sv fr 10) (sv fr 11) w) (exB 4 (fun fr w => c_f129_k3 (sv fr 0) (sv fr 1) (sv fr 11) w) nX)) (frL 168 z 0) w) = f129_k5_t (z 0) (z 1) (z 10) (z 11) K E1 c_f129_k3 w := by kernel_rfl
def f129_k5 (K : K1) (E1 : Value → Value → World → Prop) (x0 x1 x10 x11 : Value) (w : World) : Prop := f129_k5_t x0 x1 x10 x11 K E1 (f129_k3 K) w
theorem f129_k5_eq (K : K1) (E1 : Value → Value → World → Prop) (x0 x1 x10 x11 : Value) (w : World) : f129_k5 K E1 x0 x1 x10 x11 w = f129_k5_t x0 x1 x10 x11 K E1 (f129_k3 K) w := rfl
def f129_k5_o (K : K1) (F1 : KF) : KF := fun fr w => cS (cr (cr (cl (cl (cl (cl (cr (cr (cr (cr (cr (cr (cr (cr (cr f129_c))))))))))))))) F1 (f129_e K) (exB 5 F1 (exB 4 (f129_k3_o K) nX)) fr w
theorem f129_k5_s (K : K1)  (E1 : Value → Value → World → Prop) (F1 : KF) (f0 : Fr) (hn : f0.length = 168) (f1 : Fr) (a1 : Same 374144419156711147060143317175368453031918731001855 f0 f1) (b1 : ∀ fr w, Same 11417981541647678414640987641481260342710373376 f1 fr → E1 (sv fr 10) (sv fr 11) w → F1 fr w) (fr : Fr) (w : World) (hs : Same 11417981541647678414640987641481260342710373376 f1 fr) (h : f129_k5 K E1 (sv fr 0) (sv fr 1) (sv fr 10) (sv fr 11) w) : f129_k5_o K F1 fr w := by
  have h1 := cast (f129_k5_sk (fun i => sv fr i) K E1 (f129_k3 K) w).symm h
  rw [show frL 168 (fun i => sv fr i) 0 = fr from frL_of (hs.len.trans (a1.len.trans hn))] at h1
  have h2 : cS (cr (cr (cl (cl (cl (cl (cr (cr (cr (cr (cr (cr (cr (cr (cr f129_c))))))))))))))) F1 (f129_e K) (exB 5 F1 (exB 4 (f129_k3_o K) nX)) fr w := (codeS_mono (m := 11417981541647678414640987641481260342710373376) (f0 := f1) (cr (cr (cl (cl (cl (cl (cr (cr (cr (cr (cr (cr (cr (cr (cr f129_c))))))))))))))) (by kernel_rfl) (fun fr w hs h => b1 fr w hs h) (fun _ _ _ h => h) (exB_mono (fun fr w hs h => b1 fr w hs h) (exB_mono (fun fr w hs h => f129_k3_s K f0 hn fr w (Same.up (by kernel_rfl) a1 hs) h) (fun _ _ _ _ h => h))) fr w hs) h1
  exact cast (by kernel_rfl) h2
def f129_l5_t (x0 x1 x10 x11 : Value) (K : K1) (E1 : Value → Value → World → Prop) (E2 : Value → World → Prop) (c_f129_k3 : Value → Value → Value → World → Prop) (c_f129_k5 : Value → Value → Value → Value → World → Prop) (w : World) : Prop :=
 rd Tryz.prog (binM .leq 3 (.tmp 115) (.tmp 116) x10 x11) w.drew fun t117 =>
 gdR t117 true (fun k => k x0) fun t119 =>
 gdR t117 true (fun k => k x11) fun t120 =>
 gdR t117 true (fun k => rd Tryz.prog (Instr.indexAt 72 t119 t120) w.drew k) fun t121 =>
 gdR t117 true (fun k => ldR Tryz.prog 33 t121 w.drew k) fun t122 =>
 gdR t117 true (fun k => k x0) fun t123 =>
 gdR t117 true (fun k => k x1) fun t124 =>
 gdR t117 true (fun k => rd Tryz.prog (Instr.indexAt 72 t123 t124) w.drew k) fun t125 =>
 gdR t117 true (fun k => ldR Tryz.prog 33 t125 w.drew k) fun t126 =>
 gd t117 true (fun k => callS Tryz.prog 127 (pA #[t122, t126]) w.drew k) w.drew fun t127 w_1 =>
 gdR t117 true (fun k => rd Tryz.prog (Op.unary .not t127) w_1 k) fun t128 =>
 pickV t117 t128 (.bool false) fun t129 =>
 cndS t129 (
 ev Tryz.prog (binM .sub 3 (.tmp 130) (.const (.int .i64 1)) x11 (.int .i64 1)) w_1 fun t131 w_2 =>
 E2 t131 w_2) (
 c_f129_k5 x0 x1 x10 x11 w_1)
theorem f129_l5_sk (z : Nat → Value) (K : K1) (E1 : Value → Value → World → Prop) (E2 : Value → World → Prop) (c_f129_k3 : Value → Value → Value → World → Prop) (c_f129_k5 : Value → Value → Value → Value → World → Prop) (w : World) : (cS (cl (cl (cl (cr (cl (cl (cl (cl (cr (cr (cr (cr (cr (cr (cr (cr (cr f129_c))))))))))))))))) (fun fr w => E2 (sv fr 11) w) (f129_e K) (exB 8 (fun fr w => c_f129_k5 (sv fr 0) (sv fr 1) (sv fr 10) (sv fr 11) w) (exB 5 (fun fr w => E1 (sv fr 10) (sv fr 11) w) (exB 4 (fun fr w => c_f129_k3 (sv fr 0) (sv fr 1) (sv fr 11) w) nX))) (frL 168 z 0) w) = f129_l5_t (z 0) (z 1) (z 10) (z 11) K E1 E2 c_f129_k3 c_f129_k5 w := by kernel_rfl
def f129_l5 (K : K1) (E1 : Value → Value → World → Prop) (x0 x1 x10 x11 : Value) (w : World) : Prop := ∃ (I : Value → World → Prop) (μ : Value → World → Nat), I x11 w ∧ ∀ (x11 : Value) (w : World), I x11 w → ∀ E2 : Value → World → Prop, (∀ (y11 : Value) (w' : World), I y11 w' → μ y11 w' < μ x11 w → E2 y11 w') → f129_l5_t x0 x1 x10 x11 K E1 E2 (f129_k3 K) (f129_k5 K E1) w
theorem f129_l5_rule (x0 x1 x10 x11 : Value) (K : K1) (E1 : Value → Value → World → Prop) (w : World) (I : Value → World → Prop) (μ : Value → World → Nat) (h0 : I x11 w)
    (hr : ∀ (x11 : Value) (w : World), I x11 w → ∀ E2 : Value → World → Prop, (∀ (y11 : Value) (w' : World), I y11 w' → μ y11 w' < μ x11 w → E2 y11 w') → f129_l5_t x0 x1 x10 x11 K E1 E2 (f129_k3 K) (f129_k5 K E1) w) : f129_l5 K E1 x0 x1 x10 x11 w := ⟨I, μ, h0, hr⟩
def f129_l5_o (K : K1) (F1 : KF) : KF := fun fr w => cS (cl (cl (cr (cl (cl (cl (cl (cr (cr (cr (cr (cr (cr (cr (cr (cr f129_c)))))))))))))))) (fun _ _ => False) (f129_e K) (exB 8 (f129_k5_o K F1) (exB 5 F1 (exB 4 (f129_k3_o K) nX))) fr w
theorem f129_l5_b (K : K1)  (E1 : Value → Value → World → Prop) (E2 : Value → World → Prop) (F1 : KF) (F2 : KF) (f0 : Fr) (hn : f0.length = 168) (f1 : Fr) (a1 : Same 374144419156711147060143317175368453031918731001855 f0 f1) (b1 : ∀ fr w, Same 11417981541647678414640987641481260342710373376 f1 fr → E1 (sv fr 10) (sv fr 11) w → F1 fr w) (f2 : Fr) (a2 : Same 11417981541647678414640987641481260342710373376 f1 f2) (b2 : ∀ fr w, Same 5444476332360147136792965474937657624576 f2 fr → E2 (sv fr 11) w → F2 fr w) (fr : Fr) (w : World) (hs : Same 5444476332360147136792965474937657624576 f2 fr) (h : f129_l5_t (sv fr 0) (sv fr 1) (sv fr 10) (sv fr 11) K E1 E2 (f129_k3 K) (f129_k5 K E1) w) : cS (cl (cl (cl (cr (cl (cl (cl (cl (cr (cr (cr (cr (cr (cr (cr (cr (cr f129_c))))))))))))))))) F2 (f129_e K) (exB 8 (f129_k5_o K F1) (exB 5 F1 (exB 4 (f129_k3_o K) nX))) fr w := by
  have h1 := cast (f129_l5_sk (fun i => sv fr i) K E1 E2 (f129_k3 K) (f129_k5 K E1) w).symm h
  rw [show frL 168 (fun i => sv fr i) 0 = fr from frL_of (hs.len.trans (a2.len.trans (a1.len.trans hn)))] at h1
  have h2 : cS (cl (cl (cl (cr (cl (cl (cl (cl (cr (cr (cr (cr (cr (cr (cr (cr (cr f129_c))))))))))))))))) F2 (f129_e K) (exB 8 (f129_k5_o K F1) (exB 5 F1 (exB 4 (f129_k3_o K) nX))) fr w := (codeS_mono (m := 5444476332360147136792965474937657624576) (f0 := f2) (cl (cl (cl (cr (cl (cl (cl (cl (cr (cr (cr (cr (cr (cr (cr (cr (cr f129_c))))))))))))))))) (by kernel_rfl) (fun fr w hs h => b2 fr w hs h) (fun _ _ _ h => h) (exB_mono (fun fr w hs h => f129_k5_s K E1 F1 f0 hn f1 a1 b1 fr w (Same.up (by kernel_rfl) a2 hs) h) (exB_mono (fun fr w hs h => b1 fr w (Same.up (by kernel_rfl) a2 hs) h) (exB_mono (fun fr w hs h => f129_k3_s K f0 hn fr w (Same.up (by kernel_rfl) a1 (Same.up (by kernel_rfl) a2 hs)) h) (fun _ _ _ _ h => h)))) fr w hs) h1
  exact cast (by kernel_rfl) h2
theorem f129_l5_s (K : K1)  (E1 : Value → Value → World → Prop) (F1 : KF) (f0 : Fr) (hn : f0.length = 168) (f1 : Fr) (a1 : Same 374144419156711147060143317175368453031918731001855 f0 f1) (b1 : ∀ fr w, Same 11417981541647678414640987641481260342710373376 f1 fr → E1 (sv fr 10) (sv fr 11) w → F1 fr w) (fr : Fr) (w : World) (hs : Same 11417981541647678414640987641481260342710373376 f1 fr) (h : f129_l5 K E1 (sv fr 0) (sv fr 1) (sv fr 10) (sv fr 11) w) : f129_l5_o K F1 fr w := by
  obtain ⟨I, μ, h0, hr⟩ := h
  have hL : loopS (fun E fr w => cS (cl (cl (cl (cr (cl (cl (cl (cl (cr (cr (cr (cr (cr (cr (cr (cr (cr f129_c))))))))))))))))) E (f129_e K) (exB 8 (f129_k5_o K F1) (exB 5 F1 (exB 4 (f129_k3_o K) nX))) fr w) fr w := by
    refine ⟨fun f' w' => Same 5444476332360147136792965474937657624576 fr f' ∧ I (sv f' 11) w', fun f' w' => μ (sv f' 11) w', ⟨Same.refl _ _, h0⟩, ?_⟩
    intro f' w' hI
    have hb := hr (sv f' 11) w' hI.2 (fun y11 w2 => I y11 w2 ∧ μ y11 w2 < μ (sv f' 11) w') (fun y11 w2 a b => ⟨a, b⟩)
    rw [← hI.1.sv 0 (by kernel_rfl), ← hI.1.sv 1 (by kernel_rfl), ← hI.1.sv 10 (by kernel_rfl)] at hb
    exact f129_l5_b K E1 _ F1 _ f0 hn f1 a1 b1 fr hs (fun f w h1 h2 => ⟨⟨h1, h2.1⟩, h2.2⟩) f' w' hI.1 hb
  exact cast (by kernel_rfl) hL
def f129_k4_t (x0 x1 x10 x11 : Value) (K : K1) (E1 : Value → Value → World → Prop) (c_f129_l5 : Value → Value → Value → Value → World → Prop) (w : World) : Prop :=
 c_f129_l5 x0 x1 x10 x11 w
theorem f129_k4_sk (z : Nat → Value) (K : K1) (E1 : Value → Value → World → Prop) (c_f129_l5 : Value → Value → Value → Value → World → Prop) (w : World) : (c_f129_l5 (sv (frL 168 z 0) 0) (sv (frL 168 z 0) 1) (sv (frL 168 z 0) 10) (sv (frL 168 z 0) 11) w) = f129_k4_t (z 0) (z 1) (z 10) (z 11) K E1 c_f129_l5 w := by kernel_rfl
def f129_k4 (K : K1) (E1 : Value → Value → World → Prop) (x0 x1 x10 x11 : Value) (w : World) : Prop := f129_k4_t x0 x1 x10 x11 K E1 (f129_l5 K E1) w
theorem f129_k4_eq (K : K1) (E1 : Value → Value → World → Prop) (x0 x1 x10 x11 : Value) (w : World) : f129_k4 K E1 x0 x1 x10 x11 w = f129_k4_t x0 x1 x10 x11 K E1 (f129_l5 K E1) w := rfl
def f129_k4_o (K : K1) (F1 : KF) : KF := fun fr w => cS (cr (cl (cl (cl (cl (cr (cr (cr (cr (cr (cr (cr (cr (cr f129_c)))))))))))))) F1 (f129_e K) (exB 5 F1 (exB 4 (f129_k3_o K) nX)) fr w
theorem f129_k4_s (K : K1)  (E1 : Value → Value → World → Prop) (F1 : KF) (f0 : Fr) (hn : f0.length = 168) (f1 : Fr) (a1 : Same 374144419156711147060143317175368453031918731001855 f0 f1) (b1 : ∀ fr w, Same 11417981541647678414640987641481260342710373376 f1 fr → E1 (sv fr 10) (sv fr 11) w → F1 fr w) (fr : Fr) (w : World) (hs : Same 11417981541647678414640987641481260342710373376 f1 fr) (h : f129_k4 K E1 (sv fr 0) (sv fr 1) (sv fr 10) (sv fr 11) w) : f129_k4_o K F1 fr w := by
  have h1 := cast (f129_k4_sk (fun i => sv fr i) K E1 (f129_l5 K E1) w).symm h
  rw [show frL 168 (fun i => sv fr i) 0 = fr from frL_of (hs.len.trans (a1.len.trans hn))] at h1
  have h2 : f129_l5_o K F1 fr w := ((fun h => f129_l5_s K E1 F1 f0 hn f1 a1 b1 fr w hs h)) h1
  exact cast (by kernel_rfl) h2
def f129_l4_t (x0 x1 x10 x11 : Value) (K : K1) (E1 : Value → Value → World → Prop) (E2 : Value → World → Prop) (c_f129_k3 : Value → Value → Value → World → Prop) (c_f129_k4 : Value → Value → Value → Value → World → Prop) (w : World) : Prop :=
 rd Tryz.prog (binM .leq 3 (.tmp 99) (.tmp 100) x10 x11) w.drew fun t101 =>
 gdR t101 true (fun k => k x0) fun t103 =>
 gdR t101 true (fun k => k x10) fun t104 =>
 gdR t101 true (fun k => rd Tryz.prog (Instr.indexAt 72 t103 t104) w.drew k) fun t105 =>
 gdR t101 true (fun k => ldR Tryz.prog 33 t105 w.drew k) fun t106 =>
 gdR t101 true (fun k => k x0) fun t107 =>
 gdR t101 true (fun k => k x1) fun t108 =>
 gdR t101 true (fun k => rd Tryz.prog (Instr.indexAt 72 t107 t108) w.drew k) fun t109 =>
 gdR t101 true (fun k => ldR Tryz.prog 33 t109 w.drew k) fun t110 =>
 gd t101 true (fun k => callS Tryz.prog 127 (pA #[t106, t110]) w.drew k) w.drew fun t111 w_1 =>
 pickV t101 t111 (.bool false) fun t112 =>
 cndS t112 (
 ev Tryz.prog (binM .add 3 (.tmp 113) (.const (.int .i64 1)) x10 (.int .i64 1)) w_1 fun t114 w_2 =>
 E2 t114 w_2) (
 c_f129_k4 x0 x1 x10 x11 w_1)
theorem f129_l4_sk (z : Nat → Value) (K : K1) (E1 : Value → Value → World → Prop) (E2 : Value → World → Prop) (c_f129_k3 : Value → Value → Value → World → Prop) (c_f129_k4 : Value → Value → Value → Value → World → Prop) (w : World) : (cS (cl (cl (cl (cl (cl (cl (cl (cr (cr (cr (cr (cr (cr (cr (cr (cr f129_c)))))))))))))))) (fun fr w => E2 (sv fr 10) w) (f129_e K) (exB 6 (fun fr w => c_f129_k4 (sv fr 0) (sv fr 1) (sv fr 10) (sv fr 11) w) (exB 5 (fun fr w => E1 (sv fr 10) (sv fr 11) w) (exB 4 (fun fr w => c_f129_k3 (sv fr 0) (sv fr 1) (sv fr 11) w) nX))) (frL 168 z 0) w) = f129_l4_t (z 0) (z 1) (z 10) (z 11) K E1 E2 c_f129_k3 c_f129_k4 w := by kernel_rfl
def f129_l4 (K : K1) (E1 : Value → Value → World → Prop) (x0 x1 x10 x11 : Value) (w : World) : Prop := ∃ (I : Value → World → Prop) (μ : Value → World → Nat), I x10 w ∧ ∀ (x10 : Value) (w : World), I x10 w → ∀ E2 : Value → World → Prop, (∀ (y10 : Value) (w' : World), I y10 w' → μ y10 w' < μ x10 w → E2 y10 w') → f129_l4_t x0 x1 x10 x11 K E1 E2 (f129_k3 K) (f129_k4 K E1) w
theorem f129_l4_rule (x0 x1 x10 x11 : Value) (K : K1) (E1 : Value → Value → World → Prop) (w : World) (I : Value → World → Prop) (μ : Value → World → Nat) (h0 : I x10 w)
    (hr : ∀ (x10 : Value) (w : World), I x10 w → ∀ E2 : Value → World → Prop, (∀ (y10 : Value) (w' : World), I y10 w' → μ y10 w' < μ x10 w → E2 y10 w') → f129_l4_t x0 x1 x10 x11 K E1 E2 (f129_k3 K) (f129_k4 K E1) w) : f129_l4 K E1 x0 x1 x10 x11 w := ⟨I, μ, h0, hr⟩
def f129_l4_o (K : K1) (F1 : KF) : KF := fun fr w => cS (cl (cl (cl (cl (cl (cl (cr (cr (cr (cr (cr (cr (cr (cr (cr f129_c))))))))))))))) (fun _ _ => False) (f129_e K) (exB 6 (f129_k4_o K F1) (exB 5 F1 (exB 4 (f129_k3_o K) nX))) fr w
theorem f129_l4_b (K : K1)  (E1 : Value → Value → World → Prop) (E2 : Value → World → Prop) (F1 : KF) (F2 : KF) (f0 : Fr) (hn : f0.length = 168) (f1 : Fr) (a1 : Same 374144419156711147060143317175368453031918731001855 f0 f1) (b1 : ∀ fr w, Same 11417981541647678414640987641481260342710373376 f1 fr → E1 (sv fr 10) (sv fr 11) w → F1 fr w) (f2 : Fr) (a2 : Same 11417981541647678414640987641481260342710373376 f1 f2) (b2 : ∀ fr w, Same 41537741042978506913543222282159104 f2 fr → E2 (sv fr 10) w → F2 fr w) (fr : Fr) (w : World) (hs : Same 41537741042978506913543222282159104 f2 fr) (h : f129_l4_t (sv fr 0) (sv fr 1) (sv fr 10) (sv fr 11) K E1 E2 (f129_k3 K) (f129_k4 K E1) w) : cS (cl (cl (cl (cl (cl (cl (cl (cr (cr (cr (cr (cr (cr (cr (cr (cr f129_c)))))))))))))))) F2 (f129_e K) (exB 6 (f129_k4_o K F1) (exB 5 F1 (exB 4 (f129_k3_o K) nX))) fr w := by
  have h1 := cast (f129_l4_sk (fun i => sv fr i) K E1 E2 (f129_k3 K) (f129_k4 K E1) w).symm h
  rw [show frL 168 (fun i => sv fr i) 0 = fr from frL_of (hs.len.trans (a2.len.trans (a1.len.trans hn)))] at h1
  have h2 : cS (cl (cl (cl (cl (cl (cl (cl (cr (cr (cr (cr (cr (cr (cr (cr (cr f129_c)))))))))))))))) F2 (f129_e K) (exB 6 (f129_k4_o K F1) (exB 5 F1 (exB 4 (f129_k3_o K) nX))) fr w := (codeS_mono (m := 41537741042978506913543222282159104) (f0 := f2) (cl (cl (cl (cl (cl (cl (cl (cr (cr (cr (cr (cr (cr (cr (cr (cr f129_c)))))))))))))))) (by kernel_rfl) (fun fr w hs h => b2 fr w hs h) (fun _ _ _ h => h) (exB_mono (fun fr w hs h => f129_k4_s K E1 F1 f0 hn f1 a1 b1 fr w (Same.up (by kernel_rfl) a2 hs) h) (exB_mono (fun fr w hs h => b1 fr w (Same.up (by kernel_rfl) a2 hs) h) (exB_mono (fun fr w hs h => f129_k3_s K f0 hn fr w (Same.up (by kernel_rfl) a1 (Same.up (by kernel_rfl) a2 hs)) h) (fun _ _ _ _ h => h)))) fr w hs) h1
  exact cast (by kernel_rfl) h2
theorem f129_l4_s (K : K1)  (E1 : Value → Value → World → Prop) (F1 : KF) (f0 : Fr) (hn : f0.length = 168) (f1 : Fr) (a1 : Same 374144419156711147060143317175368453031918731001855 f0 f1) (b1 : ∀ fr w, Same 11417981541647678414640987641481260342710373376 f1 fr → E1 (sv fr 10) (sv fr 11) w → F1 fr w) (fr : Fr) (w : World) (hs : Same 11417981541647678414640987641481260342710373376 f1 fr) (h : f129_l4 K E1 (sv fr 0) (sv fr 1) (sv fr 10) (sv fr 11) w) : f129_l4_o K F1 fr w := by
  obtain ⟨I, μ, h0, hr⟩ := h
  have hL : loopS (fun E fr w => cS (cl (cl (cl (cl (cl (cl (cl (cr (cr (cr (cr (cr (cr (cr (cr (cr f129_c)))))))))))))))) E (f129_e K) (exB 6 (f129_k4_o K F1) (exB 5 F1 (exB 4 (f129_k3_o K) nX))) fr w) fr w := by
    refine ⟨fun f' w' => Same 41537741042978506913543222282159104 fr f' ∧ I (sv f' 10) w', fun f' w' => μ (sv f' 10) w', ⟨Same.refl _ _, h0⟩, ?_⟩
    intro f' w' hI
    have hb := hr (sv f' 10) w' hI.2 (fun y10 w2 => I y10 w2 ∧ μ y10 w2 < μ (sv f' 10) w') (fun y10 w2 a b => ⟨a, b⟩)
    rw [← hI.1.sv 0 (by kernel_rfl), ← hI.1.sv 1 (by kernel_rfl), ← hI.1.sv 11 (by kernel_rfl)] at hb
    exact f129_l4_b K E1 _ F1 _ f0 hn f1 a1 b1 fr hs (fun f w h1 h2 => ⟨⟨h1, h2.1⟩, h2.2⟩) f' w' hI.1 hb
  exact cast (by kernel_rfl) hL
def f129_l3_t (x0 x1 x10 x11 : Value) (K : K1) (E1 : Value → Value → World → Prop) (c_f129_l4 : Value → Value → Value → Value → World → Prop) (w : World) : Prop :=
 c_f129_l4 x0 x1 x10 x11 w
theorem f129_l3_sk (z : Nat → Value) (K : K1) (E1 : Value → Value → World → Prop) (c_f129_l4 : Value → Value → Value → Value → World → Prop) (w : World) : (c_f129_l4 (sv (frL 168 z 0) 0) (sv (frL 168 z 0) 1) (sv (frL 168 z 0) 10) (sv (frL 168 z 0) 11) w) = f129_l3_t (z 0) (z 1) (z 10) (z 11) K E1 c_f129_l4 w := by kernel_rfl
def f129_l3 (K : K1) (x0 x1 x10 x11 : Value) (w : World) : Prop := ∃ (I : Value → Value → World → Prop) (μ : Value → Value → World → Nat), I x10 x11 w ∧ ∀ (x10 x11 : Value) (w : World), I x10 x11 w → ∀ E1 : Value → Value → World → Prop, (∀ (y10 y11 : Value) (w' : World), I y10 y11 w' → μ y10 y11 w' < μ x10 x11 w → E1 y10 y11 w') → f129_l3_t x0 x1 x10 x11 K E1 (f129_l4 K E1) w
theorem f129_l3_rule (x0 x1 x10 x11 : Value) (K : K1) (w : World) (I : Value → Value → World → Prop) (μ : Value → Value → World → Nat) (h0 : I x10 x11 w)
    (hr : ∀ (x10 x11 : Value) (w : World), I x10 x11 w → ∀ E1 : Value → Value → World → Prop, (∀ (y10 y11 : Value) (w' : World), I y10 y11 w' → μ y10 y11 w' < μ x10 x11 w → E1 y10 y11 w') → f129_l3_t x0 x1 x10 x11 K E1 (f129_l4 K E1) w) : f129_l3 K x0 x1 x10 x11 w := ⟨I, μ, h0, hr⟩
def f129_l3_o (K : K1) : KF := fun fr w => cS (cl (cl (cr (cr (cr (cr (cr (cr (cr (cr (cr f129_c))))))))))) (fun _ _ => False) (f129_e K) (exB 4 (f129_k3_o K) nX) fr w
theorem f129_l3_b (K : K1)  (E1 : Value → Value → World → Prop) (F1 : KF) (f0 : Fr) (hn : f0.length = 168) (f1 : Fr) (a1 : Same 374144419156711147060143317175368453031918731001855 f0 f1) (b1 : ∀ fr w, Same 11417981541647678414640987641481260342710373376 f1 fr → E1 (sv fr 10) (sv fr 11) w → F1 fr w) (fr : Fr) (w : World) (hs : Same 11417981541647678414640987641481260342710373376 f1 fr) (h : f129_l3_t (sv fr 0) (sv fr 1) (sv fr 10) (sv fr 11) K E1 (f129_l4 K E1) w) : cS (cl (cl (cl (cr (cr (cr (cr (cr (cr (cr (cr (cr f129_c)))))))))))) F1 (f129_e K) (exB 4 (f129_k3_o K) nX) fr w := by
  have h1 := cast (f129_l3_sk (fun i => sv fr i) K E1 (f129_l4 K E1) w).symm h
  rw [show frL 168 (fun i => sv fr i) 0 = fr from frL_of (hs.len.trans (a1.len.trans hn))] at h1
  have h2 : f129_l4_o K F1 fr w := ((fun h => f129_l4_s K E1 F1 f0 hn f1 a1 b1 fr w hs h)) h1
  exact cast (by kernel_rfl) h2
theorem f129_l3_s (K : K1)  (f0 : Fr) (hn : f0.length = 168) (fr : Fr) (w : World) (hs : Same 374144419156711147060143317175368453031918731001855 f0 fr) (h : f129_l3 K (sv fr 0) (sv fr 1) (sv fr 10) (sv fr 11) w) : f129_l3_o K fr w := by
  obtain ⟨I, μ, h0, hr⟩ := h
  have hL : loopS (fun E fr w => cS (cl (cl (cl (cr (cr (cr (cr (cr (cr (cr (cr (cr f129_c)))))))))))) E (f129_e K) (exB 4 (f129_k3_o K) nX) fr w) fr w := by
    refine ⟨fun f' w' => Same 11417981541647678414640987641481260342710373376 fr f' ∧ I (sv f' 10) (sv f' 11) w', fun f' w' => μ (sv f' 10) (sv f' 11) w', ⟨Same.refl _ _, h0⟩, ?_⟩
    intro f' w' hI
    have hb := hr (sv f' 10) (sv f' 11) w' hI.2 (fun y10 y11 w2 => I y10 y11 w2 ∧ μ y10 y11 w2 < μ (sv f' 10) (sv f' 11) w') (fun y10 y11 w2 a b => ⟨a, b⟩)
    rw [← hI.1.sv 0 (by kernel_rfl), ← hI.1.sv 1 (by kernel_rfl)] at hb
    exact f129_l3_b K _ _ f0 hn fr hs (fun f w h1 h2 => ⟨⟨h1, h2.1⟩, h2.2⟩) f' w' hI.1 hb
  exact cast (by kernel_rfl) hL
def f129_k2_t (x0 x1 x10 x11 : Value) (K : K1) (c_f129_l3 : Value → Value → Value → Value → World → Prop) (w : World) : Prop :=
 ev Tryz.prog (binM .gtr 3 (.tmp 63) (.tmp 64) x10 x11) w fun t65 w_1 =>
 cndS t65 (
 rd Tryz.prog (Instr.indexAt 72 x0 x1) w_1.drew fun t72 =>
 ldR Tryz.prog 33 t72 w_1.drew fun t73 =>
 rd Tryz.prog (Instr.indexAt 72 x0 x11) w_1.drew fun t76 =>
 ldR Tryz.prog 33 t76 w_1.drew fun t77 =>
 rd Tryz.prog (Instr.indexAt 72 x0 x11) w_1.drew fun t78 =>
 stS Tryz.prog 33 t78 t73 w_1.drew fun w_2 =>
 rd Tryz.prog (Instr.indexAt 72 x0 x1) w_2 fun t79 =>
 stS Tryz.prog 33 t79 t77 w_2 fun w_3 =>
 K (.tuple #[x11, (.bool true)]) w_3) (
 rd Tryz.prog (Instr.indexAt 72 x0 x11) w_1.drew fun t87 =>
 ldR Tryz.prog 33 t87 w_1.drew fun t88 =>
 rd Tryz.prog (Instr.indexAt 72 x0 x10) w_1.drew fun t91 =>
 ldR Tryz.prog 33 t91 w_1.drew fun t92 =>
 rd Tryz.prog (Instr.indexAt 72 x0 x10) w_1.drew fun t93 =>
 stS Tryz.prog 33 t93 t88 w_1.drew fun w_4 =>
 rd Tryz.prog (Instr.indexAt 72 x0 x11) w_4 fun t94 =>
 stS Tryz.prog 33 t94 t92 w_4 fun w_5 =>
 ev Tryz.prog (binM .add 3 (.tmp 95) (.const (.int .i64 1)) x10 (.int .i64 1)) w_5 fun t96 w_6 =>
 ev Tryz.prog (binM .sub 3 (.tmp 97) (.const (.int .i64 1)) x11 (.int .i64 1)) w_6 fun t98 w_7 =>
 c_f129_l3 x0 x1 t96 t98 w_7)
theorem f129_k2_sk (z : Nat → Value) (K : K1) (c_f129_l3 : Value → Value → Value → Value → World → Prop) (w : World) : (cS (cl (cr (cr (cr (cr (cr f129_c)))))) (fun fr w => cS (cl (cr (cr (cr (cr (cr (cr f129_c))))))) (fun fr w => cS (cl (cr (cr (cr (cr (cr (cr (cr f129_c)))))))) (fun fr w => cS (cl (cr (cr (cr (cr (cr (cr (cr (cr f129_c))))))))) (fun fr w => c_f129_l3 (sv fr 0) (sv fr 1) (sv fr 10) (sv fr 11) w) (f129_e K) nX fr w) (f129_e K) nX fr w) (f129_e K) nX fr w) (f129_e K) nX (frL 168 z 0) w) = f129_k2_t (z 0) (z 1) (z 10) (z 11) K c_f129_l3 w := by kernel_rfl
def f129_k2 (K : K1) (x0 x1 x10 x11 : Value) (w : World) : Prop := f129_k2_t x0 x1 x10 x11 K (f129_l3 K) w
theorem f129_k2_eq (K : K1) (x0 x1 x10 x11 : Value) (w : World) : f129_k2 K x0 x1 x10 x11 w = f129_k2_t x0 x1 x10 x11 K (f129_l3 K) w := rfl
def f129_k2_o (K : K1) : KF := fun fr w => cS (cr (cr (cr (cr (cr f129_c))))) (f129_e K) (f129_e K) nX fr w
theorem f129_k2_s (K : K1)  (f0 : Fr) (hn : f0.length = 168) (fr : Fr) (w : World) (hs : Same 374144419156711147060143317175368453031918731001855 f0 fr) (h : f129_k2 K (sv fr 0) (sv fr 1) (sv fr 10) (sv fr 11) w) : f129_k2_o K fr w := by
  have h1 := cast (f129_k2_sk (fun i => sv fr i) K (f129_l3 K) w).symm h
  rw [show frL 168 (fun i => sv fr i) 0 = fr from frL_of (hs.len.trans hn)] at h1
  have h2 : cS (cl (cr (cr (cr (cr (cr f129_c)))))) (fun fr w => cS (cl (cr (cr (cr (cr (cr (cr f129_c))))))) (fun fr w => cS (cl (cr (cr (cr (cr (cr (cr (cr f129_c)))))))) (fun fr w => cS (cl (cr (cr (cr (cr (cr (cr (cr (cr f129_c))))))))) (fun fr w => f129_l3_o K fr w) (f129_e K) nX fr w) (f129_e K) nX fr w) (f129_e K) nX fr w) (f129_e K) nX fr w := (codeS_mono (m := 374144419156711147060143317175368453031918731001855) (f0 := f0) (cl (cr (cr (cr (cr (cr f129_c)))))) (by kernel_rfl) (fun fr w hs => codeS_mono (m := 374144419156711147060143317175368453031918731001855) (f0 := f0) (cl (cr (cr (cr (cr (cr (cr f129_c))))))) (by kernel_rfl) (fun fr w hs => codeS_mono (m := 374144419156711147060143317175368453031918731001855) (f0 := f0) (cl (cr (cr (cr (cr (cr (cr (cr f129_c)))))))) (by kernel_rfl) (fun fr w hs => codeS_mono (m := 374144419156711147060143317175368453031918731001855) (f0 := f0) (cl (cr (cr (cr (cr (cr (cr (cr (cr f129_c))))))))) (by kernel_rfl) (fun fr w hs => (fun h => f129_l3_s K f0 hn fr w hs h)) (fun _ _ _ h => h) (fun _ _ _ _ h => h) fr w hs) (fun _ _ _ h => h) (fun _ _ _ _ h => h) fr w hs) (fun _ _ _ h => h) (fun _ _ _ _ h => h) fr w hs) (fun _ _ _ h => h) (fun _ _ _ _ h => h) fr w hs) h1
  exact cast (by kernel_rfl) h2
def f129_l2_t (x0 x1 x10 x11 : Value) (K : K1) (E1 : Value → World → Prop) (c_f129_k2 : Value → Value → Value → Value → World → Prop) (w : World) : Prop :=
 rd Tryz.prog (binM .leq 3 (.tmp 46) (.tmp 47) x10 x11) w.drew fun t48 =>
 gdR t48 true (fun k => k x0) fun t50 =>
 gdR t48 true (fun k => k x11) fun t51 =>
 gdR t48 true (fun k => rd Tryz.prog (Instr.indexAt 72 t50 t51) w.drew k) fun t52 =>
 gdR t48 true (fun k => ldR Tryz.prog 33 t52 w.drew k) fun t53 =>
 gdR t48 true (fun k => k x0) fun t54 =>
 gdR t48 true (fun k => k x1) fun t55 =>
 gdR t48 true (fun k => rd Tryz.prog (Instr.indexAt 72 t54 t55) w.drew k) fun t56 =>
 gdR t48 true (fun k => ldR Tryz.prog 33 t56 w.drew k) fun t57 =>
 gd t48 true (fun k => callS Tryz.prog 127 (pA #[t53, t57]) w.drew k) w.drew fun t58 w_1 =>
 gdR t48 true (fun k => rd Tryz.prog (Op.unary .not t58) w_1 k) fun t59 =>
 pickV t48 t59 (.bool false) fun t60 =>
 cndS t60 (
 ev Tryz.prog (binM .sub 3 (.tmp 61) (.const (.int .i64 1)) x11 (.int .i64 1)) w_1 fun t62 w_2 =>
 E1 t62 w_2) (
 c_f129_k2 x0 x1 x10 x11 w_1)
theorem f129_l2_sk (z : Nat → Value) (K : K1) (E1 : Value → World → Prop) (c_f129_k2 : Value → Value → Value → Value → World → Prop) (w : World) : (cS (cl (cl (cl (cr (cr (cr (cr f129_c))))))) (fun fr w => E1 (sv fr 11) w) (f129_e K) (exB 2 (fun fr w => c_f129_k2 (sv fr 0) (sv fr 1) (sv fr 10) (sv fr 11) w) nX) (frL 168 z 0) w) = f129_l2_t (z 0) (z 1) (z 10) (z 11) K E1 c_f129_k2 w := by kernel_rfl
def f129_l2 (K : K1) (x0 x1 x10 x11 : Value) (w : World) : Prop := ∃ (I : Value → World → Prop) (μ : Value → World → Nat), I x11 w ∧ ∀ (x11 : Value) (w : World), I x11 w → ∀ E1 : Value → World → Prop, (∀ (y11 : Value) (w' : World), I y11 w' → μ y11 w' < μ x11 w → E1 y11 w') → f129_l2_t x0 x1 x10 x11 K E1 (f129_k2 K) w
theorem f129_l2_rule (x0 x1 x10 x11 : Value) (K : K1) (w : World) (I : Value → World → Prop) (μ : Value → World → Nat) (h0 : I x11 w)
    (hr : ∀ (x11 : Value) (w : World), I x11 w → ∀ E1 : Value → World → Prop, (∀ (y11 : Value) (w' : World), I y11 w' → μ y11 w' < μ x11 w → E1 y11 w') → f129_l2_t x0 x1 x10 x11 K E1 (f129_k2 K) w) : f129_l2 K x0 x1 x10 x11 w := ⟨I, μ, h0, hr⟩
def f129_l2_o (K : K1) : KF := fun fr w => cS (cl (cl (cr (cr (cr (cr f129_c)))))) (fun _ _ => False) (f129_e K) (exB 2 (f129_k2_o K) nX) fr w
theorem f129_l2_b (K : K1)  (E1 : Value → World → Prop) (F1 : KF) (f0 : Fr) (hn : f0.length = 168) (f1 : Fr) (a1 : Same 374144419156711147060143317175368453031918731001855 f0 f1) (b1 : ∀ fr w, Same 9223301668110600192 f1 fr → E1 (sv fr 11) w → F1 fr w) (fr : Fr) (w : World) (hs : Same 9223301668110600192 f1 fr) (h : f129_l2_t (sv fr 0) (sv fr 1) (sv fr 10) (sv fr 11) K E1 (f129_k2 K) w) : cS (cl (cl (cl (cr (cr (cr (cr f129_c))))))) F1 (f129_e K) (exB 2 (f129_k2_o K) nX) fr w := by
  have h1 := cast (f129_l2_sk (fun i => sv fr i) K E1 (f129_k2 K) w).symm h
  rw [show frL 168 (fun i => sv fr i) 0 = fr from frL_of (hs.len.trans (a1.len.trans hn))] at h1
  have h2 : cS (cl (cl (cl (cr (cr (cr (cr f129_c))))))) F1 (f129_e K) (exB 2 (f129_k2_o K) nX) fr w := (codeS_mono (m := 9223301668110600192) (f0 := f1) (cl (cl (cl (cr (cr (cr (cr f129_c))))))) (by kernel_rfl) (fun fr w hs h => b1 fr w hs h) (fun _ _ _ h => h) (exB_mono (fun fr w hs h => f129_k2_s K f0 hn fr w (Same.up (by kernel_rfl) a1 hs) h) (fun _ _ _ _ h => h)) fr w hs) h1
  exact cast (by kernel_rfl) h2
theorem f129_l2_s (K : K1)  (f0 : Fr) (hn : f0.length = 168) (fr : Fr) (w : World) (hs : Same 374144419156711147060143317175368453031918731001855 f0 fr) (h : f129_l2 K (sv fr 0) (sv fr 1) (sv fr 10) (sv fr 11) w) : f129_l2_o K fr w := by
  obtain ⟨I, μ, h0, hr⟩ := h
  have hL : loopS (fun E fr w => cS (cl (cl (cl (cr (cr (cr (cr f129_c))))))) E (f129_e K) (exB 2 (f129_k2_o K) nX) fr w) fr w := by
    refine ⟨fun f' w' => Same 9223301668110600192 fr f' ∧ I (sv f' 11) w', fun f' w' => μ (sv f' 11) w', ⟨Same.refl _ _, h0⟩, ?_⟩
    intro f' w' hI
    have hb := hr (sv f' 11) w' hI.2 (fun y11 w2 => I y11 w2 ∧ μ y11 w2 < μ (sv f' 11) w') (fun y11 w2 a b => ⟨a, b⟩)
    rw [← hI.1.sv 0 (by kernel_rfl), ← hI.1.sv 1 (by kernel_rfl), ← hI.1.sv 10 (by kernel_rfl)] at hb
    exact f129_l2_b K _ _ f0 hn fr hs (fun f w h1 h2 => ⟨⟨h1, h2.1⟩, h2.2⟩) f' w' hI.1 hb
  exact cast (by kernel_rfl) hL
def f129_k1_t (x0 x1 x10 x11 : Value) (K : K1) (c_f129_l2 : Value → Value → Value → Value → World → Prop) (w : World) : Prop :=
 c_f129_l2 x0 x1 x10 x11 w
theorem f129_k1_sk (z : Nat → Value) (K : K1) (c_f129_l2 : Value → Value → Value → Value → World → Prop) (w : World) : (c_f129_l2 (sv (frL 168 z 0) 0) (sv (frL 168 z 0) 1) (sv (frL 168 z 0) 10) (sv (frL 168 z 0) 11) w) = f129_k1_t (z 0) (z 1) (z 10) (z 11) K c_f129_l2 w := by kernel_rfl
def f129_k1 (K : K1) (x0 x1 x10 x11 : Value) (w : World) : Prop := f129_k1_t x0 x1 x10 x11 K (f129_l2 K) w
theorem f129_k1_eq (K : K1) (x0 x1 x10 x11 : Value) (w : World) : f129_k1 K x0 x1 x10 x11 w = f129_k1_t x0 x1 x10 x11 K (f129_l2 K) w := rfl
def f129_k1_o (K : K1) : KF := fun fr w => cS (cr (cr (cr (cr f129_c)))) (f129_e K) (f129_e K) nX fr w
theorem f129_k1_s (K : K1)  (f0 : Fr) (hn : f0.length = 168) (fr : Fr) (w : World) (hs : Same 374144419156711147060143317175368453031918731001855 f0 fr) (h : f129_k1 K (sv fr 0) (sv fr 1) (sv fr 10) (sv fr 11) w) : f129_k1_o K fr w := by
  have h1 := cast (f129_k1_sk (fun i => sv fr i) K (f129_l2 K) w).symm h
  rw [show frL 168 (fun i => sv fr i) 0 = fr from frL_of (hs.len.trans hn)] at h1
  have h2 : f129_l2_o K fr w := ((fun h => f129_l2_s K f0 hn fr w hs h)) h1
  exact cast (by kernel_rfl) h2
def f129_l1_t (x0 x1 x10 x11 : Value) (K : K1) (E1 : Value → World → Prop) (c_f129_k1 : Value → Value → Value → Value → World → Prop) (w : World) : Prop :=
 rd Tryz.prog (binM .leq 3 (.tmp 30) (.tmp 31) x10 x11) w.drew fun t32 =>
 gdR t32 true (fun k => k x0) fun t34 =>
 gdR t32 true (fun k => k x10) fun t35 =>
 gdR t32 true (fun k => rd Tryz.prog (Instr.indexAt 72 t34 t35) w.drew k) fun t36 =>
 gdR t32 true (fun k => ldR Tryz.prog 33 t36 w.drew k) fun t37 =>
 gdR t32 true (fun k => k x0) fun t38 =>
 gdR t32 true (fun k => k x1) fun t39 =>
 gdR t32 true (fun k => rd Tryz.prog (Instr.indexAt 72 t38 t39) w.drew k) fun t40 =>
 gdR t32 true (fun k => ldR Tryz.prog 33 t40 w.drew k) fun t41 =>
 gd t32 true (fun k => callS Tryz.prog 127 (pA #[t37, t41]) w.drew k) w.drew fun t42 w_1 =>
 pickV t32 t42 (.bool false) fun t43 =>
 cndS t43 (
 ev Tryz.prog (binM .add 3 (.tmp 44) (.const (.int .i64 1)) x10 (.int .i64 1)) w_1 fun t45 w_2 =>
 E1 t45 w_2) (
 c_f129_k1 x0 x1 x10 x11 w_1)
theorem f129_l1_sk (z : Nat → Value) (K : K1) (E1 : Value → World → Prop) (c_f129_k1 : Value → Value → Value → Value → World → Prop) (w : World) : (cS (cl (cl (cl (cr (cr (cr f129_c)))))) (fun fr w => E1 (sv fr 10) w) (f129_e K) (exB 0 (fun fr w => c_f129_k1 (sv fr 0) (sv fr 1) (sv fr 10) (sv fr 11) w) nX) (frL 168 z 0) w) = f129_l1_t (z 0) (z 1) (z 10) (z 11) K E1 c_f129_k1 w := by kernel_rfl
def f129_l1 (K : K1) (x0 x1 x10 x11 : Value) (w : World) : Prop := ∃ (I : Value → World → Prop) (μ : Value → World → Nat), I x10 w ∧ ∀ (x10 : Value) (w : World), I x10 w → ∀ E1 : Value → World → Prop, (∀ (y10 : Value) (w' : World), I y10 w' → μ y10 w' < μ x10 w → E1 y10 w') → f129_l1_t x0 x1 x10 x11 K E1 (f129_k1 K) w
theorem f129_l1_rule (x0 x1 x10 x11 : Value) (K : K1) (w : World) (I : Value → World → Prop) (μ : Value → World → Nat) (h0 : I x10 w)
    (hr : ∀ (x10 : Value) (w : World), I x10 w → ∀ E1 : Value → World → Prop, (∀ (y10 : Value) (w' : World), I y10 w' → μ y10 w' < μ x10 w → E1 y10 w') → f129_l1_t x0 x1 x10 x11 K E1 (f129_k1 K) w) : f129_l1 K x0 x1 x10 x11 w := ⟨I, μ, h0, hr⟩
def f129_l1_o (K : K1) : KF := fun fr w => cS (cl (cl (cr (cr (cr f129_c))))) (fun _ _ => False) (f129_e K) (exB 0 (f129_k1_o K) nX) fr w
theorem f129_l1_b (K : K1)  (E1 : Value → World → Prop) (F1 : KF) (f0 : Fr) (hn : f0.length = 168) (f1 : Fr) (a1 : Same 374144419156711147060143317175368453031918731001855 f0 f1) (b1 : ∀ fr w, Same 70367670436864 f1 fr → E1 (sv fr 10) w → F1 fr w) (fr : Fr) (w : World) (hs : Same 70367670436864 f1 fr) (h : f129_l1_t (sv fr 0) (sv fr 1) (sv fr 10) (sv fr 11) K E1 (f129_k1 K) w) : cS (cl (cl (cl (cr (cr (cr f129_c)))))) F1 (f129_e K) (exB 0 (f129_k1_o K) nX) fr w := by
  have h1 := cast (f129_l1_sk (fun i => sv fr i) K E1 (f129_k1 K) w).symm h
  rw [show frL 168 (fun i => sv fr i) 0 = fr from frL_of (hs.len.trans (a1.len.trans hn))] at h1
  have h2 : cS (cl (cl (cl (cr (cr (cr f129_c)))))) F1 (f129_e K) (exB 0 (f129_k1_o K) nX) fr w := (codeS_mono (m := 70367670436864) (f0 := f1) (cl (cl (cl (cr (cr (cr f129_c)))))) (by kernel_rfl) (fun fr w hs h => b1 fr w hs h) (fun _ _ _ h => h) (exB_mono (fun fr w hs h => f129_k1_s K f0 hn fr w (Same.up (by kernel_rfl) a1 hs) h) (fun _ _ _ _ h => h)) fr w hs) h1
  exact cast (by kernel_rfl) h2
theorem f129_l1_s (K : K1)  (f0 : Fr) (hn : f0.length = 168) (fr : Fr) (w : World) (hs : Same 374144419156711147060143317175368453031918731001855 f0 fr) (h : f129_l1 K (sv fr 0) (sv fr 1) (sv fr 10) (sv fr 11) w) : f129_l1_o K fr w := by
  obtain ⟨I, μ, h0, hr⟩ := h
  have hL : loopS (fun E fr w => cS (cl (cl (cl (cr (cr (cr f129_c)))))) E (f129_e K) (exB 0 (f129_k1_o K) nX) fr w) fr w := by
    refine ⟨fun f' w' => Same 70367670436864 fr f' ∧ I (sv f' 10) w', fun f' w' => μ (sv f' 10) w', ⟨Same.refl _ _, h0⟩, ?_⟩
    intro f' w' hI
    have hb := hr (sv f' 10) w' hI.2 (fun y10 w2 => I y10 w2 ∧ μ y10 w2 < μ (sv f' 10) w') (fun y10 w2 a b => ⟨a, b⟩)
    rw [← hI.1.sv 0 (by kernel_rfl), ← hI.1.sv 1 (by kernel_rfl), ← hI.1.sv 11 (by kernel_rfl)] at hb
    exact f129_l1_b K _ _ f0 hn fr hs (fun f w h1 h2 => ⟨⟨h1, h2.1⟩, h2.2⟩) f' w' hI.1 hb
  exact cast (by kernel_rfl) hL
def f129_t (x0 x1 x2 x3 : Value) (K : K1) (c_f129_l1 : Value → Value → Value → Value → World → Prop) (w : World) : Prop :=
 rd Tryz.prog (Instr.indexAt 72 x0 x3) w.drew fun t18 =>
 ldR Tryz.prog 33 t18 w.drew fun t19 =>
 rd Tryz.prog (Instr.indexAt 72 x0 x1) w.drew fun t22 =>
 ldR Tryz.prog 33 t22 w.drew fun t23 =>
 rd Tryz.prog (Instr.indexAt 72 x0 x1) w.drew fun t24 =>
 stS Tryz.prog 33 t24 t19 w.drew fun w_1 =>
 rd Tryz.prog (Instr.indexAt 72 x0 x3) w_1 fun t25 =>
 stS Tryz.prog 33 t25 t23 w_1 fun w_2 =>
 ev Tryz.prog (binM .add 3 (.tmp 26) (.const (.int .i64 1)) x1 (.int .i64 1)) w_2 fun t27 w_3 =>
 ev Tryz.prog (binM .sub 3 (.tmp 28) (.const (.int .i64 1)) x2 (.int .i64 1)) w_3 fun t29 w_4 =>
 c_f129_l1 x0 x1 t27 t29 w_4
theorem f129_sk (x0 x1 x2 x3 : Value) (K : K1) (c_f129_l1 : Value → Value → Value → Value → World → Prop) (w : World) : (cS (cl f129_c) (fun fr w => cS (cl (cr f129_c)) (fun fr w => cS (cl (cr (cr f129_c))) (fun fr w => c_f129_l1 (sv fr 0) (sv fr 1) (sv fr 10) (sv fr 11) w) (f129_e K) nX fr w) (f129_e K) nX fr w) (f129_e K) nX ([x0, x1, x2, x3] ++ List.replicate (168 - 4) undef) w) = f129_t x0 x1 x2 x3 K c_f129_l1 w := by kernel_rfl
theorem f129_ok : codeOk Tryz.prog 168 f129_c = true := by kernel_rfl
theorem f129_m (K : K1) (f0 : Fr) (hn : f0.length = 168) (w : World) (h1 : cS (cl f129_c) (fun fr w => cS (cl (cr f129_c)) (fun fr w => cS (cl (cr (cr f129_c))) (fun fr w => f129_l1 K (sv fr 0) (sv fr 1) (sv fr 10) (sv fr 11) w) (f129_e K) nX fr w) (f129_e K) nX fr w) (f129_e K) nX f0 w) : cS f129_c (f129_e K) (f129_e K) nX f0 w := by
  have hs := Same.refl 374144419156711147060143317175368453031918731001855 f0
  let fr := f0
  have h2 : cS (cl f129_c) (fun fr w => cS (cl (cr f129_c)) (fun fr w => cS (cl (cr (cr f129_c))) (fun fr w => f129_l1_o K fr w) (f129_e K) nX fr w) (f129_e K) nX fr w) (f129_e K) nX fr w := (codeS_mono (m := 374144419156711147060143317175368453031918731001855) (f0 := f0) (cl f129_c) (by kernel_rfl) (fun fr w hs => codeS_mono (m := 374144419156711147060143317175368453031918731001855) (f0 := f0) (cl (cr f129_c)) (by kernel_rfl) (fun fr w hs => codeS_mono (m := 374144419156711147060143317175368453031918731001855) (f0 := f0) (cl (cr (cr f129_c))) (by kernel_rfl) (fun fr w hs => (fun h => f129_l1_s K f0 hn fr w hs h)) (fun _ _ _ h => h) (fun _ _ _ _ h => h) fr w hs) (fun _ _ _ h => h) (fun _ _ _ _ h => h) fr w hs) (fun _ _ _ h => h) (fun _ _ _ _ h => h) fr w hs) h1
  exact cast (by kernel_rfl) h2
theorem f129_call (x0 x1 x2 x3 : Value) (K : K1) (w : World) (h : f129_t x0 x1 x2 x3 K (f129_l1 K) w) : callS Tryz.prog 129 #[x0, x1, x2, x3] w K :=
  calls_of_codeS (args := [x0, x1, x2, x3]) mixed Tryz.func129 (show Tryz.f129.body = some f129_c from rfl) rfl (show Tryz.f129.results = f129_rs.toArray from rfl) f129_ok (by simp) (f129_m K _ (by simp) w (cast (f129_sk x0 x1 x2 x3 K (f129_l1 K) w).symm h))
noncomputable def f131_c : Code := (Tryz.f131.body).getD .skip
def f131_rs : List ResultVar := [.tmp 2]
abbrev f131_e (K : K1) : KF := endK Tryz.prog f131_rs K
def f131_k3_t (x0 x2 : Value) (K : K1) (w : World) : Prop :=
 ev Tryz.prog (convert 33 5 x0) w fun t21 w_1 =>
 ev Tryz.prog (Instr.index 9 (.string { data := #[0, 1, 2, 2, 3, 3, 3, 3, 4, 4, 4, 4, 4, 4, 4, 4, 5, 5, 5, 5, 5, 5, 5, 5, 5, 5, 5, 5, 5, 5, 5, 5, 6, 6, 6, 6, 6, 6, 6, 6, 6, 6, 6, 6, 6, 6, 6, 6, 6, 6, 6, 6, 6, 6, 6, 6, 6, 6, 6, 6, 6, 6, 6, 6, 7, 7, 7, 7, 7, 7, 7, 7, 7, 7, 7, 7, 7, 7, 7, 7, 7, 7, 7, 7, 7, 7, 7, 7, 7, 7, 7, 7, 7, 7, 7, 7, 7, 7, 7, 7, 7, 7, 7, 7, 7, 7, 7, 7, 7, 7, 7, 7, 7, 7, 7, 7, 7, 7, 7, 7, 7, 7, 7, 7, 7, 7, 7, 7, 8, 8, 8, 8, 8, 8, 8, 8, 8, 8, 8, 8, 8, 8, 8, 8, 8, 8, 8, 8, 8, 8, 8, 8, 8, 8, 8, 8, 8, 8, 8, 8, 8, 8, 8, 8, 8, 8, 8, 8, 8, 8, 8, 8, 8, 8, 8, 8, 8, 8, 8, 8, 8, 8, 8, 8, 8, 8, 8, 8, 8, 8, 8, 8, 8, 8, 8, 8, 8, 8, 8, 8, 8, 8, 8, 8, 8, 8, 8, 8, 8, 8, 8, 8, 8, 8, 8, 8, 8, 8, 8, 8, 8, 8, 8, 8, 8, 8, 8, 8, 8, 8, 8, 8, 8, 8, 8, 8, 8, 8, 8, 8, 8, 8, 8, 8, 8, 8, 8, 8, 8, 8, 8, 8, 8, 8, 8, 8] }) t21) w_1 fun t22 w_2 =>
 ev Tryz.prog (convert 5 3 t22) w_2 fun t23 w_3 =>
 ev Tryz.prog (binM .add 3 (.tmp 19) (.tmp 23) x2 t23) w_3 fun t24 w_4 =>
 K t24 w_4
theorem f131_k3_sk (z : Nat → Value) (K : K1) (w : World) : (cS (cr (cr (cr (cr f131_c)))) (f131_e K) (f131_e K) nX (frL 25 z 0) w) = f131_k3_t (z 0) (z 2) K w := by kernel_rfl
def f131_k3 (K : K1) (x0 x2 : Value) (w : World) : Prop := f131_k3_t x0 x2 K w
theorem f131_k3_eq (K : K1) (x0 x2 : Value) (w : World) : f131_k3 K x0 x2 w = f131_k3_t x0 x2 K w := rfl
def f131_k3_o (K : K1) : KF := fun fr w => cS (cr (cr (cr (cr f131_c)))) (f131_e K) (f131_e K) nX fr w
theorem f131_k3_s (K : K1)  (f0 : Fr) (hn : f0.length = 25) (fr : Fr) (w : World) (hs : Same 33554431 f0 fr) (h : f131_k3 K (sv fr 0) (sv fr 2) w) : f131_k3_o K fr w := by
  have h1 := cast (f131_k3_sk (fun i => sv fr i) K w).symm h
  rw [show frL 25 (fun i => sv fr i) 0 = fr from frL_of (hs.len.trans hn)] at h1
  have h2 : cS (cr (cr (cr (cr f131_c)))) (f131_e K) (f131_e K) nX fr w := (codeS_mono (m := 33554431) (f0 := f0) (cr (cr (cr (cr f131_c)))) (by kernel_rfl) (fun _ _ _ h => h) (fun _ _ _ h => h) (fun _ _ _ _ h => h) fr w hs) h1
  exact cast (by kernel_rfl) h2
def f131_k2_t (x0 x2 : Value) (K : K1) (c_f131_k3 : Value → Value → World → Prop) (w : World) : Prop :=
 ev Tryz.prog (binM .geq 33 (.tmp 13) (.const (.int .u64 ((256 : Nat) : Int))) x0 (.int .u64 ((256 : Nat) : Int))) w fun t14 w_1 =>
 cndS t14 (
 ev Tryz.prog (binM .shr 33 (.tmp 15) (.const (.int .u64 ((8 : Nat) : Int))) x0 (.int .u64 ((8 : Nat) : Int))) w_1 fun t16 w_2 =>
 ev Tryz.prog (binM .add 3 (.tmp 17) (.const (.int .i64 8)) x2 (.int .i64 8)) w_2 fun t18 w_3 =>
 c_f131_k3 t16 t18 w_3) (
 c_f131_k3 x0 x2 w_1)
theorem f131_k2_sk (z : Nat → Value) (K : K1) (c_f131_k3 : Value → Value → World → Prop) (w : World) : (cS (cl (cr (cr (cr f131_c)))) (fun fr w => c_f131_k3 (sv fr 0) (sv fr 2) w) (f131_e K) nX (frL 25 z 0) w) = f131_k2_t (z 0) (z 2) K c_f131_k3 w := by kernel_rfl
def f131_k2 (K : K1) (x0 x2 : Value) (w : World) : Prop := f131_k2_t x0 x2 K (f131_k3 K) w
theorem f131_k2_eq (K : K1) (x0 x2 : Value) (w : World) : f131_k2 K x0 x2 w = f131_k2_t x0 x2 K (f131_k3 K) w := rfl
def f131_k2_o (K : K1) : KF := fun fr w => cS (cr (cr (cr f131_c))) (f131_e K) (f131_e K) nX fr w
theorem f131_k2_s (K : K1)  (f0 : Fr) (hn : f0.length = 25) (fr : Fr) (w : World) (hs : Same 33554431 f0 fr) (h : f131_k2 K (sv fr 0) (sv fr 2) w) : f131_k2_o K fr w := by
  have h1 := cast (f131_k2_sk (fun i => sv fr i) K (f131_k3 K) w).symm h
  rw [show frL 25 (fun i => sv fr i) 0 = fr from frL_of (hs.len.trans hn)] at h1
  have h2 : cS (cl (cr (cr (cr f131_c)))) (f131_k3_o K) (f131_e K) nX fr w := (codeS_mono (m := 33554431) (f0 := f0) (cl (cr (cr (cr f131_c)))) (by kernel_rfl) (fun fr w hs h => f131_k3_s K f0 hn fr w hs h) (fun _ _ _ h => h) (fun _ _ _ _ h => h) fr w hs) h1
  exact cast (by kernel_rfl) h2
def f131_k1_t (x0 x2 : Value) (K : K1) (c_f131_k2 : Value → Value → World → Prop) (w : World) : Prop :=
 ev Tryz.prog (binM .geq 33 (.tmp 7) (.const (.int .u64 ((65536 : Nat) : Int))) x0 (.int .u64 ((65536 : Nat) : Int))) w fun t8 w_1 =>
 cndS t8 (
 ev Tryz.prog (binM .shr 33 (.tmp 9) (.const (.int .u64 ((16 : Nat) : Int))) x0 (.int .u64 ((16 : Nat) : Int))) w_1 fun t10 w_2 =>
 ev Tryz.prog (binM .add 3 (.tmp 11) (.const (.int .i64 16)) x2 (.int .i64 16)) w_2 fun t12 w_3 =>
 c_f131_k2 t10 t12 w_3) (
 c_f131_k2 x0 x2 w_1)
theorem f131_k1_sk (z : Nat → Value) (K : K1) (c_f131_k2 : Value → Value → World → Prop) (w : World) : (cS (cl (cr (cr f131_c))) (fun fr w => c_f131_k2 (sv fr 0) (sv fr 2) w) (f131_e K) nX (frL 25 z 0) w) = f131_k1_t (z 0) (z 2) K c_f131_k2 w := by kernel_rfl
def f131_k1 (K : K1) (x0 x2 : Value) (w : World) : Prop := f131_k1_t x0 x2 K (f131_k2 K) w
theorem f131_k1_eq (K : K1) (x0 x2 : Value) (w : World) : f131_k1 K x0 x2 w = f131_k1_t x0 x2 K (f131_k2 K) w := rfl
def f131_k1_o (K : K1) : KF := fun fr w => cS (cr (cr f131_c)) (f131_e K) (f131_e K) nX fr w
theorem f131_k1_s (K : K1)  (f0 : Fr) (hn : f0.length = 25) (fr : Fr) (w : World) (hs : Same 33554431 f0 fr) (h : f131_k1 K (sv fr 0) (sv fr 2) w) : f131_k1_o K fr w := by
  have h1 := cast (f131_k1_sk (fun i => sv fr i) K (f131_k2 K) w).symm h
  rw [show frL 25 (fun i => sv fr i) 0 = fr from frL_of (hs.len.trans hn)] at h1
  have h2 : cS (cl (cr (cr f131_c))) (f131_k2_o K) (f131_e K) nX fr w := (codeS_mono (m := 33554431) (f0 := f0) (cl (cr (cr f131_c))) (by kernel_rfl) (fun fr w hs h => f131_k2_s K f0 hn fr w hs h) (fun _ _ _ h => h) (fun _ _ _ _ h => h) fr w hs) h1
  exact cast (by kernel_rfl) h2
def f131_t (x0 : Value) (K : K1) (c_f131_k1 : Value → Value → World → Prop) (w : World) : Prop :=
 ev Tryz.prog (binM .geq 33 (.tmp 3) (.const (.int .u64 ((4294967296 : Nat) : Int))) x0 (.int .u64 ((4294967296 : Nat) : Int))) w fun t4 w_1 =>
 cndS t4 (
 ev Tryz.prog (binM .shr 33 (.tmp 5) (.const (.int .u64 ((32 : Nat) : Int))) x0 (.int .u64 ((32 : Nat) : Int))) w_1 fun t6 w_2 =>
 c_f131_k1 t6 (.int .i64 32) w_2) (
 c_f131_k1 x0 (.int .i64 0) w_1)
theorem f131_sk (x0 : Value) (K : K1) (c_f131_k1 : Value → Value → World → Prop) (w : World) : (cS (cl f131_c) (fun fr w => cS (cl (cr f131_c)) (fun fr w => c_f131_k1 (sv fr 0) (sv fr 2) w) (f131_e K) nX fr w) (f131_e K) nX ([x0] ++ List.replicate (25 - 1) undef) w) = f131_t x0 K c_f131_k1 w := by kernel_rfl
theorem f131_ok : codeOk Tryz.prog 25 f131_c = true := by kernel_rfl
theorem f131_m (K : K1) (f0 : Fr) (hn : f0.length = 25) (w : World) (h1 : cS (cl f131_c) (fun fr w => cS (cl (cr f131_c)) (fun fr w => f131_k1 K (sv fr 0) (sv fr 2) w) (f131_e K) nX fr w) (f131_e K) nX f0 w) : cS f131_c (f131_e K) (f131_e K) nX f0 w := by
  have hs := Same.refl 33554431 f0
  let fr := f0
  have h2 : cS (cl f131_c) (fun fr w => cS (cl (cr f131_c)) (f131_k1_o K) (f131_e K) nX fr w) (f131_e K) nX fr w := (codeS_mono (m := 33554431) (f0 := f0) (cl f131_c) (by kernel_rfl) (fun fr w hs => codeS_mono (m := 33554431) (f0 := f0) (cl (cr f131_c)) (by kernel_rfl) (fun fr w hs h => f131_k1_s K f0 hn fr w hs h) (fun _ _ _ h => h) (fun _ _ _ _ h => h) fr w hs) (fun _ _ _ h => h) (fun _ _ _ _ h => h) fr w hs) h1
  exact cast (by kernel_rfl) h2
theorem f131_call (x0 : Value) (K : K1) (w : World) (h : f131_t x0 K (f131_k1 K) w) : callS Tryz.prog 131 #[x0] w K :=
  calls_of_codeS (args := [x0]) mixed Tryz.func131 (show Tryz.f131.body = some f131_c from rfl) rfl (show Tryz.f131.results = f131_rs.toArray from rfl) f131_ok (by simp) (f131_m K _ (by simp) w (cast (f131_sk x0 K (f131_k1 K) w).symm h))
noncomputable def f135_c : Code := (Tryz.f135.body).getD .skip
def f135_rs : List ResultVar := []
abbrev f135_e (K : K1) : KF := endK Tryz.prog f135_rs K
def f135_k1_t (x0 x2 x3 x8 x9 : Value) (K : K1) (E1 : Value → World → Prop) (w : World) : Prop :=
 rd Tryz.prog (binM .add 3 (.tmp 40) (.tmp 41) x3 x8) w.drew fun t42 =>
 rd Tryz.prog (Instr.indexAt 72 x0 t42) w.drew fun t43 =>
 ldR Tryz.prog 33 t43 w.drew fun t44 =>
 rd Tryz.prog (binM .add 3 (.tmp 46) (.tmp 47) x3 x9) w.drew fun t48 =>
 rd Tryz.prog (Instr.indexAt 72 x0 t48) w.drew fun t49 =>
 ldR Tryz.prog 33 t49 w.drew fun t50 =>
 callS Tryz.prog 127 (pA #[t44, t50]) w.drew fun t51 w_1 =>
 rd Tryz.prog (Op.unary .not t51) w_1 fun t52 =>
 cndS t52 (
 K (.tuple #[]) w_1) (
 rd Tryz.prog (binM .add 3 (.tmp 54) (.tmp 55) x3 x8) w_1.drew fun t56 =>
 rd Tryz.prog (binM .add 3 (.tmp 58) (.tmp 59) x3 x9) w_1.drew fun t60 =>
 rd Tryz.prog (binM .add 3 (.tmp 62) (.tmp 63) x3 x9) w_1.drew fun t64 =>
 rd Tryz.prog (Instr.indexAt 72 x0 t64) w_1.drew fun t65 =>
 ldR Tryz.prog 33 t65 w_1.drew fun t66 =>
 rd Tryz.prog (binM .add 3 (.tmp 68) (.tmp 69) x3 x8) w_1.drew fun t70 =>
 rd Tryz.prog (Instr.indexAt 72 x0 t70) w_1.drew fun t71 =>
 ldR Tryz.prog 33 t71 w_1.drew fun t72 =>
 rd Tryz.prog (Instr.indexAt 72 x0 t56) w_1.drew fun t73 =>
 stS Tryz.prog 33 t73 t66 w_1.drew fun w_2 =>
 (ag Tryz.prog (binM .add 3 (.tmp 58) (.tmp 59) x3 x9) w_2 t60) ∧
 rd Tryz.prog (Instr.indexAt 72 x0 t60) w_2 fun t74 =>
 stS Tryz.prog 33 t74 t72 w_2 fun w_3 =>
 E1 x9 w_3)
theorem f135_k1_sk (z : Nat → Value) (K : K1) (E1 : Value → World → Prop) (w : World) : (cS (cr (cr (cr (cl (cl (cl (cr f135_c))))))) (fun fr w => E1 (sv fr 8) w) (f135_e K) (exB 1 (fun fr w => E1 (sv fr 8) w) (exB 0 (f135_e K) nX)) (frL 76 z 0) w) = f135_k1_t (z 0) (z 2) (z 3) (z 8) (z 9) K E1 w := by kernel_rfl
def f135_k1 (K : K1) (E1 : Value → World → Prop) (x0 x2 x3 x8 x9 : Value) (w : World) : Prop := f135_k1_t x0 x2 x3 x8 x9 K E1 w
theorem f135_k1_eq (K : K1) (E1 : Value → World → Prop) (x0 x2 x3 x8 x9 : Value) (w : World) : f135_k1 K E1 x0 x2 x3 x8 x9 w = f135_k1_t x0 x2 x3 x8 x9 K E1 w := rfl
def f135_k1_o (K : K1) (F1 : KF) : KF := fun fr w => cS (cr (cr (cr (cl (cl (cl (cr f135_c))))))) F1 (f135_e K) (exB 1 F1 (exB 0 (f135_e K) nX)) fr w
theorem f135_k1_s (K : K1)  (E1 : Value → World → Prop) (F1 : KF) (f0 : Fr) (hn : f0.length = 76) (f1 : Fr) (a1 : Same 75557863725914323419135 f0 f1) (b1 : ∀ fr w, Same 75557863725914323417856 f1 fr → E1 (sv fr 8) w → F1 fr w) (fr : Fr) (w : World) (hs : Same 75557863725914323417856 f1 fr) (h : f135_k1 K E1 (sv fr 0) (sv fr 2) (sv fr 3) (sv fr 8) (sv fr 9) w) : f135_k1_o K F1 fr w := by
  have h1 := cast (f135_k1_sk (fun i => sv fr i) K E1 w).symm h
  rw [show frL 76 (fun i => sv fr i) 0 = fr from frL_of (hs.len.trans (a1.len.trans hn))] at h1
  have h2 : cS (cr (cr (cr (cl (cl (cl (cr f135_c))))))) F1 (f135_e K) (exB 1 F1 (exB 0 (f135_e K) nX)) fr w := (codeS_mono (m := 75557863725914323417856) (f0 := f1) (cr (cr (cr (cl (cl (cl (cr f135_c))))))) (by kernel_rfl) (fun fr w hs h => b1 fr w hs h) (fun _ _ _ h => h) (exB_mono (fun fr w hs h => b1 fr w hs h) (exB_mono (fun _ _ _ h => h) (fun _ _ _ _ h => h))) fr w hs) h1
  exact cast (by kernel_rfl) h2
def f135_l1_t (x0 x2 x3 x8 : Value) (K : K1) (E1 : Value → World → Prop) (c_f135_k1 : Value → Value → Value → Value → Value → World → Prop) (w : World) : Prop :=
 ev Tryz.prog (binM .mul 3 (.const (.int .i64 2)) (.tmp 11) (.int .i64 2) x8) w fun t12 w_1 =>
 ev Tryz.prog (binM .add 3 (.tmp 12) (.const (.int .i64 1)) t12 (.int .i64 1)) w_1 fun t13 w_2 =>
 ev Tryz.prog (binM .geq 3 (.tmp 14) (.tmp 15) t13 x2) w_2 fun t16 w_3 =>
 cndS t16 (
 K (.tuple #[]) w_3) (
 rd Tryz.prog (binM .add 3 (.tmp 17) (.const (.int .i64 1)) t13 (.int .i64 1)) w_3.drew fun t18 =>
 rd Tryz.prog (binM .lss 3 (.tmp 18) (.tmp 19) t18 x2) w_3.drew fun t20 =>
 gdR t20 true (fun k => k x0) fun t22 =>
 gdR t20 true (fun k => k x3) fun t23 =>
 gdR t20 true (fun k => k t13) fun t24 =>
 gdR t20 true (fun k => rd Tryz.prog (binM .add 3 (.tmp 23) (.tmp 24) t23 t24) w_3.drew k) fun t25 =>
 gdR t20 true (fun k => rd Tryz.prog (Instr.indexAt 72 t22 t25) w_3.drew k) fun t26 =>
 gdR t20 true (fun k => ldR Tryz.prog 33 t26 w_3.drew k) fun t27 =>
 gdR t20 true (fun k => k x0) fun t28 =>
 gdR t20 true (fun k => k x3) fun t29 =>
 gdR t20 true (fun k => k t13) fun t30 =>
 gdR t20 true (fun k => rd Tryz.prog (binM .add 3 (.tmp 29) (.tmp 30) t29 t30) w_3.drew k) fun t31 =>
 gdR t20 true (fun k => rd Tryz.prog (binM .add 3 (.tmp 31) (.const (.int .i64 1)) t31 (.int .i64 1)) w_3.drew k) fun t32 =>
 gdR t20 true (fun k => rd Tryz.prog (Instr.indexAt 72 t28 t32) w_3.drew k) fun t33 =>
 gdR t20 true (fun k => ldR Tryz.prog 33 t33 w_3.drew k) fun t34 =>
 gd t20 true (fun k => callS Tryz.prog 127 (pA #[t27, t34]) w_3.drew k) w_3.drew fun t35 w_4 =>
 pickV t20 t35 (.bool false) fun t36 =>
 cndS t36 (
 ev Tryz.prog (binM .add 3 (.tmp 37) (.const (.int .i64 1)) t13 (.int .i64 1)) w_4 fun t38 w_5 =>
 c_f135_k1 x0 x2 x3 x8 t38 w_5) (
 c_f135_k1 x0 x2 x3 x8 t13 w_4))
theorem f135_l1_sk (z : Nat → Value) (K : K1) (E1 : Value → World → Prop) (c_f135_k1 : Value → Value → Value → Value → Value → World → Prop) (w : World) : (cS (cl (cl (cl (cl (cr f135_c))))) (fun fr w => cS (cl (cr (cl (cl (cl (cr f135_c)))))) (fun fr w => cS (cl (cr (cr (cl (cl (cl (cr f135_c))))))) (fun fr w => c_f135_k1 (sv fr 0) (sv fr 2) (sv fr 3) (sv fr 8) (sv fr 9) w) (f135_e K) (exB 1 (fun fr w => E1 (sv fr 8) w) (exB 0 (f135_e K) nX)) fr w) (f135_e K) (exB 1 (fun fr w => E1 (sv fr 8) w) (exB 0 (f135_e K) nX)) fr w) (f135_e K) (exB 1 (fun fr w => E1 (sv fr 8) w) (exB 0 (f135_e K) nX)) (frL 76 z 0) w) = f135_l1_t (z 0) (z 2) (z 3) (z 8) K E1 c_f135_k1 w := by kernel_rfl
def f135_l1 (K : K1) (x0 x2 x3 x8 : Value) (w : World) : Prop := ∃ (I : Value → World → Prop) (μ : Value → World → Nat), I x8 w ∧ ∀ (x8 : Value) (w : World), I x8 w → ∀ E1 : Value → World → Prop, (∀ (y8 : Value) (w' : World), I y8 w' → μ y8 w' < μ x8 w → E1 y8 w') → f135_l1_t x0 x2 x3 x8 K E1 (f135_k1 K E1) w
theorem f135_l1_rule (x0 x2 x3 x8 : Value) (K : K1) (w : World) (I : Value → World → Prop) (μ : Value → World → Nat) (h0 : I x8 w)
    (hr : ∀ (x8 : Value) (w : World), I x8 w → ∀ E1 : Value → World → Prop, (∀ (y8 : Value) (w' : World), I y8 w' → μ y8 w' < μ x8 w → E1 y8 w') → f135_l1_t x0 x2 x3 x8 K E1 (f135_k1 K E1) w) : f135_l1 K x0 x2 x3 x8 w := ⟨I, μ, h0, hr⟩
def f135_l1_o (K : K1) : KF := fun fr w => cS (cl (cr f135_c)) (fun _ _ => False) (f135_e K) (exB 0 (f135_e K) nX) fr w
theorem f135_l1_b (K : K1)  (E1 : Value → World → Prop) (F1 : KF) (f0 : Fr) (hn : f0.length = 76) (f1 : Fr) (a1 : Same 75557863725914323419135 f0 f1) (b1 : ∀ fr w, Same 75557863725914323417856 f1 fr → E1 (sv fr 8) w → F1 fr w) (fr : Fr) (w : World) (hs : Same 75557863725914323417856 f1 fr) (h : f135_l1_t (sv fr 0) (sv fr 2) (sv fr 3) (sv fr 8) K E1 (f135_k1 K E1) w) : cS (cl (cl (cr f135_c))) F1 (f135_e K) (exB 0 (f135_e K) nX) fr w := by
  have h1 := cast (f135_l1_sk (fun i => sv fr i) K E1 (f135_k1 K E1) w).symm h
  rw [show frL 76 (fun i => sv fr i) 0 = fr from frL_of (hs.len.trans (a1.len.trans hn))] at h1
  have h2 : cS (cl (cl (cl (cl (cr f135_c))))) (fun fr w => cS (cl (cr (cl (cl (cl (cr f135_c)))))) (fun fr w => cS (cl (cr (cr (cl (cl (cl (cr f135_c))))))) (f135_k1_o K F1) (f135_e K) (exB 1 F1 (exB 0 (f135_e K) nX)) fr w) (f135_e K) (exB 1 F1 (exB 0 (f135_e K) nX)) fr w) (f135_e K) (exB 1 F1 (exB 0 (f135_e K) nX)) fr w := (codeS_mono (m := 75557863725914323417856) (f0 := f1) (cl (cl (cl (cl (cr f135_c))))) (by kernel_rfl) (fun fr w hs => codeS_mono (m := 75557863725914323417856) (f0 := f1) (cl (cr (cl (cl (cl (cr f135_c)))))) (by kernel_rfl) (fun fr w hs => codeS_mono (m := 75557863725914323417856) (f0 := f1) (cl (cr (cr (cl (cl (cl (cr f135_c))))))) (by kernel_rfl) (fun fr w hs h => f135_k1_s K E1 F1 f0 hn f1 a1 b1 fr w hs h) (fun _ _ _ h => h) (exB_mono (fun fr w hs h => b1 fr w hs h) (exB_mono (fun _ _ _ h => h) (fun _ _ _ _ h => h))) fr w hs) (fun _ _ _ h => h) (exB_mono (fun fr w hs h => b1 fr w hs h) (exB_mono (fun _ _ _ h => h) (fun _ _ _ _ h => h))) fr w hs) (fun _ _ _ h => h) (exB_mono (fun fr w hs h => b1 fr w hs h) (exB_mono (fun _ _ _ h => h) (fun _ _ _ _ h => h))) fr w hs) h1
  exact cast (by kernel_rfl) h2
theorem f135_l1_s (K : K1)  (f0 : Fr) (hn : f0.length = 76) (fr : Fr) (w : World) (hs : Same 75557863725914323419135 f0 fr) (h : f135_l1 K (sv fr 0) (sv fr 2) (sv fr 3) (sv fr 8) w) : f135_l1_o K fr w := by
  obtain ⟨I, μ, h0, hr⟩ := h
  have hL : loopS (fun E fr w => cS (cl (cl (cr f135_c))) E (f135_e K) (exB 0 (f135_e K) nX) fr w) fr w := by
    refine ⟨fun f' w' => Same 75557863725914323417856 fr f' ∧ I (sv f' 8) w', fun f' w' => μ (sv f' 8) w', ⟨Same.refl _ _, h0⟩, ?_⟩
    intro f' w' hI
    have hb := hr (sv f' 8) w' hI.2 (fun y8 w2 => I y8 w2 ∧ μ y8 w2 < μ (sv f' 8) w') (fun y8 w2 a b => ⟨a, b⟩)
    rw [← hI.1.sv 0 (by kernel_rfl), ← hI.1.sv 2 (by kernel_rfl), ← hI.1.sv 3 (by kernel_rfl)] at hb
    exact f135_l1_b K _ _ f0 hn fr hs (fun f w h1 h2 => ⟨⟨h1, h2.1⟩, h2.2⟩) f' w' hI.1 hb
  exact cast (by kernel_rfl) hL
def f135_t (x0 x1 x2 x3 : Value) (K : K1) (c_f135_l1 : Value → Value → Value → Value → World → Prop) (w : World) : Prop :=
 c_f135_l1 x0 x2 x3 x1 w
theorem f135_sk (x0 x1 x2 x3 : Value) (K : K1) (c_f135_l1 : Value → Value → Value → Value → World → Prop) (w : World) : (cS (cl f135_c) (fun fr w => c_f135_l1 (sv fr 0) (sv fr 2) (sv fr 3) (sv fr 8) w) (f135_e K) nX ([x0, x1, x2, x3] ++ List.replicate (76 - 4) undef) w) = f135_t x0 x1 x2 x3 K c_f135_l1 w := by kernel_rfl
theorem f135_ok : codeOk Tryz.prog 76 f135_c = true := by kernel_rfl
theorem f135_m (K : K1) (f0 : Fr) (hn : f0.length = 76) (w : World) (h1 : cS (cl f135_c) (fun fr w => f135_l1 K (sv fr 0) (sv fr 2) (sv fr 3) (sv fr 8) w) (f135_e K) nX f0 w) : cS f135_c (f135_e K) (f135_e K) nX f0 w := by
  have hs := Same.refl 75557863725914323419135 f0
  let fr := f0
  have h2 : cS (cl f135_c) (fun fr w => f135_l1_o K fr w) (f135_e K) nX fr w := (codeS_mono (m := 75557863725914323419135) (f0 := f0) (cl f135_c) (by kernel_rfl) (fun fr w hs => (fun h => f135_l1_s K f0 hn fr w hs h)) (fun _ _ _ h => h) (fun _ _ _ _ h => h) fr w hs) h1
  exact cast (by kernel_rfl) h2
theorem f135_call (x0 x1 x2 x3 : Value) (K : K1) (w : World) (h : f135_t x0 x1 x2 x3 K (f135_l1 K) w) : callS Tryz.prog 135 #[x0, x1, x2, x3] w K :=
  calls_of_codeS (args := [x0, x1, x2, x3]) mixed Tryz.func135 (show Tryz.f135.body = some f135_c from rfl) rfl (show Tryz.f135.results = f135_rs.toArray from rfl) f135_ok (by simp) (f135_m K _ (by simp) w (cast (f135_sk x0 x1 x2 x3 K (f135_l1 K) w).symm h))
noncomputable def f136_c : Code := (Tryz.f136.body).getD .skip
def f136_rs : List ResultVar := [.tmp 2]
abbrev f136_e (K : K1) : KF := endK Tryz.prog f136_rs K
def f136_t (x0 : Value) (K : K1) (w : World) : Prop :=
 ev Tryz.prog (convert 3 100 x0) w fun t4 w_1 =>
 callS Tryz.prog 108 (pA #[t4]) w_1 fun t5 w_2 =>
 ev Tryz.prog (binM .shl 100 (.const (.int .u64 ((1 : Nat) : Int))) (.tmp 5) (.int .u64 ((1 : Nat) : Int)) t5) w_2 fun t6 w_3 =>
 K t6 w_3
theorem f136_sk (x0 : Value) (K : K1) (w : World) : (cS f136_c (f136_e K) (f136_e K) nX ([x0] ++ List.replicate (7 - 1) undef) w) = f136_t x0 K w := by kernel_rfl
theorem f136_ok : codeOk Tryz.prog 7 f136_c = true := by kernel_rfl
theorem f136_call (x0 : Value) (K : K1) (w : World) (h : f136_t x0 K w) : callS Tryz.prog 136 #[x0] w K :=
  calls_of_codeS (args := [x0]) mixed Tryz.func136 (show Tryz.f136.body = some f136_c from rfl) rfl (show Tryz.f136.results = f136_rs.toArray from rfl) f136_ok (by simp) (cast ((Eq.trans (by kernel_rfl) (f136_sk x0 K w) : (cS f136_c (f136_e K) (f136_e K) nX ([x0] ++ List.replicate (7 - 1) undef) w) = f136_t x0 K w)).symm h)
noncomputable def f137_c : Code := (Tryz.f137.body).getD .skip
def f137_rs : List ResultVar := [.tmp 2]
abbrev f137_e (K : K1) : KF := endK Tryz.prog f137_rs K
def f137_t (x0 : Value) (K : K1) (w : World) : Prop :=
 nilR Tryz.prog x0 w.drew fun t4 =>
 ldR Tryz.prog 195 t4 w.drew fun t5 =>
 nilR Tryz.prog x0 w.drew fun t7 =>
 ldR Tryz.prog 195 t7 w.drew fun t8 =>
 rd Tryz.prog (binM .shl 195 (.tmp 8) (.const (.int .u64 ((13 : Nat) : Int))) t8 (.int .u64 ((13 : Nat) : Int))) w.drew fun t9 =>
 rd Tryz.prog (binM .xor 195 (.tmp 5) (.tmp 9) t5 t9) w.drew fun t10 =>
 nilR Tryz.prog x0 w.drew fun t11 =>
 stS Tryz.prog 195 t11 t10 w.drew fun w_1 =>
 nilR Tryz.prog x0 w_1.drew fun t13 =>
 ldR Tryz.prog 195 t13 w_1.drew fun t14 =>
 nilR Tryz.prog x0 w_1.drew fun t16 =>
 ldR Tryz.prog 195 t16 w_1.drew fun t17 =>
 rd Tryz.prog (binM .shr 195 (.tmp 17) (.const (.int .u64 ((7 : Nat) : Int))) t17 (.int .u64 ((7 : Nat) : Int))) w_1.drew fun t18 =>
 rd Tryz.prog (binM .xor 195 (.tmp 14) (.tmp 18) t14 t18) w_1.drew fun t19 =>
 nilR Tryz.prog x0 w_1.drew fun t20 =>
 stS Tryz.prog 195 t20 t19 w_1.drew fun w_2 =>
 nilR Tryz.prog x0 w_2.drew fun t22 =>
 ldR Tryz.prog 195 t22 w_2.drew fun t23 =>
 nilR Tryz.prog x0 w_2.drew fun t25 =>
 ldR Tryz.prog 195 t25 w_2.drew fun t26 =>
 rd Tryz.prog (binM .shl 195 (.tmp 26) (.const (.int .u64 ((17 : Nat) : Int))) t26 (.int .u64 ((17 : Nat) : Int))) w_2.drew fun t27 =>
 rd Tryz.prog (binM .xor 195 (.tmp 23) (.tmp 27) t23 t27) w_2.drew fun t28 =>
 nilR Tryz.prog x0 w_2.drew fun t29 =>
 stS Tryz.prog 195 t29 t28 w_2.drew fun w_3 =>
 nilS Tryz.prog x0 w_3 fun t31 w_4 =>
 ldS Tryz.prog 195 t31 w_4 fun t32 w_5 =>
 K t32 w_5
theorem f137_sk (x0 : Value) (K : K1) (w : World) : (cS f137_c (f137_e K) (f137_e K) nX ([x0] ++ List.replicate (33 - 1) undef) w) = f137_t x0 K w := by kernel_rfl
theorem f137_ok : codeOk Tryz.prog 33 f137_c = true := by kernel_rfl
theorem f137_call (x0 : Value) (K : K1) (w : World) (h : f137_t x0 K w) : callS Tryz.prog 137 #[x0] w K :=
  calls_of_codeS (args := [x0]) mixed Tryz.func137 (show Tryz.f137.body = some f137_c from rfl) rfl (show Tryz.f137.results = f137_rs.toArray from rfl) f137_ok (by simp) (cast ((Eq.trans (by kernel_rfl) (f137_sk x0 K w) : (cS f137_c (f137_e K) (f137_e K) nX ([x0] ++ List.replicate (33 - 1) undef) w) = f137_t x0 K w)).symm h)
noncomputable def f138_c : Code := (Tryz.f138.body).getD .skip
def f138_rs : List ResultVar := [.tmp 6]
abbrev f138_e (K : K1) : KF := endK Tryz.prog f138_rs K
def f138_t (x0 x1 x2 : Value) (K : K1) (w : World) : Prop :=
 ev Tryz.prog (binM .sub 3 (.tmp 8) (.const (.int .i64 1)) x1 (.int .i64 1)) w fun t9 w_1 =>
 ev Tryz.prog (binM .add 3 (.tmp 11) (.const (.int .i64 1)) x1 (.int .i64 1)) w_1 fun t12 w_2 =>
 callS Tryz.prog 139 (pA #[x0, t9, x1, t12, x2]) w_2 fun t14 w_3 =>
 K t14 w_3
theorem f138_sk (x0 x1 x2 : Value) (K : K1) (w : World) : (cS f138_c (f138_e K) (f138_e K) nX ([x0, x1, x2] ++ List.replicate (15 - 3) undef) w) = f138_t x0 x1 x2 K w := by kernel_rfl
theorem f138_ok : codeOk Tryz.prog 15 f138_c = true := by kernel_rfl
theorem f138_call (x0 x1 x2 : Value) (K : K1) (w : World) (h : f138_t x0 x1 x2 K w) : callS Tryz.prog 138 #[x0, x1, x2] w K :=
  calls_of_codeS (args := [x0, x1, x2]) mixed Tryz.func138 (show Tryz.f138.body = some f138_c from rfl) rfl (show Tryz.f138.results = f138_rs.toArray from rfl) f138_ok (by simp) (cast ((Eq.trans (by kernel_rfl) (f138_sk x0 x1 x2 K w) : (cS f138_c (f138_e K) (f138_e K) nX ([x0, x1, x2] ++ List.replicate (15 - 3) undef) w) = f138_t x0 x1 x2 K w)).symm h)
noncomputable def f139_c : Code := (Tryz.f139.body).getD .skip
def f139_rs : List ResultVar := [.tmp 10]
abbrev f139_e (K : K1) : KF := endK Tryz.prog f139_rs K
def f139_t (x0 x1 x2 x3 x4 : Value) (K : K1) (w : World) : Prop :=
 callS Tryz.prog 142 (pA #[x0, x1, x2, x4]) w fun t16 w_1 =>
 ev Tryz.prog (Instr.extract t16 0) w_1 fun t17 w_2 =>
 ev Tryz.prog (Instr.extract t16 1) w_2 fun t18 w_3 =>
 callS Tryz.prog 142 (pA #[x0, t18, x3, x4]) w_3 fun t24 w_4 =>
 ev Tryz.prog (Instr.extract t24 0) w_4 fun t25 w_5 =>
 ev Tryz.prog (Instr.extract t24 1) w_5 fun t26 w_6 =>
 callS Tryz.prog 142 (pA #[x0, t17, t25, x4]) w_6 fun t32 w_7 =>
 ev Tryz.prog (Instr.extract t32 0) w_7 fun t33 w_8 =>
 ev Tryz.prog (Instr.extract t32 1) w_8 fun t34 w_9 =>
 K t34 w_9
theorem f139_sk (x0 x1 x2 x3 x4 : Value) (K : K1) (w : World) : (cS f139_c (f139_e K) (f139_e K) nX ([x0, x1, x2, x3, x4] ++ List.replicate (36 - 5) undef) w) = f139_t x0 x1 x2 x3 x4 K w := by kernel_rfl
theorem f139_ok : codeOk Tryz.prog 36 f139_c = true := by kernel_rfl
theorem f139_call (x0 x1 x2 x3 x4 : Value) (K : K1) (w : World) (h : f139_t x0 x1 x2 x3 x4 K w) : callS Tryz.prog 139 #[x0, x1, x2, x3, x4] w K :=
  calls_of_codeS (args := [x0, x1, x2, x3, x4]) mixed Tryz.func139 (show Tryz.f139.body = some f139_c from rfl) rfl (show Tryz.f139.results = f139_rs.toArray from rfl) f139_ok (by simp) (cast ((Eq.trans (by kernel_rfl) (f139_sk x0 x1 x2 x3 x4 K w) : (cS f139_c (f139_e K) (f139_e K) nX ([x0, x1, x2, x3, x4] ++ List.replicate (36 - 5) undef) w) = f139_t x0 x1 x2 x3 x4 K w)).symm h)
noncomputable def f140_c : Code := (Tryz.f140.body).getD .skip
def f140_rs : List ResultVar := [.tmp 2]
abbrev f140_e (K : K1) : KF := endK Tryz.prog f140_rs K
def f140_t (x0 : Value) (K : K1) (w : World) : Prop :=
 ev Tryz.prog (binM .neq 33 (.tmp 3) (.tmp 4) x0 x0) w fun t5 w_1 =>
 K t5 w_1
theorem f140_sk (x0 : Value) (K : K1) (w : World) : (cS f140_c (f140_e K) (f140_e K) nX ([x0] ++ List.replicate (6 - 1) undef) w) = f140_t x0 K w := by kernel_rfl
theorem f140_ok : codeOk Tryz.prog 6 f140_c = true := by kernel_rfl
theorem f140_call (x0 : Value) (K : K1) (w : World) (h : f140_t x0 K w) : callS Tryz.prog 140 #[x0] w K :=
  calls_of_codeS (args := [x0]) mixed Tryz.func140 (show Tryz.f140.body = some f140_c from rfl) rfl (show Tryz.f140.results = f140_rs.toArray from rfl) f140_ok (by simp) (cast ((Eq.trans (by kernel_rfl) (f140_sk x0 K w) : (cS f140_c (f140_e K) (f140_e K) nX ([x0] ++ List.replicate (6 - 1) undef) w) = f140_t x0 K w)).symm h)
noncomputable def f142_c : Code := (Tryz.f142.body).getD .skip
def f142_rs : List ResultVar := [.tmp 8, .tmp 9]
abbrev f142_e (K : K1) : KF := endK Tryz.prog f142_rs K
def f142_t (x0 x1 x2 x3 : Value) (K : K1) (w : World) : Prop :=
 rd Tryz.prog (Instr.indexAt 72 x0 x2) w.drew fun t12 =>
 ldR Tryz.prog 33 t12 w.drew fun t13 =>
 rd Tryz.prog (Instr.indexAt 72 x0 x1) w.drew fun t16 =>
 ldR Tryz.prog 33 t16 w.drew fun t17 =>
 callS Tryz.prog 127 (pA #[t13, t17]) w.drew fun t18 w_1 =>
 cndS t18 (
 nilS Tryz.prog x3 w_1 fun t20 w_2 =>
 ldS Tryz.prog 3 t20 w_2 fun t21 w_3 =>
 ev Tryz.prog (binM .add 3 (.tmp 21) (.const (.int .i64 1)) t21 (.int .i64 1)) w_3 fun t22 w_4 =>
 nilS Tryz.prog x3 w_4 fun t23 w_5 =>
 stS Tryz.prog 3 t23 t22 w_5 fun w_6 =>
 K (.tuple #[x2, x1]) w_6) (
 K (.tuple #[x1, x2]) w_1)
theorem f142_sk (x0 x1 x2 x3 : Value) (K : K1) (w : World) : (cS f142_c (f142_e K) (f142_e K) nX ([x0, x1, x2, x3] ++ List.replicate (28 - 4) undef) w) = f142_t x0 x1 x2 x3 K w := by kernel_rfl
theorem f142_ok : codeOk Tryz.prog 28 f142_c = true := by kernel_rfl
theorem f142_call (x0 x1 x2 x3 : Value) (K : K1) (w : World) (h : f142_t x0 x1 x2 x3 K w) : callS Tryz.prog 142 #[x0, x1, x2, x3] w K :=
  calls_of_codeS (args := [x0, x1, x2, x3]) mixed Tryz.func142 (show Tryz.f142.body = some f142_c from rfl) rfl (show Tryz.f142.results = f142_rs.toArray from rfl) f142_ok (by simp) (cast ((Eq.trans (by kernel_rfl) (f142_sk x0 x1 x2 x3 K w) : (cS f142_c (f142_e K) (f142_e K) nX ([x0, x1, x2, x3] ++ List.replicate (28 - 4) undef) w) = f142_t x0 x1 x2 x3 K w)).symm h)
end Go.Proofs.YtaeopkhdokaaoaaGreatDoor
namespace Go.Sh
open Go
theorem runN_ended {P : Program} : ∀ (n k : Nat) (m : Machine) (o : Outcome) (w : World), runN P n m = .ended o w → runN P (n + k) m = .ended o w := by
  intro n k m o w h
  rw [runN_add, h]
theorem callS_done {P : Program} {f : FuncId} {args : Array Value} {w : World} {K : K1} (h : callS P f args w K) (hi : P.inits.idxOf? f = none) : ∃ n v w', runN P n (lone (Frame.enter P f args .normal) [] w) = .ended (.done v) w' ∧ K v w' := by
  refine Calls.done (R := K) (Calls.mono h ?_) hi
  intro e w' hr
  cases e <;> exact hr
theorem callS_det {P : Program} {f : FuncId} {args : Array Value} {w w0 : World} {v0 : Value} (hi : P.inits.idxOf? f = none) (h : callS P f args w (fun v w' => v = v0 ∧ w' = w0)) (K : K1) : callS P f args w K = K v0 w0 := by
  apply propext
  constructor
  · intro h'
    obtain ⟨n, v, w', hr, rfl, rfl⟩ := callS_done h hi
    obtain ⟨n', v', w'', hr', hk⟩ := callS_done h' hi
    have e1 := runN_ended n n' _ _ _ hr
    have e2 := runN_ended n' n _ _ _ hr'
    rw [Nat.add_comm n' n, e1] at e2
    injection e2 with a b
    injection a with a
    subst a; subst b
    exact hk
  · intro hk
    refine Calls.mono h ?_
    intro e w' hr
    cases e with
    | returned v => obtain ⟨rfl, rfl⟩ := hr; exact hk
    | panicked c => exact hr.elim
    | outgrown => exact hr.elim
theorem callS_mono {P : Program} {f : FuncId} {args : Array Value} {w : World} {K K' : K1} (h : callS P f args w K) (hk : ∀ v w', K v w' → K' v w') : callS P f args w K' := by
  refine Calls.mono h ?_
  intro e w' hr
  cases e with
  | returned v => exact hk _ _ hr
  | panicked c => exact hr.elim
  | outgrown => exact hr.elim
end Go.Sh
namespace Go.Sh
open Go
def Ext (w w' : World) : Prop := Go.RowKit.Below w.heap.size w w'
theorem Ext.refl (w : World) : Ext w w := Go.RowKit.Below.refl _ _
theorem Ext.size {w w' : World} (h : Ext w w') : w.heap.size ≤ w'.heap.size := Go.RowKit.Below.size h
theorem Ext.blk {w w' : World} (h : Ext w w') (b : Nat) (hb : b < w.heap.size) : w'.heap[b]? = w.heap[b]? := Go.RowKit.Below.block h b hb
theorem Ext.trans {a b c : World} (h : Ext a b) (k : Ext b c) : Ext a c := Go.RowKit.Below.trans h (Go.RowKit.Below.mono k h.size)
theorem Ext.alloc {a w : World} (h : Ext a w) (o : Obj) : Ext a (w.alloc o) := Go.RowKit.Below.alloc h h.size o
theorem Ext.drew {a w : World} (h : Ext a w) : Ext a w.drew := Go.RowKit.Below.drew h
theorem Ext.setCell {a w : World} (h : Ext a w) {p : Addr} (hp : a.heap.size ≤ p.block) (u : Value) : Ext a (w.setCell p u) := Go.RowKit.Below.setCell h hp u
theorem Ext.cell {w w' : World} (h : Ext w w') (b o : Nat) (hb : b < w.heap.size) : w'.cell? ⟨b, o, none⟩ = w.cell? ⟨b, o, none⟩ := Go.RowKit.Below.cell (p := ⟨b, o, none⟩) h hb
theorem Ext.frozen {w w' : World} (h : Ext w w') (b o : Nat) (hb : b < w.heap.size) : w'.frozen? ⟨b, o, none⟩ = w.frozen? ⟨b, o, none⟩ := Go.RowKit.Below.frozen (p := ⟨b, o, none⟩) h hb
theorem Ext.alloc_self (w : World) (o : Obj) : Ext w (w.alloc o) := (Ext.refl w).alloc o
theorem lt_of_cell {w : World} {b o : Nat} {v : Value} (h : w.cell? ⟨b, o, none⟩ = some v) : b < w.heap.size := World.block_lt_of_cell? (a := ⟨b, o, none⟩) w h
theorem Ext.cell_some {w w' : World} (h : Ext w w') {b o : Nat} {v : Value} (hc : w.cell? ⟨b, o, none⟩ = some v) : w'.cell? ⟨b, o, none⟩ = some v := by
  rw [h.cell b o (lt_of_cell hc)]; exact hc
theorem Ext.heap_some {w w' : World} (h : Ext w w') {b : Nat} {o : Obj} (hc : w.heap[b]? = some o) : w'.heap[b]? = some o := by
  have hb : b < w.heap.size := by
    rcases Nat.lt_or_ge b w.heap.size with h | h
    · exact h
    · rw [Array.getElem?_eq_none h] at hc; cases hc
  rw [h.blk b hb]; exact hc
theorem cell_new (w : World) (c : Array Value) (t : TypeId) (b i : Nat) (h : b = w.heap.size) : (w.alloc (.cells c t)).cell? ⟨b, i, none⟩ = c[i]? := by subst h; exact World.cell?_alloc_new w c t i
theorem cell_old (w : World) (o : Obj) (b i : Nat) (h : b < w.heap.size) : (w.alloc o).cell? ⟨b, i, none⟩ = w.cell? ⟨b, i, none⟩ := World.cell?_alloc_lt (w := w) (a := ⟨b, i, none⟩) (o := o) h
theorem cell_drew (w : World) (a : Addr) : w.drew.cell? a = w.cell? a := rfl
theorem frozen_new (w : World) (c : Array Value) (t : TypeId) (b i : Nat) (h : b = w.heap.size) : (w.alloc (.cells c t)).frozen? ⟨b, i, none⟩ = false := by subst h; exact World.frozen?_alloc_new w c t i
theorem frozen_old (w : World) (o : Obj) (b i : Nat) (h : b < w.heap.size) : (w.alloc o).frozen? ⟨b, i, none⟩ = w.frozen? ⟨b, i, none⟩ := World.frozen?_alloc_old (w := w) (a := ⟨b, i, none⟩) (o := o) (Nat.ne_of_lt h)
theorem frozen_drew (w : World) (a : Addr) : w.drew.frozen? a = w.frozen? a := rfl
theorem set_new (w : World) (c : Array Value) (t : TypeId) (b i : Nat) (v : Value) (h : b = w.heap.size) : (w.alloc (.cells c t)).setCell ⟨b, i, none⟩ v = w.alloc (.cells (c.setIfInBounds i v) t) := by subst h; exact World.setCell_alloc_new (w := w) c t i v
theorem set_old (w : World) (o : Obj) (b i : Nat) (v : Value) (h : b < w.heap.size) : (w.alloc o).setCell ⟨b, i, none⟩ v = (w.setCell ⟨b, i, none⟩ v).alloc o := World.setCell_alloc_past (w := w) o b i v h
theorem set_drew (w : World) (a : Addr) (v : Value) : w.drew.setCell a v = (w.setCell a v).drew := rfl
theorem alloc_drew (w : World) (o : Obj) : w.drew.alloc o = (w.alloc o).drew := rfl
theorem size_drew (w : World) : w.drew.heap.size = w.heap.size := rfl
theorem size_alloc (w : World) (o : Obj) : (w.alloc o).heap.size = w.heap.size + 1 := World.size_alloc w o
theorem size_set (w : World) (a : Addr) (v : Value) : (w.setCell a v).heap.size = w.heap.size := World.size_setCell w a v
theorem arr0 (a : Value) (l : List Value) : (a :: l).toArray[0]? = some a := rfl
theorem arr1 (a b : Value) (l : List Value) : (a :: b :: l).toArray[1]? = some b := rfl
theorem arr2 (a b c : Value) (l : List Value) : (a :: b :: c :: l).toArray[2]? = some c := rfl
theorem arr3 (a b c d : Value) (l : List Value) : (a :: b :: c :: d :: l).toArray[3]? = some d := rfl
theorem arr4 (a b c d e : Value) (l : List Value) : (a :: b :: c :: d :: e :: l).toArray[4]? = some e := rfl
theorem aset0 (a v : Value) (l : List Value) : (a :: l).toArray.setIfInBounds 0 v = (v :: l).toArray := by simp
theorem aset1 (a b v : Value) (l : List Value) : (a :: b :: l).toArray.setIfInBounds 1 v = (a :: v :: l).toArray := by simp
theorem aset2 (a b c v : Value) (l : List Value) : (a :: b :: c :: l).toArray.setIfInBounds 2 v = (a :: b :: v :: l).toArray := by simp
theorem aset3 (a b c d v : Value) (l : List Value) : (a :: b :: c :: d :: l).toArray.setIfInBounds 3 v = (a :: b :: c :: v :: l).toArray := by simp
theorem aset4 (a b c d e v : Value) (l : List Value) : (a :: b :: c :: d :: e :: l).toArray.setIfInBounds 4 v = (a :: b :: c :: d :: v :: l).toArray := by simp
theorem cf1 (w : World) (b o : Nat) {v0 : Value} (h0 : w.cell? ⟨b, o, none⟩ = some v0) : cellsFrom w b o 1 = some [v0] := by simp [cellsFrom, h0]
theorem beq_self_nat (n : Nat) : Nat.beq n n = true := Nat.beq_refl n
theorem beqNat_refl (n : Nat) : Nat.beq n n = true := Nat.beq_refl n
theorem setCells_nil (w : World) (b o : Nat) : setCells w b o [] = w := rfl
theorem setCells_cons (w : World) (b o : Nat) (v : Value) (l : List Value) : setCells w b o (v :: l) = setCells (w.setCell ⟨b, o, none⟩ v) b (o + 1) l := rfl
theorem allOne_nil : allOne [] = true := rfl
theorem allOne_cons (v : Value) (l : List Value) (h : isOne v = true) : allOne (v :: l) = allOne l := by simp [allOne, h]
theorem freeRow_zero (w : World) (b o : Nat) : freeRow w b o 0 = true := rfl
theorem freeRow_succ (w : World) (b o n : Nat) : freeRow w b o (n + 1) = ((w.cell? ⟨b, o, none⟩).isSome && (!w.frozen? ⟨b, o, none⟩ && freeRow w b (o + 1) n)) := rfl
def consO (x : Option Value) (y : Option (List Value)) : Option (List Value) :=
  match x, y with
  | some v, some l => some (v :: l)
  | _, _ => none
theorem consO_some (v : Value) (l : List Value) : consO (some v) (some l) = some (v :: l) := rfl
theorem cellsFrom_succ (w : World) (b o n : Nat) : cellsFrom w b o (n + 1) = consO (w.cell? ⟨b, o, none⟩) (cellsFrom w b (o + 1) n) := by
  conv => lhs; unfold cellsFrom
  cases w.cell? ⟨b, o, none⟩ <;> cases cellsFrom w b (o + 1) n <;> rfl
set_option linter.defProp false in
def RZ := And.intro size_drew <| And.intro size_alloc size_set
theorem zu8 : Value.int .u8 0 = Value.int .u8 ((0 : Nat) : Int) := rfl
theorem zu16 : Value.int .u16 0 = Value.int .u16 ((0 : Nat) : Int) := rfl
theorem zu32 : Value.int .u32 0 = Value.int .u32 ((0 : Nat) : Int) := rfl
theorem zu64 : Value.int .u64 0 = Value.int .u64 ((0 : Nat) : Int) := rfl
theorem false_true : (false = true) = False := by simp
theorem true_false : (true = false) = False := by simp
set_option linter.defProp false in
def RI := And.intro false_true <| And.intro true_false <| And.intro true_and <| And.intro and_true <| And.intro false_and and_false
set_option linter.defProp false in
def RS := And.intro zu8 <| And.intro zu16 <| And.intro zu32 <| And.intro zu64 <| And.intro setCells_nil <| And.intro setCells_cons <| And.intro allOne_nil <| And.intro allOne_cons <| And.intro freeRow_zero <| And.intro freeRow_succ <| And.intro consO_some <| And.intro cellsFrom_zero <| And.intro cellsFrom_succ <| And.intro (@Option.isSome_some Value) <| And.intro beqNat_refl <| And.intro (@List.length_cons Value) (@List.length_nil Value)
set_option linter.defProp false in
def RW := And.intro cell_new <| And.intro cell_old <| And.intro cell_drew <| And.intro frozen_new <| And.intro frozen_old <| And.intro frozen_drew <| And.intro set_new <| And.intro set_old <| And.intro set_drew <| And.intro alloc_drew <|
  And.intro size_drew <| And.intro size_alloc <| And.intro size_set <| And.intro arr0 <| And.intro arr1 <| And.intro arr2 <| And.intro arr3 <| And.intro arr4 <| And.intro aset0 <| And.intro aset1 <| And.intro aset2 <| And.intro aset3 aset4
end Go.Sh
namespace Go.Sh
open Go
def pnd (p : Prop) : Prop := p
def hld (p : Prop) : Prop := p
theorem pnd_eq (p : Prop) : pnd p = hld p := rfl
inductive Dep (A B : Prop) : Type
  | mk
def brS (p A B : Prop) (_ : Dep A B := .mk) : Prop := (p → A) ∧ (¬ p → B)
theorem brS_mk {p A B : Prop} (h1 : p → A) (h2 : ¬ p → B) : brS (hld p) A B := ⟨h1, h2⟩
theorem brS_true (A B : Prop) : brS (hld True) A B = A := by unfold brS hld; simp
theorem brS_false (A B : Prop) : brS (hld False) A B = B := by unfold brS hld; simp
theorem brS_not (p A B : Prop) : brS (hld (¬ p)) A B = brS (pnd p) B A := by
  unfold brS hld pnd; by_cases h : p <;> simp [h]
theorem cnd_bl (b : Bool) (A B : Prop) : cndS (.bool b) A B = brS (pnd (b = true)) A B := by
  unfold brS pnd; cases b <;> simp [cndS]
theorem cnd_nt (b : Bool) (A B : Prop) : cndS (.bool (!b)) A B = cndS (.bool b) B A := by cases b <;> rfl
theorem pick_bl (c : Bool) (a b : Value) (w : World) (k : K1) : pickS (.bool c) a b w k = brS (pnd (c = true)) (k a w) (k b w) := by
  unfold brS pnd; cases c <;> simp [pickS]
theorem pickV_bl (c : Bool) (a b : Value) (k : Value → Prop) : pickV (.bool c) a b k = brS (pnd (c = true)) (k a) (k b) := by
  unfold brS pnd; cases c <;> simp [pickV]
theorem gd_blT (c : Bool) (y : K1 → Prop) (w : World) (k : K1) : gd (.bool c) true y w k = brS (pnd (c = true)) (y k) (k undef w) := by
  unfold brS pnd; cases c <;> simp [gd_tt, gd_ft]
theorem gd_blF (c : Bool) (y : K1 → Prop) (w : World) (k : K1) : gd (.bool c) false y w k = brS (pnd (c = true)) (k undef w) (y k) := by
  unfold brS pnd; cases c <;> simp [gd_ff, gd_tf]
theorem gdR_blT (c : Bool) (y : (Value → Prop) → Prop) (k : Value → Prop) : gdR (.bool c) true y k = brS (pnd (c = true)) (y k) (k undef) := by
  unfold brS pnd; cases c <;> simp [gdR_tt, gdR_ft]
theorem gdR_blF (c : Bool) (y : (Value → Prop) → Prop) (k : Value → Prop) : gdR (.bool c) false y k = brS (pnd (c = true)) (k undef) (y k) := by
  unfold brS pnd; cases c <;> simp [gdR_ff, gdR_tf]
theorem gq_blT (c : Bool) (A : Prop) : gq (.bool c) true A = brS (pnd (c = true)) A True := by
  unfold brS pnd; cases c <;> simp [gq_tt, gq_ft]
theorem gq_blF (c : Bool) (A : Prop) : gq (.bool c) false A = brS (pnd (c = true)) True A := by
  unfold brS pnd; cases c <;> simp [gq_ff, gq_tf]
theorem gd_u (b : Bool) (y : K1 → Prop) (w : World) (k : K1) : gd undef b y w k = k undef w := rfl
theorem gdR_u (b : Bool) (y : (Value → Prop) → Prop) (k : Value → Prop) : gdR undef b y k = k undef := rfl
theorem gq_u (b : Bool) (A : Prop) : gq undef b A = True := rfl
theorem dec_iff (p : Prop) [Decidable p] : (decide p = true) = p := by simp
theorem not_iff (b : Bool) : ((!b) = true) = ¬ (b = true) := by cases b <;> simp
theorem true_iff : (true = true) = True := by simp
theorem not_t : (¬ True) = False := by simp
theorem not_f : (¬ False) = True := by simp
set_option linter.defProp false in
def RBp := And.intro gd_u <| And.intro gdR_u <| And.intro gq_u <| And.intro cnd_bl <| And.intro pick_bl <| And.intro pickV_bl <| And.intro gd_blT <| And.intro gd_blF <| And.intro gdR_blT <| And.intro gdR_blF <| And.intro gq_blT gq_blF
set_option linter.defProp false in
def RBr := And.intro pnd_eq <| And.intro false_true <| And.intro true_false <| And.intro brS_true <| And.intro brS_false <| And.intro brS_not <| And.intro @dec_iff <| And.intro not_iff <| And.intro true_iff <| And.intro not_t not_f
end Go.Sh
namespace Go.Sh
open Go
theorem Ext.setB {a w : World} (h : Ext a w) {b i : Nat} (hb : a.heap.size ≤ b) (u : Value) : Ext a (w.setCell ⟨b, i, none⟩ u) := h.setCell hb u
theorem heap_alloc_lt {w : World} {b : Nat} (o : Obj) (h : b < w.heap.size) : (w.alloc o).heap[b]? = w.heap[b]? := by
  show (w.heap.push o)[b]? = _
  rw [Array.getElem?_push, if_neg (by omega)]
theorem heap_alloc_eq (w : World) (o : Obj) : (w.alloc o).heap[w.heap.size]? = some o := by
  show (w.heap.push o)[w.heap.size]? = _
  rw [Array.getElem?_push, if_pos rfl]
theorem heap_set_ne {w : World} {b : Nat} {a : Addr} (v : Value) (h : b ≠ a.block) : (w.setCell a v).heap[b]? = w.heap[b]? := by
  simp only [World.setCell, Array.getElem?_modify]
  rw [if_neg (by omega)]
theorem lt_of_heap {w : World} {b : Nat} {o : Obj} (h : w.heap[b]? = some o) : b < w.heap.size := by
  rcases Nat.lt_or_ge b w.heap.size with h' | h'
  · exact h'
  · rw [Array.getElem?_eq_none h'] at h; cases h
structure Frm (F : Nat → Prop) (w w' : World) : Prop where
  os : w'.os = w.os
  tape : w'.tape = w.tape
  output : w'.output = w.output
  size : w.heap.size ≤ w'.heap.size
  block : ∀ k, k < w.heap.size → ¬ F k → w'.heap[k]? = w.heap[k]?
theorem Frm.refl (F : Nat → Prop) (w : World) : Frm F w w := ⟨rfl, rfl, rfl, Nat.le_refl _, fun _ _ _ => rfl⟩
theorem Frm.of_ext {F : Nat → Prop} {w w' : World} (h : Ext w w') : Frm F w w' := ⟨h.os, h.tape, h.output, Ext.size h, fun k hk _ => Ext.blk h k hk⟩
theorem Frm.to_ext {w w' : World} {F : Nat → Prop} (h : Frm F w w') (hF : ∀ b, b < w.heap.size → ¬ F b) : Ext w w' := ⟨h.os, h.tape, h.output, h.size, fun k hk => h.block k hk (hF k hk)⟩
theorem Frm.mono {F G : Nat → Prop} {w w' : World} (h : Frm F w w') (hG : ∀ b, F b → G b) : Frm G w w' := ⟨h.os, h.tape, h.output, h.size, fun k hk hn => h.block k hk (fun hf => hn (hG k hf))⟩
theorem Frm.trans {F G : Nat → Prop} {a b c : World} (h : Frm F a b) (k : Frm G b c) (hG : ∀ x, x < a.heap.size → G x → F x) : Frm F a c :=
  ⟨k.os.trans h.os, k.tape.trans h.tape, k.output.trans h.output, Nat.le_trans h.size k.size,
    fun x hx hn => (k.block x (Nat.lt_of_lt_of_le hx h.size) (fun hg => hn (hG x hx hg))).trans (h.block x hx hn)⟩
theorem Frm.alloc {F : Nat → Prop} {a w : World} (h : Frm F a w) (o : Obj) : Frm F a (w.alloc o) :=
  h.trans (G := fun _ => False) (Frm.of_ext (Ext.alloc_self w o)) (fun _ _ h => h.elim)
theorem Frm.drew {F : Nat → Prop} {a w : World} (h : Frm F a w) : Frm F a w.drew := ⟨h.os, h.tape, h.output, h.size, h.block⟩
theorem Frm.set {F : Nat → Prop} {a w : World} (h : Frm F a w) {p : Addr} (v : Value) (hp : p.block < a.heap.size → F p.block) : Frm F a (w.setCell p v) :=
  h.trans (G := fun b => b = p.block) ⟨rfl, rfl, rfl, by simp [World.setCell], fun k _ hn => heap_set_ne v hn⟩ (fun x hx e => by subst e; exact hp hx)
theorem Frm.ext {F : Nat → Prop} {a w w' : World} (h : Frm F a w) (e : Ext w w') : Frm F a w' := h.trans (G := fun _ => False) (Frm.of_ext e) (fun _ _ h => h.elim)
def Cells (w : World) (b : Nat) (t : TypeId) (n : Nat) (f : Nat → Value) : Prop := ∃ a : Array Value, w.heap[b]? = some (.cells a t (0, 0)) ∧ n ≤ a.size ∧ ∀ i, i < n → a[i]? = some (f i)
section
variable {w w' : World} {b b' n m : Nat} {t t' : TypeId} {f g : Nat → Value}
theorem Cells.lt (h : Cells w b t n f) : b < w.heap.size := by obtain ⟨a, h, _⟩ := h; exact lt_of_heap h
theorem Cells.of_heap (h : Cells w b t n f) (e : w'.heap[b]? = w.heap[b]?) : Cells w' b t n f := by obtain ⟨a, h, h2⟩ := h; exact ⟨a, e.trans h, h2⟩
theorem Cells.ext (h : Cells w b t n f) (e : Ext w w') : Cells w' b t n f := h.of_heap (e.blk b h.lt)
theorem Cells.frm {F : Nat → Prop} (h : Cells w b t n f) (e : Frm F w w') (hb : ¬ F b) : Cells w' b t n f := h.of_heap (e.block b h.lt hb)
theorem Cells.alloc (h : Cells w b t n f) (o : Obj) : Cells (w.alloc o) b t n f := h.of_heap (heap_alloc_lt o h.lt)
theorem Cells.drew (h : Cells w b t n f) : Cells w.drew b t n f := h
theorem Cells.cell (h : Cells w b t n f) {i : Nat} (hi : i < n) : w.cell? ⟨b, i, none⟩ = some (f i) := by
  obtain ⟨a, h, hs, hf⟩ := h
  rw [cell_of_blk h]; exact hf i hi
theorem Cells.frz (h : Cells w b t n f) (i : Nat) : w.frozen? ⟨b, i, none⟩ = false := by
  obtain ⟨a, h, hs, hf⟩ := h
  unfold World.frozen?; simp only [h]; simp
theorem Cells.congr (h : Cells w b t n f) (e : ∀ i, i < n → f i = g i) : Cells w b t n g := by
  obtain ⟨a, h, hs, hf⟩ := h
  exact ⟨a, h, hs, fun i hi => by rw [← e i hi]; exact hf i hi⟩
theorem Cells.ty (h : Cells w b t n f) (h' : Cells w b t' m g) : t = t' := by
  obtain ⟨a, h, hs, hf⟩ := h
  obtain ⟨a', h', hs', hf'⟩ := h'
  rw [h] at h'; injection h' with h'; injection h'
theorem Cells.ne (h : Cells w b t n f) (h' : Cells w b' t' m g) (ht : t ≠ t') : b ≠ b' := by
  intro e; subst e; exact ht (h.ty h')
theorem Cells.set_ne (h : Cells w b t n f) {a : Addr} (v : Value) (hb : b ≠ a.block) : Cells (w.setCell a v) b t n f := h.of_heap (heap_set_ne v hb)
theorem Cells.set (h : Cells w b t n f) {i : Nat} (v : Value) (hi : i < n) : Cells (w.setCell ⟨b, i, none⟩ v) b t n (fun j => if j = i then v else f j) := by
  obtain ⟨a, h, hs, hf⟩ := h
  refine ⟨a.setIfInBounds i v, ?_, by simp [hs], ?_⟩
  · simp only [World.setCell, Array.getElem?_modify, h]; simp
  · intro j hj
    rw [Array.getElem?_setIfInBounds]
    by_cases e : i = j
    · subst e; simp; omega
    · have e' : ¬ j = i := fun h => e h.symm
      simp only [e, e', if_false]; exact hf j hj
theorem Cells.new (w : World) (l : List Value) (t : TypeId) : Cells (w.alloc (.cells l.toArray t)) w.heap.size t l.length (fun i => l.getD i undef) := by
  refine ⟨l.toArray, heap_alloc_eq _ _, by simp, ?_⟩
  intro i hi
  simp [hi]
end
def SlO (w : World) (t : TypeId) (z : Nat) (v : Value) (n : Nat) (L : List Value) : Prop := L.length = n * z ∧ ((v = .slice none 0 0 ∧ n = 0) ∨
  ∃ b o cap a, v = .slice (some ⟨b, o, none⟩) n cap ∧ w.heap[b]? = some (.cells a t (0, 0)) ∧ n ≤ cap ∧ cap ≤ maxLen ∧ o + cap * z ≤ a.size ∧ ∀ i u, L[i]? = some u → a[o + i]? = some u)
section
variable {w w' : World} {t : TypeId} {z n : Nat} {v : Value} {L : List Value}
theorem SlO.nil (w : World) (t : TypeId) (z : Nat) : SlO w t z (.slice none 0 0) 0 [] := ⟨by simp, .inl ⟨rfl, rfl⟩⟩
theorem SlO.lt (h : SlO w t z v n L) {b : Nat} (hb : v.ownBlock = some b) : b < w.heap.size := by
  rcases h.2 with ⟨rfl, _⟩ | ⟨b', o, cap, a, rfl, hh, _⟩
  · cases hb
  · injection hb with hb; subst hb; exact lt_of_heap hh
theorem SlO.of_heap (h : SlO w t z v n L) (e : ∀ b, v.ownBlock = some b → w'.heap[b]? = w.heap[b]?) : SlO w' t z v n L := by
  refine ⟨h.1, ?_⟩
  rcases h.2 with h | ⟨b', o, cap, a, rfl, hh, h2⟩
  · exact .inl h
  · exact .inr ⟨b', o, cap, a, rfl, (e b' rfl).trans hh, h2⟩
theorem SlO.ext (h : SlO w t z v n L) (e : Ext w w') : SlO w' t z v n L := h.of_heap (fun b hb => e.blk b (h.lt hb))
theorem SlO.frm {F : Nat → Prop} (h : SlO w t z v n L) (e : Frm F w w') (hF : ∀ b, v.ownBlock = some b → ¬ F b) : SlO w' t z v n L := h.of_heap (fun b hb => e.block b (h.lt hb) (hF b hb))
theorem SlO.cell (h : SlO w t z v n L) {b o m cap : Nat} (hv : v = .slice (some ⟨b, o, none⟩) m cap) {i : Nat} {u : Value} (hi : L[i]? = some u) : w.cell? ⟨b, o + i, none⟩ = some u := by
  rcases h.2 with ⟨rfl, _⟩ | ⟨b', o', cap', a, rfl, hh, _, _, _, h2⟩
  · cases hv
  · injection hv with h3 h4 h5; injection h3 with h3; injection h3 with h3 h6; subst h3; subst h6
    rw [cell_of_blk hh]; exact h2 i u hi
theorem SlO.lit (w : World) (t : TypeId) (z n : Nat) (l : List Value) (hl : l.length = n * z) (hm : n ≤ maxLen) : SlO (w.alloc (.cells l.toArray t)) t z (.slice (some ⟨w.heap.size, 0, none⟩) n n) n l :=
  ⟨hl, .inr ⟨w.heap.size, 0, n, l.toArray, rfl, heap_alloc_eq _ _, Nat.le_refl _, hm, by simp [hl], by intro i u h; simpa using h⟩⟩
theorem SlO.view {b o m cap : Nat} (h : SlO w t z (.slice (some ⟨b, o, none⟩) m cap) n L) : m = n ∧ n ≤ cap := by
  rcases h.2 with ⟨e, _⟩ | ⟨b', o', cap', a, e, hh, h1, _⟩
  · cases e
  · injection e with h3 h4 h5; subst h4; subst h5; exact ⟨rfl, h1⟩
theorem SlO.isS {t : TypeId} {z n : Nat} {v : Value} {L : List Value} (h : SlO w t z v n L) (hn : 0 < n) : ∃ b o cap, v = .slice (.some ⟨b, o, none⟩) n cap ∧ n ≤ cap := by
  obtain ⟨hl, h2⟩ := h
  cases h2 with
  | inl h => exact absurd h.2 (by omega)
  | inr h => obtain ⟨b, o, cap, a, e, _, e2, _⟩ := h; exact ⟨b, o, cap, e, e2⟩
theorem SlO.drop {t : TypeId} {z n b o m cap k : Nat} {L : List Value} (h : SlO w t z (.slice (some ⟨b, o, none⟩) m cap) n L) (hk : k ≤ n) : SlO w t z (.slice (some ⟨b, if cap = k then o else o + k * z, none⟩) (m - k) (cap - k)) (n - k) (L.drop (k * z)) := by
  obtain ⟨hl, h2⟩ := h
  rcases h2 with ⟨e, _⟩ | ⟨b', o', cap', a, e, hh, h1, h3, h4, h5⟩
  · cases e
  · injection e with e1 e2 e3; injection e1 with e1; injection e1 with e1 e4; subst e1; subst e4; subst e2; subst e3
    refine ⟨by rw [List.length_drop, hl, Nat.sub_mul], .inr ⟨b, _, cap - k, a, rfl, hh, by omega, by omega, ?_, ?_⟩⟩
    · split
      · rename_i e; rw [e] at h4 ⊢; simp; omega
      · rw [Nat.sub_mul]
        have := Nat.mul_le_mul_right z (show k ≤ cap by omega)
        omega
    · intro i u hu
      rw [List.getElem?_drop] at hu
      split
      · rename_i e
        have hlt := (List.getElem?_eq_some_iff.1 hu).1
        rw [hl] at hlt
        have : m = k := by omega
        rw [this] at hlt; omega
      · have := h5 _ _ hu; rw [← this]; congr 1; omega
end
theorem SlO.frz {w : World} {t : TypeId} {z n : Nat} {v : Value} {L : List Value} (h : SlO w t z v n L) {b : Nat} (hb : v.ownBlock = some b) (i : Nat) : w.frozen? ⟨b, i, none⟩ = false := by
  rcases h.2 with ⟨rfl, _⟩ | ⟨b', o, cap, a, rfl, hh, _⟩
  · cases hb
  · injection hb with hb; subst hb; unfold World.frozen?; simp only [hh]; simp
theorem eB {a w : World} (h : Ext a w) {b i : Nat} (hb : a.heap.size ≤ b) (u : Value) : Ext a (w.setCell ⟨b, i, none⟩ u) := Ext.setB h hb u
theorem eR (w : World) : Ext w w := Ext.refl w
theorem eA {a w : World} (h : Ext a w) (o : Obj) : Ext a (w.alloc o) := Ext.alloc h o
theorem eD {a w : World} (h : Ext a w) : Ext a w.drew := Ext.drew h
theorem eT {a b c : World} (h : Ext a b) (k : Ext b c) : Ext a c := Ext.trans h k
end Go.Sh
namespace Go.Sh
open Go
structure ElT (P : Program) (t tx e : TypeId) (z bytes : Nat) (zv : Value) : Prop where
  un : P.underlying t = some (.slice e)
  ux : P.underlying tx = some (.slice e)
  inf : ((P.info? e).map fun i => (i.size, i.zero, i.bytes)) = some (z, some zv, bytes)
  zs : zv.cells.size = z
  pos : 0 < z
theorem ElT.info {P : Program} {t tx e : TypeId} {z bytes : Nat} {zv : Value} (h : ElT P t tx e z bytes zv) : ∃ i, P.info? e = some i ∧ i.size = z ∧ i.zero = some zv ∧ i.bytes = bytes := by
  have := h.inf
  cases hi : P.info? e with
  | none => rw [hi] at this; cases this
  | some i => rw [hi] at this; simp at this; exact ⟨i, rfl, this.1, this.2.1, this.2.2⟩
theorem isOne_oneCell {v : Value} (h : isOne v = true) : v.oneCell' = true := by cases v <;> first | rfl | cases h
theorem allOne_mem {l : List Value} (h : allOne l = true) : ∀ v ∈ l, v.oneCell' = true := by
  induction l with
  | nil => intro v hv; cases hv
  | cons a l ih =>
    simp only [allOne, Bool.and_eq_true] at h
    intro v hv
    cases hv with
    | head => exact isOne_oneCell h.1
    | tail _ hv => exact ih h.2 v hv
theorem setRow_heap_eq {w : World} {g : Nat} {cur : Array Value} {e : TypeId} (hg : w.heap[g]? = some (.cells cur e (0, 0))) (new : Array Value) : (w.setRow g new).heap[g]? = some (.cells new e (0, 0)) := setRow_heap w g cur _ e _ hg
theorem setRow_heap_ne {w : World} {g k : Nat} (new : Array Value) (h : k ≠ g) : (w.setRow g new).heap[k]? = w.heap[k]? := setRow_other w g k _ h
theorem getElem?_splice {l news : List Value} {p i : Nat} (hp : p + news.length ≤ l.length) : (l.take p ++ news ++ l.drop (p + news.length))[i]? = if i < p then l[i]? else if i < p + news.length then news[i - p]? else l[i]? := by
  by_cases h1 : i < p
  · rw [if_pos h1, List.append_assoc, List.getElem?_append_left (by simp; omega), List.getElem?_take_of_lt h1]
  · rw [if_neg h1]
    by_cases h2 : i < p + news.length
    · rw [if_pos h2, List.getElem?_append_left (by simp; omega), List.getElem?_append_right (by simp; omega)]
      congr 1; simp; omega
    · rw [if_neg h2, List.getElem?_append_right (by simp; omega), List.getElem?_drop]
      congr 1; simp; omega
theorem run_app_grow {P : Program} (w : World) (t tx ty e : TypeId) (i : TypeInfo) (z : Value) (ht : P.underlying t = some (.slice e)) (htx : P.underlying tx = some (.slice e)) (hi : P.info? e = some i) (hz : i.zero = some z)
    (base : Option Addr) (sLen sCap : Nat) (olds : List Value) (hfo : (Builtin.firstCells i.size sLen (.slice base sLen sCap)).run P w.drew = .ok olds.toArray w.drew)
    (a : Addr) (n c : Nat) (news : List Value) (hf : (Builtin.firstCells i.size n (.slice (some a) n c)).run P w.drew = .ok news.toArray w.drew)
    (hg : sCap < sLen + n) (h63 : ((sLen + n : Nat) : Int) ≤ 9223372036854775807) (hfit : Builtin.nextslicecap (sLen + n) sCap * i.bytes ≤ 281474976710656) :
    (Builtin.append_ #[t, tx] ty #[.slice base sLen sCap, .slice (some a) n c]).run P w =
      .ok (.slice (some ⟨w.heap.size, 0, none⟩) (sLen + n) (grownCap w (sLen + n) sCap e))
        (w.drew.alloc (.cells ((olds ++ news).toArray ++ Builtin.zeroCells z.cells (grownCap w (sLen + n) sCap e - (sLen + n))) e)) := by
  have hn : ¬ (sLen + n ≤ sCap) := by omega
  have h63' : ¬ (9223372036854775807 < ((sLen : Int) + (n : Int))) := by omega
  have h48' : ¬ (281474976710656 < Builtin.nextslicecap (sLen + n) sCap * i.bytes) := by omega
  simp [Builtin.append_, run_underlying ht, run_underlying htx, sizeOf, typeInfo, zeroValue, hi, hz, Builtin.lenOf, hn, h63', h48', Question.forced, hf, hfo, newRow, grownCap]
  congr 2
  apply Array.ext'
  simp [List.append_assoc]
theorem run_app_room {P : Program} (w : World) (t tx ty e : TypeId) (i : TypeInfo) (ht : P.underlying t = some (.slice e)) (htx : P.underlying tx = some (.slice e)) (hi : P.info? e = some i)
    (g o sLen sCap : Nat) (cur : Array Value) (hg : w.heap[g]? = some (.cells cur e (0, 0)))
    (a : Addr) (m c : Nat) (news : List Value) (hf : (Builtin.firstCells i.size m (.slice (some a) m c)).run P w = .ok news.toArray w) (h1 : ∀ u ∈ news, u.oneCell' = true)
    (hroom : sLen + m ≤ sCap) (hfit : o + sLen * i.size + news.length ≤ cur.size) :
    (Builtin.append_ #[t, tx] ty #[.slice (some ⟨g, o, none⟩) sLen sCap, .slice (some a) m c]).run P w =
      .ok (.slice (some ⟨g, o, none⟩) (sLen + m) sCap) (w.setRow g (cur.toList.take (o + sLen * i.size) ++ news ++ cur.toList.drop (o + sLen * i.size + news.length)).toArray) := by
  have hst := run_storeCells_at P g (o + sLen * i.size) e news 0 cur w hg (by simpa using hfit) h1
  simp only [Nat.add_zero] at hst
  simp [Builtin.append_, run_underlying ht, run_underlying htx, sizeOf, typeInfo, hi, Builtin.lenOf, hroom, hf, addr_add, hst]
def sOff : Value → Nat
  | .slice (some a) _ _ => a.off
  | _ => 0
theorem blt_append {P : Program} {t tx e ty : TypeId} {z bytes : Nat} {zv : Value} (E : ElT P t tx e z bytes zv) {cs : Array Bool} {w : World} {v : Value} {n : Nat} {L : List Value} (hv : SlO w e z v n L)
    {xb xo m c : Nat} {news : List Value} (hl : news.length = m * z) (hx : ∀ j u, news[j]? = some u → w.cell? ⟨xb, xo + j, none⟩ = some u) (h1 : allOne news = true) (hm : 0 < m) (hb : (n + m) * bytes ≤ 140737488355328) (hm' : n + m < 9223372036854775807) {k : K1}
    (h : ∀ v' w', SlO w' e z v' (n + m) (L ++ news) → Frm (fun b => v.ownBlock = some b) w w' → (∀ b, v'.ownBlock = some b → v.ownBlock = some b ∨ w.heap.size ≤ b) → (sOff v' = 0 ∨ sOff v' = sOff v) → k v' w') :
    bltS P .append #[t, tx] ty cs #[v, .slice (some ⟨xb, xo, none⟩) m c] w k := by
  obtain ⟨i, hi, rfl, hz, rfl⟩ := E.info
  have ht := E.un
  have htx := E.ux
  have hzs := E.zs
  have hx' : ∀ j u, news[j]? = some u → w.cell? ((⟨xb, xo, none⟩ : Addr).add j) = some u := by intro j u hj; rw [addr_add]; exact hx j u hj
  have hf := run_firstCells_some (P := P) w i.size m ⟨xb, xo, none⟩ m c news hl hx'
  have hf' := run_firstCells_some (P := P) w.drew i.size m ⟨xb, xo, none⟩ m c news hl hx'
  unfold bltS builtin
  have grown : ∀ (old : Nat), old < n + m → SlO (w.drew.alloc (.cells ((L ++ news).toArray ++ Builtin.zeroCells zv.cells (grownCap w (n + m) old e - (n + m))) e)) e i.size (.slice (some ⟨w.heap.size, 0, none⟩) (n + m) (grownCap w (n + m) old e)) (n + m) (L ++ news) := by
    intro old ho
    have hge := grownCap_ge w (n + m) old e
    have hcm : grownCap w (n + m) old e ≤ maxLen := grownCap_le_maxLen w (n + m) old e (by simp only [maxLen]; omega)
    refine ⟨by rw [List.length_append, hv.1, hl, Nat.add_mul], .inr ⟨w.heap.size, 0, _, _, rfl, heap_alloc_eq w.drew _, hge, hcm, ?_, ?_⟩⟩
    · simp only [Array.size_append, List.size_toArray, List.length_append, size_zeroCells, hzs, hv.1, hl, ← Nat.add_mul, Nat.zero_add]
      exact Nat.mul_le_mul_right _ (by omega)
    · intro j u hj
      rw [Nat.zero_add, Array.getElem?_append_left]
      · simpa using hj
      · have := (List.getElem?_eq_some_iff.1 hj).1
        simpa using this
  have fresh : ∀ (o : Obj), Frm (fun b => v.ownBlock = some b) w (w.drew.alloc o) := fun o => ((Frm.refl _ w).drew).alloc o
  rcases hv.2 with ⟨rfl, rfl⟩ | ⟨b, o, cap, a, rfl, hh, hnc, hcm, hsz, hc⟩
  · have hL : L = [] := List.eq_nil_of_length_eq_zero (by simpa using hv.1)
    subst hL
    have hr := run_app_grow w t tx ty e i zv ht htx hi hz none 0 0 [] (run_firstCells_none _ _ _ _ _) ⟨xb, xo, none⟩ m c news hf' (by omega) (by omega) (growslice_fits (by omega) hb)
    rw [Sem.run_bind, hr]
    exact h _ _ (grown 0 (by omega)) (fresh _) (fun b hb => by injection hb with hb; subst hb; exact .inr (Nat.le_refl _)) (.inl rfl)
  · by_cases hroom : n + m ≤ cap
    · have hfit : o + n * i.size + news.length ≤ a.size := by
        have := Nat.mul_le_mul_right i.size hroom
        rw [Nat.add_mul] at this; omega
      have hr := run_app_room w t tx ty e i ht htx hi b o n cap a hh ⟨xb, xo, none⟩ m c news hf (allOne_mem h1) hroom hfit
      rw [Sem.run_bind, hr]
      have hfit' : o + n * i.size + news.length ≤ a.toList.length := by simpa using hfit
      refine h _ _ ⟨by rw [List.length_append, hv.1, hl, Nat.add_mul], .inr ⟨b, o, cap, _, rfl, setRow_heap_eq hh _, hroom, hcm, ?_, ?_⟩⟩ ⟨rfl, rfl, rfl, by simp, fun k _ hk => setRow_heap_ne _ (fun e => hk (by simp [Value.ownBlock, e]))⟩ (fun b' hb' => .inl hb') (.inr rfl)
      · simp; omega
      · intro j u hj
        rw [List.getElem?_toArray, getElem?_splice hfit']
        by_cases hjL : j < L.length
        · rw [List.getElem?_append_left hjL] at hj
          have := hc j u hj
          rw [if_pos (by have := hv.1; omega)]; simpa using this
        · rw [List.getElem?_append_right (by omega)] at hj
          have hlt := (List.getElem?_eq_some_iff.1 hj).1
          have hv1 := hv.1
          rw [if_neg (by omega), if_pos (by omega), ← hj]
          congr 1; omega
    · have hxo : ∀ j u, L[j]? = some u → w.drew.cell? ((⟨b, o, none⟩ : Addr).add j) = some u := by
        intro j u hj; rw [addr_add]; exact hv.cell rfl hj
      have hfo := run_firstCells_some (P := P) w.drew i.size n ⟨b, o, none⟩ n cap L hv.1 hxo
      have hr := run_app_grow w t tx ty e i zv ht htx hi hz (some ⟨b, o, none⟩) n cap L hfo ⟨xb, xo, none⟩ m c news hf' (by omega) (by omega) (growslice_fits (by omega) hb)
      rw [Sem.run_bind, hr]
      exact h _ _ (grown cap (by omega)) (fresh _) (fun b hb => by injection hb with hb; subst hb; exact .inr (Nat.le_refl _)) (.inl rfl)
def zrow (zv : Value) (n : Nat) : Array Value := madeCells zv.cells n
theorem ev_make {P : Program} {t e : TypeId} {z bytes : Nat} {zv : Value} (E : ElT P t t e z bytes zv) (l n : Int) (w : World) (k : K1) (h0 : 0 ≤ l) (hl : l ≤ n) (hb : (bytes : Int) * n ≤ 281474976710656) (h63 : n ≤ 9223372036854775807) :
    ev P (Instr.makeSlice t (.int .i64 l) (.int .i64 n)) w k = k (.slice (some ⟨w.heap.size, 0, none⟩) l.toNat n.toNat) (w.alloc (.cells (zrow zv (n.toNat * z)) e)) := by
  obtain ⟨i, hi, rfl, hz, rfl⟩ := E.info
  exact ev_of_run (run_make w t e i zv E.un hi hz .i64 .i64 l n h0 hl hb h63) k
theorem zrow_get {zv : Value} {n i : Nat} (h : i < n) : (zrow zv n)[i]? = some (zv.cells[i % zv.cells.size]!) := by
  unfold zrow madeCells; simp [h]
theorem zrow_cells (w : World) (zv : Value) (n : Nat) (t : TypeId) : Cells (w.alloc (.cells (zrow zv n) t)) w.heap.size t n (fun i => zv.cells[i % zv.cells.size]!) :=
  ⟨zrow zv n, heap_alloc_eq _ _, by simp [zrow, madeCells], fun i hi => zrow_get hi⟩
theorem zrow_sl (w : World) (zv : Value) (c z : Nat) (t : TypeId) (hm : c ≤ maxLen) : SlO (w.alloc (.cells (zrow zv (c * z)) t)) t z (.slice (some ⟨w.heap.size, 0, none⟩) 0 c) 0 [] :=
  ⟨by simp, .inr ⟨w.heap.size, 0, c, _, rfl, heap_alloc_eq _ _, Nat.zero_le _, hm, by simp [zrow, madeCells], by intro i u h; simp at h⟩⟩
theorem run_sl {P : Program} {t e : TypeId} {z bytes : Nat} {zv : Value} (E : ElT P t t e z bytes zv) (b o len cap : Nat) (lo hi : Option Value) (l h : Nat) (w : World)
    (hb : (Instr.sliceBounds true len cap lo hi none).run P w = .ok (l, h, cap) w) : (Instr.sliceAt t (.slice (some ⟨b, o, none⟩) len cap) lo hi none).run P w = .ok (.slice (some ⟨b, if cap = l then o else o + l * z, none⟩) (h - l) (cap - l)) w := by
  obtain ⟨i, hi, rfl, hz, rfl⟩ := E.info
  simp only [Instr.sliceAt, Sem.run_bind, run_underlying_some E.un, Result.andThen_ok, Instr.slice, hb]
  simp only [sizeOf, typeInfo, Sem.run_bind, program, Sem.run, hi, Result.andThen_ok, Sem.run_pure, Option.map_some]
  by_cases hc : cap = l
  · simp [hc]
  · simp [hc, addr_add]
theorem run_bound {P : Program} (k : IntKind) (n y : Nat) (c : BoundsCode) (w : World) (h : n ≤ y) : (Instr.sliceBound (.int k n) y c).run P w = .ok n w := by
  simp [Instr.sliceBound, asIntOf, h]
theorem run_hi {P : Program} {t e : TypeId} {z bytes : Nat} {zv : Value} (E : ElT P t t e z bytes zv) (b o len cap : Nat) (k : IntKind) (n : Nat) (w : World) (h : n ≤ cap) : (Instr.sliceAt t (.slice (some ⟨b, o, none⟩) len cap) none (some (.int k n)) none).run P w = .ok (.slice (some ⟨b, o, none⟩) n cap) w := by
  have := run_sl E b o len cap none (some (.int k n)) 0 n w (by simp [Instr.sliceBounds, run_bound _ _ _ _ _ h])
  simpa using this
theorem run_lo {P : Program} {t e : TypeId} {z bytes : Nat} {zv : Value} (E : ElT P t t e z bytes zv) (b o len cap : Nat) (k : IntKind) (n : Nat) (w : World) (h : n ≤ len) : (Instr.sliceAt t (.slice (some ⟨b, o, none⟩) len cap) (some (.int k n)) none none).run P w = .ok (.slice (some ⟨b, if cap = n then o else o + n * z, none⟩) (len - n) (cap - n)) w :=
  run_sl E b o len cap (some (.int k n)) none n len w (by simp [Instr.sliceBounds, run_bound _ _ _ _ _ h])
def MapI (w : World) (r : Nat) (es : Array MapEntry) (clock : Nat) (m : Int → Option Value) : Prop :=
  w.heap[r]? = some (.map es clock) ∧ (∀ x ∈ es.toList, x.born < clock) ∧ (es.toList.map (·.born)).Nodup ∧ (es.toList.map (·.key)).Nodup ∧ (∀ x ∈ es.toList, ∃ i, x.key = .int .i64 i) ∧ ∀ i v, m i = some v ↔ ∃ x ∈ es.toList, x.key = .int .i64 i ∧ x.val = v
theorem MapI.lt {w : World} {r : Nat} {es : Array MapEntry} {clock : Nat} {m : Int → Option Value} (h : MapI w r es clock m) : r < w.heap.size := lt_of_heap h.1
theorem MapI.of_heap {w w' : World} {r : Nat} {es : Array MapEntry} {clock : Nat} {m : Int → Option Value} (h : MapI w r es clock m) (e : w'.heap[r]? = w.heap[r]?) : MapI w' r es clock m := ⟨e.trans h.1, h.2⟩
theorem MapI.empty {w : World} {r clock : Nat} (h : w.heap[r]? = some (.map #[] clock)) : MapI w r #[] clock (fun _ => none) := ⟨h, by simp, by simp, by simp, by simp, by simp⟩
theorem ev_makeMap {P : Program} (t : TypeId) (w : World) (k : K1) : ev P (Instr.makeMap t none) w k = k (.map (some w.heap.size)) (w.alloc (.map #[] 0)) := rfl
def mapT (P : Program) (t : TypeId) : Bool :=
  match P.underlying t with
  | some (.map kt _) => match P.underlying kt with
    | some (.int .i64) => true
    | _ => false
  | _ => false
theorem mapT_un {P : Program} {t : TypeId} (h : mapT P t = true) : ∃ kt et, P.underlying t = some (.map kt et) ∧ P.underlying kt = some (.int .i64) := by
  unfold mapT at h
  split at h
  · rename_i kt et hu
    split at h
    · rename_i hk; exact ⟨kt, et, hu, hk⟩
    · cases h
  · cases h
def putO (w : World) (r : Nat) (o : Obj) : World := { w with heap := w.heap.setIfInBounds r o }
theorem putO_eq {w : World} {r : Nat} {o o' : Obj} (h : w.heap[r]? = some o) : (putO w r o').heap[r]? = some o' := (MapKept.heap_set h).1
theorem putO_ne {w : World} {r b : Nat} {o' : Obj} (h : b ≠ r) : (putO w r o').heap[b]? = w.heap[b]? := by
  show (w.heap.setIfInBounds r o')[b]? = _
  rw [Array.getElem?_setIfInBounds_ne (Ne.symm h)]
theorem putO_frm {w : World} {r : Nat} {o' : Obj} : Frm (fun b => b = r) w (putO w r o') := ⟨rfl, rfl, rfl, by simp [putO], fun _ _ hn => putO_ne hn⟩
theorem isKey_i64 (i : Int) : MapKept.IsKey (.int .i64) (.int .i64 i) := by simp [MapKept.IsKey]
theorem ac_mapUpdate {P : Program} {t : TypeId} (ht : mapT P t = true) {w : World} {r : Nat} {es : Array MapEntry} {clock : Nat} {m : Int → Option Value} (hm : MapI w r es clock m) (i : Int) (v : Value) {k : World → Prop}
    (h : ∀ w' es' clock', MapI w' r es' clock' (fun j => if j = i then some v else m j) → Frm (fun b => b = r) w w' → k w') : ac P (Instr.mapUpdate t (.map (some r)) (.int .i64 i) v) w k := by
  obtain ⟨kt, et, hu, hk⟩ := mapT_un ht
  obtain ⟨hb, hclk, hbn, hkn, hks, hmm⟩ := hm
  have hks' : ∀ x ∈ es.toList, MapKept.IsKey (.int .i64) x.key := by
    intro x hx; obtain ⟨i, e⟩ := hks x hx; rw [e]; exact isKey_i64 i
  unfold ac
  rcases MapKept.findNow_spec (isKey_i64 i) es.toList 0 hks' with ⟨h1, h2⟩ | ⟨j, e, h1, h2, h3⟩
  · have hr : (Instr.mapUpdate t (.map (some r)) (.int .i64 i) v).run P w = .ok () (putO w r (.map (es.push { key := .int .i64 i, val := v, born := clock }) (clock + 1))) := by
      simp [Instr.mapUpdate, run_underlying hu, MapKept.run_getObj_map hb, MapKept.run_checkKey hk (isKey_i64 i), MapKept.run_findKey hk h1, MapKept.run_setObj_map _ hb, putO]
    rw [hr]
    refine h _ _ _ ⟨putO_eq hb, ?_, ?_, ?_, ?_, ?_⟩ putO_frm
    · intro x hx
      simp only [Array.toList_push, List.mem_append, List.mem_singleton] at hx
      rcases hx with hx | rfl
      · have := hclk x hx; omega
      · exact Nat.lt_succ_self _
    · simp only [Array.toList_push, List.map_append, List.map_cons, List.map_nil]
      rw [List.nodup_append]
      refine ⟨hbn, by simp, ?_⟩
      intro a ha b hb' e
      simp only [List.mem_singleton] at hb'
      obtain ⟨x, hx, rfl⟩ := List.mem_map.1 ha
      have := hclk x hx
      omega
    · simp only [Array.toList_push, List.map_append, List.map_cons, List.map_nil]
      rw [List.nodup_append]
      refine ⟨hkn, by simp, ?_⟩
      intro a ha b hb' e
      simp only [List.mem_singleton] at hb'
      obtain ⟨x, hx, rfl⟩ := List.mem_map.1 ha
      exact h2 x hx (e.trans hb')
    · intro x hx
      simp only [Array.toList_push, List.mem_append, List.mem_singleton] at hx
      rcases hx with hx | rfl
      · exact hks x hx
      · exact ⟨i, rfl⟩
    · intro j u
      simp only [Array.toList_push, List.mem_append, List.mem_singleton]
      by_cases hj : j = i
      · subst hj
        simp only [if_true, Option.some.injEq]
        constructor
        · rintro rfl; exact ⟨_, .inr rfl, rfl, rfl⟩
        · rintro ⟨x, hx | rfl, hk, hv⟩
          · exact absurd hk (h2 x hx)
          · exact hv
      · simp only [hj, if_false]
        rw [hmm]
        constructor
        · rintro ⟨x, hx, hk, hv⟩; exact ⟨x, .inl hx, hk, hv⟩
        · rintro ⟨x, hx | rfl, hk, hv⟩
          · exact ⟨x, hx, hk, hv⟩
          · injection hk with _ hk; exact absurd hk.symm hj
  · have hj : es[j]? = some e := by simpa using h2
    have hr : (Instr.mapUpdate t (.map (some r)) (.int .i64 i) v).run P w = .ok () (putO w r (.map (es.modify j fun e => { e with key := .int .i64 i, val := v }) clock)) := by
      simp [Instr.mapUpdate, run_underlying hu, MapKept.run_getObj_map hb, MapKept.run_checkKey hk (isKey_i64 i), MapKept.run_findKey hk h1, hj, h3, MapKept.run_keyThatStays (isKey_i64 i), MapKept.run_setObj_map _ hb, putO]
    rw [hr]
    have hkey : ∀ e', es[j]? = some e' → ({ e' with key := .int .i64 i, val := v } : MapEntry).key = e'.key := fun e' he' => by rw [hj] at he'; cases he'; exact h3.symm
    have hjl : j < es.size := (Array.getElem?_eq_some_iff.1 hj).1
    have hst := MapKept.stamped_modify (es := es) (clock := clock) ⟨hclk, hbn, hkn⟩ j (fun e => { e with key := .int .i64 i, val := v }) (fun _ _ => rfl) (fun e' _ he' => hkey e' he')
    have hmem : ∀ x, x ∈ (es.modify j fun e => { e with key := .int .i64 i, val := v }).toList ↔ (x = { e with key := .int .i64 i, val := v } ∨ (x ∈ es.toList ∧ x.key ≠ .int .i64 i)) := by
      intro x
      rw [Array.mem_toList_iff, Array.mem_iff_getElem?]
      constructor
      · rintro ⟨q, hq⟩
        rw [Array.getElem?_modify] at hq
        by_cases hqj : j = q
        · subst hqj; rw [if_pos rfl, hj] at hq; simp at hq; exact .inl hq.symm
        · rw [if_neg hqj] at hq
          refine .inr ⟨by rw [Array.mem_toList_iff, Array.mem_iff_getElem?]; exact ⟨q, hq⟩, ?_⟩
          intro hxk
          have hql : q < es.size := (Array.getElem?_eq_some_iff.1 hq).1
          have h5 : (es.toList.map (·.key))[q]? = some (.int .i64 i) := by simp [List.getElem?_map, hq, hxk]
          have h6 : (es.toList.map (·.key))[j]? = some (.int .i64 i) := by simp [List.getElem?_map, hj, h3]
          exact hqj ((List.getElem?_inj (by simpa using hjl) hkn).1 (h6.trans h5.symm))
      · rintro (rfl | ⟨hx, hxk⟩)
        · exact ⟨j, by rw [Array.getElem?_modify, if_pos rfl, hj]; rfl⟩
        · rw [Array.mem_toList_iff, Array.mem_iff_getElem?] at hx
          obtain ⟨q, hq⟩ := hx
          refine ⟨q, ?_⟩
          rw [Array.getElem?_modify, if_neg, hq]
          intro hqj; subst hqj; rw [hj] at hq; cases hq; exact hxk h3
    refine h _ _ _ ⟨putO_eq hb, hst.1, hst.2.1, hst.2.2, ?_, ?_⟩ putO_frm
    · intro x hx
      rcases (hmem x).1 hx with rfl | ⟨hx, _⟩
      · exact ⟨i, rfl⟩
      · exact hks x hx
    · intro q u
      by_cases hq : q = i
      · subst hq
        simp only [if_true, Option.some.injEq]
        constructor
        · rintro rfl; exact ⟨_, (hmem _).2 (.inl rfl), rfl, rfl⟩
        · rintro ⟨x, hx, hk, hv⟩
          rcases (hmem x).1 hx with rfl | ⟨_, hn⟩
          · exact hv
          · exact absurd hk hn
      · simp only [hq, if_false]
        rw [hmm]
        constructor
        · rintro ⟨x, hx, hk, hv⟩; exact ⟨x, (hmem x).2 (.inr ⟨hx, by rw [hk]; intro e; injection e with _ e; exact hq e⟩), hk, hv⟩
        · rintro ⟨x, hx, hk, hv⟩
          rcases (hmem x).1 hx with rfl | ⟨hx, _⟩
          · injection hk with _ hk; exact absurd hk.symm hq
          · exact ⟨x, hx, hk, hv⟩
theorem ev_range {P : Program} {t : TypeId} (ht : mapT P t = true) {w : World} {r : Nat} {es : Array MapEntry} {clock : Nat} (hb : w.heap[r]? = some (.map es clock)) (k : K1) :
    ev P (Instr.range t (.map (some r))) w k = k (.pointer (some ⟨w.heap.size, 0, none⟩)) (w.alloc (.mapIter (some r) clock #[] clock)) := by
  obtain ⟨kt, et, hu, hk⟩ := mapT_un ht
  exact ev_of_run (run_range_map w t kt et r es clock hu hb) k
theorem ev_next {P : Program} {ty : TypeId} {w : World} {it m since last clock : Nat} {seen : Array Nat} {es : Array MapEntry} (hit : w.heap[it]? = some (.mapIter (some m) since seen last)) (hm : w.heap[m]? = some (.map es clock)) (hold : ∀ x ∈ es.toList, x.born < since) (hsl : since ≤ last) {k : K1}
    (h0 : (∀ x ∈ es.toList, x.born ∈ seen) → ∀ w', Ext w w' → k (.tuple #[.bool false]) w')
    (h1 : ∀ x ∈ es.toList, x.born ∉ seen → ∀ w', w'.heap[it]? = some (.mapIter (some m) since (seen.push x.born) clock) → w'.heap.size = w.heap.size → Frm (fun b => b = it) w w' → k (.tuple #[.bool true, x.key, x.val]) w') : ev P (Instr.next (.pointer (some ⟨it, 0, none⟩)) false ty) w k := by
  unfold ev
  simp only [Instr.next, getObj, Sem.run_bind, Sem.run, hit, hm, Result.andThen, Go.next_test_false seen es since last hold hsl, Bool.false_eq_true, if_false]
  have hmem : ∀ x ∈ (Array.filter (fun e => !seen.contains e.born) es).toList, x ∈ es.toList ∧ x.born ∉ seen := fun x hx => by simpa using hx
  have hall : (Array.filter (fun e => !seen.contains e.born) es).size = 0 → ∀ x ∈ es.toList, x.born ∈ seen := by
    intro h x hx
    by_cases hs : x.born ∈ seen
    · exact hs
    · have : x ∈ Array.filter (fun e => !seen.contains e.born) es := by simp [hs]; simpa using hx
      rw [Array.eq_empty_of_size_eq_zero h] at this
      simp at this
  generalize Array.filter (fun e => !seen.contains e.born) es = L at hmem hall ⊢
  have e1 : L.filter (fun x => decide (x.born < since)) = L := Array.filter_eq_self.2 (fun x hx => by simpa using hold x (hmem x (by simpa using hx)).1)
  have e2 : L.filter (fun x => decide (x.born ≥ since)) = #[] := by
    rw [Array.filter_eq_empty_iff]
    intro x hx
    have := hold x (hmem x (by simpa using hx)).1
    simp
    omega
  simp only [e1, e2, Array.append_empty]
  by_cases hz : L.size = 0
  · have : L = #[] := Array.eq_empty_of_size_eq_zero hz
    subst this
    have hr : (choose (Question.mapNext 1)).run P w = .ok 0 w := by simp [choose, Sem.run, Question.forced]
    simp only [Array.isEmpty_empty, if_true, Array.map_empty, Array.append_empty, List.size_toArray, List.length_singleton, hr]
    exact h0 (hall hz) w (Ext.refl w)
  · have hne : L.isEmpty = false := by simp [Array.isEmpty, hz]
    simp only [hne, Bool.false_eq_true, if_false, Array.empty_append, Array.size_map]
    have hch : ∃ (j : Nat) (w1 : World), j < L.size ∧ w1.heap = w.heap ∧ w1.os = w.os ∧ w1.tape = w.tape ∧ w1.output = w.output ∧ (choose (Question.mapNext L.size)).run P w = .ok j w1 := by
      by_cases hf : L.size ≤ 1
      · exact ⟨0, w, by omega, rfl, rfl, rfl, rfl, by simp [choose, Sem.run, Question.forced, hf]⟩
      · exact ⟨_, w.drew, Nat.mod_lt _ (by omega), rfl, rfl, rfl, rfl, by
          simp only [choose, Sem.run, Question.forced, decide_eq_true_eq, hf, if_false, Question.cut]
          rfl⟩
    obtain ⟨j, w1, hj, a1, a2, a3, a4, hrun⟩ := hch
    have hit1 : w1.heap[it]? = some (.mapIter (some m) since seen last) := by rw [a1]; exact hit
    have hset : ∀ o', (setObj it o').run P w1 = .ok () (putO w1 it o') := fun o' => by simp [setObj, Sem.run, hit1, putO]
    simp only [hrun, Array.getElem?_map, Array.getElem?_eq_getElem hj, Option.map_some, Sem.run_bind, hset, Result.andThen]
    have hx := hmem L[j] (by simp)
    refine h1 L[j] hx.1 hx.2 _ (putO_eq hit1) (by simp [putO, a1]) ⟨a2, a3, a4, by simp [putO, a1], ?_⟩
    intro b hb hn
    rw [putO_ne hn, a1]
theorem ev_entry {P : Program} {w : World} {it m since clock stamp : Nat} {seen : Array Nat} {es : Array MapEntry} (hit : w.heap[it]? = some (.mapIter (some m) since (seen.push stamp) clock)) (hm : w.heap[m]? = some (.map es clock)) (hn : (es.toList.map (·.born)).Nodup) {x : MapEntry} (hx : x ∈ es.toList) (hxs : x.born = stamp) (k : K1) :
    ev P (Instr.entry (.pointer (some ⟨it, 0, none⟩))) w k = k (.tuple #[x.key, x.val]) w := by
  refine ev_of_run ?_ k
  subst hxs
  have hf := find_born x es.toList hn hx
  have hf' : es.find? (fun e => e.born == x.born) = some x := by rw [← Array.find?_toList]; exact hf
  simp [Instr.entry, getObj, Sem.run, hit, hm, Sem.run_bind, hf']
theorem blt_clear {P : Program} {t ty : TypeId} (ht : mapT P t = true) {cs : Array Bool} {w : World} {r : Nat} {es : Array MapEntry} {clock : Nat} (hb : w.heap[r]? = some (.map es clock)) (k : K1) :
    bltS P .clear #[t] ty cs #[.map (some r)] w k = k (.tuple #[]) (putO w r (.map #[] clock)) := by
  obtain ⟨kt, et, hu, hk⟩ := mapT_un ht
  have hr : (Builtin.clear_ #[t] ty #[.map (some r)]).run P w = .ok (.tuple #[]) (putO w r (.map #[] clock)) := by
    simp [Builtin.clear_, run_underlying hu, MapKept.run_getObj_map hb, MapKept.run_setObj_map _ hb, putO]
  unfold bltS builtin
  rw [Sem.run_bind, hr]; rfl
theorem ev_bs0 {P : Program} {t e : TypeId} {z bytes : Nat} {zv : Value} (E : ElT P t t e z bytes zv) (w : World) (k : K1) : ev P (Instr.buildSlice t 0 #[]) w k = k (.slice (some ⟨w.heap.size, 0, none⟩) 0 0) (w.alloc (.cells #[] e)) := by
  obtain ⟨i, hi, rfl, hz, rfl⟩ := E.info
  refine ev_of_run ?_ k
  unfold Instr.buildSlice
  rw [Sem.run_bind, run_underlying_some E.un, Result.andThen_ok]
  simp only
  simp [sizeOf, typeInfo, program, Sem.run, hi, Sem.run_bind, Instr.fill, newRow, Array.range_zero']
theorem SlO.lit0 (w : World) (t : TypeId) (z : Nat) : SlO (w.alloc (.cells #[] t)) t z (.slice (some ⟨w.heap.size, 0, none⟩) 0 0) 0 [] :=
  ⟨by simp, .inr ⟨w.heap.size, 0, 0, #[], rfl, heap_alloc_eq _ _, Nat.le_refl _, Nat.zero_le _, by simp, by intro i u h; simp at h⟩⟩
def slT (P : Program) (t : TypeId) : Bool := sliceT P t
theorem equalIn_sl {P : Program} {t : TypeId} (h : sliceT P t = true) (p : Option Addr) (n c : Nat) (w : World) (d : Nat) : (Op.equalIn (d + 1) t (.slice p n c) (.slice none 0 0)).run P w = .ok p.isNone w := by
  unfold sliceT at h
  split at h
  · rename_i e hu
    unfold Op.equalIn
    rw [Sem.run_bind, run_underlying_some hu, Result.andThen_ok]
    cases p <;> rfl
  · cases h
theorem run_eq_sl_nil {P : Program} {t : TypeId} (h : sliceT P t = true) (x y : Operand) (p : Option Addr) (n c : Nat) (w : World) : (binM .eql t x y (.slice p n c) (.slice none 0 0)).run P w = .ok (.bool p.isNone) w :=
  run_eqM (by cases p <;> rfl) (by cases p <;> rfl) (equalIn_sl h p n c w)
theorem run_neq_sl_nil {P : Program} {t : TypeId} (h : sliceT P t = true) (x y : Operand) (p : Option Addr) (n c : Nat) (w : World) : (binM .neq t x y (.slice p n c) (.slice none 0 0)).run P w = .ok (.bool (!p.isNone)) w :=
  run_neM (by cases p <;> rfl) (by cases p <;> rfl) (equalIn_sl h p n c w)
theorem run_shr_i {P : Program} {k : IntKind} (t : TypeId) (x y : Operand) (a : Nat) (n : Int) (w : World) (h0 : 0 ≤ n) (hn : n ≤ k.bits) : (binM .shr t x y (.int k (a : Int)) (.int .i64 n)).run P w = .ok (.int k ((a / 2 ^ n.toNat : Nat) : Int)) w := by
  have := shr_nat (P := P) (k := k) (j := .i64) t x y a n.toNat w (by omega)
  rwa [Int.toNat_of_nonneg h0] at this
theorem run_shl_i {P : Program} {k : IntKind} (hu : unsg k = true) (t : TypeId) (x y : Operand) (a : Nat) (n : Int) (w : World) (h0 : 0 ≤ n) (hn : n ≤ k.bits) : (binM .shl t x y (.int k (a : Int)) (.int .i64 n)).run P w = .ok (.int k ((a * 2 ^ n.toNat % 2 ^ k.bits : Nat) : Int)) w := by
  have := shl_nat (P := P) (k := k) (j := .i64) hu t x y a n.toNat w (by omega)
  rwa [Int.toNat_of_nonneg h0] at this
end Go.Sh
namespace Go.Proofs.YtaeopkhdokaaoaaGreatDoor
open Go Go.Sh
set_option maxRecDepth 100000
set_option linter.unusedVariables false
set_option linter.defProp false
theorem el_38_38 : ElT Tryz.prog 38 38 37 2 16 (.agg #[.int .u64 0, .int .u64 0]) := ⟨by kernel_rfl, by kernel_rfl, by kernel_rfl, by kernel_rfl, by decide⟩
theorem el_72_72 : ElT Tryz.prog 72 72 33 1 8 (.int .u64 0) := ⟨by kernel_rfl, by kernel_rfl, by kernel_rfl, by kernel_rfl, by decide⟩
theorem el_27_27 : ElT Tryz.prog 27 27 133 3 24 (.agg #[.int .u8 0, .int .u64 0, .int .u64 0]) := ⟨by kernel_rfl, by kernel_rfl, by kernel_rfl, by kernel_rfl, by decide⟩
theorem el_153_153 : ElT Tryz.prog 153 153 163 2 32 (.agg #[.int .u64 0, .slice none 0 0]) := ⟨by kernel_rfl, by kernel_rfl, by kernel_rfl, by kernel_rfl, by decide⟩
theorem inv_48_Size (p : Option Addr) (w : World) (k : K1) : invS Tryz.prog (.iface 48 (.pointer p)) "Size" #[] w k = callS Tryz.prog 162 #[.pointer p] w k := inv_of_run (by kernel_rfl) k
theorem inv_48_Err (p : Option Addr) (w : World) (k : K1) : invS Tryz.prog (.iface 48 (.pointer p)) "Err" #[] w k = callS Tryz.prog 28 #[.pointer p] w k := inv_of_run (by kernel_rfl) k
theorem inv_48_Load (p : Option Addr) (a0 : Value) (w : World) (k : K1) : invS Tryz.prog (.iface 48 (.pointer p)) "Load" #[a0] w k = callS Tryz.prog 52 #[.pointer p, a0] w k := inv_of_run (by kernel_rfl) k
theorem inv_48_Store (p : Option Addr) (a0 a1 : Value) (w : World) (k : K1) : invS Tryz.prog (.iface 48 (.pointer p)) "Store" #[a0, a1] w k = callS Tryz.prog 25 #[.pointer p, a0, a1] w k := inv_of_run (by kernel_rfl) k
theorem inv_48_Flush (p : Option Addr) (a0 : Value) (w : World) (k : K1) : invS Tryz.prog (.iface 48 (.pointer p)) "Flush" #[a0] w k = callS Tryz.prog 161 #[.pointer p, a0] w k := inv_of_run (by kernel_rfl) k
theorem inv_48_Fence (p : Option Addr) (w : World) (k : K1) : invS Tryz.prog (.iface 48 (.pointer p)) "Fence" #[] w k = callS Tryz.prog 67 #[.pointer p] w k := inv_of_run (by kernel_rfl) k
def RQ0 :=
  And.intro (@ev_make Tryz.prog 72 _ _ _ _ el_72_72) <|
  And.intro (@ev_make Tryz.prog 153 _ _ _ _ el_153_153) <|
  And.intro (@ev_bs0 Tryz.prog 72 _ _ _ _ el_72_72) <|
  And.intro (fun x y p n c w k => ev_of_run (@Go.Sh.run_eq_sl_nil Tryz.prog 72 (by kernel_rfl) x y p n c w) k) <|
  And.intro (fun x y p n c w k => ev_of_run (@Go.Sh.run_neq_sl_nil Tryz.prog 72 (by kernel_rfl) x y p n c w) k) <|
  And.intro (fun ty a n c w k => rd_of_run (@Go.Sh.run_len Tryz.prog 27 (by kernel_rfl) ty a n c w) k) <|
  And.intro (fun ty a n c w u => ag_of_run (@Go.Sh.run_len Tryz.prog 27 (by kernel_rfl) ty a n c w) u) <|
  And.intro (fun ty a n c w k => rd_of_run (@Go.Sh.run_len Tryz.prog 38 (by kernel_rfl) ty a n c w) k) <|
  And.intro (fun ty a n c w u => ag_of_run (@Go.Sh.run_len Tryz.prog 38 (by kernel_rfl) ty a n c w) u) <|
  And.intro (fun ty a n c w k => rd_of_run (@Go.Sh.run_len Tryz.prog 72 (by kernel_rfl) ty a n c w) k) <|
  And.intro (fun ty a n c w u => ag_of_run (@Go.Sh.run_len Tryz.prog 72 (by kernel_rfl) ty a n c w) u) <|
  (fun ty a n c w k => rd_of_run (@Go.Sh.run_len Tryz.prog 75 (by kernel_rfl) ty a n c w) k)
def RQ1 :=
  And.intro (fun ty a n c w u => ag_of_run (@Go.Sh.run_len Tryz.prog 75 (by kernel_rfl) ty a n c w) u) <|
  And.intro (fun ty a n c w k => rd_of_run (@Go.Sh.run_len Tryz.prog 74 (by kernel_rfl) ty a n c w) k) <|
  And.intro (fun ty a n c w u => ag_of_run (@Go.Sh.run_len Tryz.prog 74 (by kernel_rfl) ty a n c w) u) <|
  And.intro (fun ty a n c w k => rd_of_run (@Go.Sh.run_len Tryz.prog 168 (by kernel_rfl) ty a n c w) k) <|
  And.intro (fun ty a n c w u => ag_of_run (@Go.Sh.run_len Tryz.prog 168 (by kernel_rfl) ty a n c w) u) <|
  And.intro (fun ty a n c w k => rd_of_run (@Go.Sh.run_len Tryz.prog 173 (by kernel_rfl) ty a n c w) k) <|
  And.intro (fun ty a n c w u => ag_of_run (@Go.Sh.run_len Tryz.prog 173 (by kernel_rfl) ty a n c w) u) <|
  And.intro (fun ty a n c w k => rd_of_run (@Go.Sh.run_len Tryz.prog 153 (by kernel_rfl) ty a n c w) k) <|
  And.intro (fun ty a n c w u => ag_of_run (@Go.Sh.run_len Tryz.prog 153 (by kernel_rfl) ty a n c w) u) <|
  And.intro (fun b o len cap kd n w (k : K1) h => ev_of_run (run_hi el_72_72 b o len cap kd n w h) k) <|
  And.intro (fun b o len cap kd n w (k : K1) h => ev_of_run (run_lo el_72_72 b o len cap kd n w h) k) <|
  (fun b o len cap kd n w (k : Value → Prop) h => rd_of_run (run_hi el_72_72 b o len cap kd n w h) k)
def RQ2 :=
  And.intro (fun b o len cap kd n w (k : Value → Prop) h => rd_of_run (run_lo el_72_72 b o len cap kd n w h) k) <|
  And.intro (fun b o len cap kd n w (k : K1) h => ev_of_run (run_hi el_38_38 b o len cap kd n w h) k) <|
  And.intro (fun b o len cap kd n w (k : K1) h => ev_of_run (run_lo el_38_38 b o len cap kd n w h) k) <|
  And.intro (fun b o len cap kd n w (k : Value → Prop) h => rd_of_run (run_hi el_38_38 b o len cap kd n w h) k) <|
  And.intro (fun b o len cap kd n w (k : Value → Prop) h => rd_of_run (run_lo el_38_38 b o len cap kd n w h) k) <|
  And.intro (fun b o len cap kd n w (k : K1) h => ev_of_run (run_hi el_27_27 b o len cap kd n w h) k) <|
  And.intro (fun b o len cap kd n w (k : K1) h => ev_of_run (run_lo el_27_27 b o len cap kd n w h) k) <|
  And.intro (fun b o len cap kd n w (k : Value → Prop) h => rd_of_run (run_hi el_27_27 b o len cap kd n w h) k) <|
  And.intro (fun b o len cap kd n w (k : Value → Prop) h => rd_of_run (run_lo el_27_27 b o len cap kd n w h) k) <|
  And.intro (fun t x y (a : Nat) (n : Int) w (k : K1) (h0 : 0 ≤ n) (hn : n ≤ 8) => ev_of_run (Go.Sh.run_shr_i (P := Tryz.prog) (k := .u8) t x y a n w h0 hn) k) <|
  And.intro (fun t x y (a : Nat) (n : Int) w (k : K1) (h0 : 0 ≤ n) (hn : n ≤ 8) => ev_of_run (show (binM .shl t x y (.int .u8 (a : Int)) (.int .i64 n)).run Tryz.prog w = .ok (.int .u8 ((a * 2 ^ n.toNat % 256 : Nat) : Int)) w from Go.Sh.run_shl_i (k := .u8) rfl t x y a n w h0 hn) k) <|
  (fun t x y (a : Nat) (n : Int) w (k : Value → Prop) (h0 : 0 ≤ n) (hn : n ≤ 8) => rd_of_run (Go.Sh.run_shr_i (P := Tryz.prog) (k := .u8) t x y a n w h0 hn) k)
def RQ3 :=
  And.intro (fun t x y (a : Nat) (n : Int) w (k : Value → Prop) (h0 : 0 ≤ n) (hn : n ≤ 8) => rd_of_run (show (binM .shl t x y (.int .u8 (a : Int)) (.int .i64 n)).run Tryz.prog w = .ok (.int .u8 ((a * 2 ^ n.toNat % 256 : Nat) : Int)) w from Go.Sh.run_shl_i (k := .u8) rfl t x y a n w h0 hn) k) <|
  And.intro (fun t x y (a : Nat) (n : Int) w (k : K1) (h0 : 0 ≤ n) (hn : n ≤ 16) => ev_of_run (Go.Sh.run_shr_i (P := Tryz.prog) (k := .u16) t x y a n w h0 hn) k) <|
  And.intro (fun t x y (a : Nat) (n : Int) w (k : K1) (h0 : 0 ≤ n) (hn : n ≤ 16) => ev_of_run (show (binM .shl t x y (.int .u16 (a : Int)) (.int .i64 n)).run Tryz.prog w = .ok (.int .u16 ((a * 2 ^ n.toNat % 65536 : Nat) : Int)) w from Go.Sh.run_shl_i (k := .u16) rfl t x y a n w h0 hn) k) <|
  And.intro (fun t x y (a : Nat) (n : Int) w (k : Value → Prop) (h0 : 0 ≤ n) (hn : n ≤ 16) => rd_of_run (Go.Sh.run_shr_i (P := Tryz.prog) (k := .u16) t x y a n w h0 hn) k) <|
  And.intro (fun t x y (a : Nat) (n : Int) w (k : Value → Prop) (h0 : 0 ≤ n) (hn : n ≤ 16) => rd_of_run (show (binM .shl t x y (.int .u16 (a : Int)) (.int .i64 n)).run Tryz.prog w = .ok (.int .u16 ((a * 2 ^ n.toNat % 65536 : Nat) : Int)) w from Go.Sh.run_shl_i (k := .u16) rfl t x y a n w h0 hn) k) <|
  And.intro (fun t x y (a : Nat) (n : Int) w (k : K1) (h0 : 0 ≤ n) (hn : n ≤ 32) => ev_of_run (Go.Sh.run_shr_i (P := Tryz.prog) (k := .u32) t x y a n w h0 hn) k) <|
  And.intro (fun t x y (a : Nat) (n : Int) w (k : K1) (h0 : 0 ≤ n) (hn : n ≤ 32) => ev_of_run (show (binM .shl t x y (.int .u32 (a : Int)) (.int .i64 n)).run Tryz.prog w = .ok (.int .u32 ((a * 2 ^ n.toNat % 4294967296 : Nat) : Int)) w from Go.Sh.run_shl_i (k := .u32) rfl t x y a n w h0 hn) k) <|
  And.intro (fun t x y (a : Nat) (n : Int) w (k : Value → Prop) (h0 : 0 ≤ n) (hn : n ≤ 32) => rd_of_run (Go.Sh.run_shr_i (P := Tryz.prog) (k := .u32) t x y a n w h0 hn) k) <|
  And.intro (fun t x y (a : Nat) (n : Int) w (k : Value → Prop) (h0 : 0 ≤ n) (hn : n ≤ 32) => rd_of_run (show (binM .shl t x y (.int .u32 (a : Int)) (.int .i64 n)).run Tryz.prog w = .ok (.int .u32 ((a * 2 ^ n.toNat % 4294967296 : Nat) : Int)) w from Go.Sh.run_shl_i (k := .u32) rfl t x y a n w h0 hn) k) <|
  And.intro (fun t x y (a : Nat) (n : Int) w (k : K1) (h0 : 0 ≤ n) (hn : n ≤ 64) => ev_of_run (Go.Sh.run_shr_i (P := Tryz.prog) (k := .u64) t x y a n w h0 hn) k) <|
  And.intro (fun t x y (a : Nat) (n : Int) w (k : K1) (h0 : 0 ≤ n) (hn : n ≤ 64) => ev_of_run (show (binM .shl t x y (.int .u64 (a : Int)) (.int .i64 n)).run Tryz.prog w = .ok (.int .u64 ((a * 2 ^ n.toNat % 18446744073709551616 : Nat) : Int)) w from Go.Sh.run_shl_i (k := .u64) rfl t x y a n w h0 hn) k) <|
  (fun t x y (a : Nat) (n : Int) w (k : Value → Prop) (h0 : 0 ≤ n) (hn : n ≤ 64) => rd_of_run (Go.Sh.run_shr_i (P := Tryz.prog) (k := .u64) t x y a n w h0 hn) k)
def RQ4 :=
  And.intro (fun t x y (a : Nat) (n : Int) w (k : Value → Prop) (h0 : 0 ≤ n) (hn : n ≤ 64) => rd_of_run (show (binM .shl t x y (.int .u64 (a : Int)) (.int .i64 n)).run Tryz.prog w = .ok (.int .u64 ((a * 2 ^ n.toNat % 18446744073709551616 : Nat) : Int)) w from Go.Sh.run_shl_i (k := .u64) rfl t x y a n w h0 hn) k) <|
  And.intro (@ev_makeMap Tryz.prog 140) <|
  And.intro (fun b o kd i w k h0 h1 => rd_of_run (@Go.Sh.run_indexArr Tryz.prog 154 8 1 (by kernel_rfl) b o kd i w h0 h1) k) <|
  And.intro (fun b o kd i w k h0 h1 => rd_of_run (@Go.Sh.run_indexArr Tryz.prog 165 5 1 (by kernel_rfl) b o kd i w h0 h1) k) <|
  And.intro (fun b o kd i w k h0 h1 => rd_of_run (@Go.Sh.run_indexArr Tryz.prog 204 16 1 (by kernel_rfl) b o kd i w h0 h1) k) <|
  And.intro inv_48_Size <|
  And.intro inv_48_Err <|
  And.intro inv_48_Load <|
  And.intro inv_48_Store <|
  And.intro inv_48_Flush <|
  inv_48_Fence
def RA2 := And.intro RQ0 <| And.intro RQ1 <| And.intro RQ2 <| And.intro RQ3 <| RQ4
end Go.Proofs.YtaeopkhdokaaoaaGreatDoor
