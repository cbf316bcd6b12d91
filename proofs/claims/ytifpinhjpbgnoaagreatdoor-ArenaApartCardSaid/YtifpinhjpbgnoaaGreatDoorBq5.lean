/-
  Part 5 of what the proofs of this seat share.
-/
import Derived.Test.YtifpinhjpbgnoaaGreatDoorBq1
import Derived.Test.YtifpinhjpbgnoaaGreatDoorBq4
import Derived.Test.YtifpinhjpbgnoaaGreatDoorBq3
namespace Go.Proofs.YtifpinhjpbgnoaaGreatDoor
open Go Go.Sh
set_option maxRecDepth 100000
set_option linter.unusedVariables false
noncomputable def f14_u:Code×Dec:=((Tryz.f14.body).getD .skip,(.s .o (.s .o (.s .o (.s .o (.x 512 (.s .o (.b (.l [29] 268435971 2305843008676838592 .o))) .o))))))
abbrev f14_e (K:K1):KF:=endK Tryz.prog Tryz.f14.results.toList K
def f14_k1_o (K:K1):KF:=fun fr w=>∀σ,cP (pr (pr (pr (pr (pr f14_u))))) (f14_e K) (f14_e K) nX (mixF 512 σ 0 fr) w
def f14_k1 (K:K1) (x9:Value) (w:World):Prop:=f14_k1_o K (fz 62 0 [(9,x9)]) w
def f14_l1 (K:K1) (x0 x1 x9 x28 x29:Value) (w:World):Prop:=loopT [29] 268435971 (fun E=>cP (pl (pl (pr (pl (pr (pr (pr (pr f14_u)))))))) E (f14_e K) (exB 0 (f14_k1_o K) nX)) (fz 62 0 [(0,x0),(1,x1),(9,x9),(28,x28),(29,x29)]) w
def f14_k1_t (x9:Value) (K:K1) (w:World):Prop:=
 K (.tuple #[x9,(.int .i64 0)]) w
theorem f14_k1_eq (K:K1) (x9:Value) (w:World):f14_k1 K x9 w=f14_k1_t x9 K w:=cutE fun σ=>by kernel_rfl
def f14_l1_t (x0 x1 x9 x28 x29:Value) (K:K1) (E1:VP1) (w:World):Prop:=
 ev Tryz.prog (binM .lss 3 (.tmp 29) (.tmp 28) x29 x28) w fun t30 w_1=>
 cndS t30 (
 ev Tryz.prog (binM .mul 3 (.tmp 33) (.const (.int .i64 32)) x29 (.int .i64 32)) w_1 fun t34 w_2=>
 ev Tryz.prog (binM .add 3 (.tmp 32) (.tmp 34) x1 t34) w_2 fun t35 w_3=>
 callS Tryz.prog 48 (pA #[x0,t35]) w_3 fun t39 w_4=>
 ev Tryz.prog (Instr.extract t39 0) w_4 fun t40 w_5=>
 ev Tryz.prog (Instr.extract t39 1) w_5 fun t41 w_6=>
 ev Tryz.prog (Instr.alloc 67 true (.tuple #[])) w_6 fun t12 w_7=>
 stS Tryz.prog 67 t12 t40 w_7 fun w_8=>
 ev Tryz.prog (binM .neq 43 (.tmp 42) (.const (.int .i64 0)) t41 (.int .i64 0)) w_8 fun t43 w_9=>
 cndS t43 (
 K (.tuple #[(.pointer none),t41]) w_9) (
 nilR Tryz.prog x9 w_9.drew fun t47=>
 rd Tryz.prog (Instr.fieldAt 108 t47 1) w_9.drew fun t48=>
 ldR Tryz.prog 106 t48 w_9.drew fun t49=>
 rd Tryz.prog (Instr.fieldAt 67 t12 0) w_9.drew fun t51=>
 ldR Tryz.prog 3 t51 w_9.drew fun t52=>
 rd Tryz.prog (Instr.fieldAt 67 t12 1) w_9.drew fun t53=>
 ldR Tryz.prog 3 t53 w_9.drew fun t54=>
 rd Tryz.prog (Instr.build 112 #[(0,t35),(1,t52),(2,t54)]) w_9.drew fun t55=>
 ev Tryz.prog (Instr.buildSlice 106 1 #[(0,t55)]) w_9.drew fun t56 w_10=>
 (nilR Tryz.prog x9 w_10 (fun u=>u=t47))∧
 (ag Tryz.prog (Instr.fieldAt 108 t47 1) w_10 t48)∧
 (ldG Tryz.prog 106 t48 w_10 t49)∧
 bltS Tryz.prog .append #[106,106] 106 #[false,false] (pA #[t49,t56]) w_10 fun t57 w_11=>
 nilR Tryz.prog x9 w_11 fun t58=>
 rd Tryz.prog (Instr.fieldAt 108 t58 1) w_11 fun t59=>
 stS Tryz.prog 106 t59 t57 w_11 fun w_12=>
 ev Tryz.prog (binM .add 3 (.tmp 29) (.const (.int .i64 1)) x29 (.int .i64 1)) w_12 fun t60 w_13=>
 E1 t60 w_13)) (
 f14_k1 K x9 w_1)
theorem f14_l1_rule (x0 x1 x9 x28 x29:Value) (K:K1) (w:World) (I:VP1) (μ:Value→World→Nat) (h0:I x29 w)
  (hr:∀(x29:Value) (w:World),I x29 w→∀E1:VP1,(∀(y29:Value) (w':World),I y29 w'→μ y29 w'<μ x29 w→E1 y29 w')→f14_l1_t x0 x1 x9 x28 x29 K E1 w):f14_l1 K x0 x1 x9 x28 x29 w:=
 ⟨I,μ,h0,fun σ w hI E hE=>cast (by kernel_rfl) (hr (σ 29) w hI E hE)⟩
def f14_t (x0 x1 x2:Value) (K:K1) (w:World):Prop:=
 callS Tryz.prog 47 (pA #[x0,x1,x2]) w fun t17 w_1=>
 ev Tryz.prog (Op.unary .not t17) w_1 fun t18 w_2=>
 cndS t18 (
 K (.tuple #[(.pointer none),(.int .i64 1)]) w_2) (
 invS Tryz.prog x0 "Err" (pA #[]) w_2 fun t20 w_3=>
 ev Tryz.prog (binM .neq 43 (.tmp 21) (.const (.int .i64 0)) t20 (.int .i64 0)) w_3 fun t22 w_4=>
 cndS t22 (
 K (.tuple #[(.pointer none),t20]) w_4) (
 ev Tryz.prog (Instr.build 108 #[(0,x0)]) w_4 fun t25 w_5=>
 ev Tryz.prog (Instr.box 108 t25) w_5 fun t26 w_6=>
 ev Tryz.prog (binM .quo 3 (.tmp 27) (.const (.int .i64 32)) x2 (.int .i64 32)) w_6 fun t28 w_7=>
 f14_l1 K x0 x1 t26 t28 (.int .i64 0) w_7))
theorem f14_call (x0 x1 x2:Value) (K:K1) (w:World) (h:f14_t x0 x1 x2 K w):callS Tryz.prog 14 #[x0,x1,x2] w K:=
 call_of_txt (args:= [x0,x1,x2]) mixed Tryz.func14 f14_u.2 (by kernel_rfl) (cast (by kernel_rfl) h)
noncomputable def f22_u:Code×Dec:=((Tryz.f22.body).getD .skip,(.s .o (.s .o (.s .o (.s .o (.s .o (.s .o (.x 3591 .o .o))))))))
abbrev f22_e (K:K1):KF:=endK Tryz.prog Tryz.f22.results.toList K
def f22_k1_o (K:K1):KF:=fun fr w=>∀σ,cP (pr (pr (pr (pr (pr (pr (pr f22_u))))))) (f22_e K) (f22_e K) nX (mixF 3591 σ 0 fr) w
def f22_k1 (K:K1) (x0 x1 x2 x9 x10 x11:Value) (w:World):Prop:=f22_k1_o K (fz 95 0 [(0,x0),(1,x1),(2,x2),(9,x9),(10,x10),(11,x11)]) w
def f22_k1_t (x0 x1 x2 x9 x10 x11:Value) (K:K1) (w:World):Prop:=
 ev Tryz.prog (binM .neq 43 (.tmp 55) (.const (.int .i64 0)) x10 (.int .i64 0)) w fun t56 w_1=>
 cndS t56 (
 K (.tuple #[(.int .i64 0),x10]) w_1) (
 nilR Tryz.prog x9 w_1.drew fun t60=>
 rd Tryz.prog (Instr.fieldAt 112 t60 0) w_1.drew fun t61=>
 ldR Tryz.prog 3 t61 w_1.drew fun t62=>
 rd Tryz.prog (Instr.fieldAt 67 x11 2) w_1.drew fun t65=>
 ldR Tryz.prog 34 t65 w_1.drew fun t66=>
 rd Tryz.prog (Instr.build 67 #[(0,x2),(1,x1),(2,t66)]) w_1.drew fun t67=>
 callS Tryz.prog 61 (pA #[t62,t67]) w_1.drew fun t68 w_2=>
 rd Tryz.prog (Instr.extract t68 0) w_2 fun t69=>
 rd Tryz.prog (Instr.extract t68 1) w_2 fun t70=>
 ev Tryz.prog (binM .neq 43 (.tmp 71) (.const (.int .i64 0)) t70 (.int .i64 0)) w_2 fun t72 w_3=>
 cndS t72 (
 K (.tuple #[(.int .i64 0),t70]) w_3) (
 nilS Tryz.prog x0 w_3 fun t76 w_4=>
 ev Tryz.prog (Instr.fieldAt 108 t76 0) w_4 fun t77 w_5=>
 ldS Tryz.prog 66 t77 w_5 fun t78 w_6=>
 callS Tryz.prog 62 (pA #[t69,t78]) w_6 fun t79 w_7=>
 ev Tryz.prog (binM .neq 43 (.tmp 80) (.const (.int .i64 0)) t79 (.int .i64 0)) w_7 fun t81 w_8=>
 cndS t81 (
 K (.tuple #[(.int .i64 0),t79]) w_8) (
 nilS Tryz.prog x9 w_8 fun t87 w_9=>
 ev Tryz.prog (Instr.fieldAt 112 t87 1) w_9 fun t88 w_10=>
 stS Tryz.prog 3 t88 x2 w_10 fun w_11=>
 nilS Tryz.prog x9 w_11 fun t89 w_12=>
 ev Tryz.prog (Instr.fieldAt 112 t89 2) w_12 fun t90 w_13=>
 stS Tryz.prog 3 t90 x1 w_13 fun w_14=>
 nilS Tryz.prog x9 w_14 fun t92 w_15=>
 ev Tryz.prog (Instr.fieldAt 112 t92 0) w_15 fun t93 w_16=>
 ldS Tryz.prog 3 t93 w_16 fun t94 w_17=>
 K (.tuple #[t94,(.int .i64 0)]) w_17)))
theorem f22_k1_eq (K:K1) (x0 x1 x2 x9 x10 x11:Value) (w:World):f22_k1 K x0 x1 x2 x9 x10 x11 w=f22_k1_t x0 x1 x2 x9 x10 x11 K w:=cutE fun σ=>by kernel_rfl
def f22_t (x0 x1 x2:Value) (K:K1) (w:World):Prop:=
 ev Tryz.prog (binM .eql 26 (.tmp 14) (.const (.pointer none)) x0 (.pointer none)) w fun t15 w_1=>
 cndS t15 (
 K (.tuple #[(.int .i64 0),(.int .i64 5)]) w_1) (
 ev Tryz.prog (binM .lss 3 (.tmp 16) (.const (.int .i64 0)) x1 (.int .i64 0)) w_1 fun t17 w_2=>
 gd t17 false (fun k=>k x1 w_2) w_2 fun t19 w_3=>
 gd t17 false (fun k=>ev Tryz.prog (binM .geq 3 (.tmp 19) (.const (.int .i64 8)) t19 (.int .i64 8)) w_3 k) w_3 fun t20 w_4=>
 pickS t17 (.bool true) t20 w_4 fun t21 w_5=>
 gd t21 false (fun k=>k x2 w_5) w_5 fun t23 w_6=>
 gd t21 false (fun k=>callS Tryz.prog 59 (pA #[t23]) w_6 k) w_6 fun t24 w_7=>
 gd t21 false (fun k=>ev Tryz.prog (binM .eql 3 (.tmp 24) (.const (.int .i64 0)) t24 (.int .i64 0)) w_7 k) w_7 fun t25 w_8=>
 pickS t21 (.bool true) t25 w_8 fun t26 w_9=>
 cndS t26 (
 K (.tuple #[(.int .i64 0),(.int .i64 1)]) w_9) (
 nilS Tryz.prog x0 w_9 fun t28 w_10=>
 ev Tryz.prog (Instr.fieldAt 108 t28 0) w_10 fun t29 w_11=>
 ldS Tryz.prog 66 t29 w_11 fun t30 w_12=>
 invS Tryz.prog t30 "Err" (pA #[]) w_12 fun t31 w_13=>
 ev Tryz.prog (binM .neq 43 (.tmp 32) (.const (.int .i64 0)) t31 (.int .i64 0)) w_13 fun t33 w_14=>
 cndS t33 (
 K (.tuple #[(.int .i64 0),t31]) w_14) (
 callS Tryz.prog 60 (pA #[x0]) w_14 fun t37 w_15=>
 ev Tryz.prog (Instr.extract t37 0) w_15 fun t38 w_16=>
 ev Tryz.prog (Instr.extract t37 1) w_16 fun t39 w_17=>
 ev Tryz.prog (binM .neq 43 (.tmp 40) (.const (.int .i64 0)) t39 (.int .i64 0)) w_17 fun t41 w_18=>
 cndS t41 (
 K (.tuple #[(.int .i64 0),t39]) w_18) (
 nilR Tryz.prog x0 w_18.drew fun t45=>
 rd Tryz.prog (Instr.fieldAt 108 t45 0) w_18.drew fun t46=>
 ldR Tryz.prog 66 t46 w_18.drew fun t47=>
 nilR Tryz.prog t38 w_18.drew fun t49=>
 rd Tryz.prog (Instr.fieldAt 112 t49 0) w_18.drew fun t50=>
 ldR Tryz.prog 3 t50 w_18.drew fun t51=>
 (callS Tryz.prog 48 (pA #[t47,t51]) w_18.drew fun t52 w_19=>
 rd Tryz.prog (Instr.extract t52 0) w_19 fun t53=>
 rd Tryz.prog (Instr.extract t52 1) w_19 fun t54=>
 ev Tryz.prog (Instr.alloc 67 true (.tuple #[])) w_19 fun t11 w_20=>
 (nilR Tryz.prog x0 w_20 (fun u=>u=t45))∧
 (ag Tryz.prog (Instr.fieldAt 108 t45 0) w_20 t46)∧
 (ldG Tryz.prog 66 t46 w_20 t47)∧
 (nilR Tryz.prog t38 w_20 (fun u=>u=t49))∧
 (ag Tryz.prog (Instr.fieldAt 112 t49 0) w_20 t50)∧
 (ldG Tryz.prog 3 t50 w_20 t51)∧
 stS Tryz.prog 67 t11 t53 w_20 fun w_21=>
 f22_k1 K x0 x1 x2 t38 t54 t11 w_21)∧
 (ev Tryz.prog (Instr.alloc 67 true (.tuple #[])) w_18.drew fun t11_1 w_22=>
 (nilR Tryz.prog x0 w_22 (fun u=>u=t45))∧
 (ag Tryz.prog (Instr.fieldAt 108 t45 0) w_22 t46)∧
 (ldG Tryz.prog 66 t46 w_22 t47)∧
 (nilR Tryz.prog t38 w_22 (fun u=>u=t49))∧
 (ag Tryz.prog (Instr.fieldAt 112 t49 0) w_22 t50)∧
 (ldG Tryz.prog 3 t50 w_22 t51)∧
 callS Tryz.prog 48 (pA #[t47,t51]) w_22 fun t52_1 w_23=>
 rd Tryz.prog (Instr.extract t52_1 0) w_23 fun t53_1=>
 rd Tryz.prog (Instr.extract t52_1 1) w_23 fun t54_1=>
 stS Tryz.prog 67 t11_1 t53_1 w_23 fun w_24=>
 f22_k1 K x0 x1 x2 t38 t54_1 t11_1 w_24)))))
theorem f22_call (x0 x1 x2:Value) (K:K1) (w:World) (h:f22_t x0 x1 x2 K w):callS Tryz.prog 22 #[x0,x1,x2] w K:=
 call_of_txt (args:= [x0,x1,x2]) mixed Tryz.func22 f22_u.2 (by kernel_rfl) (cast (by kernel_rfl) h)
noncomputable def f29_u:Code×Dec:=((Tryz.f29.body).getD .skip,(.s .o (.s .o (.s .o (.x 8 (.s .o (.b (.l [3,13] 6144 8380456 (.s .o (.s .o (.x 14344 .o .o)))))) .o)))))
abbrev f29_e (K:K1):KF:=endK Tryz.prog Tryz.f29.results.toList K
def f29_k1_o (K:K1):KF:=fun fr w=>∀σ,cP (pr (pr (pr (pr f29_u)))) (f29_e K) (f29_e K) nX (mixF 8 σ 0 fr) w
def f29_k1 (K:K1) (x3:Value) (w:World):Prop:=f29_k1_o K (fz 24 0 [(3,x3)]) w
def f29_l1 (K:K1) (x3 x11 x12 x13:Value) (w:World):Prop:=loopT [3,13] 6144 (fun E=>cP (pl (pl (pr (pl (pr (pr (pr f29_u))))))) E (f29_e K) (exB 0 (f29_k1_o K) nX)) (fz 24 0 [(3,x3),(11,x11),(12,x12),(13,x13)]) w
def f29_k2_o (K:K1) (E1:VP2):KF:=fun fr w=>∀σ,cP (pr (pr (pr (pl (pl (pr (pl (pr (pr (pr f29_u)))))))))) (fun fr w=>E1 (sv fr 3) (sv fr 13) w) (f29_e K) (exB 0 (f29_k1_o K) nX) (mixF 14344 σ 0 fr) w
def f29_k2 (K:K1) (E1:VP2) (x3 x11 x12 x13:Value) (w:World):Prop:=f29_k2_o K E1 (fz 24 0 [(3,x3),(11,x11),(12,x12),(13,x13)]) w
def f29_k1_t (x3:Value) (K:K1) (w:World):Prop:=
 K x3 w
theorem f29_k1_eq (K:K1) (x3:Value) (w:World):f29_k1 K x3 w=f29_k1_t x3 K w:=cutE fun σ=>by kernel_rfl
def f29_l1_t (x3 x11 x12 x13:Value) (K:K1) (E1:VP2) (w:World):Prop:=
 ev Tryz.prog (binM .lss 3 (.tmp 13) (.tmp 12) x13 x12) w fun t14 w_1=>
 cndS t14 (
 ev Tryz.prog (Instr.indexAt 106 x11 x13) w_1 fun t15 w_2=>
 ldS Tryz.prog 112 t15 w_2 fun t16 w_3=>
 ev Tryz.prog (Instr.alloc 112 true (.tuple #[])) w_3 fun t5 w_4=>
 stS Tryz.prog 112 t5 t16 w_4 fun w_5=>
 ev Tryz.prog (Instr.fieldAt 112 t5 1) w_5 fun t17 w_6=>
 ldS Tryz.prog 3 t17 w_6 fun t18 w_7=>
 ev Tryz.prog (binM .lss 3 (.tmp 18) (.const (.int .i64 0)) t18 (.int .i64 0)) w_7 fun t19 w_8=>
 cndS t19 (
 ev Tryz.prog (binM .add 3 (.tmp 20) (.const (.int .i64 1)) x3 (.int .i64 1)) w_8 fun t21 w_9=>
 f29_k2 K E1 t21 x11 x12 x13 w_9) (
 f29_k2 K E1 x3 x11 x12 x13 w_8)) (
 f29_k1 K x3 w_1)
theorem f29_l1_rule (x3 x11 x12 x13:Value) (K:K1) (w:World) (I:VP2) (μ:Value→Value→World→Nat) (h0:I x3 x13 w)
  (hr:∀(x3 x13:Value) (w:World),I x3 x13 w→∀E1:VP2,(∀(y3 y13:Value) (w':World),I y3 y13 w'→μ y3 y13 w'<μ x3 x13 w→E1 y3 y13 w')→f29_l1_t x3 x11 x12 x13 K E1 w):f29_l1 K x3 x11 x12 x13 w:=
 ⟨I,μ,h0,fun σ w hI E hE=>cast (by kernel_rfl) (hr (σ 3) (σ 13) w hI E hE)⟩
def f29_k2_t (x3 x11 x12 x13:Value) (K:K1) (E1:VP2) (w:World):Prop:=
 ev Tryz.prog (binM .add 3 (.tmp 13) (.const (.int .i64 1)) x13 (.int .i64 1)) w fun t22 w_1=>
 E1 x3 t22 w_1
theorem f29_k2_eq (K:K1) (E1:VP2) (x3 x11 x12 x13:Value) (w:World):f29_k2 K E1 x3 x11 x12 x13 w=f29_k2_t x3 x11 x12 x13 K E1 w:=cutE fun σ=>by kernel_rfl
def f29_t (x0:Value) (K:K1) (w:World):Prop:=
 ev Tryz.prog (binM .eql 26 (.tmp 6) (.const (.pointer none)) x0 (.pointer none)) w fun t7 w_1=>
 cndS t7 (
 K (.int .i64 0) w_1) (
 nilS Tryz.prog x0 w_1 fun t9 w_2=>
 ev Tryz.prog (Instr.fieldAt 108 t9 1) w_2 fun t10 w_3=>
 ldS Tryz.prog 106 t10 w_3 fun t11 w_4=>
 bltS Tryz.prog .len #[106] 3 #[false] #[t11] w_4 fun t12 w_5=>
 f29_l1 K (.int .i64 0) t11 t12 (.int .i64 0) w_5)
theorem f29_call (x0:Value) (K:K1) (w:World) (h:f29_t x0 K w):callS Tryz.prog 29 #[x0] w K:=
 call_of_txt (args:= [x0]) mixed Tryz.func29 f29_u.2 (by kernel_rfl) (cast (by kernel_rfl) h)
noncomputable def f30_u:Code×Dec:=((Tryz.f30.body).getD .skip,(.s .o (.s .o (.s .o (.x 128 (.s .o (.b (.l [7,25] 25165830 35184338535040 (.s .o (.s .o (.x 58720390 .o .o)))))) .o)))))
abbrev f30_e (K:K1):KF:=endK Tryz.prog Tryz.f30.results.toList K
def f30_k1_o (K:K1):KF:=fun fr w=>∀σ,cP (pr (pr (pr (pr f30_u)))) (f30_e K) (f30_e K) nX (mixF 128 σ 0 fr) w
def f30_k1 (K:K1) (x7:Value) (w:World):Prop:=f30_k1_o K (fz 46 0 [(7,x7)]) w
def f30_l1 (K:K1) (x1 x2 x7 x23 x24 x25:Value) (w:World):Prop:=loopT [7,25] 25165830 (fun E=>cP (pl (pl (pr (pl (pr (pr (pr f30_u))))))) E (f30_e K) (exB 0 (f30_k1_o K) nX)) (fz 46 0 [(1,x1),(2,x2),(7,x7),(23,x23),(24,x24),(25,x25)]) w
def f30_k2_o (K:K1) (E1:VP2):KF:=fun fr w=>∀σ,cP (pr (pr (pr (pl (pl (pr (pl (pr (pr (pr f30_u)))))))))) (fun fr w=>E1 (sv fr 7) (sv fr 25) w) (f30_e K) (exB 0 (f30_k1_o K) nX) (mixF 58720390 σ 0 fr) w
def f30_k2 (K:K1) (E1:VP2) (x1 x2 x7 x23 x24 x25:Value) (w:World):Prop:=f30_k2_o K E1 (fz 46 0 [(1,x1),(2,x2),(7,x7),(23,x23),(24,x24),(25,x25)]) w
def f30_k1_t (x7:Value) (K:K1) (w:World):Prop:=
 K x7 w
theorem f30_k1_eq (K:K1) (x7:Value) (w:World):f30_k1 K x7 w=f30_k1_t x7 K w:=cutE fun σ=>by kernel_rfl
def f30_l1_t (x1 x2 x7 x23 x24 x25:Value) (K:K1) (E1:VP2) (w:World):Prop:=
 ev Tryz.prog (binM .lss 3 (.tmp 25) (.tmp 24) x25 x24) w fun t26 w_1=>
 cndS t26 (
 ev Tryz.prog (Instr.indexAt 106 x23 x25) w_1 fun t27 w_2=>
 ldS Tryz.prog 112 t27 w_2 fun t28 w_3=>
 ev Tryz.prog (Instr.alloc 112 true (.tuple #[])) w_3 fun t9 w_4=>
 stS Tryz.prog 112 t9 t28 w_4 fun w_5=>
 ev Tryz.prog (Instr.fieldAt 112 t9 2) w_5 fun t29 w_6=>
 ldS Tryz.prog 3 t29 w_6 fun t30 w_7=>
 ev Tryz.prog (binM .eql 3 (.tmp 30) (.tmp 31) t30 x1) w_7 fun t32 w_8=>
 gd t32 true (fun k=>ev Tryz.prog (Instr.fieldAt 112 t9 1) w_8 k) w_8 fun t34 w_9=>
 gd t32 true (fun k=>ldS Tryz.prog 3 t34 w_9 k) w_9 fun t35 w_10=>
 gd t32 true (fun k=>k x2 w_10) w_10 fun t36 w_11=>
 gd t32 true (fun k=>ev Tryz.prog (binM .eql 3 (.tmp 35) (.tmp 36) t35 t36) w_11 k) w_11 fun t37 w_12=>
 pickS t32 t37 (.bool false) w_12 fun t38 w_13=>
 cndS t38 (
 ev Tryz.prog (Instr.fieldAt 112 t9 0) w_13 fun t40 w_14=>
 ldS Tryz.prog 3 t40 w_14 fun t41 w_15=>
 ev Tryz.prog (Instr.buildSlice 50 1 #[(0,t41)]) w_15 fun t42 w_16=>
 bltS Tryz.prog .append #[50,50] 50 #[false,false] (pA #[x7,t42]) w_16 fun t43 w_17=>
 f30_k2 K E1 x1 x2 t43 x23 x24 x25 w_17) (
 f30_k2 K E1 x1 x2 x7 x23 x24 x25 w_13)) (
 f30_k1 K x7 w_1)
theorem f30_l1_rule (x1 x2 x7 x23 x24 x25:Value) (K:K1) (w:World) (I:VP2) (μ:Value→Value→World→Nat) (h0:I x7 x25 w)
  (hr:∀(x7 x25:Value) (w:World),I x7 x25 w→∀E1:VP2,(∀(y7 y25:Value) (w':World),I y7 y25 w'→μ y7 y25 w'<μ x7 x25 w→E1 y7 y25 w')→f30_l1_t x1 x2 x7 x23 x24 x25 K E1 w):f30_l1 K x1 x2 x7 x23 x24 x25 w:=
 ⟨I,μ,h0,fun σ w hI E hE=>cast (by kernel_rfl) (hr (σ 7) (σ 25) w hI E hE)⟩
def f30_k2_t (x1 x2 x7 x23 x24 x25:Value) (K:K1) (E1:VP2) (w:World):Prop:=
 ev Tryz.prog (binM .add 3 (.tmp 25) (.const (.int .i64 1)) x25 (.int .i64 1)) w fun t44 w_1=>
 E1 x7 t44 w_1
theorem f30_k2_eq (K:K1) (E1:VP2) (x1 x2 x7 x23 x24 x25:Value) (w:World):f30_k2 K E1 x1 x2 x7 x23 x24 x25 w=f30_k2_t x1 x2 x7 x23 x24 x25 K E1 w:=cutE fun σ=>by kernel_rfl
def f30_t (x0 x1 x2:Value) (K:K1) (w:World):Prop:=
 ev Tryz.prog (binM .eql 26 (.tmp 10) (.const (.pointer none)) x0 (.pointer none)) w fun t11 w_1=>
 gd t11 false (fun k=>k x1 w_1) w_1 fun t13 w_2=>
 gd t11 false (fun k=>ev Tryz.prog (binM .lss 3 (.tmp 13) (.const (.int .i64 0)) t13 (.int .i64 0)) w_2 k) w_2 fun t14 w_3=>
 pickS t11 (.bool true) t14 w_3 fun t15 w_4=>
 gd t15 false (fun k=>k x2 w_4) w_4 fun t17 w_5=>
 gd t15 false (fun k=>ev Tryz.prog (binM .lss 3 (.tmp 17) (.const (.int .i64 0)) t17 (.int .i64 0)) w_5 k) w_5 fun t18 w_6=>
 pickS t15 (.bool true) t18 w_6 fun t19 w_7=>
 cndS t19 (
 K (.slice none 0 0) w_7) (
 nilS Tryz.prog x0 w_7 fun t21 w_8=>
 ev Tryz.prog (Instr.fieldAt 108 t21 1) w_8 fun t22 w_9=>
 ldS Tryz.prog 106 t22 w_9 fun t23 w_10=>
 bltS Tryz.prog .len #[106] 3 #[false] #[t23] w_10 fun t24 w_11=>
 f30_l1 K x1 x2 (.slice none 0 0) t23 t24 (.int .i64 0) w_11)
theorem f30_call (x0 x1 x2:Value) (K:K1) (w:World) (h:f30_t x0 x1 x2 K w):callS Tryz.prog 30 #[x0,x1,x2] w K:=
 call_of_txt (args:= [x0,x1,x2]) mixed Tryz.func30 f30_u.2 (by kernel_rfl) (cast (by kernel_rfl) h)
noncomputable def f31_u:Code×Dec:=((Tryz.f31.body).getD .skip,(.s .o (.s .o (.s .o (.x 8 (.s .o (.b (.l [3,13] 6144 8380456 .o))) .o)))))
abbrev f31_e (K:K1):KF:=endK Tryz.prog Tryz.f31.results.toList K
def f31_k1_o (K:K1):KF:=fun fr w=>∀σ,cP (pr (pr (pr (pr f31_u)))) (f31_e K) (f31_e K) nX (mixF 8 σ 0 fr) w
def f31_k1 (K:K1) (x3:Value) (w:World):Prop:=f31_k1_o K (fz 24 0 [(3,x3)]) w
def f31_l1 (K:K1) (x3 x11 x12 x13:Value) (w:World):Prop:=loopT [3,13] 6144 (fun E=>cP (pl (pl (pr (pl (pr (pr (pr f31_u))))))) E (f31_e K) (exB 0 (f31_k1_o K) nX)) (fz 24 0 [(3,x3),(11,x11),(12,x12),(13,x13)]) w
def f31_k1_t (x3:Value) (K:K1) (w:World):Prop:=
 K x3 w
theorem f31_k1_eq (K:K1) (x3:Value) (w:World):f31_k1 K x3 w=f31_k1_t x3 K w:=cutE fun σ=>by kernel_rfl
def f31_l1_t (x3 x11 x12 x13:Value) (K:K1) (E1:VP2) (w:World):Prop:=
 ev Tryz.prog (binM .lss 3 (.tmp 13) (.tmp 12) x13 x12) w fun t14 w_1=>
 cndS t14 (
 ev Tryz.prog (Instr.indexAt 106 x11 x13) w_1 fun t15 w_2=>
 ldS Tryz.prog 112 t15 w_2 fun t16 w_3=>
 ev Tryz.prog (Instr.alloc 112 true (.tuple #[])) w_3 fun t5 w_4=>
 stS Tryz.prog 112 t5 t16 w_4 fun w_5=>
 ev Tryz.prog (Instr.fieldAt 112 t5 0) w_5 fun t18 w_6=>
 ldS Tryz.prog 3 t18 w_6 fun t19 w_7=>
 ev Tryz.prog (Instr.buildSlice 50 1 #[(0,t19)]) w_7 fun t20 w_8=>
 bltS Tryz.prog .append #[50,50] 50 #[false,false] (pA #[x3,t20]) w_8 fun t21 w_9=>
 ev Tryz.prog (binM .add 3 (.tmp 13) (.const (.int .i64 1)) x13 (.int .i64 1)) w_9 fun t22 w_10=>
 E1 t21 t22 w_10) (
 f31_k1 K x3 w_1)
theorem f31_l1_rule (x3 x11 x12 x13:Value) (K:K1) (w:World) (I:VP2) (μ:Value→Value→World→Nat) (h0:I x3 x13 w)
  (hr:∀(x3 x13:Value) (w:World),I x3 x13 w→∀E1:VP2,(∀(y3 y13:Value) (w':World),I y3 y13 w'→μ y3 y13 w'<μ x3 x13 w→E1 y3 y13 w')→f31_l1_t x3 x11 x12 x13 K E1 w):f31_l1 K x3 x11 x12 x13 w:=
 ⟨I,μ,h0,fun σ w hI E hE=>cast (by kernel_rfl) (hr (σ 3) (σ 13) w hI E hE)⟩
def f31_t (x0:Value) (K:K1) (w:World):Prop:=
 ev Tryz.prog (binM .eql 26 (.tmp 6) (.const (.pointer none)) x0 (.pointer none)) w fun t7 w_1=>
 cndS t7 (
 K (.slice none 0 0) w_1) (
 nilS Tryz.prog x0 w_1 fun t9 w_2=>
 ev Tryz.prog (Instr.fieldAt 108 t9 1) w_2 fun t10 w_3=>
 ldS Tryz.prog 106 t10 w_3 fun t11 w_4=>
 bltS Tryz.prog .len #[106] 3 #[false] #[t11] w_4 fun t12 w_5=>
 f31_l1 K (.slice none 0 0) t11 t12 (.int .i64 0) w_5)
theorem f31_call (x0:Value) (K:K1) (w:World) (h:f31_t x0 K w):callS Tryz.prog 31 #[x0] w K:=
 call_of_txt (args:= [x0]) mixed Tryz.func31 f31_u.2 (by kernel_rfl) (cast (by kernel_rfl) h)
def f37_t (x0 x1:Value) (K:K1) (w:World):Prop:=
 callS Tryz.prog 77 (pA #[x0,x1]) w fun t8 w_1=>
 ev Tryz.prog (binM .neq 128 (.tmp 9) (.const (.pointer none)) t8 (.pointer none)) w_1 fun t10 w_2=>
 cndS t10 (
 nilS Tryz.prog t8 w_2 fun t12 w_3=>
 ev Tryz.prog (Instr.fieldAt 112 t12 2) w_3 fun t13 w_4=>
 ldS Tryz.prog 3 t13 w_4 fun t14 w_5=>
 K t14 w_5) (
 K (.int .i64 (-1)) w_2)
theorem f37_call (x0 x1:Value) (K:K1) (w:World) (h:f37_t x0 x1 K w):callS Tryz.prog 37 #[x0,x1] w K:=
 call_of_txt (args:= [x0,x1]) mixed Tryz.func37 .o (by kernel_rfl) (cast (by kernel_rfl) h)
noncomputable def f39_u:Code×Dec:=((Tryz.f39.body).getD .skip,(.s .o (.s .o (.s .o (.x 1 (.s .o (.b (.l [24] 8388611 35184355315520 .o))) .o)))))
abbrev f39_e (K:K1):KF:=endK Tryz.prog Tryz.f39.results.toList K
def f39_k1_o (K:K1):KF:=fun fr w=>∀σ,cP (pr (pr (pr (pr f39_u)))) (f39_e K) (f39_e K) nX (mixF 1 σ 0 fr) w
def f39_k1 (K:K1) (x0:Value) (w:World):Prop:=f39_k1_o K (fz 47 0 [(0,x0)]) w
def f39_l1 (K:K1) (x0 x1 x23 x24:Value) (w:World):Prop:=loopT [24] 8388611 (fun E=>cP (pl (pl (pr (pl (pr (pr (pr f39_u))))))) E (f39_e K) (exB 0 (f39_k1_o K) nX)) (fz 47 0 [(0,x0),(1,x1),(23,x23),(24,x24)]) w
def f39_k1_t (x0:Value) (K:K1) (w:World):Prop:=
 invS Tryz.prog x0 "Err" (pA #[]) w fun t46 w_1=>
 K t46 w_1
theorem f39_k1_eq (K:K1) (x0:Value) (w:World):f39_k1 K x0 w=f39_k1_t x0 K w:=cutE fun σ=>by kernel_rfl
def f39_l1_t (x0 x1 x23 x24:Value) (K:K1) (E1:VP1) (w:World):Prop:=
 ev Tryz.prog (binM .lss 3 (.tmp 24) (.tmp 23) x24 x23) w fun t25 w_1=>
 cndS t25 (
 ev Tryz.prog (binM .mul 3 (.tmp 29) (.const (.int .i64 32)) x24 (.int .i64 32)) w_1 fun t30 w_2=>
 ev Tryz.prog (binM .add 3 (.tmp 28) (.tmp 30) x1 t30) w_2 fun t31 w_3=>
 callS Tryz.prog 82 (pA #[t31,(.int .u16 ((1:Nat):Int))]) w_3 fun t32 w_4=>
 ev Tryz.prog (Instr.extract t32 0) w_4 fun t33 w_5=>
 ev Tryz.prog (Instr.extract t32 1) w_5 fun t34 w_6=>
 ev Tryz.prog (binM .neq 43 (.tmp 35) (.const (.int .i64 0)) t34 (.int .i64 0)) w_6 fun t36 w_7=>
 cndS t36 (
 K t34 w_7) (
 callS Tryz.prog 62 (pA #[t33,x0]) w_7 fun t40 w_8=>
 ev Tryz.prog (binM .neq 43 (.tmp 41) (.const (.int .i64 0)) t40 (.int .i64 0)) w_8 fun t42 w_9=>
 cndS t42 (
 K t40 w_9) (
 ev Tryz.prog (binM .add 3 (.tmp 24) (.const (.int .i64 1)) x24 (.int .i64 1)) w_9 fun t44 w_10=>
 E1 t44 w_10))) (
 f39_k1 K x0 w_1)
theorem f39_l1_rule (x0 x1 x23 x24:Value) (K:K1) (w:World) (I:VP1) (μ:Value→World→Nat) (h0:I x24 w)
  (hr:∀(x24:Value) (w:World),I x24 w→∀E1:VP1,(∀(y24:Value) (w':World),I y24 w'→μ y24 w'<μ x24 w→E1 y24 w')→f39_l1_t x0 x1 x23 x24 K E1 w):f39_l1 K x0 x1 x23 x24 w:=
 ⟨I,μ,h0,fun σ w hI E hE=>cast (by kernel_rfl) (hr (σ 24) w hI E hE)⟩
def f39_t (x0 x1 x2:Value) (K:K1) (w:World):Prop:=
 callS Tryz.prog 47 (pA #[x0,x1,x2]) w fun t15 w_1=>
 ev Tryz.prog (Op.unary .not t15) w_1 fun t16 w_2=>
 cndS t16 (
 K (.int .i64 1) w_2) (
 invS Tryz.prog x0 "Err" (pA #[]) w_2 fun t18 w_3=>
 ev Tryz.prog (binM .neq 43 (.tmp 19) (.const (.int .i64 0)) t18 (.int .i64 0)) w_3 fun t20 w_4=>
 cndS t20 (
 K t18 w_4) (
 ev Tryz.prog (binM .quo 3 (.tmp 22) (.const (.int .i64 32)) x2 (.int .i64 32)) w_4 fun t23 w_5=>
 f39_l1 K x0 x1 t23 (.int .i64 0) w_5))
theorem f39_call (x0 x1 x2:Value) (K:K1) (w:World) (h:f39_t x0 x1 x2 K w):callS Tryz.prog 39 #[x0,x1,x2] w K:=
 call_of_txt (args:= [x0,x1,x2]) mixed Tryz.func39 f39_u.2 (by kernel_rfl) (cast (by kernel_rfl) h)
def f47_t (x0 x1 x2:Value) (K:K1) (w:World):Prop:=
 ev Tryz.prog (binM .eql 66 (.tmp 8) (.const .nilIface) x0 .nilIface) w fun t9 w_1=>
 gd t9 false (fun k=>k x1 w_1) w_1 fun t11 w_2=>
 gd t9 false (fun k=>ev Tryz.prog (binM .lss 3 (.tmp 11) (.const (.int .i64 0)) t11 (.int .i64 0)) w_2 k) w_2 fun t12 w_3=>
 pickS t9 (.bool true) t12 w_3 fun t13 w_4=>
 gd t13 false (fun k=>k x2 w_4) w_4 fun t15 w_5=>
 gd t13 false (fun k=>ev Tryz.prog (binM .lss 3 (.tmp 15) (.const (.int .i64 32)) t15 (.int .i64 32)) w_5 k) w_5 fun t16 w_6=>
 pickS t13 (.bool true) t16 w_6 fun t17 w_7=>
 cndS t17 (
 K (.bool false) w_7) (
 invS Tryz.prog x0 "Size" (pA #[]) w_7 fun t19 w_8=>
 ev Tryz.prog (binM .quo 30 (.tmp 19) (.const (.int .u64 ((64:Nat):Int))) t19 (.int .u64 ((64:Nat):Int))) w_8 fun t20 w_9=>
 ev Tryz.prog (convert 3 30 x1) w_9 fun t22 w_10=>
 ev Tryz.prog (binM .gtr 30 (.tmp 22) (.tmp 23) t22 t20) w_10 fun t24 w_11=>
 gd t24 false (fun k=>k x2 w_11) w_11 fun t26 w_12=>
 gd t24 false (fun k=>ev Tryz.prog (convert 3 30 t26) w_12 k) w_12 fun t27 w_13=>
 gd t24 false (fun k=>k t20 w_13) w_13 fun t28 w_14=>
 gd t24 false (fun k=>k x1 w_14) w_14 fun t29 w_15=>
 gd t24 false (fun k=>ev Tryz.prog (convert 3 30 t29) w_15 k) w_15 fun t30 w_16=>
 gd t24 false (fun k=>ev Tryz.prog (binM .sub 30 (.tmp 28) (.tmp 30) t28 t30) w_16 k) w_16 fun t31 w_17=>
 gd t24 false (fun k=>ev Tryz.prog (binM .gtr 30 (.tmp 27) (.tmp 31) t27 t31) w_17 k) w_17 fun t32 w_18=>
 pickS t24 (.bool true) t32 w_18 fun t33 w_19=>
 cndS t33 (
 K (.bool false) w_19) (
 ev Tryz.prog (convert 3 30 x1) w_19 fun t35 w_20=>
 ev Tryz.prog (binM .quo 3 (.tmp 36) (.const (.int .i64 32)) x2 (.int .i64 32)) w_20 fun t37 w_21=>
 ev Tryz.prog (convert 3 30 t37) w_21 fun t38 w_22=>
 ev Tryz.prog (binM .mul 30 (.tmp 38) (.const (.int .u64 ((32:Nat):Int))) t38 (.int .u64 ((32:Nat):Int))) w_22 fun t39 w_23=>
 ev Tryz.prog (binM .add 30 (.tmp 35) (.tmp 39) t35 t39) w_23 fun t40 w_24=>
 ev Tryz.prog (binM .leq 30 (.tmp 40) (.const (.int .u64 ((4096:Nat):Int))) t40 (.int .u64 ((4096:Nat):Int))) w_24 fun t41 w_25=>
 K t41 w_25))
theorem f47_call (x0 x1 x2:Value) (K:K1) (w:World) (h:f47_t x0 x1 x2 K w):callS Tryz.prog 47 #[x0,x1,x2] w K:=
 call_of_txt (args:= [x0,x1,x2]) mixed Tryz.func47 .o (by kernel_rfl) (cast (by kernel_rfl) h)
noncomputable def f60_u:Code×Dec:=((Tryz.f60.body).getD .skip,(.s .o (.x 1 (.s .o (.b (.l [15] 16385 17179836444 .o))) (.x 1 (.s .o (.b (.l [39] 274877906945 2305842459457880556 .o))) .o))))
abbrev f60_e (K:K1):KF:=endK Tryz.prog Tryz.f60.results.toList K
def f60_k1_o (K:K1):KF:=fun fr w=>∀σ,cP (pr (pr f60_u)) (f60_e K) (f60_e K) nX (mixF 1 σ 0 fr) w
def f60_k1 (K:K1) (x0:Value) (w:World):Prop:=f60_k1_o K (fz 69 0 [(0,x0)]) w
def f60_l1 (K:K1) (x0 x14 x15:Value) (w:World):Prop:=loopT [15] 16385 (fun E=>cP (pl (pl (pr (pl (pr f60_u))))) E (f60_e K) (exB 0 (f60_k1_o K) nX)) (fz 69 0 [(0,x0),(14,x14),(15,x15)]) w
def f60_k2_o (K:K1):KF:=fun fr w=>∀σ,cP (pr (pr (pr f60_u))) (f60_e K) (f60_e K) nX (mixF 1 σ 0 fr) w
def f60_k2 (K:K1) (x0:Value) (w:World):Prop:=f60_k2_o K (fz 69 0 [(0,x0)]) w
def f60_l2 (K:K1) (x0 x38 x39:Value) (w:World):Prop:=loopT [39] 274877906945 (fun E=>cP (pl (pl (pr (pl (pr (pr f60_u)))))) E (f60_e K) (exB 2 (f60_k2_o K) nX)) (fz 69 0 [(0,x0),(38,x38),(39,x39)]) w
def f60_k1_t (x0:Value) (K:K1) (w:World):Prop:=
 nilS Tryz.prog x0 w fun t35 w_1=>
 ev Tryz.prog (Instr.fieldAt 108 t35 1) w_1 fun t36 w_2=>
 ldS Tryz.prog 106 t36 w_2 fun t37 w_3=>
 bltS Tryz.prog .len #[106] 3 #[false] #[t37] w_3 fun t38 w_4=>
 f60_l2 K x0 t38 (.int .i64 0) w_4
theorem f60_k1_eq (K:K1) (x0:Value) (w:World):f60_k1 K x0 w=f60_k1_t x0 K w:=cutE fun σ=>by kernel_rfl
def f60_l1_t (x0 x14 x15:Value) (K:K1) (E1:VP1) (w:World):Prop:=
 ev Tryz.prog (binM .lss 3 (.tmp 15) (.tmp 14) x15 x14) w fun t16 w_1=>
 cndS t16 (
 nilS Tryz.prog x0 w_1 fun t19 w_2=>
 ev Tryz.prog (Instr.fieldAt 108 t19 1) w_2 fun t20 w_3=>
 ldS Tryz.prog 106 t20 w_3 fun t21 w_4=>
 ev Tryz.prog (Instr.indexAt 106 t21 x15) w_4 fun t23 w_5=>
 ev Tryz.prog (Instr.fieldAt 112 t23 1) w_5 fun t24 w_6=>
 ldS Tryz.prog 3 t24 w_6 fun t25 w_7=>
 ev Tryz.prog (binM .lss 3 (.tmp 25) (.const (.int .i64 0)) t25 (.int .i64 0)) w_7 fun t26 w_8=>
 cndS t26 (
 nilS Tryz.prog x0 w_8 fun t28 w_9=>
 ev Tryz.prog (Instr.fieldAt 108 t28 1) w_9 fun t29 w_10=>
 ldS Tryz.prog 106 t29 w_10 fun t30 w_11=>
 ev Tryz.prog (Instr.indexAt 106 t30 x15) w_11 fun t32 w_12=>
 K (.tuple #[t32,(.int .i64 0)]) w_12) (
 ev Tryz.prog (binM .add 3 (.tmp 15) (.const (.int .i64 1)) x15 (.int .i64 1)) w_8 fun t33 w_13=>
 E1 t33 w_13)) (
 f60_k1 K x0 w_1)
theorem f60_l1_rule (x0 x14 x15:Value) (K:K1) (w:World) (I:VP1) (μ:Value→World→Nat) (h0:I x15 w)
  (hr:∀(x15:Value) (w:World),I x15 w→∀E1:VP1,(∀(y15:Value) (w':World),I y15 w'→μ y15 w'<μ x15 w→E1 y15 w')→f60_l1_t x0 x14 x15 K E1 w):f60_l1 K x0 x14 x15 w:=
 ⟨I,μ,h0,fun σ w hI E hE=>cast (by kernel_rfl) (hr (σ 15) w hI E hE)⟩
def f60_k2_t (x0:Value) (K:K1) (w:World):Prop:=
 nilS Tryz.prog x0 w fun t62 w_1=>
 ev Tryz.prog (Instr.fieldAt 108 t62 0) w_1 fun t63 w_2=>
 ldS Tryz.prog 66 t63 w_2 fun t64 w_3=>
 invS Tryz.prog t64 "Err" (pA #[]) w_3 fun t65 w_4=>
 ev Tryz.prog (binM .neq 43 (.tmp 66) (.const (.int .i64 0)) t65 (.int .i64 0)) w_4 fun t67 w_5=>
 cndS t67 (
 K (.tuple #[(.pointer none),t65]) w_5) (
 K (.tuple #[(.pointer none),(.int .i64 4)]) w_5)
theorem f60_k2_eq (K:K1) (x0:Value) (w:World):f60_k2 K x0 w=f60_k2_t x0 K w:=cutE fun σ=>by kernel_rfl
def f60_l2_t (x0 x38 x39:Value) (K:K1) (E1:VP1) (w:World):Prop:=
 ev Tryz.prog (binM .lss 3 (.tmp 39) (.tmp 38) x39 x38) w fun t40 w_1=>
 cndS t40 (
 nilS Tryz.prog x0 w_1 fun t43 w_2=>
 ev Tryz.prog (Instr.fieldAt 108 t43 1) w_2 fun t44 w_3=>
 ldS Tryz.prog 106 t44 w_3 fun t45 w_4=>
 ev Tryz.prog (Instr.indexAt 106 t45 x39) w_4 fun t47 w_5=>
 callS Tryz.prog 78 (pA #[x0,t47]) w_5 fun t51 w_6=>
 ev Tryz.prog (Instr.extract t51 0) w_6 fun t52 w_7=>
 ev Tryz.prog (Instr.extract t51 1) w_7 fun t53 w_8=>
 cndS t53 (
 callS Tryz.prog 79 (pA #[x0,t47,t52]) w_8 fun t59 w_9=>
 K (.tuple #[t47,t59]) w_9) (
 ev Tryz.prog (binM .add 3 (.tmp 39) (.const (.int .i64 1)) x39 (.int .i64 1)) w_8 fun t60 w_10=>
 E1 t60 w_10)) (
 f60_k2 K x0 w_1)
theorem f60_l2_rule (x0 x38 x39:Value) (K:K1) (w:World) (I:VP1) (μ:Value→World→Nat) (h0:I x39 w)
  (hr:∀(x39:Value) (w:World),I x39 w→∀E1:VP1,(∀(y39:Value) (w':World),I y39 w'→μ y39 w'<μ x39 w→E1 y39 w')→f60_l2_t x0 x38 x39 K E1 w):f60_l2 K x0 x38 x39 w:=
 ⟨I,μ,h0,fun σ w hI E hE=>cast (by kernel_rfl) (hr (σ 39) w hI E hE)⟩
def f60_t (x0:Value) (K:K1) (w:World):Prop:=
 nilS Tryz.prog x0 w fun t11 w_1=>
 ev Tryz.prog (Instr.fieldAt 108 t11 1) w_1 fun t12 w_2=>
 ldS Tryz.prog 106 t12 w_2 fun t13 w_3=>
 bltS Tryz.prog .len #[106] 3 #[false] #[t13] w_3 fun t14 w_4=>
 f60_l1 K x0 t14 (.int .i64 0) w_4
theorem f60_call (x0:Value) (K:K1) (w:World) (h:f60_t x0 K w):callS Tryz.prog 60 #[x0] w K:=
 call_of_txt (args:= [x0]) mixed Tryz.func60 f60_u.2 (by kernel_rfl) (cast (by kernel_rfl) h)
noncomputable def f77_u:Code×Dec:=((Tryz.f77.body).getD .skip,(.s .o (.s .o (.x 0 (.s .o (.b (.l [13] 4099 8589926448 .o))) .o))))
abbrev f77_e (K:K1):KF:=endK Tryz.prog Tryz.f77.results.toList K
def f77_k1_o (K:K1):KF:=fun fr w=>∀σ,cP (pr (pr (pr f77_u))) (f77_e K) (f77_e K) nX (mixF 0 σ 0 fr) w
def f77_k1 (K:K1) (w:World):Prop:=f77_k1_o K (fz 33 0 []) w
def f77_l1 (K:K1) (x0 x1 x12 x13:Value) (w:World):Prop:=loopT [13] 4099 (fun E=>cP (pl (pl (pr (pl (pr (pr f77_u)))))) E (f77_e K) (exB 0 (f77_k1_o K) nX)) (fz 33 0 [(0,x0),(1,x1),(12,x12),(13,x13)]) w
def f77_l1_t (x0 x1 x12 x13:Value) (K:K1) (E1:VP1) (w:World):Prop:=
 ev Tryz.prog (binM .lss 3 (.tmp 13) (.tmp 12) x13 x12) w fun t14 w_1=>
 cndS t14 (
 nilS Tryz.prog x0 w_1 fun t17 w_2=>
 ev Tryz.prog (Instr.fieldAt 108 t17 1) w_2 fun t18 w_3=>
 ldS Tryz.prog 106 t18 w_3 fun t19 w_4=>
 ev Tryz.prog (Instr.indexAt 106 t19 x13) w_4 fun t21 w_5=>
 ev Tryz.prog (Instr.fieldAt 112 t21 0) w_5 fun t22 w_6=>
 ldS Tryz.prog 3 t22 w_6 fun t23 w_7=>
 ev Tryz.prog (binM .eql 3 (.tmp 23) (.tmp 24) t23 x1) w_7 fun t25 w_8=>
 cndS t25 (
 nilS Tryz.prog x0 w_8 fun t27 w_9=>
 ev Tryz.prog (Instr.fieldAt 108 t27 1) w_9 fun t28 w_10=>
 ldS Tryz.prog 106 t28 w_10 fun t29 w_11=>
 ev Tryz.prog (Instr.indexAt 106 t29 x13) w_11 fun t31 w_12=>
 K t31 w_12) (
 ev Tryz.prog (binM .add 3 (.tmp 13) (.const (.int .i64 1)) x13 (.int .i64 1)) w_8 fun t32 w_13=>
 E1 t32 w_13)) (
 f77_k1 K w_1)
theorem f77_l1_rule (x0 x1 x12 x13:Value) (K:K1) (w:World) (I:VP1) (μ:Value→World→Nat) (h0:I x13 w)
  (hr:∀(x13:Value) (w:World),I x13 w→∀E1:VP1,(∀(y13:Value) (w':World),I y13 w'→μ y13 w'<μ x13 w→E1 y13 w')→f77_l1_t x0 x1 x12 x13 K E1 w):f77_l1 K x0 x1 x12 x13 w:=
 ⟨I,μ,h0,fun σ w hI E hE=>cast (by kernel_rfl) (hr (σ 13) w hI E hE)⟩
def f77_t (x0 x1:Value) (K:K1) (w:World):Prop:=
 ev Tryz.prog (binM .eql 26 (.tmp 6) (.const (.pointer none)) x0 (.pointer none)) w fun t7 w_1=>
 cndS t7 (
 K (.pointer none) w_1) (
 nilS Tryz.prog x0 w_1 fun t9 w_2=>
 ev Tryz.prog (Instr.fieldAt 108 t9 1) w_2 fun t10 w_3=>
 ldS Tryz.prog 106 t10 w_3 fun t11 w_4=>
 bltS Tryz.prog .len #[106] 3 #[false] #[t11] w_4 fun t12 w_5=>
 f77_l1 K x0 x1 t12 (.int .i64 0) w_5)
theorem f77_call (x0 x1:Value) (K:K1) (w:World) (h:f77_t x0 x1 K w):callS Tryz.prog 77 #[x0,x1] w K:=
 call_of_txt (args:= [x0,x1]) mixed Tryz.func77 f77_u.2 (by kernel_rfl) (cast (by kernel_rfl) h)
noncomputable def f78_u:Code×Dec:=((Tryz.f78.body).getD .skip,(.s .o (.s .o (.x 194 .o .o))))
abbrev f78_e (K:K1):KF:=endK Tryz.prog Tryz.f78.results.toList K
def f78_k1_o (K:K1):KF:=fun fr w=>∀σ,cP (pr (pr (pr f78_u))) (f78_e K) (f78_e K) nX (mixF 194 σ 0 fr) w
def f78_k1 (K:K1) (x1 x6 x7:Value) (w:World):Prop:=f78_k1_o K (fz 55 0 [(1,x1),(6,x6),(7,x7)]) w
def f78_k1_t (x1 x6 x7:Value) (K:K1) (w:World):Prop:=
 ev Tryz.prog (binM .neq 43 (.tmp 34) (.const (.int .i64 0)) x7 (.int .i64 0)) w fun t35 w_1=>
 cndS t35 (
 K (.tuple #[(.slice none 0 0),(.bool false)]) w_1) (
 ldS Tryz.prog 69 x6 w_1 fun t37 w_2=>
 callS Tryz.prog 110 (pA #[t37]) w_2 fun t38 w_3=>
 ev Tryz.prog (Instr.extract t38 0) w_3 fun t39 w_4=>
 ev Tryz.prog (Instr.extract t38 1) w_4 fun t40 w_5=>
 ev Tryz.prog (Op.unary .not t40) w_5 fun t42 w_6=>
 cndS t42 (
 K (.tuple #[(.slice none 0 0),(.bool false)]) w_6) (
 nilS Tryz.prog x1 w_6 fun t45 w_7=>
 ev Tryz.prog (Instr.fieldAt 112 t45 0) w_7 fun t46 w_8=>
 ldS Tryz.prog 3 t46 w_8 fun t47 w_9=>
 callS Tryz.prog 82 (pA #[t47,t39]) w_9 fun t49 w_10=>
 ev Tryz.prog (Instr.extract t49 0) w_10 fun t50 w_11=>
 ev Tryz.prog (Instr.extract t49 1) w_11 fun t51 w_12=>
 ev Tryz.prog (binM .eql 43 (.tmp 53) (.const (.int .i64 0)) t51 (.int .i64 0)) w_12 fun t54 w_13=>
 K (.tuple #[t50,t54]) w_13))
theorem f78_k1_eq (K:K1) (x1 x6 x7:Value) (w:World):f78_k1 K x1 x6 x7 w=f78_k1_t x1 x6 x7 K w:=cutE fun σ=>by kernel_rfl
def f78_t (x0 x1:Value) (K:K1) (w:World):Prop:=
 nilS Tryz.prog x1 w fun t12 w_1=>
 ev Tryz.prog (Instr.fieldAt 112 t12 1) w_1 fun t13 w_2=>
 ldS Tryz.prog 3 t13 w_2 fun t14 w_3=>
 ev Tryz.prog (binM .lss 3 (.tmp 14) (.const (.int .i64 0)) t14 (.int .i64 0)) w_3 fun t15 w_4=>
 gd t15 false (fun k=>k x1 w_4) w_4 fun t17 w_5=>
 gd t15 false (fun k=>nilS Tryz.prog t17 w_5 k) w_5 fun t18 w_6=>
 gd t15 false (fun k=>ev Tryz.prog (Instr.fieldAt 112 t18 3) w_6 k) w_6 fun t19 w_7=>
 gd t15 false (fun k=>ldS Tryz.prog 4 t19 w_7 k) w_7 fun t20 w_8=>
 pickS t15 (.bool true) t20 w_8 fun t21 w_9=>
 cndS t21 (
 K (.tuple #[(.slice none 0 0),(.bool false)]) w_9) (
 nilR Tryz.prog x0 w_9.drew fun t24=>
 rd Tryz.prog (Instr.fieldAt 108 t24 0) w_9.drew fun t25=>
 ldR Tryz.prog 66 t25 w_9.drew fun t26=>
 nilR Tryz.prog x1 w_9.drew fun t28=>
 rd Tryz.prog (Instr.fieldAt 112 t28 0) w_9.drew fun t29=>
 ldR Tryz.prog 3 t29 w_9.drew fun t30=>
 (callS Tryz.prog 23 (pA #[t26,t30]) w_9.drew fun t31 w_10=>
 rd Tryz.prog (Instr.extract t31 0) w_10 fun t32=>
 rd Tryz.prog (Instr.extract t31 1) w_10 fun t33=>
 ev Tryz.prog (Instr.alloc 69 true (.tuple #[])) w_10 fun t6 w_11=>
 (nilR Tryz.prog x0 w_11 (fun u=>u=t24))∧
 (ag Tryz.prog (Instr.fieldAt 108 t24 0) w_11 t25)∧
 (ldG Tryz.prog 66 t25 w_11 t26)∧
 (nilR Tryz.prog x1 w_11 (fun u=>u=t28))∧
 (ag Tryz.prog (Instr.fieldAt 112 t28 0) w_11 t29)∧
 (ldG Tryz.prog 3 t29 w_11 t30)∧
 stS Tryz.prog 69 t6 t32 w_11 fun w_12=>
 f78_k1 K x1 t6 t33 w_12)∧
 (ev Tryz.prog (Instr.alloc 69 true (.tuple #[])) w_9.drew fun t6_1 w_13=>
 (nilR Tryz.prog x0 w_13 (fun u=>u=t24))∧
 (ag Tryz.prog (Instr.fieldAt 108 t24 0) w_13 t25)∧
 (ldG Tryz.prog 66 t25 w_13 t26)∧
 (nilR Tryz.prog x1 w_13 (fun u=>u=t28))∧
 (ag Tryz.prog (Instr.fieldAt 112 t28 0) w_13 t29)∧
 (ldG Tryz.prog 3 t29 w_13 t30)∧
 callS Tryz.prog 23 (pA #[t26,t30]) w_13 fun t31_1 w_14=>
 rd Tryz.prog (Instr.extract t31_1 0) w_14 fun t32_1=>
 rd Tryz.prog (Instr.extract t31_1 1) w_14 fun t33_1=>
 stS Tryz.prog 69 t6_1 t32_1 w_14 fun w_15=>
 f78_k1 K x1 t6_1 t33_1 w_15))
theorem f78_call (x0 x1:Value) (K:K1) (w:World) (h:f78_t x0 x1 K w):callS Tryz.prog 78 #[x0,x1] w K:=
 call_of_txt (args:= [x0,x1]) mixed Tryz.func78 f78_u.2 (by kernel_rfl) (cast (by kernel_rfl) h)
def f79_t (x0 x1 x2:Value) (K:K1) (w:World):Prop:=
 nilS Tryz.prog x0 w fun t10 w_1=>
 ev Tryz.prog (Instr.fieldAt 108 t10 0) w_1 fun t11 w_2=>
 ldS Tryz.prog 66 t11 w_2 fun t12 w_3=>
 callS Tryz.prog 62 (pA #[x2,t12]) w_3 fun t13 w_4=>
 ev Tryz.prog (binM .neq 43 (.tmp 14) (.const (.int .i64 0)) t13 (.int .i64 0)) w_4 fun t15 w_5=>
 cndS t15 (
 K t13 w_5) (
 nilS Tryz.prog x1 w_5 fun t19 w_6=>
 ev Tryz.prog (Instr.fieldAt 112 t19 1) w_6 fun t20 w_7=>
 stS Tryz.prog 3 t20 (.int .i64 (-1)) w_7 fun w_8=>
 nilS Tryz.prog x1 w_8 fun t21 w_9=>
 ev Tryz.prog (Instr.fieldAt 112 t21 2) w_9 fun t22 w_10=>
 stS Tryz.prog 3 t22 (.int .i64 (-1)) w_10 fun w_11=>
 K (.int .i64 0) w_11)
theorem f79_call (x0 x1 x2:Value) (K:K1) (w:World) (h:f79_t x0 x1 x2 K w):callS Tryz.prog 79 #[x0,x1,x2] w K:=
 call_of_txt (args:= [x0,x1,x2]) mixed Tryz.func79 .o (by kernel_rfl) (cast (by kernel_rfl) h)
end Go.Proofs.YtifpinhjpbgnoaaGreatDoor
namespace Go.Proofs.YtifpinhjpbgnoaaGreatDoor
open Go Go.Sh
set_option maxRecDepth 100000
set_option maxHeartbeats 4000000
set_option linter.unusedSimpArgs false
set_option linter.unusedVariables false
def plL (f:Nat→Int×Int×Bool) (l0:Nat):Nat→List Value
 |0=> []
 |n+1=>plL f l0 n++ [.int .i64 ((l0+32*n:Nat):Int),.int .i64 (f n).1,.int .i64 (f n).2.1,.bool (f n).2.2]
theorem plL_len (f:Nat→Int×Int×Bool) (l0:Nat):∀n,(plL f l0 n).length=n*4
 |0=>rfl
 |n+1=>by simp [plL,plL_len f l0 n];omega
theorem plL_get (f:Nat→Int×Int×Bool) (l0:Nat):∀n k,k<n→(plL f l0 n)[k*4]? =some (.int .i64 ((l0+32*k:Nat):Int))∧(plL f l0 n)[k*4+1]? =some (.int .i64 (f k).1)∧(plL f l0 n)[k*4+2]? =some (.int .i64 (f k).2.1)∧(plL f l0 n)[k*4+3]? =some (.bool (f k).2.2)
 |0,k,h=>absurd h (Nat.not_lt_zero _)
 |n+1,k,h=>by
  have hl:=plL_len f l0 n
  unfold plL
  by_cases e:k=n
  ·subst e
   refine ⟨?_,?_,?_,?_⟩<;>rw [List.getElem?_append_right (by omega)]<;>simp [hl]
  ·have:=plL_get f l0 n k (by omega)
   refine ⟨?_,?_,?_,?_⟩<;>rw [List.getElem?_append_left (by omega)]
   ·exact this.1
   ·exact this.2.1
   ·exact this.2.2.1
   ·exact this.2.2.2
theorem plL_congr {f g:Nat→Int×Int×Bool} {l0:Nat}:∀{n},(∀k,k<n→f k=g k)→plL f l0 n=plL g l0 n
 |0,_=>rfl
 |n+1,h=>by unfold plL;rw [plL_congr (fun k hk=>h k (by omega)),h n (by omega)]
def upF {α:Type} (f:Nat→α) (k:Nat) (v:α) (j:Nat):α:=if j=k then v else f j
theorem upF_eq {α:Type} (f:Nat→α) (k:Nat) (v:α):upF f k v k=v:=if_pos rfl
theorem upF_ne {α:Type} (f:Nat→α) {k j:Nat} (v:α) (h:j≠k):upF f k v j=f j:=if_neg h
theorem plL_set (f:Nat→Int×Int×Bool) (l0:Nat):∀n k,k<n→(∀c,(plL f l0 n).set (k*4+1) (.int .i64 c)=plL (upF f k (c,(f k).2)) l0 n)∧(∀c,(plL f l0 n).set (k*4+2) (.int .i64 c)=plL (upF f k ((f k).1,c,(f k).2.2)) l0 n)∧(∀c,(plL f l0 n).set (k*4+3) (.bool c)=plL (upF f k ((f k).1,(f k).2.1,c)) l0 n)
 |0,k,h=>absurd h (Nat.not_lt_zero _)
 |n+1,k,h=>by
  have hl:=plL_len f l0 n
  unfold plL
  by_cases e:k=n
  ·subst e
   have hc:∀v,plL (upF f k v) l0 k=plL f l0 k:=fun v=>plL_congr (fun j hj=>upF_ne f v (by omega))
   refine ⟨fun c=> ?_,fun c=> ?_,fun c=> ?_⟩<;>rw [List.set_append_right _ _ (by omega),hc,upF_eq,hl]
   ·rw [show k*4+1-k*4=1 by omega];rfl
   ·rw [show k*4+2-k*4=2 by omega];rfl
   ·rw [show k*4+3-k*4=3 by omega];rfl
  ·obtain ⟨h1,h2,h3⟩:=plL_set f l0 n k (by omega)
   refine ⟨fun c=> ?_,fun c=> ?_,fun c=> ?_⟩<;>rw [List.set_append_left _ _ (by omega),upF_ne _ _ (fun h=>e h.symm)]
   ·rw [h1]
   ·rw [h2]
   ·rw [h3]
def arF (T b o n cp:Nat) (i:Nat):Value:= [Value.iface 25 (.pointer (some ⟨T,0,none⟩)),.slice (some ⟨b,o,none⟩) n cp].getD i undef
structure ArS (w0 w:World) (Y:Lay) (D:DS) (S b o cp l0 n:Nat) (f:Nat→Int×Int×Bool):Prop where
 L:Lv w0 w Y D
 gl:Glob w0
 st:Cells w S 108 2 (arF (Y.tb 0) b o n cp)
 pl:SlO w 112 4 (.slice (some ⟨b,o,none⟩) n cp) n (plL f l0 n)
 nS:w0.heap.size≤S∧¬Y.F S∧S≠b
 nb:w0.heap.size≤b∧¬Y.F b
 n0:0<n
 lt:l0+32*n≤D.n
abbrev stV (S:Nat):Value:= .pointer (some ⟨S,0,none⟩)
section
variable {w0 w w':World} {Y Y':Lay} {D D':DS} {S b o cp l0 n:Nat} {f f':Nat→Int×Int×Bool}
theorem ArS.ext (h:ArS w0 w Y D S b o cp l0 n f) (e:Ext w w'):ArS w0 w' Y D S b o cp l0 n f:=⟨h.L.ext e,h.gl,h.st.ext e,h.pl.ext e,h.nS,h.nb,h.n0,h.lt⟩
theorem ArS.step (h:ArS w0 w Y D S b o cp l0 n f) (s:Stp w Y w' Y' D') (gd:Good D') (hn:D'.n=D.n):ArS w0 w' Y' D' S b o cp l0 n f:=by
 have tb:Y'.tb 0=Y.tb 0:=by rw [s.tb]
 have hb:b<w.heap.size:=h.pl.lt rfl
 refine ⟨h.L.step s gd,h.gl,?_,h.pl.frm s.frm (fun x hx=>by injection hx with hx;subst hx;exact h.nb.2),⟨h.nS.1,fun hf=> ?_,h.nS.2.2⟩,⟨h.nb.1,fun hf=> ?_⟩,h.n0,by rw [hn];exact h.lt⟩
 ·rw [tb];exact h.st.frm s.frm h.nS.2.1
 ·rcases s.fr S hf with h1|h1
  ·exact h.nS.2.1 h1
  ·have:=h.st.lt;omega
 ·rcases s.fr b hf with h1|h1
  ·exact h.nb.2 h1
  ·omega
theorem ArS.c0 (h:ArS w0 w Y D S b o cp l0 n f):w.cell? ⟨S,0,none⟩=some (.iface 25 (.pointer (some ⟨Y.tb 0,0,none⟩))):=h.st.cell (i:=0) (by omega)
theorem ArS.c1 (h:ArS w0 w Y D S b o cp l0 n f):w.cell? ⟨S,1,none⟩=some (.slice (some ⟨b,o,none⟩) n cp):=h.st.cell (i:=1) (by omega)
theorem ArS.p (h:ArS w0 w Y D S b o cp l0 n f) {k:Nat} (hk:k<n):w.cell? ⟨b,o+k*4,none⟩=some (.int .i64 ((l0+32*k:Nat):Int))∧w.cell? ⟨b,o+k*4+1,none⟩=some (.int .i64 (f k).1)∧w.cell? ⟨b,o+k*4+2,none⟩=some (.int .i64 (f k).2.1)∧w.cell? ⟨b,o+k*4+3,none⟩=some (.bool (f k).2.2):=by
 have hg:=plL_get f l0 n k hk
 refine ⟨h.pl.cell rfl hg.1,?_,?_,?_⟩
 ·rw [Nat.add_assoc];exact h.pl.cell rfl hg.2.1
 ·rw [Nat.add_assoc];exact h.pl.cell rfl hg.2.2.1
 ·rw [Nat.add_assoc];exact h.pl.cell rfl hg.2.2.2
theorem ArS.fz (h:ArS w0 w Y D S b o cp l0 n f):∀i,w.frozen? ⟨b,i,none⟩=false:=fun i=>h.pl.frz rfl i
theorem ArS.ltb (h:ArS w0 w Y D S b o cp l0 n f):b<w.heap.size:=h.pl.lt rfl
theorem ArS.ltS (h:ArS w0 w Y D S b o cp l0 n f):S<w.heap.size:=h.st.lt
theorem ArS.er (h:ArS w0 w Y D S b o cp l0 n f):∀(w1:World) (K:K1),Ext w w1→callS Tryz.prog 19 #[.pointer (some ⟨Y.tb 0,0,none⟩)] w1 K=K (.int .i64 (D.err 0)) w1:=fun w1 K e=>by rw [c_Err (h.L.dv.ext e) 0 (by omega) K]
theorem ArS.le (h:ArS w0 w Y D S b o cp l0 n f):n≤128∧l0≤4096:=by have:=h.lt;have:=h.L.gd.n;omega
theorem k_findAt (h:ArS w0 w Y D S b o cp l0 n f) {k:Nat} (hk:k<n) (K:K1) (hK:∀w',Ext w w'→K (.pointer (some ⟨b,o+k*4,none⟩)) w'):
  callS Tryz.prog 77 #[stV S,.int .i64 ((l0+32*k:Nat):Int)] w K:=by
 have hle:=h.le
 have s1:=h.c1
 refine f77_call _ _ _ _ ?_
 unfold f77_t
 simp (disch:=first|omega|simp only [RO]|(simp only [RZ]<;>omega)|fail) only [↓RBp,↓RA,↓reduceIte,Nat.reduceAdd,Nat.reduceMul,Nat.reduceEqDiff,RB,RX,RA2,s1]
 apply f77_l1_rule (I:=fun z w'=>∃i:Nat,z= .int .i64 (i:Int)∧i≤k∧Ext w w') (μ:=fun z _=>n-(Go.RowKit.intOf z).toNat)
 ·exact ⟨0,rfl,by omega,(by repeat (first|(with_reducible first|refine eB ?_ (by first|omega|(simp only [RZ]<;>omega)) _|assumption|exact eR _|refine eA ?_ _|refine eD ?_|refine eT ?_ (by assumption))|exact eR _))⟩
 ·intros;rename_i w1 hI E1 hE
  obtain ⟨i,rfl,hi,e1⟩:=hI
  have h1:=h.ext e1
  have s1:=h1.c1
  have ob26:=h1.p (show i<n by omega);have q0:=ob26.1;have q1:=ob26.2.1;have q2:=ob26.2.2.1;have q3:=ob26.2.2.2
  by_cases hik:i<k
  ·have ne:¬((l0+32*i:Nat):Int)=((l0+32*k:Nat):Int):=by omega
   unfold f77_l1_t
   simp (disch:=first|omega|simp only [RO]|(simp only [RZ]<;>omega)|fail) only [↓RBp,↓RA,↓reduceIte,Nat.reduceAdd,Nat.reduceMul,Nat.reduceEqDiff,RB,RX,RA2,s1,q0,ne]
   apply hE
   ·exact ⟨i+1,by simp,by omega,e1⟩
   ·simp [Go.RowKit.intOf];omega
  ·have:i=k:=by omega
   subst this
   unfold f77_l1_t
   simp (disch:=first|omega|simp only [RO]|(simp only [RZ]<;>omega)|fail) only [↓RBp,↓RA,↓reduceIte,Nat.reduceAdd,Nat.reduceMul,Nat.reduceEqDiff,RB,RX,RA2,s1,q0]
   exact hK _ e1
theorem k_OwnerAt (h:ArS w0 w Y D S b o cp l0 n f) {k:Nat} (hk:k<n) (K:K1) (hK:∀w',Ext w w'→K (.int .i64 (f k).2.1) w'):
  callS Tryz.prog 37 #[stV S,.int .i64 ((l0+32*k:Nat):Int)] w K:=by
 refine f37_call _ _ _ _ ?_
 unfold f37_t
 simp (disch:=first|omega|simp only [RO]|(simp only [RZ]<;>omega)|fail) only [↓RBp,↓RA,↓reduceIte,Nat.reduceAdd,Nat.reduceMul,Nat.reduceEqDiff,RB,RX,RA2]
 refine k_findAt h hk _ (fun w1 e1=> ?_)
 have ob28:=(h.ext e1).p hk;have q0:=ob28.1;have q1:=ob28.2.1;have q2:=ob28.2.2.1;have q3:=ob28.2.2.2
 simp (disch:=first|omega|simp only [RO]|(simp only [RZ]<;>omega)|fail) only [↓RBp,↓RA,↓reduceIte,Nat.reduceAdd,Nat.reduceMul,Nat.reduceEqDiff,RB,RX,RA2,q2]
 exact hK _ e1
def frC (f:Nat→Int×Int×Bool):Nat→Nat
 |0=>0
 |n+1=>frC f n+if (f n).1<0 then 1 else 0
theorem frC_le (f:Nat→Int×Int×Bool):∀n,frC f n≤n
 |0=>Nat.le_refl _
 |n+1=>by have:=frC_le f n;unfold frC;split<;>omega
theorem k_FreeChunks (h:ArS w0 w Y D S b o cp l0 n f) (K:K1) (hK:∀w',Ext w w'→K (.int .i64 ((frC f n:Nat):Int)) w'):
  callS Tryz.prog 29 #[stV S] w K:=by
 have hle:=h.le
 have s1:=h.c1
 refine f29_call _ _ _ ?_
 unfold f29_t
 simp (disch:=first|omega|simp only [RO]|(simp only [RZ]<;>omega)|fail) only [↓RBp,↓RA,↓reduceIte,Nat.reduceAdd,Nat.reduceMul,Nat.reduceEqDiff,RB,RX,RA2,s1]
 apply f29_l1_rule (I:=fun x z w'=>∃i:Nat,z= .int .i64 (i:Int)∧i≤n∧x= .int .i64 ((frC f i:Nat):Int)∧Ext w w') (μ:=fun _ z _=>n-(Go.RowKit.intOf z).toNat)
 ·exact ⟨0,rfl,by omega,rfl,(by repeat (first|(with_reducible first|refine eB ?_ (by first|omega|(simp only [RZ]<;>omega)) _|assumption|exact eR _|refine eA ?_ _|refine eD ?_|refine eT ?_ (by assumption))|exact eR _))⟩
 ·intros;rename_i w1 hI E1 hE
  obtain ⟨i,rfl,hi,rfl,e1⟩:=hI
  have h1:=h.ext e1
  have hc:=frC_le f i
  by_cases hin:i<n
  ·have ob29:=h1.p hin;have q0:=ob29.1;have q1:=ob29.2.1;have q2:=ob29.2.2.1;have q3:=ob29.2.2.2
   have ltb:=h1.ltb
   have hs:frC f (i+1)=frC f i+if (f i).1<0 then 1 else 0:=rfl
   generalize (f i).1=c1 at*
   by_cases hc1:c1<0
   ·rw [if_pos hc1] at hs
    unfold f29_l1_t
    simp (disch:=first|omega|simp only [RO]|(simp only [RZ]<;>omega)|fail) only [↓RBp,↓RA,↓reduceIte,Nat.reduceAdd,Nat.reduceMul,Nat.reduceEqDiff,RB,RX,RA2,q0,q1,q2,q3,hc1,f29_k2_eq,f29_k2_t]
    apply hE
    ·exact ⟨i+1,by simp,by omega,by rw [hs];simp,(by repeat (first|(with_reducible first|refine eB ?_ (by first|omega|(simp only [RZ]<;>omega)) _|assumption|exact eR _|refine eA ?_ _|refine eD ?_|refine eT ?_ (by assumption))|exact eR _))⟩
    ·simp [Go.RowKit.intOf];omega
   ·rw [if_neg hc1] at hs
    unfold f29_l1_t
    simp (disch:=first|omega|simp only [RO]|(simp only [RZ]<;>omega)|fail) only [↓RBp,↓RA,↓reduceIte,Nat.reduceAdd,Nat.reduceMul,Nat.reduceEqDiff,RB,RX,RA2,q0,q1,q2,q3,hc1,f29_k2_eq,f29_k2_t]
    apply hE
    ·exact ⟨i+1,by simp,by omega,by rw [hs];simp,(by repeat (first|(with_reducible first|refine eB ?_ (by first|omega|(simp only [RZ]<;>omega)) _|assumption|exact eR _|refine eA ?_ _|refine eD ?_|refine eT ?_ (by assumption))|exact eR _))⟩
    ·simp [Go.RowKit.intOf];omega
  ·have:i=n:=by omega
   subst this
   unfold f29_l1_t
   simp (disch:=first|omega|simp only [RO]|(simp only [RZ]<;>omega)|fail) only [↓RBp,↓RA,↓reduceIte,Nat.reduceAdd,Nat.reduceMul,Nat.reduceEqDiff,RB,RX,RA2,f29_k1_eq,f29_k1_t]
   exact hK _ e1
theorem elInt:ElT Tryz.prog 50 50 3 1 8 (.int .i64 0):=el_50_50
def lnL (p:Nat→Bool) (l0:Nat):Nat→List Int
 |0=> []
 |n+1=>lnL p l0 n++if p n then [((l0+32*n:Nat):Int)] else []
theorem lnL_len (p:Nat→Bool) (l0:Nat):∀n,(lnL p l0 n).length≤n
 |0=>Nat.le_refl _
 |n+1=>by have:=lnL_len p l0 n;unfold lnL;split<;>simp<;>omega
theorem k_Lines (h:ArS w0 w Y D S b o cp l0 n f) (K:K1) (hK:∀v w',Ext w w'→NewV w.heap.size v→SlO w' 3 1 v (lnL (fun _=>true) l0 n).length (i64L (lnL (fun _=>true) l0 n))→K v w'):
  callS Tryz.prog 31 #[stV S] w K:=by
 have hle:=h.le
 have s1:=h.c1
 refine f31_call _ _ _ ?_
 unfold f31_t
 simp (disch:=first|omega|simp only [RO]|(simp only [RZ]<;>omega)|fail) only [↓RBp,↓RA,↓reduceIte,Nat.reduceAdd,Nat.reduceMul,Nat.reduceEqDiff,RB,RX,RA2,s1]
 apply f31_l1_rule (I:=fun x z w'=>∃i:Nat,z= .int .i64 (i:Int)∧i≤n∧SlO w' 3 1 x (lnL (fun _=>true) l0 i).length (i64L (lnL (fun _=>true) l0 i))∧Frm Nob w w'∧NewV w.heap.size x) (μ:=fun _ z _=>n-(Go.RowKit.intOf z).toNat)
 ·exact ⟨0,rfl,by omega,SlO.nil _ _ _,(by repeat (first|exact Frm.refl _ _|with_reducible refine Frm.set ?_ _ (fun _=>rfl)|with_reducible refine Frm.alloc ?_ _|with_reducible refine Frm.drew ?_)),fun b hb=>by cases hb⟩
 ·intros;rename_i x3 z w1 hI E1 hE
  obtain ⟨i,rfl,hi,hs,hf,hnw⟩:=hI
  have e1:Ext w w1:=hf.to_ext (fun _ _ h=>h)
  have h1:=h.ext e1
  have hln:=lnL_len (fun _=>true) l0 i
  by_cases hin:i<n
  ·have ob30:=h1.p hin;have q0:=ob30.1;have q1:=ob30.2.1;have q2:=ob30.2.2.1;have q3:=ob30.2.2.2
   have ltb:=h1.ltb
   obtain ⟨pa,pc,rfl,hpc⟩:=hs.isS'
   have hss:lnL (fun _=>true) l0 (i+1)=lnL (fun _=>true) l0 i++ [((l0+32*i:Nat):Int)]:=rfl
   generalize lnL (fun _=>true) l0 i=l at*
   unfold f31_l1_t
   simp (disch:=first|omega|simp only [RO]|(simp only [RZ]<;>omega)|fail) only [↓RBp,↓RA,↓reduceIte,Nat.reduceAdd,Nat.reduceMul,Nat.reduceEqDiff,RB,RX,RA2,q0,q1,q2,q3]
   refine app_new elInt (w0:=w) (hs.ext (by repeat (first|(with_reducible first|refine eB ?_ (by first|omega|(simp only [RZ]<;>omega)) _|assumption|exact eR _|refine eA ?_ _|refine eD ?_|refine eT ?_ (by assumption))|exact eR _))) (hf.ext (by repeat (first|(with_reducible first|refine eB ?_ (by first|omega|(simp only [RZ]<;>omega)) _|assumption|exact eR _|refine eA ?_ _|refine eD ?_|refine eT ?_ (by assumption))|exact eR _))) hnw (m:=1) (news:= [.int .i64 ((l0+32*i:Nat):Int)]) rfl ?_ rfl (by omega) (by omega) (by omega) (fun v' w4 hsp hf4 n4 hfr4 hb4=> ?_)
   ·intro j u hj
    obtain ⟨rfl,rfl⟩:=one_get hj
    simp (disch:=first|omega|simp only [RO]|(simp only [RZ]<;>omega)|fail) only [↓RBp,↓RA,↓reduceIte,Nat.reduceAdd,Nat.reduceMul,Nat.reduceEqDiff,RB,RX,RA2]
   simp (disch:=first|omega|simp only [RO]|(simp only [RZ]<;>omega)|fail) only [↓RBp,↓RA,↓reduceIte,Nat.reduceAdd,Nat.reduceMul,Nat.reduceEqDiff,RB,RX,RA2]
   apply hE
   ·refine ⟨i+1,by simp,by omega,?_,hf4,n4⟩
    rw [hss,List.length_append]
    simpa [i64L] using hsp
   ·simp [Go.RowKit.intOf];omega
  ·have:i=n:=by omega
   subst this
   unfold f31_l1_t
   simp (disch:=first|omega|simp only [RO]|(simp only [RZ]<;>omega)|fail) only [↓RBp,↓RA,↓reduceIte,Nat.reduceAdd,Nat.reduceMul,Nat.reduceEqDiff,RB,RX,RA2,f31_k1_eq,f31_k1_t]
   exact hK _ _ e1 hnw hs
theorem k_Chunks (h:ArS w0 w Y D S b o cp l0 n f) (t c:Int) (t0:0≤t) (c0:0≤c) (K:K1) (hK:∀v w',Ext w w'→NewV w.heap.size v→SlO w' 3 1 v (lnL (fun k=>decide ((f k).2.1=t)&&decide ((f k).1=c)) l0 n).length (i64L (lnL (fun k=>decide ((f k).2.1=t)&&decide ((f k).1=c)) l0 n))→K v w'):
  callS Tryz.prog 30 #[stV S,.int .i64 t,.int .i64 c] w K:=by
 have hle:=h.le
 have s1:=h.c1
 refine f30_call _ _ _ _ _ ?_
 unfold f30_t
 simp (disch:=first|omega|simp only [RO]|(simp only [RZ]<;>omega)|fail) only [↓RBp,↓RA,↓reduceIte,Nat.reduceAdd,Nat.reduceMul,Nat.reduceEqDiff,RB,RX,RA2,s1]
 apply f30_l1_rule (I:=fun x z w'=>∃i:Nat,z= .int .i64 (i:Int)∧i≤n∧SlO w' 3 1 x (lnL (fun k=>decide ((f k).2.1=t)&&decide ((f k).1=c)) l0 i).length (i64L (lnL (fun k=>decide ((f k).2.1=t)&&decide ((f k).1=c)) l0 i))∧Frm Nob w w'∧NewV w.heap.size x) (μ:=fun _ z _=>n-(Go.RowKit.intOf z).toNat)
 ·exact ⟨0,rfl,by omega,SlO.nil _ _ _,(by repeat (first|exact Frm.refl _ _|with_reducible refine Frm.set ?_ _ (fun _=>rfl)|with_reducible refine Frm.alloc ?_ _|with_reducible refine Frm.drew ?_)),fun b hb=>by cases hb⟩
 ·intros;rename_i x3 z w1 hI E1 hE
  obtain ⟨i,rfl,hi,hs,hf,hnw⟩:=hI
  have e1:Ext w w1:=hf.to_ext (fun _ _ h=>h)
  have h1:=h.ext e1
  have hln:=lnL_len (fun k=>decide ((f k).2.1=t)&&decide ((f k).1=c)) l0 i
  by_cases hin:i<n
  ·have ob31:=h1.p hin;have q0:=ob31.1;have q1:=ob31.2.1;have q2:=ob31.2.2.1;have q3:=ob31.2.2.2
   have ltb:=h1.ltb
   obtain ⟨pa,pc,rfl,hpc⟩:=hs.isS'
   have hss:lnL (fun k=>decide ((f k).2.1=t)&&decide ((f k).1=c)) l0 (i+1)=lnL (fun k=>decide ((f k).2.1=t)&&decide ((f k).1=c)) l0 i++if (decide ((f i).2.1=t)&&decide ((f i).1=c))=true then [((l0+32*i:Nat):Int)] else []:=rfl
   generalize lnL (fun k=>decide ((f k).2.1=t)&&decide ((f k).1=c)) l0 i=l at*
   generalize (f i).1=ci at*
   generalize (f i).2.1=oi at*
   by_cases ho:oi=t
   ·by_cases hc:ci=c
    ·subst ho;subst hc
     unfold f30_l1_t
     simp (disch:=first|omega|simp only [RO]|(simp only [RZ]<;>omega)|fail) only [↓RBp,↓RA,↓reduceIte,Nat.reduceAdd,Nat.reduceMul,Nat.reduceEqDiff,RB,RX,RA2,q0,q1,q2,q3]
     refine app_new elInt (w0:=w) (hs.ext (by repeat (first|(with_reducible first|refine eB ?_ (by first|omega|(simp only [RZ]<;>omega)) _|assumption|exact eR _|refine eA ?_ _|refine eD ?_|refine eT ?_ (by assumption))|exact eR _))) (hf.ext (by repeat (first|(with_reducible first|refine eB ?_ (by first|omega|(simp only [RZ]<;>omega)) _|assumption|exact eR _|refine eA ?_ _|refine eD ?_|refine eT ?_ (by assumption))|exact eR _))) hnw (m:=1) (news:= [.int .i64 ((l0+32*i:Nat):Int)]) rfl ?_ rfl (by omega) (by omega) (by omega) (fun v' w4 hsp hf4 n4 hfr4 hb4=> ?_)
     ·intro j u hj
      obtain ⟨rfl,rfl⟩:=one_get hj
      simp (disch:=first|omega|simp only [RO]|(simp only [RZ]<;>omega)|fail) only [↓RBp,↓RA,↓reduceIte,Nat.reduceAdd,Nat.reduceMul,Nat.reduceEqDiff,RB,RX,RA2]
     simp (disch:=first|omega|simp only [RO]|(simp only [RZ]<;>omega)|fail) only [↓RBp,↓RA,↓reduceIte,Nat.reduceAdd,Nat.reduceMul,Nat.reduceEqDiff,RB,RX,RA2,f30_k2_eq,f30_k2_t]
     apply hE
     ·refine ⟨i+1,by simp,by omega,?_,hf4,n4⟩
      rw [hss]
      simp only [decide_true,Bool.and_true,if_true,List.length_append]
      simpa [i64L] using hsp
     ·simp [Go.RowKit.intOf];omega
    ·unfold f30_l1_t
     simp (disch:=first|omega|simp only [RO]|(simp only [RZ]<;>omega)|fail) only [↓RBp,↓RA,↓reduceIte,Nat.reduceAdd,Nat.reduceMul,Nat.reduceEqDiff,RB,RX,RA2,q0,q1,q2,q3,ho,hc,f30_k2_eq,f30_k2_t]
     apply hE
     ·refine ⟨i+1,by simp,by omega,?_,hf.ext (by repeat (first|(with_reducible first|refine eB ?_ (by first|omega|(simp only [RZ]<;>omega)) _|assumption|exact eR _|refine eA ?_ _|refine eD ?_|refine eT ?_ (by assumption))|exact eR _)),hnw⟩
      rw [hss,decide_eq_false hc,Bool.and_false,if_neg (by decide),List.append_nil]
      exact hs.ext (by repeat (first|(with_reducible first|refine eB ?_ (by first|omega|(simp only [RZ]<;>omega)) _|assumption|exact eR _|refine eA ?_ _|refine eD ?_|refine eT ?_ (by assumption))|exact eR _))
     ·simp [Go.RowKit.intOf];omega
   ·unfold f30_l1_t
    simp (disch:=first|omega|simp only [RO]|(simp only [RZ]<;>omega)|fail) only [↓RBp,↓RA,↓reduceIte,Nat.reduceAdd,Nat.reduceMul,Nat.reduceEqDiff,RB,RX,RA2,q0,q1,q2,q3,ho,f30_k2_eq,f30_k2_t]
    apply hE
    ·refine ⟨i+1,by simp,by omega,?_,hf.ext (by repeat (first|(with_reducible first|refine eB ?_ (by first|omega|(simp only [RZ]<;>omega)) _|assumption|exact eR _|refine eA ?_ _|refine eD ?_|refine eT ?_ (by assumption))|exact eR _)),hnw⟩
     rw [hss,decide_eq_false ho,Bool.false_and,if_neg (by decide),List.append_nil]
     exact hs.ext (by repeat (first|(with_reducible first|refine eB ?_ (by first|omega|(simp only [RZ]<;>omega)) _|assumption|exact eR _|refine eA ?_ _|refine eD ?_|refine eT ?_ (by assumption))|exact eR _))
    ·simp [Go.RowKit.intOf];omega
  ·have:i=n:=by omega
   subst this
   unfold f30_l1_t
   simp (disch:=first|omega|simp only [RO]|(simp only [RZ]<;>omega)|fail) only [↓RBp,↓RA,↓reduceIte,Nat.reduceAdd,Nat.reduceMul,Nat.reduceEqDiff,RB,RX,RA2,f30_k1_eq,f30_k1_t]
   exact hK _ _ e1 hnw hs
end
end Go.Proofs.YtifpinhjpbgnoaaGreatDoor
namespace Go.Proofs.YtifpinhjpbgnoaaGreatDoor
open Go Go.Sh
set_option linter.unusedSimpArgs false
set_option linter.unusedVariables false
section
variable {D:DS} {l g:Nat} {c o:Int}
theorem fmt_snd (c0:0≤c) (c5:c<5) (o0:0≤o) (o8:o<8) (hg0:g≠0) (hg:g<65536) (h0:wd D l 0=sealN (hdX c o g)) (hlow:∀j,j≠0→j<8→wd D l j=0) (at_:∀i:Nat,(i:Int)<perS c→wd D l (offN c i)=sealN (blkX g 0 176)):Snd D l c o:=by
 have hh:=hd_ok c0 c5 o0 o8 hg0 hg
 refine ⟨by rw [h0];exact hh.1,by rw [h0];exact hh.2.1,by rw [h0];exact hh.2.2.1,fun j h2 h8=>hlow j (by omega) h8,fun i hi=> ?_,fun i hi=> ?_,fun i hi=> ?_⟩
 ·rw [at_ i hi];exact isS_blk hg (by omega) (by omega)
 ·rw [at_ i hi,bG_blk hg (by omega) (by omega),bK_blk hg (by omega) (by omega),bS_blk hg (by omega) (by omega)];simp [goodB,hg0]
 ·rw [hlow 1 (by omega) (by omega),bit0]
  by_cases h:(i:Int)<perS c
  ·rw [at_ i h,bS_blk hg (by omega) (by omega)];simp
  ·simp [h]
theorem clr_gen (on:On D) (gd:Good D) (hl:l+32≤D.n) (hg:g<65536):On (D.run 0 (clrI l g))∧Good (D.run 0 (clrI l g))∧(D.run 0 (clrI l g)).n=D.n∧(∀i∈clrI l g,okI i)∧wd (D.run 0 (clrI l g)) l 0=sealN (hdX (-1) (-1) g):=by
 have hs:=sealN_lt (hdX (-1) (-1) g) (hdX_lt (by omega) (by omega) (by omega) (by omega) hg)
 have hn:=gd.n
 have h1:=On.stores on [(l*64,sealN (hdX (-1) (-1) g))] (fun x hx=>by simp only [List.mem_singleton] at hx;subst hx;simp only;omega)
 have ok:∀i∈clrI l g,okI i:=okI_stores (fun x hx=>by simp only [List.mem_singleton] at hx;subst hx;exact ⟨by simp only;omega,hs⟩)
 refine ⟨h1.1,Good.run 0 (by omega) _ _ gd ok,run_n 0 _ D,ok,?_⟩
 have e:(D.run 0 (clrI l g)).cur=applyH [(l*64,sealN (hdX (-1) (-1) g))] D.cur:=h1.2
 unfold wd
 rw [e]
 refine applyH_val (fun y hy _=> ?_) (.inl ⟨(l*64,sealN (hdX (-1) (-1) g)),by simp,by simp only;omega⟩)
 simp only [List.mem_singleton] at hy;subst hy;rfl
theorem plan_gen (on:On D) (gd:Good D) (hl:l+32≤D.n) (c0:0≤c) (c5:c<5) (o0:0≤o) (o8:o<8) (hg0:g≠0) (hg:g<65536):On (D.run 0 (planI l c o g))∧Good (D.run 0 (planI l c o g))∧(D.run 0 (planI l c o g)).n=D.n∧(∀i∈planI l c o g,okI i)∧Snd (D.run 0 (planI l c o g)) l c o∧wd (D.run 0 (planI l c o g)) l 0=sealN (hdX c o g)∧∀i:Nat,(i:Int)<perS c→wd (D.run 0 (planI l c o g)) l (offN c i)=sealN (blkX g 0 176):=by
 have hp:=perS_in c0 c5
 have hn:=gd.n
 have hb:=sealN_lt (blkX g 0 176) (blkX_lt hg (by omega) (by omega))
 have hd:=sealN_lt (hdX c o g) (hdX_lt (by omega) c5 (by omega) o8 hg)
 have pw:∀x∈planW l c g,(x.1%8=0∧x.1<D.n*64)∧x.1<18446744073709551616∧x.2<18446744073709551616:=by
  intro x hx
  rcases List.mem_append.1 hx with hx|hx
  ·obtain ⟨j,hj,rfl⟩:=List.mem_map.1 hx
   have hb2:=offS_bd c0 c5 (show 0≤(j:Int) by omega) (by rw [List.mem_range] at hj;omega)
   have hw:=wordsS_in c0 c5
   simp only;omega
  ·obtain ⟨j,hj,rfl⟩:=List.mem_map.1 hx
   rw [List.mem_range] at hj
   simp only;omega
 have hw1:∀x∈ [(l*64,sealN (hdX c o g))],(x.1%8=0∧x.1<D.n*64)∧x.1<18446744073709551616∧x.2<18446744073709551616:=fun x hx=>by
  simp only [List.mem_singleton] at hx;subst hx;simp only;omega
 have ok:∀i∈planI l c o g,okI i:=by
  intro i hi
  rcases List.mem_append.1 hi with hi|hi
  ·exact okI_stores (fun x hx=>(pw x hx).2) i hi
  ·exact okI_stores (fun x hx=>(hw1 x hx).2) i hi
 have h1:=On.stores on (planW l c g) (fun x hx=>(pw x hx).1)
 have n1:(D.run 0 (storesI (planW l c g))).n=D.n:=run_n 0 _ D
 have h2:=On.stores h1.1 [(l*64,sealN (hdX c o g))] (fun x hx=>by rw [n1];exact (hw1 x hx).1)
 have er:D.run 0 (planI l c o g)=(D.run 0 (storesI (planW l c g))).run 0 (storesI [(l*64,sealN (hdX c o g))]):=by unfold planI;rw [run_append]
 have gd3:=Good.run 0 (by omega) _ _ gd ok
 have n3:(D.run 0 (planI l c o g)).n=D.n:=run_n 0 _ D
 have ec:(D.run 0 (planI l c o g)).cur=applyH [(l*64,sealN (hdX c o g))] (applyH (planW l c g) D.cur):=by rw [er,h2.2,h1.2]
 have on3:On (D.run 0 (planI l c o g)):=by rw [er];exact h2.1
 generalize D.run 0 (planI l c o g)=E at*
 have w0:wd E l 0=sealN (hdX c o g):=by
  unfold wd
  rw [ec]
  refine applyH_val (fun y hy _=> ?_) (.inl ⟨(l*64,sealN (hdX c o g)),by simp,by simp only;omega⟩)
  simp only [List.mem_singleton] at hy;subst hy;rfl
 have ho:∀(j:Nat) (f:Nat→Nat),j≠0→applyH [(l*64,sealN (hdX c o g))] f (l*8+j)=f (l*8+j):=fun j f hj=>applyH_other _ _ _ (fun y hy=>by simp only [List.mem_singleton] at hy;subst hy;simp only;omega)
 have hA:∀j,∀y∈planW l c g,y.1/8=l*8+j→(8≤j∧y.2=sealN (blkX g 0 176))∨(j<8∧y.2=0):=by
  intro j y hy hyj
  rcases List.mem_append.1 hy with hy|hy
  ·obtain ⟨i,hi,rfl⟩:=List.mem_map.1 hy
   rw [List.mem_range] at hi
   have hb2:=offS_bd c0 c5 (show 0≤(i:Int) by omega) (by omega)
   left
   simp only at hyj
   exact ⟨by omega,rfl⟩
  ·obtain ⟨i,hi,rfl⟩:=List.mem_map.1 hy
   rw [List.mem_range] at hi
   right
   simp only at hyj
   exact ⟨by omega,rfl⟩
 have wlow:∀j,j≠0→j<8→wd E l j=0:=by
  intro j h0 h8
  unfold wd
  rw [ec,ho j _ h0]
  refine applyH_val (fun y hy hyj=> ?_) (.inl ⟨(l*64+(j-1+1)*8,0),List.mem_append_right _ (List.mem_map.2 ⟨j-1,List.mem_range.2 (by omega),rfl⟩),by simp only;omega⟩)
  rcases hA j y hy hyj with h|h
  ·omega
  ·exact h.2
 have wat:∀i:Nat,(i:Int)<perS c→wd E l (offN c i)=sealN (blkX g 0 176):=by
  intro i hi
  have bd:=offN_bd c0 c5 hi
  unfold wd
  rw [ec,ho _ _ (by omega)]
  refine applyH_val (fun y hy hyj=> ?_) (.inl ⟨_,List.mem_append_left _ (List.mem_map.2 ⟨i,List.mem_range.2 (by omega),rfl⟩),?_⟩)
  ·rcases hA _ y hy hyj with h|h
   ·exact h.2
   ·omega
  ·simp only;omega
 exact ⟨on3,gd3,n3,ok,fmt_snd c0 c5 o0 o8 hg0 hg w0 wlow wat,w0,wat⟩
end
end Go.Proofs.YtifpinhjpbgnoaaGreatDoor
namespace Go.Proofs.YtifpinhjpbgnoaaGreatDoor
open Go Go.Sh
set_option maxRecDepth 100000
set_option maxHeartbeats 4000000
set_option linter.unusedSimpArgs false
set_option linter.unusedVariables false
def vldB (n:Nat) (line lines:Int):Bool:=decide (0≤line)&&(decide (32≤lines)&&decide (line+lines≤(n:Int)))
section
variable {w0 w w':World} {Y Y':Lay} {D D':DS} {S b o cp l0 n:Nat} {f f':Nat→Int×Int×Bool}
theorem k_avalid (h:Dv w Y D) (g:Good D) (line lines:Int) (h1: -9223372036854775808≤line) (h2:line<9223372036854775808) (h3: -9223372036854775808≤lines) (h4:lines<9223372036854775808) (K:K1) (hK:∀w',Ext w w'→K (.bool (vldB D.n line lines)) w'):
  callS Tryz.prog 47 #[thV Y,.int .i64 line,.int .i64 lines] w K:=by
 have hn:=g.n
 have hsz:∀(w1:World) (K:K1),Ext w w1→callS Tryz.prog 167 #[.pointer (some ⟨Y.tb 0,0,none⟩)] w1 K=K (.int .u64 ((D.n*64:Nat):Int)) w1:=fun w1 K e=>c_TSize (h.ext e) g 0 (by omega) K
 have hq:D.n*64/64=D.n:=by omega
 refine f47_call _ _ _ _ _ ?_
 unfold thV f47_t
 unfold vldB at hK
 by_cases a0:line<0
 ·rw [decide_eq_false (show ¬0≤line by omega),Bool.false_and] at hK
  simp (disch:=first|omega|simp only [RO]|(simp only [RZ]<;>omega)|(with_reducible (repeat (first|assumption|exact Ext.refl _|refine Ext.alloc ?_ _|refine Ext.drew ?_|refine Ext.trans ?_ (by assumption))))|fail) only [↓RBp,↓RA,↓reduceIte,Nat.reduceAdd,Nat.reduceMul,Nat.reduceEqDiff,RB,RX,RA2,hsz,hq,a0]
  exact hK _ (by repeat (first|(with_reducible first|refine eB ?_ (by first|omega|(simp only [RZ]<;>omega)) _|assumption|exact eR _|refine eA ?_ _|refine eD ?_|refine eT ?_ (by assumption))|exact eR _))
 ·rw [decide_eq_true (show 0≤line by omega),Bool.true_and] at hK
  by_cases a1:lines<32
  ·rw [decide_eq_false (show ¬32≤lines by omega),Bool.false_and] at hK
   simp (disch:=first|omega|simp only [RO]|(simp only [RZ]<;>omega)|(with_reducible (repeat (first|assumption|exact Ext.refl _|refine Ext.alloc ?_ _|refine Ext.drew ?_|refine Ext.trans ?_ (by assumption))))|fail) only [↓RBp,↓RA,↓reduceIte,Nat.reduceAdd,Nat.reduceMul,Nat.reduceEqDiff,RB,RX,RA2,hsz,hq,a0,a1]
   exact hK _ (by repeat (first|(with_reducible first|refine eB ?_ (by first|omega|(simp only [RZ]<;>omega)) _|assumption|exact eR _|refine eA ?_ _|refine eD ?_|refine eT ?_ (by assumption))|exact eR _))
  ·rw [decide_eq_true (show 32≤lines by omega),Bool.true_and] at hK
   obtain ⟨a,rfl⟩:∃a:Nat,line=(a:Int):=⟨line.toNat,by omega⟩
   obtain ⟨q,rfl⟩:∃q:Nat,lines=(q:Int):=⟨lines.toNat,by omega⟩
   by_cases a2:D.n<a
   ·rw [decide_eq_false (show ¬(a:Int)+(q:Int)≤(D.n:Int) by omega)] at hK
    simp (disch:=first|omega|simp only [RO]|(simp only [RZ]<;>omega)|(with_reducible (repeat (first|assumption|exact Ext.refl _|refine Ext.alloc ?_ _|refine Ext.drew ?_|refine Ext.trans ?_ (by assumption))))|fail) only [↓RBp,↓RA,↓reduceIte,Nat.reduceAdd,Nat.reduceMul,Nat.reduceEqDiff,RB,RX,RA2,hsz,hq,a0,a1,a2]
    exact hK _ (by repeat (first|(with_reducible first|refine eB ?_ (by first|omega|(simp only [RZ]<;>omega)) _|assumption|exact eR _|refine eA ?_ _|refine eD ?_|refine eT ?_ (by assumption))|exact eR _))
   ·by_cases a3:D.n-a<q
    ·rw [decide_eq_false (show ¬(a:Int)+(q:Int)≤(D.n:Int) by omega)] at hK
     simp (disch:=first|omega|simp only [RO]|(simp only [RZ]<;>omega)|(with_reducible (repeat (first|assumption|exact Ext.refl _|refine Ext.alloc ?_ _|refine Ext.drew ?_|refine Ext.trans ?_ (by assumption))))|fail) only [↓RBp,↓RA,↓reduceIte,Nat.reduceAdd,Nat.reduceMul,Nat.reduceEqDiff,RB,RX,RA2,hsz,hq,a0,a1,a2,a3]
     exact hK _ (by repeat (first|(with_reducible first|refine eB ?_ (by first|omega|(simp only [RZ]<;>omega)) _|assumption|exact eR _|refine eA ?_ _|refine eD ?_|refine eT ?_ (by assumption))|exact eR _))
    ·rw [decide_eq_true (show (a:Int)+(q:Int)≤(D.n:Int) by omega)] at hK
     have a4:a+q/32*32≤4096:=by omega
     simp (disch:=first|omega|simp only [RO]|(simp only [RZ]<;>omega)|(with_reducible (repeat (first|assumption|exact Ext.refl _|refine Ext.alloc ?_ _|refine Ext.drew ?_|refine Ext.trans ?_ (by assumption))))|fail) only [↓RBp,↓RA,↓reduceIte,Nat.reduceAdd,Nat.reduceMul,Nat.reduceEqDiff,RB,RX,RA2,hsz,hq,a0,a1,a2,a3,a4]
     exact hK _ (by repeat (first|(with_reducible first|refine eB ?_ (by first|omega|(simp only [RZ]<;>omega)) _|assumption|exact eR _|refine eA ?_ _|refine eD ?_|refine eT ?_ (by assumption))|exact eR _))
theorem clrI_len (l g:Nat):(clrI l g).length≤3:=by
 have:=storesI_le [(l*64,sealN (hdX (-1) (-1) g))]
 simpa [clrI] using this
def fmtD (D:DS) (l0:Nat):Nat→DS
 |0=>D
 |k+1=>(fmtD D l0 k).run 0 (clrI (l0+32*k) 1)
theorem fmtD_ok (on:On D) (gd:Good D) (hl:l0+32*n≤D.n):∀k,k≤n→On (fmtD D l0 k)∧Good (fmtD D l0 k)∧(fmtD D l0 k).n=D.n∧(fmtD D l0 k).exe≤D.exe+3*k
 |0,_=>⟨on,gd,rfl,by simp [fmtD]⟩
 |k+1,hk=>by
  obtain ⟨h1,h2,h3,h4⟩:=fmtD_ok on gd hl k (by omega)
  have c:=clr_gen h1 h2 (l:=l0+32*k) (g:=1) (by omega) (by omega)
  refine ⟨c.1,c.2.1,c.2.2.1.trans h3,?_⟩
  have:=run_exe 0 (clrI (l0+32*k) 1) (fmtD D l0 k)
  have:=clrI_len (l0+32*k) 1
  unfold fmtD
  omega
theorem k_AFormat (h:Lv w0 w Y D) (gl:Glob w0) (on:On D) (gd:Good D) (hx:D.exe<1000000000) {q:Nat} (hq:32≤q) (hl:l0+q≤D.n) (K:K1) (hK:∀w' Y',Stp w Y w' Y' (fmtD D l0 (q/32))→K (.int .i64 0) w'):
  callS Tryz.prog 39 #[thV Y,.int .i64 (l0:Int),.int .i64 (q:Int)] w K:=by
 have hn:=gd.n
 have hvl:vldB D.n (l0:Int) (q:Int)=true:=by simp [vldB];omega
 have her:∀(w1:World) (K:K1),Ext w w1→callS Tryz.prog 19 #[.pointer (some ⟨Y.tb 0,0,none⟩)] w1 K=K (.int .i64 0) w1:=fun w1 K e=>by rw [c_Err (h.dv.ext e) 0 (by omega) K,on.err]
 obtain ⟨n,hnq⟩:∃n,q/32=n:=⟨_,rfl⟩
 rw [hnq] at hK
 refine f39_call _ _ _ _ _ ?_
 unfold f39_t
 simp (disch:=first|omega|simp only [RO]|(simp only [RZ]<;>omega)|fail) only [↓RBp,↓RA,↓reduceIte,Nat.reduceAdd,Nat.reduceMul,Nat.reduceEqDiff,RB,RX,RA2]
 refine k_avalid h.dv gd _ _ (by omega) (by omega) (by omega) (by omega) _ (fun w1 e1=> ?_)
 rw [hvl]
 unfold thV
 simp (disch:=first|omega|simp only [RO]|(simp only [RZ]<;>omega)|(with_reducible (repeat (first|assumption|exact Ext.refl _|refine Ext.alloc ?_ _|refine Ext.drew ?_|refine Ext.trans ?_ (by assumption))))|fail) only [↓RBp,↓RA,↓reduceIte,Nat.reduceAdd,Nat.reduceMul,Nat.reduceEqDiff,RB,RX,RA2,her,hnq]
 apply f39_l1_rule (I:=fun z w'=>∃(i:Nat) (Y':Lay),z= .int .i64 (i:Int)∧i≤n∧Stp w Y w' Y' (fmtD D l0 i)) (μ:=fun z _=>n-(Go.RowKit.intOf z).toNat)
 ·exact ⟨0,Y,rfl,by omega,Stp.ext h.dv e1⟩
 ·intros;rename_i w2 hI E1 hE
  obtain ⟨i,Y2,rfl,hi,st⟩:=hI
  obtain ⟨on2,gd2,n2,x2⟩:=fmtD_ok on gd (n:=n) (l0:=l0) (by omega) i hi
  have tb:Y2.tb 0=Y.tb 0:=by rw [st.tb]
  have hG2:Glob w2:=gl.ext (h.step st gd2).ex
  have her:∀(w1:World) (K:K1),Ext w2 w1→callS Tryz.prog 19 #[.pointer (some ⟨Y.tb 0,0,none⟩)] w1 K=K (.int .i64 0) w1:=fun w1 K e=>by rw [←tb,c_Err (st.dv.ext e) 0 (by omega) K,on2.err]
  by_cases hin:i<n
  ·have e1:(l0:Int)+(i:Int)*32=((l0+32*i:Nat):Int):=by omega
   have cg:=clr_gen on2 gd2 (l:=l0+32*i) (g:=1) (by omega) (by omega)
   have hcl:=clrI_len (l0+32*i) 1
   have hxr:=run_exe 0 (clrI (l0+32*i) 1) (fmtD D l0 i)
   have hrun:∀(v:Value) (w3:World) (K1:K1),SlO w3 176 3 v (clrI (l0+32*i) 1).length (inL (clrI (l0+32*i) 1))→Ext w2 w3→NewV w2.heap.size v→(∀w4 Y4,Stp w2 Y2 w4 Y4 (fmtD D l0 (i+1))→K1 (.int .i64 0) w4)→callS Tryz.prog 62 #[v,.iface 25 (.pointer (some ⟨Y.tb 0,0,none⟩))] w3 K1:=by
    intro v w3 K1 hs e nv hk
    rw [←tb]
    refine k_Run (st.dv.ext e) gd2 0 (by omega) _ v hs (fun b hb hf=>by have h1:=st.dv.lt hf;have h2:=nv b hb;omega) cg.2.2.2.1 (by omega) _ (fun w4 Y4 st4=> ?_)
    have he:((fmtD D l0 i).run 0 (clrI (l0+32*i) 1)).err 0=0:=cg.1.err
    rw [he]
    exact hk w4 Y4 (Stp.pre e (fun b hb=>st.dv.lt hb) st4)
   unfold f39_l1_t
   simp (disch:=first|omega|simp only [RO]|(simp only [RZ]<;>omega)|fail) only [↓RBp,↓RA,↓reduceIte,Nat.reduceAdd,Nat.reduceMul,Nat.reduceEqDiff,RB,RX,RA2,e1]
   refine k_Clear hG2 (l0+32*i) 1 (by omega) (by omega) (by omega) _ (fun v w3 hs e3 nv=> ?_)
   simp (disch:=first|omega|simp only [RO]|(simp only [RZ]<;>omega)|fail) only [↓RBp,↓RA,↓reduceIte,Nat.reduceAdd,Nat.reduceMul,Nat.reduceEqDiff,RB,RX,RA2]
   refine hrun v _ _ (hs.ext (by repeat (first|(with_reducible first|refine eB ?_ (by first|omega|(simp only [RZ]<;>omega)) _|assumption|exact eR _|refine eA ?_ _|refine eD ?_|refine eT ?_ (by assumption))|exact eR _))) (e3.trans (by repeat (first|(with_reducible first|refine eB ?_ (by first|omega|(simp only [RZ]<;>omega)) _|assumption|exact eR _|refine eA ?_ _|refine eD ?_|refine eT ?_ (by assumption))|exact eR _))) nv (fun w4 Y4 st4=> ?_)
   simp (disch:=first|omega|simp only [RO]|(simp only [RZ]<;>omega)|fail) only [↓RBp,↓RA,↓reduceIte,Nat.reduceAdd,Nat.reduceMul,Nat.reduceEqDiff,RB,RX,RA2]
   apply hE
   ·exact ⟨i+1,Y4,by simp,by omega,st.trans st4⟩
   ·simp [Go.RowKit.intOf];omega
  ·have:i=n:=by omega
   subst this
   unfold f39_l1_t
   simp (disch:=first|omega|simp only [RO]|(simp only [RZ]<;>omega)|(with_reducible (repeat (first|assumption|exact Ext.refl _|refine Ext.alloc ?_ _|refine Ext.drew ?_|refine Ext.trans ?_ (by assumption))))|fail) only [↓RBp,↓RA,↓reduceIte,Nat.reduceAdd,Nat.reduceMul,Nat.reduceEqDiff,RB,RX,RA2,her,f39_k1_eq,f39_k1_t]
   exact hK _ Y2 st
end
end Go.Proofs.YtifpinhjpbgnoaaGreatDoor
namespace Go.Proofs.YtifpinhjpbgnoaaGreatDoor
open Go Go.Sh
set_option maxRecDepth 100000
set_option maxHeartbeats 4000000
set_option linter.unusedSimpArgs false
set_option linter.unusedVariables false
def opF (D:DS) (l0:Nat) (k:Nat):Int×Int×Bool:=(hC (wd D (l0+32*k) 0),hO (wd D (l0+32*k) 0),false)
theorem elPl:ElT Tryz.prog 106 106 112 4 32 (.agg #[.int .i64 0,.int .i64 0,.int .i64 0,.bool false]):=el_106_106
theorem fill_agg4 {place:Nat→Option (Nat×Nat)} {cells:Array Value} {i off:Nat} {a b c d:Value} {rest:List (Nat×Value)} (hp:place i=some (off,4)) (ho:off+4≤cells.size):Instr.fill place cells ((i,.agg #[a,b,c,d])::rest)=Instr.fill place ((((cells.setIfInBounds off a).setIfInBounds (off+1) b).setIfInBounds (off+2) c).setIfInBounds (off+3) d) rest:=by
 rw [Instr.fill,hp]
 simp only [cells_agg,List.size_toArray,List.length_cons,List.length_nil]
 rw [if_neg (by simp;omega)]
 congr 1
theorem bsPl (a b c d:Value) (w:World):(Instr.buildSlice 106 1 #[(0,.agg #[a,b,c,d])]).run Tryz.prog w= .ok (.slice (some ⟨w.heap.size,0,none⟩) 1 1) (w.alloc (.cells #[a,b,c,d] 112)):=
 Go.Sh.run_buildSliceS (z:=(.agg #[.int .i64 0,.int .i64 0,.int .i64 0,.bool false])) (show Tryz.prog.underlying 106=some (.slice 112) from by kernel_rfl) (show szT Tryz.prog 112=some 4 from by kernel_rfl) (by kernel_rfl) (by decide) (by decide) (by show Instr.fill _ #[.int .i64 0,.int .i64 0,.int .i64 0,.bool false] [(0,.agg #[a,b,c,d])]=_;rw [fill_agg4 (off:=0) rfl (by simp)];rfl) w
theorem evPl (a b c d:Value) (w:World) (k:K1):ev Tryz.prog (Instr.buildSlice 106 1 #[(0,.agg #[a,b,c,d])]) w k=k (.slice (some ⟨w.heap.size,0,none⟩) 1 1) (w.alloc (.cells #[a,b,c,d] 112)):=ev_of_run (bsPl a b c d w) k
def stF (T:Nat) (v:Value) (i:Nat):Value:= [Value.iface 25 (.pointer (some ⟨T,0,none⟩)),v].getD i undef
section
variable {w0 w w':World} {Y Y':Lay} {D D':DS} {S b o cp l0 n:Nat} {f f':Nat→Int×Int×Bool}
theorem k_AOpen (h:Lv w0 w Y D) (gl:Glob w0) (ho:D.off=false) (he:D.err 0=0) {q:Nat} (hq:32≤q) (hl:l0+q≤D.n) (hqn:q/32=n) (K:K1)
  (hb:(¬∀k,k<n→hdOk (wd D (l0+32*k) 0)=true)→∀w',Ext w w'→K (.tuple #[.pointer none,.int .i64 11]) w')
  (hK:(∀k,k<n→hdOk (wd D (l0+32*k) 0)=true)→∀S b o cp w',Ext w w'→w.heap.size≤S→w.heap.size≤b→ArS w0 w' Y D S b o cp l0 n (opF D l0)→K (.tuple #[stV S,.int .i64 0]) w'):
  callS Tryz.prog 14 #[thV Y,.int .i64 (l0:Int),.int .i64 (q:Int)] w K:=by
 have hn:=h.gd.n
 have hvl:vldB D.n (l0:Int) (q:Int)=true:=by simp [vldB];omega
 have her:∀(w1:World) (K:K1),Ext w w1→callS Tryz.prog 19 #[.pointer (some ⟨Y.tb 0,0,none⟩)] w1 K=K (.int .i64 0) w1:=fun w1 K e=>by rw [c_Err (h.dv.ext e) 0 (by omega) K,he]
 refine f14_call _ _ _ _ _ ?_
 unfold f14_t
 simp (disch:=first|omega|simp only [RO]|(simp only [RZ]<;>omega)|fail) only [↓RBp,↓RA,↓reduceIte,Nat.reduceAdd,Nat.reduceMul,Nat.reduceEqDiff,RB,RX,RA2]
 refine k_avalid h.dv h.gd _ _ (by omega) (by omega) (by omega) (by omega) _ (fun w1 e1=> ?_)
 rw [hvl]
 unfold thV
 simp (disch:=first|omega|simp only [RO]|(simp only [RZ]<;>omega)|(with_reducible (repeat (first|assumption|exact Ext.refl _|refine Ext.alloc ?_ _|refine Ext.drew ?_|refine Ext.trans ?_ (by assumption))))|fail) only [↓RBp,↓RA,↓reduceIte,Nat.reduceAdd,Nat.reduceMul,Nat.reduceEqDiff,RB,RX,RA2,her,hqn]
 have hS0:=Cells.new w1 [Value.iface 25 (.pointer (some ⟨Y.tb 0,0,none⟩)),.slice none 0 0] 108
 apply f14_l1_rule (I:=fun z w'=>∃(i:Nat) (v:Value),z= .int .i64 (i:Int)∧i≤n∧Frm Nob w1 w'∧NewV w1.heap.size v∧(∀b,v.ownBlock=some b→b≠w1.heap.size)∧Cells w' w1.heap.size 108 2 (stF (Y.tb 0) v)∧SlO w' 112 4 v i (plL (opF D l0) l0 i)∧∀k,k<i→hdOk (wd D (l0+32*k) 0)=true) (μ:=fun z _=>n-(Go.RowKit.intOf z).toNat)
 ·exact ⟨0,.slice none 0 0,rfl,by omega,(by repeat (first|exact Frm.refl _ _|with_reducible refine Frm.set ?_ _ (fun _=>rfl)|with_reducible refine Frm.alloc ?_ _|with_reducible refine Frm.drew ?_)),fun b hb=>(by cases hb),fun b hb=>(by cases hb),hS0,SlO.nil _ _ _,fun k hk=>absurd hk (Nat.not_lt_zero _)⟩
 ·intros;rename_i w2 hI E1 hE
  obtain ⟨i,v,rfl,hi,f2,nv,vS,hS,hs,hall⟩:=hI
  have e2:Ext w1 w2:=f2.to_ext (fun _ _ h=>h)
  have h2:=h.ext (e1.trans e2)
  by_cases hin:i<n
  ·have e32:(l0:Int)+(i:Int)*32=((l0+32*i:Nat):Int):=by omega
   have hG2:Glob w2:=gl.ext h2.ex
   cases hok:hdOk (wd D (l0+32*i) 0) with
   |false=>
    unfold f14_l1_t
    simp (disch:=first|omega|simp only [RO]|(simp only [RZ]<;>omega)|fail) only [↓RBp,↓RA,↓reduceIte,Nat.reduceAdd,Nat.reduceMul,Nat.reduceEqDiff,RB,RX,RA2,e32]
    refine k_LookForm (h2.dv.ext (by repeat (first|(with_reducible first|refine eB ?_ (by first|omega|(simp only [RZ]<;>omega)) _|assumption|exact eR _|refine eA ?_ _|refine eD ?_|refine eT ?_ (by assumption))|exact eR _))) h.gd (hG2.ext (by repeat (first|(with_reducible first|refine eB ?_ (by first|omega|(simp only [RZ]<;>omega)) _|assumption|exact eR _|refine eA ?_ _|refine eD ?_|refine eT ?_ (by assumption))|exact eR _))) ho he (l0+32*i) (by omega) hok _ (fun w3 e3=> ?_)
    simp (disch:=first|omega|simp only [RO]|(simp only [RZ]<;>omega)|fail) only [↓RBp,↓RA,↓reduceIte,Nat.reduceAdd,Nat.reduceMul,Nat.reduceEqDiff,RB,RX,RA2]
    exact hb (fun hh=>by rw [hh i hin] at hok;cases hok) _ (e1.trans (e2.trans (by repeat (first|(with_reducible first|refine eB ?_ (by first|omega|(simp only [RZ]<;>omega)) _|assumption|exact eR _|refine eA ?_ _|refine eD ?_|refine eT ?_ (by assumption))|exact eR _))))
   |true=>
    obtain ⟨pa,pc,rfl,hpc⟩:=hs.isS'
    have hpl:plL (opF D l0) l0 (i+1)=plL (opF D l0) l0 i++ [.int .i64 ((l0+32*i:Nat):Int),.int .i64 (hC (wd D (l0+32*i) 0)),.int .i64 (hO (wd D (l0+32*i) 0)),.bool false]:=rfl
    unfold f14_l1_t
    simp (disch:=first|omega|simp only [RO]|(simp only [RZ]<;>omega)|fail) only [↓RBp,↓RA,↓reduceIte,Nat.reduceAdd,Nat.reduceMul,Nat.reduceEqDiff,RB,RX,RA2,e32]
    refine k_Look (h2.dv.ext (by repeat (first|(with_reducible first|refine eB ?_ (by first|omega|(simp only [RZ]<;>omega)) _|assumption|exact eR _|refine eA ?_ _|refine eD ?_|refine eT ?_ (by assumption))|exact eR _))) h.gd (hG2.ext (by repeat (first|(with_reducible first|refine eB ?_ (by first|omega|(simp only [RZ]<;>omega)) _|assumption|exact eR _|refine eA ?_ _|refine eD ?_|refine eT ?_ (by assumption))|exact eR _))) ho he (l0+32*i) (by omega) hok _ (fun w3 e3=> ?_)
    have e23:Ext w2 w3:=Ext.trans (by repeat (first|(with_reducible first|refine eB ?_ (by first|omega|(simp only [RZ]<;>omega)) _|assumption|exact eR _|refine eA ?_ _|refine eD ?_|refine eT ?_ (by assumption))|exact eR _)) e3
    have hS3:=hS.ext e23
    have s1:w3.cell? ⟨w1.heap.size,1,none⟩=some (.slice pa i pc):=hS3.cell (i:=1) (by omega)
    have ltS:=hS3.lt
    generalize hC (wd D (l0+32*i) 0)=cc at*
    generalize hO (wd D (l0+32*i) 0)=oo at*
    generalize gX (wd D (l0+32*i) 0)=gg at*
    (repeat' (first|(with_reducible refine brS_mk (fun _=> ?_) (fun _=> ?_))|(with_reducible refine And.intro ?_ ?_)|(simp (disch:=first|omega|simp only [RO]|(simp only [RZ]<;>omega)|fail) only [↓RBp,↓RA,↓reduceIte,Nat.reduceAdd,Nat.reduceMul,Nat.reduceEqDiff,RB,RX,RA2,s1,e32,evPl])))
    refine app_new elPl (w0:=w1) (hs.ext (e23.trans (by repeat (first|(with_reducible first|refine eB ?_ (by first|omega|(simp only [RZ]<;>omega)) _|assumption|exact eR _|refine eA ?_ _|refine eD ?_|refine eT ?_ (by assumption))|exact eR _)))) (f2.ext (e23.trans (by repeat (first|(with_reducible first|refine eB ?_ (by first|omega|(simp only [RZ]<;>omega)) _|assumption|exact eR _|refine eA ?_ _|refine eD ?_|refine eT ?_ (by assumption))|exact eR _)))) nv (m:=1) (news:= [.int .i64 ((l0+32*i:Nat):Int),.int .i64 cc,.int .i64 oo,.bool false]) rfl ?_ rfl (by omega) (by omega) (by omega) (fun v' w5 hsp hf5 n5 hfr5 hb5=> ?_)
    ·intro q u hq
     rw [Nat.zero_add,cell_drew,cell_new _ _ _ _ _ (by simp only [RZ])]
     simpa using hq
    have hS5:Cells w5 w1.heap.size 108 2 (stF (Y.tb 0) (.slice pa i pc)):=(hS3.ext (by repeat (first|(with_reducible first|refine eB ?_ (by first|omega|(simp only [RZ]<;>omega)) _|assumption|exact eR _|refine eA ?_ _|refine eD ?_|refine eT ?_ (by assumption))|exact eR _))).frm hfr5 (fun hb=>vS _ hb rfl)
    have lt5:=hS5.lt
    have fz5:=hS5.frz
    have t1:w5.cell? ⟨w1.heap.size,1,none⟩=some (.slice pa i pc):=hS5.cell (i:=1) (by omega)
    have vS':∀b,v'.ownBlock=some b→b≠w1.heap.size:=fun b hb e=>by
     rcases hb5 b hb with h5|h5
     ·exact vS b h5 e
     ·simp only [RZ] at h5;omega
    have iv:=isOne_sl hsp
    simp (disch:=first|omega|simp only [RO]|(simp only [RZ]<;>omega)|fail) only [↓RBp,↓RA,↓reduceIte,Nat.reduceAdd,Nat.reduceMul,Nat.reduceEqDiff,RB,RX,RA2,fz5,t1,iv]
    apply hE
    ·refine ⟨i+1,v',by simp,by omega,hf5.set _ (fun hb=>by simp only at hb;omega),n5,vS',?_,?_,fun k hk=> ?_⟩
     ·exact (hS5.set (i:=1) v' (by omega)).congr (fun j hj=>by
       rcases j with _|_|j
       ·rfl
       ·rfl
       ·omega)
     ·rw [hpl]
      exact hsp.of_heap (fun b hb=>heap_set_ne _ (vS' b hb))
     ·by_cases hk2:k<i
      ·exact hall k hk2
      ·have:k=i:=by omega
       subst this;exact hok
    ·simp [Go.RowKit.intOf];omega
  ·have:i=n:=by omega
   subst this
   have hi0:0<i:=by omega
   obtain ⟨b,ob,cap,rfl,_⟩:=hs.isS hi0
   have hb1:=nv b rfl
   have hes:=e1.size
   unfold f14_l1_t
   simp (disch:=first|omega|simp only [RO]|(simp only [RZ]<;>omega)|fail) only [↓RBp,↓RA,↓reduceIte,Nat.reduceAdd,Nat.reduceMul,Nat.reduceEqDiff,RB,RX,RA2,f14_k1_eq,f14_k1_t]
   have hw0:=h.ex.size
   refine hK hall _ _ _ _ _ (e1.trans e2) hes (by omega) ⟨h2,gl,hS,hs,⟨by omega,fun hf=> ?_,fun hh=>vS b rfl hh.symm⟩,⟨by omega,fun hf=> ?_⟩,hi0,by omega⟩
   ·have:=h.dv.lt hf;omega
   ·have:=h.dv.lt hf;omega
end
end Go.Proofs.YtifpinhjpbgnoaaGreatDoor
namespace Go.Proofs.YtifpinhjpbgnoaaGreatDoor
set_option linter.unusedVariables false
def wB (W:Nat→Nat) (i:Nat):Nat:=W (i/8)/2^(8*(i%8))%256
end Go.Proofs.YtifpinhjpbgnoaaGreatDoor
namespace Go.Proofs.YtifpinhjpbgnoaaGreatDoor
open Go Go.Sh
set_option maxRecDepth 100000
set_option maxHeartbeats 4000000
set_option linter.unusedSimpArgs false
set_option linter.unusedVariables false
section
variable {w w':World} {Y:Lay} {D D':DS}
def ImgW (D:DS) (F:Nat→Nat):Prop:=∀j,j<8*D.n→F j=D.pers j∨∃x∈D.hist (j/8),x.1/8=j∧F j=x.2
theorem ImgW.lt {F:Nat→Nat} (h:ImgW D F) (g:Good D) (j:Nat) (hj:j<8*D.n):F j<18446744073709551616:=by
 rcases h j hj with h1|⟨x,hx,_,h2⟩
 ·rw [h1];exact g.pers j hj
 ·rw [h2];exact (g.hist (j/8) (by omega) x.1 x.2 hx).2.2
end
end Go.Proofs.YtifpinhjpbgnoaaGreatDoor
namespace Go.Proofs.YtifpinhjpbgnoaaGreatDoor
open Go Go.Sh
set_option linter.unusedSimpArgs false
set_option linter.unusedVariables false
structure Co where
 cur:Nat→Nat
 pers:Nat→Nat
 done:Nat→Nat
 hist:Nat→List (Nat×Nat)
 notes:Int→Option Nat
def DS.co (D:DS):Co:=⟨D.cur,D.pers,D.done,D.hist,D.notes 0⟩
def Co.st (C:Co) (off v:Nat):Co:={C with hist:=fun j=>if j=off/64 then C.hist (off/64)++ [(off,v)] else C.hist j,cur:=fun j=>if j=off/8 then v else C.cur j}
def Co.fl (C:Co) (off:Nat):Co:={C with notes:=fun i=>if i=((off/64:Nat):Int) then some (C.done (off/64)+(C.hist (off/64)).length) else C.notes i}
def Co.due (C:Co) (l:Nat):Nat:=match C.notes (l:Int) with
 |some p=>p-C.done l
 |none=>0
def Co.fe (C:Co):Co:=⟨C.cur,fun x=>applyH ((C.hist (x/8)).take (C.due (x/8))) C.pers x,fun l=>C.done l+C.due l,fun l=>(C.hist l).drop (C.due l),fun _=>none⟩
def Co.ex (C:Co) (i:Ins):Co:=if i.op=1 then C.st i.off i.val else if i.op=2 then C.fl i.off else C.fe
def Co.run (C:Co) (p:List Ins):Co:=p.foldl Co.ex C
def vIns (n:Nat) (i:Ins):Prop:=(i.op=1→i.off%8=0∧i.off<n*64)∧(i.op=2→i.off<n*64)
theorem fail_co (D:DS) (e:Int):(D.fail 0 e).co=D.co∧(D.fail 0 e).off=D.off∧(D.fail 0 e).n=D.n:=by
 unfold DS.fail
 split<;>exact ⟨rfl,rfl,rfl⟩
theorem exec_co (D:DS) (i:Ins) (hv:vIns D.n i):((D.exec 0 i).co=D.co.ex i∧(D.exec 0 i).off=D.off∧D.off=false)∨((D.exec 0 i).co=D.co∧(D.exec 0 i).off=true):=by
 have stp:∀(b:Bool),b=true→(D.runs b=true∧(D.counted 0 b).co=D.co∧(D.counted 0 b).off=D.off∧D.off=false)∨(D.runs b=false∧(D.counted 0 b).co=D.co∧(D.counted 0 b).off=true):=by
  intro b hb
  subst hb
  unfold DS.runs DS.counted
  by_cases ho:D.off=true
  ·right
   have:=fail_co D 3
   rw [if_pos ho]
   exact ⟨by simp [ho],this.1,by rw [this.2.1];exact ho⟩
  ·have ho':D.off=false:=by simpa using ho
   rw [if_neg ho,if_neg (by simp)]
   by_cases ha:D.armed=true
   ·rw [if_pos ha]
    by_cases hl:D.left=0
    ·right
     rw [if_pos hl]
     have:=fail_co ({D with off:=true}:DS) 3
     exact ⟨by simp [ha,hl],this.1,this.2.1⟩
    ·left
     rw [if_neg hl]
     exact ⟨by simp [ho',ha,hl],rfl,rfl,ho'⟩
   ·left
    rw [if_neg ha]
    have ha':D.armed=false:=by simpa using ha
    exact ⟨by simp [ho',ha'],rfl,rfl,ho'⟩
 unfold DS.exec Co.ex
 by_cases h1:i.op=1
 ·rw [if_pos h1,if_pos h1]
  have hb:=hv.1 h1
  have hvb:vOff D i.off=true:=by unfold vOff;rw [decide_eq_true hb.1,decide_eq_true hb.2];rfl
  unfold DS.store
  rcases stp (vOff D i.off) hvb with ⟨r,a,b,c⟩|⟨r,a,b⟩
  ·left
   rw [if_pos r]
   refine ⟨?_,b,c⟩
   have e:((D.counted 0 (vOff D i.off)).write i.off i.val).co=(D.counted 0 (vOff D i.off)).co.st i.off i.val:=rfl
   rw [e,a]
  ·right
   rw [if_neg (by simp [r])]
   exact ⟨a,b⟩
 ·rw [if_neg h1,if_neg h1]
  by_cases h2:i.op=2
  ·rw [if_pos h2,if_pos h2]
   have hb:=hv.2 h2
   have hvb:fOff D i.off=true:=by unfold fOff;rw [decide_eq_true hb]
   unfold DS.flush
   rcases stp (fOff D i.off) hvb with ⟨r,a,b,c⟩|⟨r,a,b⟩
   ·left
    rw [if_pos r]
    refine ⟨?_,b,c⟩
    have hd:D.done=D.co.done:=rfl
    have hh:D.hist=D.co.hist:=rfl
    have e:((D.counted 0 (fOff D i.off)).note 0 ((i.off/64:Nat):Int) (D.done (i.off/64)+(D.hist (i.off/64)).length)).co={(D.counted 0 (fOff D i.off)).co with notes:=fun k=>if k=((i.off/64:Nat):Int) then some (D.done (i.off/64)+(D.hist (i.off/64)).length) else (D.counted 0 (fOff D i.off)).co.notes k}:=by
     unfold DS.note DS.co;simp
    rw [e,a];rfl
   ·right
    rw [if_neg (by simp [r])]
    exact ⟨a,b⟩
  ·rw [if_neg h2,if_neg h2]
   unfold DS.fence
   rcases stp true rfl with ⟨r,a,b,c⟩|⟨r,a,b⟩
   ·left
    rw [if_pos r]
    refine ⟨?_,b,c⟩
    have hdu:D.due 0=D.co.due:=by funext l;rfl
    have e:(((D.counted 0 true).parts (D.due 0)).clr 0).co=⟨(D.counted 0 true).co.cur,fun x=>applyH (((D.counted 0 true).co.hist (x/8)).take (D.due 0 (x/8))) (D.counted 0 true).co.pers x,fun l=>(D.counted 0 true).co.done l+D.due 0 l,fun l=>((D.counted 0 true).co.hist l).drop (D.due 0 l),fun _=>none⟩:=by
     unfold DS.clr DS.parts DS.co;simp
    rw [e,a,hdu];rfl
   ·right
    rw [if_neg (by simp [r])]
    exact ⟨a,b⟩
theorem run_off (p:List Ins):∀(D:DS),D.off=true→(∀i∈p,vIns D.n i)→(D.run 0 p).co=D.co∧(D.run 0 p).off=true:=by
 induction p with
 |nil=>intro D h _;exact ⟨rfl,h⟩
 |cons i p ih=>
  intro D h hv
  rw [run_cons]
  rcases exec_co D i (hv i (by simp)) with ⟨_,_,c⟩|⟨a,b⟩
  ·rw [h] at c;cases c
  ·have:=ih (D.exec 0 i) b (fun j hj=>by rw [exec_n];exact hv j (by simp [hj]))
   exact ⟨this.1.trans a,this.2⟩
theorem run_co (p:List Ins):∀(D:DS),D.off=false→(∀i∈p,vIns D.n i)→∃m,m≤p.length∧(D.run 0 p).co=D.co.run (p.take m)∧(m<p.length→(D.run 0 p).off=true):=by
 induction p with
 |nil=>intro D h _;exact ⟨0,by simp,rfl,fun h=>by simp at h⟩
 |cons i p ih=>
  intro D h hv
  rw [run_cons]
  have hv2:∀j∈p,vIns (D.exec 0 i).n j:=fun j hj=>by rw [exec_n];exact hv j (by simp [hj])
  rcases exec_co D i (hv i (by simp)) with ⟨a,b,_⟩|⟨a,b⟩
  ·obtain ⟨m,hm,h1,h2⟩:=ih (D.exec 0 i) (by rw [b];exact h) hv2
   refine ⟨m+1,by simp;omega,?_,fun hl=>h2 (by simp at hl;omega)⟩
   rw [h1,a];rfl
  ·have:=run_off p (D.exec 0 i) b hv2
   exact ⟨0,by simp,this.1.trans a,fun _=>this.2⟩
theorem corun_append (C:Co) (p q:List Ins):C.run (p++q)=(C.run p).run q:=by simp [Co.run,List.foldl_append]
theorem corun_cons (C:Co) (i:Ins) (p:List Ins):C.run (i::p)=(C.ex i).run p:=rfl
structure Cln (C:Co):Prop where
 hist:∀l,C.hist l= []
 notes:C.notes=fun _=>none
 pers:∀x,C.pers x=C.cur x
def J1 (C:Co):Prop:=∀x,C.cur x=applyH (C.hist (x/8)) C.pers x
theorem Cln.j1 {C:Co} (h:Cln C):J1 C:=fun x=>by rw [h.hist];exact (h.pers x).symm
theorem applyH_app (a b:List (Nat×Nat)) (f:Nat→Nat):applyH (a++b) f=applyH b (applyH a f):=by unfold applyH;rw [List.foldl_append]
theorem J1.st {C:Co} (h:J1 C) (off v:Nat):J1 (C.st off v):=by
 intro x
 unfold Co.st
 simp only
 by_cases e:x/8=off/64
 ·rw [if_pos e,applyH_app]
  show _=if x=off/8 then v else applyH (C.hist (off/64)) C.pers x
  by_cases e2:x=off/8
  ·rw [if_pos e2,if_pos e2]
  ·rw [if_neg e2,if_neg e2,h x,e]
 ·rw [if_neg e,if_neg (by omega)]
  exact h x
theorem J1.fe {C:Co} (h:J1 C) (hd:∀l,(C.hist l).length≤C.due l):Cln C.fe∧C.fe.cur=C.cur:=by
 refine ⟨⟨fun l=>List.drop_eq_nil_of_le (hd l),rfl,fun x=> ?_⟩,rfl⟩
 show applyH ((C.hist (x/8)).take (C.due (x/8))) C.pers x=C.cur x
 rw [List.take_of_length_le (hd _)]
 exact (h x).symm
def QA (C:Co) (a X:Nat):Prop:=C.pers a=X∧∀l,∀x∈C.hist l,x.1/8≠a
theorem QA.ex {C:Co} {a X:Nat} (h:QA C a X) (i:Ins) (hi:i.op=1→i.off/8≠a):QA (C.ex i) a X:=by
 unfold Co.ex
 split
 ·rename_i h1
  refine ⟨h.1,fun l x hx=> ?_⟩
  unfold Co.st at hx
  simp only at hx
  split at hx
  ·rcases List.mem_append.1 hx with hx|hx
   ·exact h.2 _ x hx
   ·simp only [List.mem_singleton] at hx;subst hx;exact hi h1
  ·exact h.2 l x hx
 ·split
  ·exact h
  ·refine ⟨?_,fun l x hx=>h.2 l x (List.mem_of_mem_drop hx)⟩
   show applyH _ C.pers a=X
   rw [applyH_other _ _ _ (fun y hy=>h.2 _ y (List.mem_of_mem_take hy))];exact h.1
theorem QA.run {a X:Nat} (p:List Ins):∀{C:Co},QA C a X→(∀i∈p,i.op=1→i.off/8≠a)→QA (C.run p) a X:=by
 induction p with
 |nil=>intro C h _;exact h
 |cons i p ih=>
  intro C h hi
  rw [corun_cons]
  exact ih (h.ex i (hi i (by simp))) (fun j hj=>hi j (by simp [hj]))
def RQ (C:Co) (a X H:Nat) (G:Nat→Nat):Prop:=(∀j,j≠a→C.pers j=G j)∧(C.pers a=X∨C.pers a=H)∧∀l,∀x∈C.hist l,x.1/8=a∧x.2=H
theorem app_one {a H:Nat}:∀(ws:List (Nat×Nat)),(∀x∈ws,x.1/8=a∧x.2=H)→∀(f:Nat→Nat),applyH ws f a=f a∨applyH ws f a=H:=by
 intro ws
 induction ws with
 |nil=>intro _ f;exact .inl rfl
 |cons x ws ih=>
  intro h f
  rw [applyH_cons]
  have hx:=h x (by simp)
  rcases ih (fun y hy=>h y (by simp [hy])) (fun j=>if j=x.1/8 then x.2 else f j) with h1|h1
  ·rw [h1]
   rw [if_pos hx.1.symm]
   exact .inr hx.2
  ·exact .inr h1
theorem RQ.ex {C:Co} {a X H:Nat} {G:Nat→Nat} (h:RQ C a X H G) (i:Ins) (hi:i.op=1→i.off/8=a∧i.val=H):RQ (C.ex i) a X H G:=by
 unfold Co.ex
 split
 ·rename_i h1
  refine ⟨h.1,h.2.1,fun l x hx=> ?_⟩
  unfold Co.st at hx
  simp only at hx
  split at hx
  ·rcases List.mem_append.1 hx with hx|hx
   ·exact h.2.2 _ x hx
   ·simp only [List.mem_singleton] at hx;subst hx;exact hi h1
  ·exact h.2.2 l x hx
 ·split
  ·exact h
  ·refine ⟨fun j hj=> ?_,?_,fun l x hx=>h.2.2 l x (List.mem_of_mem_drop hx)⟩
   ·show applyH _ C.pers j=G j
    rw [applyH_other _ _ _ (fun y hy e=>hj (by rw [←e];exact (h.2.2 _ y (List.mem_of_mem_take hy)).1))];exact h.1 j hj
   ·show applyH _ C.pers a=X∨applyH _ C.pers a=H
    rcases app_one ((C.hist (a/8)).take (C.due (a/8))) (fun x hx=>h.2.2 _ x (List.mem_of_mem_take hx)) C.pers with h1|h1
    ·rw [h1];exact h.2.1
    ·exact .inr h1
theorem RQ.run {a X H:Nat} {G:Nat→Nat} (p:List Ins):∀{C:Co},RQ C a X H G→(∀i∈p,i.op=1→i.off/8=a∧i.val=H)→RQ (C.run p) a X H G:=by
 induction p with
 |nil=>intro C h _;exact h
 |cons i p ih=>
  intro C h hi
  rw [corun_cons]
  exact ih (h.ex i (hi i (by simp))) (fun j hj=>hi j (by simp [hj]))
end Go.Proofs.YtifpinhjpbgnoaaGreatDoor
namespace Go.Proofs.YtifpinhjpbgnoaaGreatDoor
open Go Go.Sh
set_option linter.unusedSimpArgs false
set_option linter.unusedVariables false
section
variable {D:DS} {l g n:Nat} {c o:Int}
theorem planW_at (c0:0≤c) (c5:c<5) (f:Nat→Nat):(∀j,j≠0→j<8→applyH (planW l c g) f (l*8+j)=0)∧∀i:Nat,(i:Int)<perS c→applyH (planW l c g) f (l*8+offN c i)=sealN (blkX g 0 176):=by
 have hp:=perS_in c0 c5
 have hA:∀j,∀y∈planW l c g,y.1/8=l*8+j→(8≤j∧y.2=sealN (blkX g 0 176))∨(j<8∧y.2=0):=by
  intro j y hy hyj
  rcases List.mem_append.1 hy with hy|hy
  ·obtain ⟨i,hi,rfl⟩:=List.mem_map.1 hy
   rw [List.mem_range] at hi
   have hb2:=offS_bd c0 c5 (show 0≤(i:Int) by omega) (by omega)
   left
   simp only at hyj
   exact ⟨by omega,rfl⟩
  ·obtain ⟨i,hi,rfl⟩:=List.mem_map.1 hy
   rw [List.mem_range] at hi
   right
   simp only at hyj
   exact ⟨by omega,rfl⟩
 constructor
 ·intro j h0 h8
  refine applyH_val (fun y hy hyj=> ?_) (.inl ⟨(l*64+(j-1+1)*8,0),List.mem_append_right _ (List.mem_map.2 ⟨j-1,List.mem_range.2 (by omega),rfl⟩),by simp only;omega⟩)
  rcases hA j y hy hyj with h|h
  ·omega
  ·exact h.2
 ·intro i hi
  have bd:=offN_bd c0 c5 hi
  refine applyH_val (fun y hy hyj=> ?_) (.inl ⟨_,List.mem_append_left _ (List.mem_map.2 ⟨i,List.mem_range.2 (by omega),rfl⟩),?_⟩)
  ·rcases hA _ y hy hyj with h|h
   ·exact h.2
   ·omega
  ·simp only;omega
end
end Go.Proofs.YtifpinhjpbgnoaaGreatDoor
namespace Go.Proofs.YtifpinhjpbgnoaaGreatDoor
open Go Go.Sh
set_option linter.unusedSimpArgs false
set_option linter.unusedVariables false
section
variable {D D':DS} {l k g:Nat} {c o:Int}
theorem alF_of:∀{n:Nat},(∀i,i<n→okF D l c i=true)→alF D l c n=true:=by
 intro n
 induction n with
 |zero=>intro _;rfl
 |succ n ih=>intro h;simp only [alF,ih (fun i hi=>h i (by omega)),h n (by omega)];rfl
theorem alF_ok {n:Nat} (h:alF D l c n=true) (i:Nat) (hi:i<n):okF D l c i=true:=by
 cases hh:okF D l c i with
 |true=>rfl
 |false=>rw [alF_no hi hh] at h;cases h
theorem mxG_le:∀(n i:Nat),i<n→bG (wd D l (offN c i))≤mxG D l c n:=by
 intro n
 induction n with
 |zero=>intro i hi;omega
 |succ n ih=>
  intro i hi
  simp only [mxG]
  by_cases e:i=n
  ·subst e;split<;>omega
  ·have:=ih i (by omega)
   split<;>omega
theorem mxG_lt:∀(n:Nat),mxG D l c n<65536:=by
 intro n
 induction n with
 |zero=>simp [mxG]
 |succ n ih=>
  simp only [mxG]
  have:=bG_lt (wd D l (offN c n))
  split<;>omega
theorem okF_parts {i:Nat} (h:okF D l c i=true):bS (wd D l (offN c i))=176∧bG (wd D l (offN c i))≠0:=by
 unfold okF at h
 simp only [Bool.and_eq_true,decide_eq_true_eq,Bool.not_eq_true',decide_eq_false_iff_not] at h
 exact ⟨h.2.2.1,h.2.2.2⟩
theorem mxG_ne {n:Nat} (h:alF D l c n=true) (h0:0<n):mxG D l c n≠0:=by
 have h1:=(okF_parts (alF_ok h 0 h0)).2
 have h2:=mxG_le (D:=D) (l:=l) (c:=c) n 0 h0
 omega
theorem okF_congr {D':DS} (h:∀j,j<256→wd D' l j=wd D l j) (c0:0≤c) (c5:c<5) {i:Nat} (hi:(i:Int)<perS c):okF D' l c i=okF D l c i:=by
 unfold okF
 rw [h _ (offN_bd c0 c5 hi).2.2,h 1 (by omega)]
theorem alF_congr {D':DS} (h:∀j,j<256→wd D' l j=wd D l j) (c0:0≤c) (c5:c<5):∀n:Nat,(n:Int)≤perS c→alF D' l c n=alF D l c n∧mxG D' l c n=mxG D l c n
 |0,_=>⟨rfl,rfl⟩
 |n+1,hn=>by
  obtain ⟨h1,h2⟩:=alF_congr h c0 c5 n (by omega)
  refine ⟨?_,?_⟩
  ·simp only [alF];rw [h1,okF_congr h c0 c5 (by omega)]
  ·simp only [mxG];rw [h2,h _ (offN_bd c0 c5 (by omega)).2.2]
def OE (D:DS):Prop:=D.off=true→D.err 0≠0
theorem fail_ne (D:DS) (e:Int) (he:e≠0):(D.fail 0 e).err 0≠0:=by
 unfold DS.fail
 split
 ·simpa using he
 ·assumption
theorem counted_oe (h:OE D) (b:Bool):OE (D.counted 0 b):=by
 unfold DS.counted
 intro ho
 split
 ·exact fail_ne _ _ (by omega)
 ·rename_i h1
  have h1:D.off=false:=by simpa using h1
  split
  ·exact fail_ne _ _ (by omega)
  ·split
   ·split
    ·exact fail_ne _ _ (by omega)
    ·rename_i h2 h3 h4
     rw [if_neg (by simp [h1]),if_neg h2,if_pos h3,if_neg h4] at ho
     rw [show ({D with left:=D.left-1,exe:=D.exe+1}:DS).off=D.off from rfl,h1] at ho;cases ho
   ·rename_i h2 h3
    rw [if_neg (by simp [h1]),if_neg h2,if_neg h3] at ho
    rw [show ({D with exe:=D.exe+1}:DS).off=D.off from rfl,h1] at ho;cases ho
theorem exec_oe (h:OE D) (i:Ins):OE (D.exec 0 i):=by
 unfold DS.exec
 split
 ·unfold DS.store
  split
  ·exact fun ho=>counted_oe h _ ho
  ·exact counted_oe h _
 ·split
  ·unfold DS.flush
   split
   ·exact fun ho=>counted_oe h _ ho
   ·exact counted_oe h _
  ·unfold DS.fence
   split
   ·exact fun ho=>counted_oe h _ ho
   ·exact counted_oe h _
theorem run_oe:∀(p:List Ins) (D:DS),OE D→OE (D.run 0 p)
 | [],D,h=>h
 |i::p,D,h=>by rw [run_cons];exact run_oe p _ (exec_oe h i)
theorem On.oe (h:On D):OE D:=fun ho=>by rw [h.off] at ho;cases ho
theorem plan_len (l:Nat) (c0:0≤c) (c5:c<5) (o:Int) (g:Nat):(planI l c o g).length≤200:=by
 have hp:=perS_in c0 c5
 have h4:=storesI_le (planW l c g)
 have h5:=storesI_le [(l*64,sealN (hdX c o g))]
 have h6:=planW_len l c g
 have h7:(planI l c o g).length=(storesI (planW l c g)).length+(storesI [(l*64,sealN (hdX c o g))]).length:=by unfold planI;rw [List.length_append]
 simp only [List.length_singleton] at h5
 omega
theorem vIns_stores {n:Nat} {ws:List (Nat×Nat)} (h:∀x∈ws,x.1%8=0∧x.1<n*64):∀i∈storesI ws,vIns n i:=by
 intro i hi
 unfold storesI at hi
 simp only [List.mem_append,List.mem_map,List.mem_singleton] at hi
 rcases hi with (⟨x,hx,rfl⟩|⟨x,hx,rfl⟩)|rfl
 ·exact ⟨fun _=>h x hx,fun h2=>by simp [wrI] at h2⟩
 ·obtain ⟨y,hy,rfl⟩:=storesI_line hx
  have:=h y hy
  refine ⟨fun h1=>by simp [flI] at h1,fun _=> ?_⟩
  show lineS y.1<n*64
  unfold lineS;omega
 ·exact ⟨fun h1=>by simp at h1,fun h2=>by simp at h2⟩
theorem co_run_wr:∀(ws:List (Nat×Nat)) (C:Co),(C.run (ws.map wrI)).cur=applyH ws C.cur
 | [],C=>rfl
 |x::ws,C=>by
  rw [List.map_cons,corun_cons,co_run_wr ws]
  rfl
theorem co_run_fl:∀(ls:List Nat) (C:Co),(C.run (ls.map flI)).cur=C.cur
 | [],C=>rfl
 |x::ls,C=>by
  rw [List.map_cons,corun_cons,co_run_fl ls]
  rfl
theorem co_run_stores (ws:List (Nat×Nat)) (C:Co):(C.run (storesI ws)).cur=applyH ws C.cur:=by
 unfold storesI
 rw [corun_append,corun_append]
 show ((C.run (ws.map wrI)).run _).cur=_
 rw [co_run_fl,co_run_wr]
theorem run_all {p:List Ins} (ho:D.off=false) (he:D.err 0=0) (hv:∀i∈p,vIns D.n i) (h:(D.run 0 p).err 0=0):(D.run 0 p).co=D.co.run p∧(D.run 0 p).off=false:=by
 have oe:OE (D.run 0 p):=run_oe p D (fun h=>by rw [ho] at h;cases h)
 have hoff:(D.run 0 p).off=false:=by
  cases hh:(D.run 0 p).off with
  |false=>rfl
  |true=>exact absurd h (oe hh)
 obtain ⟨m,hm,hc,hi⟩:=run_co p D ho hv
 have:m=p.length:=by
  rcases Nat.lt_or_ge m p.length with h1|h1
  ·rw [hi h1] at hoff;cases hoff
  ·omega
 subst this
 rw [List.take_length] at hc
 exact ⟨hc,hoff⟩
theorem vIns_clr {n:Nat} (hl:l+32≤n) (g:Nat):∀i∈clrI l g,vIns n i:=vIns_stores (fun x hx=>by simp only [List.mem_singleton] at hx;subst hx;simp only;omega)
theorem planW_in {n:Nat} (hl:l+32≤n) (c0:0≤c) (c5:c<5) (g:Nat):∀x∈planW l c g,x.1%8=0∧x.1<n*64∧l*64≤x.1∧x.1<l*64+2048:=by
 have hp:=perS_in c0 c5
 intro x hx
 rcases List.mem_append.1 hx with hx|hx
 ·obtain ⟨j,hj,rfl⟩:=List.mem_map.1 hx
  have hb2:=offS_bd c0 c5 (show 0≤(j:Int) by omega) (by rw [List.mem_range] at hj;omega)
  have hw:=wordsS_in c0 c5
  simp only;omega
 ·obtain ⟨j,hj,rfl⟩:=List.mem_map.1 hx
  rw [List.mem_range] at hj
  simp only;omega
theorem vIns_plan {n:Nat} (hl:l+32≤n) (c0:0≤c) (c5:c<5) (o:Int) (g:Nat):∀i∈planI l c o g,vIns n i:=by
 intro i hi
 unfold planI at hi
 rcases List.mem_append.1 hi with hi|hi
 ·exact vIns_stores (fun x hx=>⟨(planW_in hl c0 c5 g x hx).1,(planW_in hl c0 c5 g x hx).2.1⟩) i hi
 ·exact vIns_stores (fun x hx=>by simp only [List.mem_singleton] at hx;subst hx;simp only;omega) i hi
theorem clr_cur (ho:D.off=false) (he:D.err 0=0) (hl:l+32≤D.n) (h:(D.run 0 (clrI l g)).err 0=0):(D.run 0 (clrI l g)).cur=(fun j=>if j=l*8 then sealN (hdX (-1) (-1) g) else D.cur j)∧(D.run 0 (clrI l g)).off=false:=by
 obtain ⟨h1,h2⟩:=run_all ho he (vIns_clr hl g) h
 refine ⟨?_,h2⟩
 have e:(D.run 0 (clrI l g)).cur=(D.co.run (clrI l g)).cur:=by rw [←h1];rfl
 rw [e]
 unfold clrI
 rw [co_run_stores]
 funext j
 show (if j=l*64/8 then _ else D.cur j)=_
 rw [show l*64/8=l*8 by omega]
def planF (c o:Int) (g:Nat) (W:Nat→Nat) (j:Nat):Nat:=if j=0 then sealN (hdX c o g) else if isB c j=true then sealN (blkX g 0 176) else if j<8 then 0 else W j
theorem isB_mem {j:Nat}:isB c j=true↔∃i,i<(perS c).toNat∧offN c i=j:=by
 unfold isB
 rw [List.any_eq_true]
 constructor
 ·intro ⟨i,h1,h2⟩;exact ⟨i,List.mem_range.1 h1,by simpa using h2⟩
 ·intro ⟨i,h1,h2⟩;exact ⟨i,List.mem_range.2 h1,by simpa using h2⟩
theorem plan_app (c0:0≤c) (c5:c<5) (f:Nat→Nat) (j:Nat):applyH [(l*64,sealN (hdX c o g))] (applyH (planW l c g) f) j=if l*8≤j∧j<l*8+256 then planF c o g (fun i=>f (l*8+i)) (j-l*8) else f j:=by
 have hp:=perS_in c0 c5
 have hw:=planW_at (l:=l) (g:=g) c0 c5 f
 have h1:∀f:Nat→Nat,applyH [(l*64,sealN (hdX c o g))] f j=if j=l*8 then sealN (hdX c o g) else f j:=fun f=>by
  show (if j=l*64/8 then _ else f j)=_
  rw [show l*64/8=l*8 by omega]
 rw [h1]
 by_cases hin:l*8≤j∧j<l*8+256
 ·rw [if_pos hin]
  obtain ⟨i,rfl⟩:∃i,j=l*8+i:=⟨j-l*8,by omega⟩
  rw [show l*8+i-l*8=i by omega]
  unfold planF
  by_cases h0:i=0
  ·subst h0;rw [if_pos (by omega),if_pos rfl]
  ·rw [if_neg (by omega),if_neg h0]
   by_cases hb:isB c i=true
   ·rw [if_pos hb]
    obtain ⟨q,h2,h3⟩:=isB_mem.1 hb
    rw [←h3]
    exact hw.2 q (by omega)
   ·rw [if_neg hb]
    by_cases h8:i<8
    ·rw [if_pos h8];exact hw.1 i h0 h8
    ·rw [if_neg h8]
     refine applyH_other _ _ _ (fun y hy=> ?_)
     rcases List.mem_append.1 hy with hy|hy
     ·obtain ⟨q,hq,rfl⟩:=List.mem_map.1 hy
      rw [List.mem_range] at hq
      have hb2:=offN_bd c0 c5 (show (q:Int)<perS c by omega)
      intro e
      apply hb
      refine isB_mem.2 ⟨q,hq,?_⟩
      unfold offN at hb2 ⊢
      simp only at e
      omega
     ·obtain ⟨q,hq,rfl⟩:=List.mem_map.1 hy
      rw [List.mem_range] at hq
      simp only;omega
 ·rw [if_neg hin,if_neg (by omega)]
  refine applyH_other _ _ _ (fun y hy=> ?_)
  rcases List.mem_append.1 hy with hy|hy
  ·obtain ⟨q,hq,rfl⟩:=List.mem_map.1 hy
   rw [List.mem_range] at hq
   have hb2:=offN_bd c0 c5 (show (q:Int)<perS c by omega)
   unfold offN at hb2
   simp only;omega
  ·obtain ⟨q,hq,rfl⟩:=List.mem_map.1 hy
   rw [List.mem_range] at hq
   simp only;omega
theorem plan_cur (ho:D.off=false) (he:D.err 0=0) (hl:l+32≤D.n) (c0:0≤c) (c5:c<5) (h:(D.run 0 (planI l c o g)).err 0=0):(D.run 0 (planI l c o g)).cur=(fun j=>if l*8≤j∧j<l*8+256 then planF c o g (wd D l) (j-l*8) else D.cur j)∧(D.run 0 (planI l c o g)).off=false:=by
 obtain ⟨h1,h2⟩:=run_all ho he (vIns_plan hl c0 c5 o g) h
 refine ⟨?_,h2⟩
 have e:(D.run 0 (planI l c o g)).cur=(D.co.run (planI l c o g)).cur:=by rw [←h1];rfl
 rw [e]
 unfold planI
 rw [corun_append,co_run_stores,co_run_stores]
 funext j
 have e1:wd D l=fun i=>D.cur (l*8+i):=by funext i;unfold wd;rfl
 rw [e1]
 exact plan_app (l:=l) (o:=o) (g:=g) c0 c5 D.cur j
end
end Go.Proofs.YtifpinhjpbgnoaaGreatDoor
namespace Go.Proofs.YtifpinhjpbgnoaaGreatDoor
open Go Go.Sh
set_option maxRecDepth 100000
set_option maxHeartbeats 4000000
set_option linter.unusedSimpArgs false
set_option linter.unusedVariables false
theorem SlO.updZ {w:World} {t:TypeId} {z b o n cap:Nat} {L:List Value} (h:SlO w t z (.slice (some ⟨b,o,none⟩) n cap) n L) {i:Nat} (u:Value) (hi:i<n*z):SlO (w.setCell ⟨b,o+i,none⟩ u) t z (.slice (some ⟨b,o,none⟩) n cap) n (L.set i u):=by
 obtain ⟨hl,h|⟨b',o',cap',a,hv,hh,hnc,hcm,hsz,hg⟩⟩:=h
 ·cases h.1
 ·injection hv with hv h2 h3
  injection hv with hv
  injection hv with h4 h5 _
  subst h4;subst h5;subst h3
  have hm:=Nat.mul_le_mul_right z hnc
  have hC:Cells w b t a.size (fun j=>(a[j]?).getD undef):=⟨a,hh,Nat.le_refl _,fun j hj=>by simp only [Array.getElem?_eq_getElem hj,Option.getD_some]⟩
  have hC2:=hC.set (i:=o+i) u (by omega)
  obtain ⟨a',hh',hs',hg'⟩:=hC2
  refine ⟨by rw [List.length_set];exact hl,.inr ⟨b,o,cap,a',rfl,hh',hnc,hcm,by omega,fun j x hj=> ?_⟩⟩
  have hjn:j<n*z:=by
   have:=(List.getElem?_eq_some_iff.1 hj).1
   rw [List.length_set] at this;omega
  rw [hg' (o+j) (by omega)]
  simp only
  rw [List.getElem?_set] at hj
  by_cases e:i=j
  ·subst e
   rw [if_pos rfl,if_pos (by omega)] at hj
   rw [if_pos rfl];exact hj
  ·rw [if_neg e] at hj
   rw [if_neg (by omega),hg j x hj,Option.getD_some]
def AgF (D:DS) (l0 n:Nat) (f:Nat→Int×Int×Bool):Prop:=∀k,k<n→hdOk (wd D (l0+32*k) 0)=true∧(f k).1=hC (wd D (l0+32*k) 0)∧(f k).2.1=hO (wd D (l0+32*k) 0)
def emG (D:DS) (l0:Nat) (f:Nat→Int×Int×Bool) (k:Nat):Option Nat:=if (f k).1<0 then none else if (f k).2.2=true then none else if alF D (l0+32*k) (f k).1 (perS (f k).1).toNat=true then some (mxG D (l0+32*k) (f k).1 (perS (f k).1).toNat) else none
theorem hd_cls {x:Nat} (h:hdOk x=true):hC x<5∧(0≤hC x→gX x≠0)∧gX x≠0∧-1≤hC x:=by
 simp only [hdOk,Bool.and_eq_true,Bool.not_eq_true',decide_eq_false_iff_not,Bool.or_eq_true,decide_eq_true_eq] at h
 obtain ⟨⟨⟨h1,h2⟩,h3⟩,h4⟩:=h
 have h5: -1≤hC x:=by unfold hC;omega
 refine ⟨?_,fun _=>h3,h3,h5⟩
 rcases h4 with ⟨a,_⟩|h4
 ·omega
 ·simp only [fmtB,Bool.and_eq_true,decide_eq_true_eq] at h4
  omega
structure AStp (w:World) (Y:Lay) (b:Nat) (w':World) (Y':Lay):Prop where
 tb:Y'.tb=Y.tb
 d:Y'.d=Y.d
 frm:Frm (fun x=>Y.F x∨x=b) w w'
 fr:∀x,Y'.F x→Y.F x∨w.heap.size≤x
section
variable {w0 w w' w'':World} {Y Y' Y'':Lay} {D D':DS} {S b o cp l0 n k:Nat} {f f':Nat→Int×Int×Bool}
theorem AStp.of_ext (Y:Lay) (b:Nat) (e:Ext w w'):AStp w Y b w' Y:=⟨rfl,rfl,Frm.of_ext e,fun x hx=> .inl hx⟩
theorem AStp.of_stp (b:Nat) (s:Stp w Y w' Y' D'):AStp w Y b w' Y':=⟨s.tb,s.d,s.frm.mono (fun x hx=> .inl hx),s.fr⟩
theorem AStp.trans (h:AStp w Y b w' Y') (k:AStp w' Y' b w'' Y''):AStp w Y b w'' Y'' where
 tb:=k.tb.trans h.tb
 d:=k.d.trans h.d
 frm:=h.frm.trans k.frm (fun x hx hf=>by
  rcases hf with hf|hf
  ·rcases h.fr x hf with h1|h1
   ·exact .inl h1
   ·omega
  ·exact .inr hf)
 fr x hx:=by
  rcases k.fr x hx with h1|h1
  ·exact h.fr x h1
  ·exact .inr (Nat.le_trans h.frm.size h1)
theorem AStp.set (h:AStp w Y b w' Y') (i:Nat) (v:Value):AStp w Y b (w'.setCell ⟨b,i,none⟩ v) Y':=⟨h.tb,h.d,h.frm.set _ (fun _=> .inr rfl),h.fr⟩
theorem ArS.emG_ok (h:ArS w0 w Y D S b o cp l0 n f) (ag:AgF D l0 n f) (hk:k<n) {g:Nat} (he:emG D l0 f k=some g):0≤(f k).1∧(f k).1<5∧(f k).2.2=false∧g≠0∧g<65536:=by
 have ha:=ag k hk
 have hc:=hd_cls ha.1
 rw [←ha.2.1] at hc
 unfold emG at he
 by_cases h1:(f k).1<0
 ·rw [if_pos h1] at he;cases he
 ·rw [if_neg h1] at he
  by_cases h2:(f k).2.2=true
  ·rw [if_pos h2] at he;cases he
  ·rw [if_neg h2] at he
   have hp:=perS_in (show 0≤(f k).1 by omega) hc.1
   split at he
   ·rename_i h3
    injection he with he
    subst he
    exact ⟨by omega,hc.1,by simpa using h2,mxG_ne h3 (by omega),mxG_lt _⟩
   ·cases he
theorem ArS.wr (h:ArS w0 w Y D S b o cp l0 n f) {i:Nat} {v:Value} (hi:i<n*4) (hL:(plL f l0 n).set i v=plL f' l0 n):ArS w0 (w.setCell ⟨b,o+i,none⟩ v) Y D S b o cp l0 n f':=by
 have hf:=Frm.one w b (o+i) v
 have h1:=SlO.updZ h.pl v hi
 rw [hL] at h1
 exact ⟨⟨h.L.dv.frm hf (fun x hx hg=>h.nb.2 (hg▸hx)),h.L.gd,Ext.frm h.L.ex hf (fun x hx=>hx▸h.nb.1),h.L.nw⟩,h.gl,h.st.set_ne _ h.nS.2.2,h1,h.nS,h.nb,h.n0,h.lt⟩
theorem cells5C {b t:Nat} {f:Nat→Value} (h:Cells w b t 5 f) (v0 v1 v2 v3 v4:Value):Cells (((((w.setCell ⟨b,0,none⟩ v0).setCell ⟨b,1,none⟩ v1).setCell ⟨b,2,none⟩ v2).setCell ⟨b,3,none⟩ v3).setCell ⟨b,4,none⟩ v4) b t 5 (fun i=> [v0,v1,v2,v3,v4].getD i undef):=by
 have h3:=((((h.set v0 (i:=0) (by omega)).set v1 (i:=1) (by omega)).set v2 (i:=2) (by omega)).set v3 (i:=3) (by omega)).set v4 (i:=4) (by omega)
 refine h3.congr (fun i hi=> ?_)
 rcases i with _|_|_|_|_|i
 ·rfl
 ·rfl
 ·rfl
 ·rfl
 ·rfl
 ·omega
theorem cells3C {b t:Nat} {f:Nat→Value} (h:Cells w b t 3 f) (v0 v1 v2:Value):Cells (((w.setCell ⟨b,0,none⟩ v0).setCell ⟨b,1,none⟩ v1).setCell ⟨b,2,none⟩ v2) b t 3 (fun i=> [v0,v1,v2].getD i undef):=by
 have h3:=((h.set v0 (i:=0) (by omega)).set v1 (i:=1) (by omega)).set v2 (i:=2) (by omega)
 refine h3.congr (fun i hi=> ?_)
 rcases i with _|_|_|i
 ·rfl
 ·rfl
 ·rfl
 ·omega
theorem cl_k1 (h:ArS w0 w Y D S b o cp l0 n f) (hk:k<n) (ho:D.off=false) (he:D.err 0=0) (c0:0≤(f k).1) (c5:(f k).1<5) {N:Nat} {oo:Int} {gg:Nat} (hN:Cells w N 69 5 (chF (Y.tb 0) (l0+32*k) (f k).1 oo gg)) (hh:(f k).2.2=false) (K:K1)
  (h0:emG D l0 f k=none→∀w',Ext w w'→K (.tuple #[.slice none 0 0,.bool false]) w')
  (h1:∀g,emG D l0 f k=some g→g≠0→g<65536→∀v w',Ext w w'→NewV w.heap.size v→SlO w' 176 3 v (clrI (l0+32*k) g).length (inL (clrI (l0+32*k) g))→K (.tuple #[v,.bool true]) w'):
  f78_k1 K (.pointer (some ⟨b,o+k*4,none⟩)) (.pointer (some ⟨N,0,none⟩)) (.int .i64 0) w:=by
 have hle:=h.le
 have hlt:=h.lt
 have hnn:=h.L.gd.n
 have ltb:=h.ltb
 have ltS:=h.ltS
 have hp:=perS_in c0 c5
 have hcx:Cx w Y D (l0+32*k) (f k).1:=⟨h.L.dv,h.L.gd,h.gl.ext h.L.ex,ho,by omega,c0,c5⟩
 have d0:w.cell? ⟨N,0,none⟩=some (.iface 25 (.pointer (some ⟨Y.tb 0,0,none⟩))):=hN.cell (i:=0) (by omega)
 have d1:w.cell? ⟨N,1,none⟩=some (.int .i64 ((l0+32*k:Nat):Int)):=hN.cell (i:=1) (by omega)
 have d2:w.cell? ⟨N,2,none⟩=some (.int .i64 (f k).1):=hN.cell (i:=2) (by omega)
 have d3:w.cell? ⟨N,3,none⟩=some (.int .i64 oo):=hN.cell (i:=3) (by omega)
 have d4:w.cell? ⟨N,4,none⟩=some (.int .u16 (gg:Int)):=hN.cell (i:=4) (by omega)
 have hem:emG D l0 f k=if alF D (l0+32*k) (f k).1 (perS (f k).1).toNat=true then some (mxG D (l0+32*k) (f k).1 (perS (f k).1).toNat) else none:=by
  unfold emG;rw [if_neg (by omega),if_neg (by simp [hh])]
 have hm0:alF D (l0+32*k) (f k).1 (perS (f k).1).toNat=true→mxG D (l0+32*k) (f k).1 (perS (f k).1).toNat≠0:=fun h=>mxG_ne h (by omega)
 have hml:=mxG_lt (D:=D) (l:=l0+32*k) (c:=(f k).1) (perS (f k).1).toNat
 have hNx:=fun (K:K1) hk=>k_Next hcx oo gg K hk
 have hp1:∀w',Ext w w'→w'.cell? ⟨b,o+k*4,none⟩=some (.int .i64 ((l0+32*k:Nat):Int)):=fun w' e=>((h.ext e).p hk).1
 generalize (f k).1=cc at*
 generalize mxG D (l0+32*k) cc (perS cc).toNat=mx at*
 generalize alF D (l0+32*k) cc (perS cc).toNat=al at*
 generalize emG D l0 f k=eg at*
 rw [f78_k1_eq]
 unfold f78_k1_t
 simp (disch:=first|omega|simp only [RO]|(simp only [RZ]<;>omega)|fail) only [↓RBp,↓RA,↓reduceIte,Nat.reduceAdd,Nat.reduceMul,Nat.reduceEqDiff,RB,RX,RA2,d0,d1,d2,d3,d4]
 refine hNx _ (fun w1 e1=> ?_)
 cases al with
 |false=>
  simp (disch:=first|omega|simp only [RO]|(simp only [RZ]<;>omega)|fail) only [↓RBp,↓RA,↓reduceIte,Nat.reduceAdd,Nat.reduceMul,Nat.reduceEqDiff,RB,RX,RA2]
  exact h0 (by rw [hem];rfl) _ e1
 |true=>
  have q0:=hp1 w1 e1
  rw [if_pos rfl]
  simp (disch:=first|omega|simp only [RO]|(simp only [RZ]<;>omega)|fail) only [↓RBp,↓RA,↓reduceIte,Nat.reduceAdd,Nat.reduceMul,Nat.reduceEqDiff,RB,RX,RA2,q0]
  refine k_Clear (hcx.gl.ext e1) (l0+32*k) mx (by omega) (hm0 rfl) hml _ (fun v w2 hs e2 nv=> ?_)
  simp (disch:=first|omega|simp only [RO]|(simp only [RZ]<;>omega)|fail) only [↓RBp,↓RA,↓reduceIte,Nat.reduceAdd,Nat.reduceMul,Nat.reduceEqDiff,RB,RX,RA2]
  exact h1 mx (by rw [hem];rfl) (hm0 rfl) hml v _ (e1.trans e2) (fun x hx=>Nat.le_trans e1.size (nv x hx)) hs
theorem k_clearing (h:ArS w0 w Y D S b o cp l0 n f) (ag:AgF D l0 n f) (hk:k<n) (ho:D.off=false) (he:D.err 0=0) (K:K1)
  (h0:emG D l0 f k=none→∀w',Ext w w'→K (.tuple #[.slice none 0 0,.bool false]) w')
  (h1:∀g,emG D l0 f k=some g→g≠0→g<65536→∀v w',Ext w w'→NewV w.heap.size v→SlO w' 176 3 v (clrI (l0+32*k) g).length (inL (clrI (l0+32*k) g))→K (.tuple #[v,.bool true]) w'):
  callS Tryz.prog 78 #[stV S,.pointer (some ⟨b,o+k*4,none⟩)] w K:=by
 have hle:=h.le
 have hlt:=h.lt
 have hnn:=h.L.gd.n
 have ltb:=h.ltb
 have ltS:=h.ltS
 have ha:=ag k hk
 have hcl:=hd_cls ha.1
 rw [←ha.2.1] at hcl
 have ob32:=h.p hk;have q0:=ob32.1;have q1:=ob32.2.1;have q2:=ob32.2.2.1;have q3:=ob32.2.2.2
 have s0:=h.c0
 have hG:Glob w:=h.gl.ext h.L.ex
 by_cases c0:(f k).1<0
 ·have h0:=h0 (by unfold emG;rw [if_pos c0])
  generalize (f k).1=cc at*
  refine f78_call _ _ _ _ ?_
  unfold f78_t
  simp (disch:=first|omega|simp only [RO]|(simp only [RZ]<;>omega)|fail) only [↓RBp,↓RA,↓reduceIte,Nat.reduceAdd,Nat.reduceMul,Nat.reduceEqDiff,RB,RX,RA2,q1,c0]
  exact h0 _ (by repeat (first|(with_reducible first|refine eB ?_ (by first|omega|(simp only [RZ]<;>omega)) _|assumption|exact eR _|refine eA ?_ _|refine eD ?_|refine eT ?_ (by assumption))|exact eR _))
 ·cases hh:(f k).2.2 with
  |true=>
   have h0:=h0 (by unfold emG;rw [if_neg c0,if_pos hh])
   rw [hh] at q3
   generalize (f k).1=cc at*
   refine f78_call _ _ _ _ ?_
   unfold f78_t
   simp (disch:=first|omega|simp only [RO]|(simp only [RZ]<;>omega)|fail) only [↓RBp,↓RA,↓reduceIte,Nat.reduceAdd,Nat.reduceMul,Nat.reduceEqDiff,RB,RX,RA2,q1,q3,c0]
   exact h0 _ (by repeat (first|(with_reducible first|refine eB ?_ (by first|omega|(simp only [RZ]<;>omega)) _|assumption|exact eR _|refine eA ?_ _|refine eD ?_|refine eT ?_ (by assumption))|exact eR _))
  |false=>
   rw [hh] at q3
   have hop:∀(w1:World) (K:K1),Ext w w1→(∀w2,Ext w1 w2→K (.tuple #[chV Y (l0+32*k) (f k).1 (f k).2.1 (gX (wd D (l0+32*k) 0)),.int .i64 0]) w2)→callS Tryz.prog 23 #[.iface 25 (.pointer (some ⟨Y.tb 0,0,none⟩)),.int .i64 ((l0+32*k:Nat):Int)] w1 K:=fun w1 K e1 hk2=>by
    refine k_OpenAt (h.L.dv.ext e1) h.L.gd (hG.ext e1) ho he (l0+32*k) (by omega) ha.1 K (fun w2 e2=> ?_)
    rw [if_neg (by rw [←ha.2.1];exact c0),←ha.2.1,←ha.2.2]
    exact hk2 w2 e2
   have fin:∀(w2:World) (N:Nat),Ext w w2→Cells w2 N 69 5 (chF (Y.tb 0) (l0+32*k) (f k).1 (f k).2.1 (gX (wd D (l0+32*k) 0)))→f78_k1 K (.pointer (some ⟨b,o+k*4,none⟩)) (.pointer (some ⟨N,0,none⟩)) (.int .i64 0) w2:=fun w2 N e2 hN=>
    cl_k1 (h.ext e2) hk ho he (by omega) hcl.1 hN hh K (fun hn w' e=>h0 hn w' (e2.trans e)) (fun g hg g0 g6 v w' e nv hs=>h1 g hg g0 g6 v w' (e2.trans e) (fun x hx=>Nat.le_trans e2.size (nv x hx)) hs)
   generalize (f k).1=cc at*
   generalize (f k).2.1=oo at*
   generalize gX (wd D (l0+32*k) 0)=gg at*
   refine f78_call _ _ _ _ ?_
   unfold f78_t
   (repeat' (first|(with_reducible refine brS_mk (fun _=> ?_) (fun _=> ?_))|(with_reducible refine And.intro ?_ ?_)|(simp (disch:=first|omega|simp only [RO]|(simp only [RZ]<;>omega)|fail) only [↓RBp,↓RA,↓reduceIte,Nat.reduceAdd,Nat.reduceMul,Nat.reduceEqDiff,RB,RX,RA2,q0,q1,q3,c0,s0])))
   ·refine hop _ _ (by repeat (first|(with_reducible first|refine eB ?_ (by first|omega|(simp only [RZ]<;>omega)) _|assumption|exact eR _|refine eA ?_ _|refine eD ?_|refine eT ?_ (by assumption))|exact eR _)) (fun w1 e1=> ?_)
    have e0:Ext w w1:=Ext.trans (by repeat (first|(with_reducible first|refine eB ?_ (by first|omega|(simp only [RZ]<;>omega)) _|assumption|exact eR _|refine eA ?_ _|refine eD ?_|refine eT ?_ (by assumption))|exact eR _)) e1
    have s0:=(h.ext e0).c0
    have ob33:=(h.ext e0).p hk;have q0:=ob33.1;have q1:=ob33.2.1;have q2:=ob33.2.2.1;have q3:=ob33.2.2.2
    have lt1:=(h.ext e0).ltb
    have lt2:=(h.ext e0).ltS
    (repeat' (first|(with_reducible refine brS_mk (fun _=> ?_) (fun _=> ?_))|(with_reducible refine And.intro ?_ ?_)|(simp (disch:=first|omega|simp only [RO]|(simp only [RZ]<;>omega)|fail) only [↓RBp,↓RA,↓reduceIte,Nat.reduceAdd,Nat.reduceMul,Nat.reduceEqDiff,RB,RX,RA2,q0,s0])))
    exact fin _ _ (by repeat (first|(with_reducible first|refine eB ?_ (by first|omega|(simp only [RZ]<;>omega)) _|assumption|exact eR _|refine eA ?_ _|refine eD ?_|refine eT ?_ (by assumption))|exact eR _)) (Cells.new w1 [Value.iface 25 (.pointer (some ⟨Y.tb 0,0,none⟩)),.int .i64 ((l0+32*k:Nat):Int),.int .i64 cc,.int .i64 oo,.int .u16 (gg:Int)] 69)
   ·refine hop _ _ (by repeat (first|(with_reducible first|refine eB ?_ (by first|omega|(simp only [RZ]<;>omega)) _|assumption|exact eR _|refine eA ?_ _|refine eD ?_|refine eT ?_ (by assumption))|exact eR _)) (fun w1 e1=> ?_)
    have hC0:=(Cells.new w [Value.nilIface,.int .i64 0,.int .i64 0,.int .i64 0,.int .u16 ((0:Nat):Int)] 69).ext (Ext.trans (Ext.drew (Ext.refl _)) e1)
    have lt1:=hC0.lt
    have hD:=cells5C hC0 (Value.iface 25 (.pointer (some ⟨Y.tb 0,0,none⟩))) (.int .i64 ((l0+32*k:Nat):Int)) (.int .i64 cc) (.int .i64 oo) (.int .u16 (gg:Int))
    have z0:=hC0.cell (i:=0) (by simp)
    have z1:=hC0.cell (i:=1) (by simp)
    have z2:=hC0.cell (i:=2) (by simp)
    have z3:=hC0.cell (i:=3) (by simp)
    have z4:=hC0.cell (i:=4) (by simp)
    have hfz:=hC0.frz
    (repeat' (first|(with_reducible refine brS_mk (fun _=> ?_) (fun _=> ?_))|(with_reducible refine And.intro ?_ ?_)|(simp (disch:=first|omega|simp only [RO]|(simp only [RZ]<;>omega)|fail) only [↓RBp,↓RA,↓reduceIte,Nat.reduceAdd,Nat.reduceMul,Nat.reduceEqDiff,RB,RX,RA2,z0,z1,z2,z3,z4,hfz])))
    exact fin _ _ (by repeat (first|(with_reducible first|refine eB ?_ (by first|omega|(simp only [RZ]<;>omega)) _|assumption|exact eR _|refine eA ?_ _|refine eD ?_|refine eT ?_ (by assumption))|exact eR _)) hD
end
end Go.Proofs.YtifpinhjpbgnoaaGreatDoor
namespace Go.Proofs.YtifpinhjpbgnoaaGreatDoor
open Go Go.Sh
set_option maxRecDepth 100000
set_option maxHeartbeats 4000000
set_option linter.unusedSimpArgs false
set_option linter.unusedVariables false
section
variable {w0 w w' w'':World} {Y Y' Y'':Lay} {D D' D1:DS} {S b o cp l0 n k:Nat} {f f':Nat→Int×Int×Bool}
theorem ArS.wr1 (h:ArS w0 w Y D S b o cp l0 n f) (hk:k<n) (c:Int):ArS w0 (w.setCell ⟨b,o+k*4+1,none⟩ (.int .i64 c)) Y D S b o cp l0 n (upF f k (c,(f k).2)):=by
 have:=h.wr (i:=k*4+1) (by omega) ((plL_set f l0 n k hk).1 c)
 rwa [←Nat.add_assoc] at this
theorem ArS.wr2 (h:ArS w0 w Y D S b o cp l0 n f) (hk:k<n) (c:Int):ArS w0 (w.setCell ⟨b,o+k*4+2,none⟩ (.int .i64 c)) Y D S b o cp l0 n (upF f k ((f k).1,c,(f k).2.2)):=by
 have:=h.wr (i:=k*4+2) (by omega) ((plL_set f l0 n k hk).2.1 c)
 rwa [←Nat.add_assoc] at this
theorem upF_upF {α:Type} (f:Nat→α) (k:Nat) (u v:α):upF (upF f k u) k v=upF f k v:=by
 funext j;unfold upF;split<;>rfl
theorem ArS.wr12 (h:ArS w0 w Y D S b o cp l0 n f) (hk:k<n) (c t:Int):ArS w0 ((w.setCell ⟨b,o+k*4+1,none⟩ (.int .i64 c)).setCell ⟨b,o+k*4+2,none⟩ (.int .i64 t)) Y D S b o cp l0 n (upF f k (c,t,(f k).2.2)):=by
 have:=(h.wr1 hk c).wr2 hk t
 rwa [upF_upF,upF_eq] at this
theorem AStp.wr12 (h:AStp w Y b w' Y') (i j:Nat) (u v:Value):AStp w Y b ((w'.setCell ⟨b,i,none⟩ u).setCell ⟨b,j,none⟩ v) Y':=(h.set i u).set j v
theorem k_free (h:ArS w0 w Y D S b o cp l0 n f) (hk:k<n) {p:List Ins} {v:Value} (hs:SlO w 176 3 v p.length (inL p)) (nv:∀x,v.ownBlock=some x→¬Y.F x) (hp:∀i∈p,okI i) (hx:D.exe+p.length<1099511627775) (hD1:D1=D.run 0 p) (K:K1)
  (he:D1.err 0≠0→∀w' Y',AStp w Y b w' Y'→ArS w0 w' Y' D1 S b o cp l0 n f→K (.int .i64 (D1.err 0)) w')
  (hok:D1.err 0=0→∀w' Y',AStp w Y b w' Y'→ArS w0 w' Y' D1 S b o cp l0 n (upF f k (-1,-1,(f k).2.2))→K (.int .i64 0) w'):
  callS Tryz.prog 79 #[stV S,.pointer (some ⟨b,o+k*4,none⟩),v] w K:=by
 have gd1:Good D1:=by rw [hD1];exact Good.run 0 (by omega) _ _ h.L.gd hp
 have n1:D1.n=D.n:=by rw [hD1];exact run_n 0 _ D
 have s0:=h.c0
 have hrun:∀(K:K1),(∀w' Y',Stp w Y w' Y' D1→K (.int .i64 (D1.err 0)) w')→callS Tryz.prog 62 #[v,.iface 25 (.pointer (some ⟨Y.tb 0,0,none⟩))] w K:=fun K hK=>by
  subst hD1;exact k_Run h.L.dv h.L.gd 0 (by omega) p v hs nv hp hx K hK
 have hst:∀w' Y',Stp w Y w' Y' D1→ArS w0 w' Y' D1 S b o cp l0 n f:=fun w' Y' st=>h.step st gd1 n1
 generalize D1.err 0=e at*
 refine f79_call _ _ _ _ _ ?_
 unfold f79_t
 simp (disch:=first|omega|simp only [RO]|(simp only [RZ]<;>omega)|fail) only [↓RBp,↓RA,↓reduceIte,Nat.reduceAdd,Nat.reduceMul,Nat.reduceEqDiff,RB,RX,RA2,s0]
 refine hrun _ (fun w1 Y1 st=> ?_)
 have h1:=hst w1 Y1 st
 have a1:=AStp.of_stp b st
 by_cases e0:e=0
 ·subst e0
  have ob34:=h1.p hk;have q0:=ob34.1;have q1:=ob34.2.1;have q2:=ob34.2.2.1;have q3:=ob34.2.2.2
  have fz:=h1.fz
  have h2:=h1.wr1 hk (-1)
  have fz2:=h2.fz
  have ob35:=h2.p hk;have r0:=ob35.1;have r1:=ob35.2.1;have r2:=ob35.2.2.1;have r3:=ob35.2.2.2
  simp (disch:=first|omega|simp only [RO]|(simp only [RZ]<;>omega)|fail) only [↓RBp,↓RA,↓reduceIte,Nat.reduceAdd,Nat.reduceMul,Nat.reduceEqDiff,RB,RX,RA2,fz,q1,q2,fz2,r2]
  exact hok rfl _ Y1 (a1.wr12 _ _ _ _) (h1.wr12 hk (-1) (-1))
 ·simp (disch:=first|omega|simp only [RO]|(simp only [RZ]<;>omega)|fail) only [↓RBp,↓RA,↓reduceIte,Nat.reduceAdd,Nat.reduceMul,Nat.reduceEqDiff,RB,RX,RA2,e0]
  exact he e0 _ Y1 a1 h1
theorem k_pick (h:ArS w0 w Y D S b o cp l0 n f) (ag:AgF D l0 n f) (ho:D.off=false) (he:D.err 0=0) (hx:D.exe<1000000000) (K:K1)
  (hA:∀k,k<n→(f k).1<0→(∀j,j<k→¬(f j).1<0)→∀w',Ext w w'→K (.tuple #[.pointer (some ⟨b,o+k*4,none⟩),.int .i64 0]) w')
  (hB:(∀j,j<n→¬(f j).1<0)→∀k g D1,k<n→emG D l0 f k=some g→(∀j,j<k→emG D l0 f j=none)→D1=D.run 0 (clrI (l0+32*k) g)→∀w' Y',AStp w Y b w' Y'→(D1.err 0≠0→ArS w0 w' Y' D1 S b o cp l0 n f)→(D1.err 0=0→ArS w0 w' Y' D1 S b o cp l0 n (upF f k (-1,-1,(f k).2.2)))→K (.tuple #[.pointer (some ⟨b,o+k*4,none⟩),.int .i64 (D1.err 0)]) w')
  (hN:(∀j,j<n→¬(f j).1<0)→(∀j,j<n→emG D l0 f j=none)→∀w',Ext w w'→K (.tuple #[.pointer none,.int .i64 4]) w'):
  callS Tryz.prog 60 #[stV S] w K:=by
 have hle:=h.le
 have hlt:=h.lt
 have hnn:=h.L.gd.n
 have s1:=h.c1
 refine f60_call _ _ _ ?_
 unfold f60_t
 simp (disch:=first|omega|simp only [RO]|(simp only [RZ]<;>omega)|fail) only [↓RBp,↓RA,↓reduceIte,Nat.reduceAdd,Nat.reduceMul,Nat.reduceEqDiff,RB,RX,RA2,s1]
 apply f60_l1_rule (I:=fun z w'=>∃i:Nat,z= .int .i64 (i:Int)∧i≤n∧(∀j,j<i→¬(f j).1<0)∧Ext w w') (μ:=fun z _=>n-(Go.RowKit.intOf z).toNat)
 ·exact ⟨0,rfl,by omega,fun j hj=>absurd hj (Nat.not_lt_zero _),(by repeat (first|(with_reducible first|refine eB ?_ (by first|omega|(simp only [RZ]<;>omega)) _|assumption|exact eR _|refine eA ?_ _|refine eD ?_|refine eT ?_ (by assumption))|exact eR _))⟩
 ·intros;rename_i w1 hI E1 hE
  obtain ⟨i,rfl,hi,hall,e1⟩:=hI
  have h1:=h.ext e1
  have s1:=h1.c1
  by_cases hin:i<n
  ·have ob36:=h1.p hin;have q0:=ob36.1;have q1:=ob36.2.1;have q2:=ob36.2.2.1;have q3:=ob36.2.2.2
   have hAi:=hA i hin
   have hall2:¬(f i).1<0→∀j,j<i+1→¬(f j).1<0:=fun hc j hj=>by
    by_cases e:j=i
    ·rw [e];exact hc
    ·exact hall j (by omega)
   by_cases hc:(f i).1<0
   ·have hAi:=hAi hc hall
    generalize (f i).1=cc at q1 hc
    unfold f60_l1_t
    simp (disch:=first|omega|simp only [RO]|(simp only [RZ]<;>omega)|fail) only [↓RBp,↓RA,↓reduceIte,Nat.reduceAdd,Nat.reduceMul,Nat.reduceEqDiff,RB,RX,RA2,s1,q1,hc]
    exact hAi _ e1
   ·have hall2:=hall2 hc
    generalize (f i).1=cc at q1 hc
    unfold f60_l1_t
    simp (disch:=first|omega|simp only [RO]|(simp only [RZ]<;>omega)|fail) only [↓RBp,↓RA,↓reduceIte,Nat.reduceAdd,Nat.reduceMul,Nat.reduceEqDiff,RB,RX,RA2,s1,q1,hc]
    apply hE
    ·exact ⟨i+1,by simp,by omega,hall2,e1⟩
    ·simp [Go.RowKit.intOf];omega
  ·have:i=n:=by omega
   subst this
   unfold f60_l1_t
   simp (disch:=first|omega|simp only [RO]|(simp only [RZ]<;>omega)|fail) only [↓RBp,↓RA,↓reduceIte,Nat.reduceAdd,Nat.reduceMul,Nat.reduceEqDiff,RB,RX,RA2,f60_k1_eq,f60_k1_t,s1]
   apply f60_l2_rule (I:=fun z w'=>∃q:Nat,z= .int .i64 (q:Int)∧q≤i∧(∀j,j<q→emG D l0 f j=none)∧Ext w w') (μ:=fun z _=>i-(Go.RowKit.intOf z).toNat)
   ·exact ⟨0,rfl,by omega,fun j hj=>absurd hj (Nat.not_lt_zero _),e1⟩
   ·intros;rename_i w2 hI E2 hE2
    obtain ⟨q,rfl,hq,hnone,e2⟩:=hI
    have h2:=h.ext e2
    have s0:=h2.c0
    have s1:=h2.c1
    by_cases hqi:q<i
    ·have hem:=fun g hg=>h2.emG_ok ag hqi (g:=g) hg
     have hB:=hB hall q
     have hno:emG D l0 f q=none→∀j,j<q+1→emG D l0 f j=none:=fun hc j hj=>by
      by_cases e:j=q
      ·rw [e];exact hc
      ·exact hnone j (by omega)
     unfold f60_l2_t
     simp (disch:=first|omega|simp only [RO]|(simp only [RZ]<;>omega)|fail) only [↓RBp,↓RA,↓reduceIte,Nat.reduceAdd,Nat.reduceMul,Nat.reduceEqDiff,RB,RX,RA2,s1]
     refine k_clearing h2 ag hqi ho he _ (fun hn0 w3 e3=> ?_) (fun g hg g0 g6 v w3 e3 nv hs=> ?_)
     ·simp (disch:=first|omega|simp only [RO]|(simp only [RZ]<;>omega)|fail) only [↓RBp,↓RA,↓reduceIte,Nat.reduceAdd,Nat.reduceMul,Nat.reduceEqDiff,RB,RX,RA2]
      apply hE2
      ·exact ⟨q+1,by simp,by omega,hno hn0,e2.trans e3⟩
      ·simp [Go.RowKit.intOf];omega
     ·have ok:∀i∈clrI (l0+32*q) g,okI i:=by
       have hs6:=sealN_lt (hdX (-1) (-1) g) (hdX_lt (by omega) (by omega) (by omega) (by omega) g6)
       exact okI_stores (fun x hx=>by simp only [List.mem_singleton] at hx;subst hx;exact ⟨by simp only;omega,hs6⟩)
      have hcl:=clrI_len (l0+32*q) g
      obtain ⟨D1,hD1⟩:∃D1,D1=D.run 0 (clrI (l0+32*q) g):=⟨_,rfl⟩
      have hB:=hB g D1 hqi hg hnone hD1
      have h3:=h2.ext e3
      have nF:∀x,v.ownBlock=some x→¬Y.F x:=fun x hx hf=>by have:=nv x hx;have:=h2.L.dv.lt hf;omega
      simp (disch:=first|omega|simp only [RO]|(simp only [RZ]<;>omega)|fail) only [↓RBp,↓RA,↓reduceIte,Nat.reduceAdd,Nat.reduceMul,Nat.reduceEqDiff,RB,RX,RA2]
      refine k_free h3 hqi hs nF ok (by omega) hD1 _ (fun hne w4 Y4 a4 h4=> ?_) (fun h0 w4 Y4 a4 h4=> ?_)
      ·have a04:=(AStp.of_ext Y b (e2.trans e3)).trans a4
       have hB:=hB w4 Y4 a04 (fun _=>h4) (fun h=>absurd h hne)
       simp (disch:=first|omega|simp only [RO]|(simp only [RZ]<;>omega)|fail) only [↓RBp,↓RA,↓reduceIte,Nat.reduceAdd,Nat.reduceMul,Nat.reduceEqDiff,RB,RX,RA2]
       exact hB
      ·have a04:=(AStp.of_ext Y b (e2.trans e3)).trans a4
       have hB:=hB w4 Y4 a04 (fun h=>absurd h0 h) (fun _=>h4)
       rw [h0] at hB
       simp (disch:=first|omega|simp only [RO]|(simp only [RZ]<;>omega)|fail) only [↓RBp,↓RA,↓reduceIte,Nat.reduceAdd,Nat.reduceMul,Nat.reduceEqDiff,RB,RX,RA2]
       exact hB
    ·have:q=i:=by omega
     subst this
     have her:=h2.er
     rw [he] at her
     unfold f60_l2_t
     simp (disch:=first|omega|simp only [RO]|(simp only [RZ]<;>omega)|(with_reducible (repeat (first|assumption|exact Ext.refl _|refine Ext.alloc ?_ _|refine Ext.drew ?_|refine Ext.trans ?_ (by assumption))))|fail) only [↓RBp,↓RA,↓reduceIte,Nat.reduceAdd,Nat.reduceMul,Nat.reduceEqDiff,RB,RX,RA2,f60_k2_eq,f60_k2_t,s0,her]
     exact hN hall hnone _ e2
end
end Go.Proofs.YtifpinhjpbgnoaaGreatDoor
namespace Go.Proofs.YtifpinhjpbgnoaaGreatDoor
open Go Go.Sh
set_option maxRecDepth 100000
set_option maxHeartbeats 4000000
set_option linter.unusedSimpArgs false
set_option linter.unusedVariables false
theorem planI_ok {l n g:Nat} {c o:Int} (hl:l+32≤n) (hn:n≤4096) (c0:0≤c) (c5:c<5) (o0:0≤o) (o8:o<8) (hg:g<65536):∀i∈planI l c o g,okI i:=by
 have hb:=sealN_lt (blkX g 0 176) (blkX_lt hg (by omega) (by omega))
 have hd:=sealN_lt (hdX c o g) (hdX_lt (by omega) c5 (by omega) o8 hg)
 intro i hi
 unfold planI at hi
 rcases List.mem_append.1 hi with hi|hi
 ·refine okI_stores (fun x hx=>⟨by have:=planW_in hl c0 c5 g x hx;omega,?_⟩) i hi
  rcases List.mem_append.1 hx with hx|hx
  ·obtain ⟨j,hj,rfl⟩:=List.mem_map.1 hx
   exact hb
  ·obtain ⟨j,hj,rfl⟩:=List.mem_map.1 hx
   simp only;omega
 ·exact okI_stores (fun x hx=>by simp only [List.mem_singleton] at hx;subst hx;exact ⟨by simp only;omega,hd⟩) i hi
def ClRes (D:DS) (l0 n:Nat) (f:Nat→Int×Int×Bool) (c t:Int) (D2:DS) (f2:Nat→Int×Int×Bool) (r e:Int):Prop:=
 (∃k,k<n∧(f k).1<0∧(∀j,j<k→¬(f j).1<0)∧D2=D.run 0 (planI (l0+32*k) c t (gX (wd D (l0+32*k) 0)))∧((D2.err 0≠0∧f2=f∧r=0∧e=D2.err 0)∨(D2.err 0=0∧f2=upF f k (c,t,(f k).2.2)∧r=((l0+32*k:Nat):Int)∧e=0)))∨
 ((∀j,j<n→¬(f j).1<0)∧∃k g D1,k<n∧emG D l0 f k=some g∧(∀j,j<k→emG D l0 f j=none)∧D1=D.run 0 (clrI (l0+32*k) g)∧((D1.err 0≠0∧D2=D1∧f2=f∧r=0∧e=D1.err 0)∨(D1.err 0=0∧D2=D1.run 0 (planI (l0+32*k) c t g)∧((D2.err 0≠0∧f2=upF f k (-1,-1,(f k).2.2)∧r=0∧e=D2.err 0)∨(D2.err 0=0∧f2=upF f k (c,t,(f k).2.2)∧r=((l0+32*k:Nat):Int)∧e=0)))))∨
 ((∀j,j<n→¬(f j).1<0)∧(∀j,j<n→emG D l0 f j=none)∧D2=D∧f2=f∧r=0∧e=4)
section
variable {w0 w w' w'':World} {Y Y' Y'':Lay} {D D' D1 D2:DS} {S b o cp l0 n k g:Nat} {f f' f1:Nat→Int×Int×Bool} {c t:Int}
theorem cm_k1 (h:ArS w0 w Y D S b o cp l0 n f) (hk:k<n) (c0:0≤c) (c5:c<5) (t0:0≤t) (t8:t<8) (g0:g≠0) (g6:g<65536) (hx:D.exe<2000000000) {N:Nat} {cc oo:Int} (hN:Cells w N 67 3 (fun i=> [Value.int .i64 cc,.int .i64 oo,.int .u16 (g:Int)].getD i undef)) (hD2:D2=D.run 0 (planI (l0+32*k) c t g)) (K:K1)
  (he:D2.err 0≠0→∀w' Y',AStp w Y b w' Y'→ArS w0 w' Y' D2 S b o cp l0 n f→K (.tuple #[.int .i64 0,.int .i64 (D2.err 0)]) w')
  (hok:D2.err 0=0→∀w' Y',AStp w Y b w' Y'→ArS w0 w' Y' D2 S b o cp l0 n (upF f k (c,t,(f k).2.2))→K (.tuple #[.int .i64 ((l0+32*k:Nat):Int),.int .i64 0]) w'):
  f22_k1 K (stV S) (.int .i64 t) (.int .i64 c) (.pointer (some ⟨b,o+k*4,none⟩)) (.int .i64 0) (.pointer (some ⟨N,0,none⟩)) w:=by
 have hnn:=h.L.gd.n
 have hlt:=h.lt
 have hok3:=planI_ok (l:=l0+32*k) (n:=D.n) (by omega) hnn c0 c5 t0 t8 g6
 have hpl:=plan_len (l0+32*k) c0 c5 t g
 have gd2:Good D2:=by rw [hD2];exact Good.run 0 (by omega) _ _ h.L.gd hok3
 have n2:D2.n=D.n:=by rw [hD2];exact run_n 0 _ D
 have s0:=h.c0
 have ob37:=h.p hk;have q0:=ob37.1;have q1:=ob37.2.1;have q2:=ob37.2.2.1;have q3:=ob37.2.2.2
 have d2:w.cell? ⟨N,2,none⟩=some (.int .u16 (g:Int)):=hN.cell (i:=2) (by omega)
 have hrun:∀(v:Value) (w1:World) (K:K1),Ext w w1→SlO w1 176 3 v (planI (l0+32*k) c t g).length (inL (planI (l0+32*k) c t g))→NewV w.heap.size v→(∀w' Y',Stp w Y w' Y' D2→K (.int .i64 (D2.err 0)) w')→callS Tryz.prog 62 #[v,.iface 25 (.pointer (some ⟨Y.tb 0,0,none⟩))] w1 K:=fun v w1 K e1 hs nv hK=>by
  subst hD2
  exact k_Run (h.L.dv.ext e1) h.L.gd 0 (by omega) _ v hs (fun x hx hf=>by have:=nv x hx;have:=h.L.dv.lt hf;omega) hok3 (by omega) K (fun w' Y' st=>hK w' Y' (Stp.pre e1 (fun x hx=>h.L.dv.lt hx) st))
 have hst:∀w' Y',Stp w Y w' Y' D2→ArS w0 w' Y' D2 S b o cp l0 n f:=fun w' Y' st=>h.step st gd2 n2
 generalize D2.err 0=e at*
 rw [f22_k1_eq]
 unfold f22_k1_t
 (repeat' (first|(with_reducible refine brS_mk (fun _=> ?_) (fun _=> ?_))|(with_reducible refine And.intro ?_ ?_)|(simp (disch:=first|omega|simp only [RO]|(simp only [RZ]<;>omega)|fail) only [↓RBp,↓RA,↓reduceIte,Nat.reduceAdd,Nat.reduceMul,Nat.reduceEqDiff,RB,RX,RA2,q0,d2])))
 refine k_Plan ((h.gl.ext h.L.ex).ext (by repeat (first|(with_reducible first|refine eB ?_ (by first|omega|(simp only [RZ]<;>omega)) _|assumption|exact eR _|refine eA ?_ _|refine eD ?_|refine eT ?_ (by assumption))|exact eR _))) (l0+32*k) c t g (by omega) c0 c5 t0 t8 g0 g6 _ (fun v w1 hs e1 nv=> ?_)
 have e01:Ext w w1:=Ext.trans (by repeat (first|(with_reducible first|refine eB ?_ (by first|omega|(simp only [RZ]<;>omega)) _|assumption|exact eR _|refine eA ?_ _|refine eD ?_|refine eT ?_ (by assumption))|exact eR _)) e1
 have s0:=(h.ext e01).c0
 (repeat' (first|(with_reducible refine brS_mk (fun _=> ?_) (fun _=> ?_))|(with_reducible refine And.intro ?_ ?_)|(simp (disch:=first|omega|simp only [RO]|(simp only [RZ]<;>omega)|fail) only [↓RBp,↓RA,↓reduceIte,Nat.reduceAdd,Nat.reduceMul,Nat.reduceEqDiff,RB,RX,RA2,s0])))
 refine hrun v _ _ e01 hs (fun x hx=>by have:=nv x hx;simpa only [RZ] using this) (fun w2 Y2 st=> ?_)
 have h2:=hst w2 Y2 st
 have a2:=AStp.of_stp b st
 by_cases e0:e=0
 ·subst e0
  have ob38:=h2.p hk;have q0:=ob38.1;have q1:=ob38.2.1;have q2:=ob38.2.2.1;have q3:=ob38.2.2.2
  have fz:=h2.fz
  have h3:=h2.wr1 hk c
  have fz3:=h3.fz
  have ob39:=h3.p hk;have r0:=ob39.1;have r1:=ob39.2.1;have r2:=ob39.2.2.1;have r3:=ob39.2.2.2
  have h4:=h2.wr12 hk c t
  have ob40:=h4.p hk;have u0:=ob40.1;have u1:=ob40.2.1;have u2:=ob40.2.2.1;have u3:=ob40.2.2.2
  simp (disch:=first|omega|simp only [RO]|(simp only [RZ]<;>omega)|fail) only [↓RBp,↓RA,↓reduceIte,Nat.reduceAdd,Nat.reduceMul,Nat.reduceEqDiff,RB,RX,RA2,fz,q1,q2,fz3,r2,u0]
  exact hok rfl _ Y2 (a2.wr12 _ _ _ _) h4
 ·simp (disch:=first|omega|simp only [RO]|(simp only [RZ]<;>omega)|fail) only [↓RBp,↓RA,↓reduceIte,Nat.reduceAdd,Nat.reduceMul,Nat.reduceEqDiff,RB,RX,RA2,e0]
  exact he e0 _ Y2 a2 h2
theorem k_Claim (h:ArS w0 w Y D S b o cp l0 n f) (ag:AgF D l0 n f) (ho:D.off=false) (he:D.err 0=0) (hx:D.exe<1000000000) (t0:0≤t) (t8:t<8) (c0:0≤c) (c5:c<5) (K:K1)
  (hK:∀D2 f2 r e,ClRes D l0 n f c t D2 f2 r e→∀w' Y',AStp w Y b w' Y'→ArS w0 w' Y' D2 S b o cp l0 n f2→K (.tuple #[.int .i64 r,.int .i64 e]) w'):
  callS Tryz.prog 22 #[stV S,.int .i64 t,.int .i64 c] w K:=by
 have hG:Glob w:=h.gl.ext h.L.ex
 have hnn:=h.L.gd.n
 have hlt:=h.lt
 have hp:=c_PerChunk c w
 have hpp:=perS_in c0 c5
 have s0:=h.c0
 have her:=h.er
 rw [he] at her
 have hz:¬perS c=0:=by omega
 have agk:=ag
 generalize perS c=pc at*
 refine f22_call _ _ _ _ _ ?_
 unfold f22_t
 simp (disch:=first|omega|simp only [RO]|(simp only [RZ]<;>omega)|(with_reducible (repeat (first|assumption|exact Ext.refl _|refine Ext.alloc ?_ _|refine Ext.drew ?_|refine Ext.trans ?_ (by assumption))))|fail) only [↓RBp,↓RA,↓reduceIte,Nat.reduceAdd,Nat.reduceMul,Nat.reduceEqDiff,RB,RX,RA2,hp,hG,hz,s0,her,he]
 refine k_pick h ag ho he hx _ (fun k hk hf hall w1 e1=> ?_) (fun hall k g D1 hk hem hnone hD1 w1 Y1 a1 hbad hgood=> ?_) (fun hall hnone w1 e1=> ?_)
 ·have hd:=hd_cls (ag k hk).1
  have hok:=(ag k hk).1
  have g6:gX (wd D (l0+32*k) 0)<65536:=by unfold gX;omega
  have hK:=fun D2 f2 r e hr=>hK D2 f2 r e (.inl ⟨k,hk,hf,hall,hr⟩)
  have h1:=h.ext e1
  have s0:=h1.c0
  have ob41:=h1.p hk;have q0:=ob41.1;have q1:=ob41.2.1;have q2:=ob41.2.2.1;have q3:=ob41.2.2.2
  have lt1:=h1.ltb
  have lt2:=h1.ltS
  have fin:∀(w2:World) (N:Nat),Ext w w2→Cells w2 N 67 3 (fun i=> [Value.int .i64 (hC (wd D (l0+32*k) 0)),.int .i64 (hO (wd D (l0+32*k) 0)),.int .u16 (gX (wd D (l0+32*k) 0):Int)].getD i undef)→f22_k1 K (stV S) (.int .i64 t) (.int .i64 c) (.pointer (some ⟨b,o+k*4,none⟩)) (.int .i64 0) (.pointer (some ⟨N,0,none⟩)) w2:=fun w2 N e2 hN=>by
   refine cm_k1 (h.ext e2) hk c0 c5 t0 t8 hd.2.2.1 g6 (by omega) hN rfl K (fun hne w3 Y3 a3 h3=> ?_) (fun h0 w3 Y3 a3 h3=> ?_)
   ·exact hK _ _ _ _ ⟨rfl,.inl ⟨hne,rfl,rfl,rfl⟩⟩ w3 Y3 ((AStp.of_ext Y b e2).trans a3) h3
   ·exact hK _ _ _ _ ⟨rfl,.inr ⟨h0,rfl,rfl,rfl⟩⟩ w3 Y3 ((AStp.of_ext Y b e2).trans a3) h3
  have hlk:=fun (w2:World) (e2:Ext w w2) (K1:K1) hk2=>k_Look (h.L.dv.ext e2) h.L.gd (hG.ext e2) ho he (l0+32*k) (by omega) hok K1 hk2
  unfold thV at hlk
  generalize hC (wd D (l0+32*k) 0)=cc at*
  generalize hO (wd D (l0+32*k) 0)=oo at*
  generalize gX (wd D (l0+32*k) 0)=gg at*
  (repeat' (first|(with_reducible refine brS_mk (fun _=> ?_) (fun _=> ?_))|(with_reducible refine And.intro ?_ ?_)|(simp (disch:=first|omega|simp only [RO]|(simp only [RZ]<;>omega)|fail) only [↓RBp,↓RA,↓reduceIte,Nat.reduceAdd,Nat.reduceMul,Nat.reduceEqDiff,RB,RX,RA2,s0,q0])))
  ·refine hlk _ (by repeat (first|(with_reducible first|refine eB ?_ (by first|omega|(simp only [RZ]<;>omega)) _|assumption|exact eR _|refine eA ?_ _|refine eD ?_|refine eT ?_ (by assumption))|exact eR _)) _ (fun w2 e2=> ?_)
   have e02:Ext w1 w2:=Ext.trans (by repeat (first|(with_reducible first|refine eB ?_ (by first|omega|(simp only [RZ]<;>omega)) _|assumption|exact eR _|refine eA ?_ _|refine eD ?_|refine eT ?_ (by assumption))|exact eR _)) e2
   have s0:=(h1.ext e02).c0
   have ob42:=(h1.ext e02).p hk;have q0:=ob42.1;have q1:=ob42.2.1;have q2:=ob42.2.2.1;have q3:=ob42.2.2.2
   have lt1:=(h1.ext e02).ltb
   have lt2:=(h1.ext e02).ltS
   (repeat' (first|(with_reducible refine brS_mk (fun _=> ?_) (fun _=> ?_))|(with_reducible refine And.intro ?_ ?_)|(simp (disch:=first|omega|simp only [RO]|(simp only [RZ]<;>omega)|fail) only [↓RBp,↓RA,↓reduceIte,Nat.reduceAdd,Nat.reduceMul,Nat.reduceEqDiff,RB,RX,RA2,s0,q0])))
   exact fin _ _ (by repeat (first|(with_reducible first|refine eB ?_ (by first|omega|(simp only [RZ]<;>omega)) _|assumption|exact eR _|refine eA ?_ _|refine eD ?_|refine eT ?_ (by assumption))|exact eR _)) (Cells.new w2 [Value.int .i64 cc,.int .i64 oo,.int .u16 (gg:Int)] 67)
  ·refine hlk _ (by repeat (first|(with_reducible first|refine eB ?_ (by first|omega|(simp only [RZ]<;>omega)) _|assumption|exact eR _|refine eA ?_ _|refine eD ?_|refine eT ?_ (by assumption))|exact eR _)) _ (fun w2 e2=> ?_)
   have hC0:=(Cells.new w1 [Value.int .i64 0,.int .i64 0,.int .u16 ((0:Nat):Int)] 67).ext (Ext.trans (Ext.drew (Ext.refl _)) e2)
   have lt1:=hC0.lt
   have hD:=cells3C hC0 (Value.int .i64 cc) (.int .i64 oo) (.int .u16 (gg:Int))
   have z0:=hC0.cell (i:=0) (by simp)
   have z1:=hC0.cell (i:=1) (by simp)
   have z2:=hC0.cell (i:=2) (by simp)
   have hfz:=hC0.frz
   have hs1:=e1.size
   (repeat' (first|(with_reducible refine brS_mk (fun _=> ?_) (fun _=> ?_))|(with_reducible refine And.intro ?_ ?_)|(simp (disch:=first|omega|simp only [RO]|(simp only [RZ]<;>omega)|fail) only [↓RBp,↓RA,↓reduceIte,Nat.reduceAdd,Nat.reduceMul,Nat.reduceEqDiff,RB,RX,RA2,z0,z1,z2,hfz])))
   exact fin _ _ (by repeat (first|(with_reducible first|refine eB ?_ (by first|omega|(simp only [RZ]<;>omega)) _|assumption|exact eR _|refine eA ?_ _|refine eD ?_|refine eT ?_ (by assumption))|exact eR _)) hD
 ·have hgk:=h.emG_ok ag hk hem
  have hK:=fun D2 f2 r e hr=>hK D2 f2 r e (.inr (.inl ⟨hall,k,g,D1,hk,hem,hnone,hD1,hr⟩))
  by_cases h0:D1.err 0=0
  ·have h1:=hgood h0
   have hcc:=clr_cur (l:=l0+32*k) (g:=g) ho he (by omega) (by rw [←hD1];exact h0)
   rw [←hD1] at hcc
   have hw0:wd D1 (l0+32*k) 0=sealN (hdX (-1) (-1) g):=by unfold wd;rw [hcc.1];simp
   have hfr:=hd_free hgk.2.2.2.1 hgk.2.2.2.2
   rw [←hw0] at hfr
   have hxx:D1.exe<2000000000:=by rw [hD1];have:=run_exe 0 (clrI (l0+32*k) g) D;have:=clrI_len (l0+32*k) g;omega
   have n1:D1.n=D.n:=by rw [hD1];exact run_n 0 _ D
   have s0:=h1.c0
   have ob43:=h1.p hk;have q0:=ob43.1;have q1:=ob43.2.1;have q2:=ob43.2.2.1;have q3:=ob43.2.2.2
   have lt1:=h1.ltb
   have lt2:=h1.ltS
   have hG1:Glob w1:=h1.gl.ext h1.L.ex
   have hup:∀v,upF (upF f k (-1,-1,(f k).2.2)) k v=upF f k v:=fun v=>upF_upF f k _ v
   have fin:∀(w2:World) (N:Nat),Ext w1 w2→Cells w2 N 67 3 (fun i=> [Value.int .i64 (-1),.int .i64 (-1),.int .u16 (g:Int)].getD i undef)→f22_k1 K (stV S) (.int .i64 t) (.int .i64 c) (.pointer (some ⟨b,o+k*4,none⟩)) (.int .i64 0) (.pointer (some ⟨N,0,none⟩)) w2:=fun w2 N e2 hN=>by
    refine cm_k1 (h1.ext e2) hk c0 c5 t0 t8 hgk.2.2.2.1 hgk.2.2.2.2 (by omega) hN rfl K (fun hne w3 Y3 a3 h3=> ?_) (fun h02 w3 Y3 a3 h3=> ?_)
    ·exact hK _ _ _ _ (.inr ⟨h0,rfl,.inl ⟨hne,rfl,rfl,rfl⟩⟩) w3 Y3 (a1.trans ((AStp.of_ext Y1 b e2).trans a3)) h3
    ·rw [hup,upF_eq] at h3
     exact hK _ _ _ _ (.inr ⟨h0,rfl,.inr ⟨h02,rfl,rfl,rfl⟩⟩) w3 Y3 (a1.trans ((AStp.of_ext Y1 b e2).trans a3)) h3
   have hlk:=fun (w2:World) (e2:Ext w1 w2) (K1:K1) hk2=>k_Look (h1.L.dv.ext e2) h1.L.gd (hG1.ext e2) hcc.2 h0 (l0+32*k) (by omega) hfr.1 K1 hk2
   rw [hfr.2.1,hfr.2.2.1,hfr.2.2.2] at hlk
   unfold thV at hlk
   rw [h0]
   (repeat' (first|(with_reducible refine brS_mk (fun _=> ?_) (fun _=> ?_))|(with_reducible refine And.intro ?_ ?_)|(simp (disch:=first|omega|simp only [RO]|(simp only [RZ]<;>omega)|fail) only [↓RBp,↓RA,↓reduceIte,Nat.reduceAdd,Nat.reduceMul,Nat.reduceEqDiff,RB,RX,RA2,s0,q0])))
   ·refine hlk _ (by repeat (first|(with_reducible first|refine eB ?_ (by first|omega|(simp only [RZ]<;>omega)) _|assumption|exact eR _|refine eA ?_ _|refine eD ?_|refine eT ?_ (by assumption))|exact eR _)) _ (fun w2 e2=> ?_)
    have e02:Ext w1 w2:=Ext.trans (by repeat (first|(with_reducible first|refine eB ?_ (by first|omega|(simp only [RZ]<;>omega)) _|assumption|exact eR _|refine eA ?_ _|refine eD ?_|refine eT ?_ (by assumption))|exact eR _)) e2
    have s0:=(h1.ext e02).c0
    have ob44:=(h1.ext e02).p hk;have q0:=ob44.1;have q1:=ob44.2.1;have q2:=ob44.2.2.1;have q3:=ob44.2.2.2
    have lt1:=(h1.ext e02).ltb
    have lt2:=(h1.ext e02).ltS
    (repeat' (first|(with_reducible refine brS_mk (fun _=> ?_) (fun _=> ?_))|(with_reducible refine And.intro ?_ ?_)|(simp (disch:=first|omega|simp only [RO]|(simp only [RZ]<;>omega)|fail) only [↓RBp,↓RA,↓reduceIte,Nat.reduceAdd,Nat.reduceMul,Nat.reduceEqDiff,RB,RX,RA2,s0,q0])))
    exact fin _ _ (by repeat (first|(with_reducible first|refine eB ?_ (by first|omega|(simp only [RZ]<;>omega)) _|assumption|exact eR _|refine eA ?_ _|refine eD ?_|refine eT ?_ (by assumption))|exact eR _)) (Cells.new w2 [Value.int .i64 (-1),.int .i64 (-1),.int .u16 (g:Int)] 67)
   ·refine hlk _ (by repeat (first|(with_reducible first|refine eB ?_ (by first|omega|(simp only [RZ]<;>omega)) _|assumption|exact eR _|refine eA ?_ _|refine eD ?_|refine eT ?_ (by assumption))|exact eR _)) _ (fun w2 e2=> ?_)
    have hC0:=(Cells.new w1 [Value.int .i64 0,.int .i64 0,.int .u16 ((0:Nat):Int)] 67).ext (Ext.trans (Ext.drew (Ext.refl _)) e2)
    have lt1:=hC0.lt
    have hD:=cells3C hC0 (Value.int .i64 (-1)) (.int .i64 (-1)) (.int .u16 (g:Int))
    have z0:=hC0.cell (i:=0) (by simp)
    have z1:=hC0.cell (i:=1) (by simp)
    have z2:=hC0.cell (i:=2) (by simp)
    have hfz:=hC0.frz
    (repeat' (first|(with_reducible refine brS_mk (fun _=> ?_) (fun _=> ?_))|(with_reducible refine And.intro ?_ ?_)|(simp (disch:=first|omega|simp only [RO]|(simp only [RZ]<;>omega)|fail) only [↓RBp,↓RA,↓reduceIte,Nat.reduceAdd,Nat.reduceMul,Nat.reduceEqDiff,RB,RX,RA2,z0,z1,z2,hfz])))
    exact fin _ _ (by repeat (first|(with_reducible first|refine eB ?_ (by first|omega|(simp only [RZ]<;>omega)) _|assumption|exact eR _|refine eA ?_ _|refine eD ?_|refine eT ?_ (by assumption))|exact eR _)) hD
  ·have h1:=hbad h0
   have hK:=hK D1 f 0 (D1.err 0) (.inl ⟨h0,rfl,rfl,rfl,rfl⟩) w1 Y1 a1 h1
   generalize D1.err 0=e at*
   simp (disch:=first|omega|simp only [RO]|(simp only [RZ]<;>omega)|fail) only [↓RBp,↓RA,↓reduceIte,Nat.reduceAdd,Nat.reduceMul,Nat.reduceEqDiff,RB,RX,RA2,h0]
   exact hK
 ·simp (disch:=first|omega|simp only [RO]|(simp only [RZ]<;>omega)|fail) only [↓RBp,↓RA,↓reduceIte,Nat.reduceAdd,Nat.reduceMul,Nat.reduceEqDiff,RB,RX,RA2]
  exact hK _ _ _ _ (.inr (.inr ⟨hall,hnone,rfl,rfl,rfl,rfl⟩)) w1 Y (AStp.of_ext Y b e1) (h.ext e1)
end
end Go.Proofs.YtifpinhjpbgnoaaGreatDoor
namespace Go.Proofs.YtifpinhjpbgnoaaGreatDoor
open Go Go.Sh
set_option linter.unusedSimpArgs false
set_option linter.unusedVariables false
structure RgS (D:DS) (l0 n:Nat) (f:Nat→Int×Int×Bool):Prop where
 on:On D
 gd:Good D
 lt:l0+32*n≤D.n
 ag:AgF D l0 n f
 sn:∀k,k<n→0≤(f k).1→Snd D (l0+32*k) (f k).1 (f k).2.1
structure ClOk (D:DS) (l0 n:Nat) (f:Nat→Int×Int×Bool) (c t:Int) (D2:DS) (f2:Nat→Int×Int×Bool) (k g:Nat):Prop where
 kn:k<n
 fe:f2=upF f k (c,t,(f k).2.2)
 g0:g≠0
 g6:g<65536
 oth:∀j,j<n→j≠k→∀i,i<256→wd D2 (l0+32*j) i=wd D (l0+32*j) i
 own:∀i,i<256→wd D2 (l0+32*k) i=planF c t g (wd D (l0+32*k)) i
 how:((f k).1<0∧(∀j,j<k→¬(f j).1<0)∧g=gX (wd D (l0+32*k) 0))∨((∀j,j<n→¬(f j).1<0)∧emG D l0 f k=some g∧∀j,j<k→emG D l0 f j=none)
section
variable {D D2:DS} {l0 n k g:Nat} {f f2:Nat→Int×Int×Bool} {c t r e:Int}
theorem Snd.congr {l:Nat} {o:Int} (h:Snd D l c o) (c0:0≤c) (c5:c<5) (e:∀j,j<256→wd D2 l j=wd D l j):Snd D2 l c o:=by
 have b:=fun (i:Nat) (hi:(i:Int)<perS c)=>e _ (offN_bd c0 c5 hi).2.2
 refine ⟨by rw [e 0 (by omega)];exact h.hd,by rw [e 0 (by omega)];exact h.hc,by rw [e 0 (by omega)];exact h.ho,fun j h2 h8=>by rw [e j (by omega)];exact h.zer j h2 h8,fun i hi=>by rw [b i hi];exact h.sl i hi,fun i hi=>by rw [b i hi];exact h.gd i hi,fun i hi=> ?_⟩
 rw [e 1 (by omega),h.bit i hi]
 by_cases hp:(i:Int)<perS c
 ·rw [b i hp]
 ·rw [decide_eq_false hp,Bool.false_and,Bool.false_and]
theorem RgS.cls (h:RgS D l0 n f) (hk:k<n):(f k).1<5∧-1≤(f k).1:=by
 have ha:=h.ag k hk
 have:=hd_cls ha.1
 rw [ha.2.1];exact ⟨this.1,this.2.2.2⟩
theorem RgS.upd (h:RgS D l0 n f) (on:On D2) (gd:Good D2) (hn:D2.n=D.n) (hk:k<n) (oth:∀j,j<n→j≠k→∀i,i<256→wd D2 (l0+32*j) i=wd D (l0+32*j) i) (hd:hdOk (wd D2 (l0+32*k) 0)=true∧hC (wd D2 (l0+32*k) 0)=c∧hO (wd D2 (l0+32*k) 0)=t) (sn:0≤c→Snd D2 (l0+32*k) c t) (b:Bool):RgS D2 l0 n (upF f k (c,t,b)):=by
 refine ⟨on,gd,by rw [hn];exact h.lt,fun j hj=> ?_,fun j hj h0=> ?_⟩
 ·by_cases ej:j=k
  ·subst ej;rw [upF_eq];exact ⟨hd.1,hd.2.1.symm,hd.2.2.symm⟩
  ·rw [upF_ne _ _ ej,oth j hj ej 0 (by omega)];exact h.ag j hj
 ·by_cases ej:j=k
  ·subst ej;rw [upF_eq] at h0 ⊢;exact sn h0
  ·rw [upF_ne _ _ ej] at h0 ⊢
   exact (h.sn j hj h0).congr h0 (h.cls hj).1 (oth j hj ej)
theorem wd_far {l l':Nat} {W:Nat→Nat} (h:D2.cur=fun j=>if l*8≤j∧j<l*8+256 then W (j-l*8) else D.cur j):(∀i,i<256→wd D2 l i=W i)∧((l'+32≤l∨l+32≤l')→∀i,i<256→wd D2 l' i=wd D l' i):=by
 refine ⟨fun i hi=> ?_,fun hl i hi=> ?_⟩
 ·unfold wd;rw [h];simp only
  rw [if_pos (by omega),show l*8+i-l*8=i by omega]
 ·unfold wd;rw [h];simp only
  rw [if_neg (by omega)]
theorem wd_one {l l' x:Nat} (h:D2.cur=fun j=>if j=l*8 then x else D.cur j):(∀i,i<256→wd D2 l i=if i=0 then x else wd D l i)∧((l'+32≤l∨l+32≤l')→∀i,i<256→wd D2 l' i=wd D l' i):=by
 refine ⟨fun i hi=> ?_,fun hl i hi=> ?_⟩
 ·unfold wd;rw [h];simp only
  by_cases h0:i=0
  ·rw [if_pos (by omega),if_pos h0]
  ·rw [if_neg (by omega),if_neg h0]
 ·unfold wd;rw [h];simp only
  rw [if_neg (by omega)]
theorem emG_ok' (h:RgS D l0 n f) (hk:k<n) {g:Nat} (he:emG D l0 f k=some g):0≤(f k).1∧(f k).1<5∧(f k).2.2=false∧g≠0∧g<65536:=by
 have hc:=h.cls hk
 unfold emG at he
 by_cases h1:(f k).1<0
 ·rw [if_pos h1] at he;cases he
 ·rw [if_neg h1] at he
  by_cases h2:(f k).2.2=true
  ·rw [if_pos h2] at he;cases he
  ·rw [if_neg h2] at he
   have hp:=perS_in (show 0≤(f k).1 by omega) hc.1
   split at he
   ·rename_i h3
    injection he with he
    subst he
    exact ⟨by omega,hc.1,by simpa using h2,mxG_ne h3 (by omega),mxG_lt _⟩
   ·cases he
theorem cl_ok (h:RgS D l0 n f) (c0:0≤c) (c5:c<5) (t0:0≤t) (t8:t<8) (hr:ClRes D l0 n f c t D2 f2 r e):
  (e=4∧r=0∧D2=D∧f2=f∧(∀j,j<n→¬(f j).1<0)∧(∀j,j<n→emG D l0 f j=none))∨
  (e=0∧∃k g,r=((l0+32*k:Nat):Int)∧ClOk D l0 n f c t D2 f2 k g∧RgS D2 l0 n f2∧D2.n=D.n∧D2.exe≤D.exe+210):=by
 have hlt:=h.lt
 rcases hr with ⟨k,hk,hf,hall,hD2,hr⟩|⟨hall,k,g,D1,hk,hem,hnone,hD1,hr⟩|⟨h1,h2,h3,h4,h5,h6⟩
 ·right
  have ha:=h.ag k hk
  have hd:=hd_cls ha.1
  have g6:gX (wd D (l0+32*k) 0)<65536:=by unfold gX;omega
  obtain ⟨g,hg⟩:∃g,g=gX (wd D (l0+32*k) 0):=⟨_,rfl⟩
  rw [←hg] at hD2 hd g6
  have pg:=plan_gen h.on h.gd (l:=l0+32*k) (c:=c) (o:=t) (g:=g) (by omega) c0 c5 t0 t8 hd.2.2.1 g6
  rw [←hD2] at pg
  have pc:=plan_cur (l:=l0+32*k) (c:=c) (o:=t) (g:=g) h.on.off h.on.err (by omega) c0 c5 (by rw [←hD2];exact pg.1.err)
  rw [←hD2] at pc
  have hx:=run_exe 0 (planI (l0+32*k) c t g) D
  rw [←hD2] at hx
  have hl:=plan_len (l0+32*k) c0 c5 t g
  rcases hr with ⟨he,_⟩|⟨_,hf2,hrr,hee⟩
  ·exact absurd pg.1.err he
  ·have w1:=fun l'=>wd_far (l':=l') pc.1
   have ok:ClOk D l0 n f c t D2 f2 k g:=⟨hk,hf2,hd.2.2.1,g6,fun j hj hjk=>(w1 (l0+32*j)).2 (by omega),(w1 0).1,.inl ⟨hf,hall,hg⟩⟩
   refine ⟨hee,k,g,hrr,ok,?_,pg.2.2.1,by omega⟩
   rw [hf2]
   have hs:=pg.2.2.2.2.1
   exact h.upd pg.1 pg.2.1 pg.2.2.1 hk ok.oth ⟨hs.hd,hs.hc,hs.ho⟩ (fun _=>hs) _
 ·right
  have hgk:=emG_ok' h hk hem
  have cg:=clr_gen h.on h.gd (l:=l0+32*k) (g:=g) (by omega) hgk.2.2.2.2
  rw [←hD1] at cg
  have cc:=clr_cur (l:=l0+32*k) (g:=g) h.on.off h.on.err (by omega) (by rw [←hD1];exact cg.1.err)
  rw [←hD1] at cc
  have hx1:=run_exe 0 (clrI (l0+32*k) g) D
  rw [←hD1] at hx1
  have hl1:=clrI_len (l0+32*k) g
  rcases hr with ⟨he,_⟩|⟨_,hD2,hr⟩
  ·exact absurd cg.1.err he
  ·have pg:=plan_gen cg.1 cg.2.1 (l:=l0+32*k) (c:=c) (o:=t) (g:=g) (by rw [cg.2.2.1];omega) c0 c5 t0 t8 hgk.2.2.2.1 hgk.2.2.2.2
   rw [←hD2] at pg
   have pc:=plan_cur (l:=l0+32*k) (c:=c) (o:=t) (g:=g) cg.1.off cg.1.err (by rw [cg.2.2.1];omega) c0 c5 (by rw [←hD2];exact pg.1.err)
   rw [←hD2] at pc
   have hx:=run_exe 0 (planI (l0+32*k) c t g) D1
   rw [←hD2] at hx
   have hl:=plan_len (l0+32*k) c0 c5 t g
   rcases hr with ⟨he,_⟩|⟨_,hf2,hrr,hee⟩
   ·exact absurd pg.1.err he
   ·have w0:=fun l'=>wd_one (l':=l') cc.1
    have w1:=fun l'=>wd_far (l':=l') pc.1
    have ok:ClOk D l0 n f c t D2 f2 k g:=⟨hk,hf2,hgk.2.2.2.1,hgk.2.2.2.2,fun j hj hjk i hi=>by rw [(w1 (l0+32*j)).2 (by omega) i hi,(w0 (l0+32*j)).2 (by omega) i hi],fun i hi=>by
     rw [(w1 0).1 i hi]
     unfold planF
     by_cases h0:i=0
     ·rw [if_pos h0,if_pos h0]
     ·rw [if_neg h0,if_neg h0,(w0 0).1 i hi,if_neg h0],.inr ⟨hall,hem,hnone⟩⟩
    refine ⟨hee,k,g,hrr,ok,?_,pg.2.2.1.trans cg.2.2.1,by omega⟩
    rw [hf2]
    have hs:=pg.2.2.2.2.1
    exact h.upd pg.1 pg.2.1 (pg.2.2.1.trans cg.2.2.1) hk ok.oth ⟨hs.hd,hs.hc,hs.ho⟩ (fun _=>hs) _
 ·exact .inl ⟨h6,h5,h3,h4,h1,h2⟩
end
end Go.Proofs.YtifpinhjpbgnoaaGreatDoor
namespace Go.Proofs.YtifpinhjpbgnoaaGreatDoor
open Go Go.Sh
set_option maxRecDepth 100000
set_option linter.unusedVariables false
def f8_t (K:K1) (w:World):Prop:=
 callS Tryz.prog 9 (pA #[(.int .i64 2)]) w fun t13 w_1=>
 ev Tryz.prog (Instr.extract t13 0) w_1 fun t14 w_2=>
 ev Tryz.prog (Instr.extract t13 1) w_2 fun t15 w_3=>
 ev Tryz.prog (Instr.extract t13 2) w_3 fun t16 w_4=>
 ev Tryz.prog (binM .eql 26 (.tmp 17) (.const (.pointer none)) t16 (.pointer none)) w_4 fun t18 w_5=>
 cndS t18 (
 K (.bool false) w_5) (
 callS Tryz.prog 22 (pA #[t16,(.int .i64 3),(.int .i64 0)]) w_5 fun t21 w_6=>
 ev Tryz.prog (Instr.extract t21 0) w_6 fun t22 w_7=>
 ev Tryz.prog (Instr.extract t21 1) w_7 fun t23 w_8=>
 callS Tryz.prog 22 (pA #[t16,(.int .i64 5),(.int .i64 0)]) w_8 fun t26 w_9=>
 ev Tryz.prog (Instr.extract t26 0) w_9 fun t27 w_10=>
 ev Tryz.prog (Instr.extract t26 1) w_10 fun t28 w_11=>
 callS Tryz.prog 37 (pA #[t16,(.int .i64 3)]) w_11 fun t30 w_12=>
 callS Tryz.prog 29 (pA #[t16]) w_12 fun t32 w_13=>
 callS Tryz.prog 22 (pA #[t16,(.int .i64 3),(.int .i64 1)]) w_13 fun t35 w_14=>
 ev Tryz.prog (Instr.extract t35 0) w_14 fun t36 w_15=>
 ev Tryz.prog (Instr.extract t35 1) w_15 fun t37 w_16=>
 ev Tryz.prog (binM .eql 43 (.tmp 38) (.const (.int .i64 0)) t23 (.int .i64 0)) w_16 fun t39 w_17=>
 gd t39 true (fun k=>k t28 w_17) w_17 fun t41 w_18=>
 gd t39 true (fun k=>ev Tryz.prog (binM .eql 43 (.tmp 41) (.const (.int .i64 0)) t41 (.int .i64 0)) w_18 k) w_18 fun t42 w_19=>
 pickS t39 t42 (.bool false) w_19 fun t43 w_20=>
 gd t43 true (fun k=>k t37 w_20) w_20 fun t45 w_21=>
 gd t43 true (fun k=>ev Tryz.prog (binM .eql 43 (.tmp 45) (.const (.int .i64 0)) t45 (.int .i64 0)) w_21 k) w_21 fun t46 w_22=>
 pickS t43 t46 (.bool false) w_22 fun t47 w_23=>
 gd t47 true (fun k=>k t22 w_23) w_23 fun t49 w_24=>
 gd t47 true (fun k=>ev Tryz.prog (binM .eql 3 (.tmp 49) (.const (.int .i64 3)) t49 (.int .i64 3)) w_24 k) w_24 fun t50 w_25=>
 pickS t47 t50 (.bool false) w_25 fun t51 w_26=>
 gd t51 true (fun k=>k t27 w_26) w_26 fun t53 w_27=>
 gd t51 true (fun k=>ev Tryz.prog (binM .eql 3 (.tmp 53) (.const (.int .i64 35)) t53 (.int .i64 35)) w_27 k) w_27 fun t54 w_28=>
 pickS t51 t54 (.bool false) w_28 fun t55 w_29=>
 gd t55 true (fun k=>k t30 w_29) w_29 fun t57 w_30=>
 gd t55 true (fun k=>ev Tryz.prog (binM .eql 3 (.tmp 57) (.const (.int .i64 3)) t57 (.int .i64 3)) w_30 k) w_30 fun t58 w_31=>
 pickS t55 t58 (.bool false) w_31 fun t59 w_32=>
 gd t59 true (fun k=>k t32 w_32) w_32 fun t61 w_33=>
 gd t59 true (fun k=>ev Tryz.prog (binM .eql 3 (.tmp 61) (.const (.int .i64 0)) t61 (.int .i64 0)) w_33 k) w_33 fun t62 w_34=>
 pickS t59 t62 (.bool false) w_34 fun t63 w_35=>
 gd t63 true (fun k=>k t36 w_35) w_35 fun t65 w_36=>
 gd t63 true (fun k=>ev Tryz.prog (binM .eql 3 (.tmp 65) (.const (.int .i64 3)) t65 (.int .i64 3)) w_36 k) w_36 fun t66 w_37=>
 pickS t63 t66 (.bool false) w_37 fun t67 w_38=>
 K t67 w_38)
theorem f8_call (K:K1) (w:World) (h:f8_t K w):callS Tryz.prog 8 #[] w K:=
 call_of_txt (args:= []) mixed Tryz.func8 .o (by kernel_rfl) (cast (by kernel_rfl) h)
def f9_t (x0:Value) (K:K1) (w:World):Prop:=
 ev Tryz.prog (binM .mul 3 (.const (.int .i64 32)) (.tmp 10) (.int .i64 32) x0) w fun t11 w_1=>
 ev Tryz.prog (binM .add 3 (.tmp 11) (.const (.int .i64 5)) t11 (.int .i64 5)) w_1 fun t12 w_2=>
 callS Tryz.prog 38 (pA #[t12]) w_2 fun t13 w_3=>
 ev Tryz.prog (Instr.extract t13 0) w_3 fun t14 w_4=>
 ev Tryz.prog (Instr.extract t13 1) w_4 fun t15 w_5=>
 ev Tryz.prog (binM .neq 43 (.tmp 16) (.const (.int .i64 0)) t15 (.int .i64 0)) w_5 fun t17 w_6=>
 gd t17 false (fun k=>k t14 w_6) w_6 fun t19 w_7=>
 gd t17 false (fun k=>ev Tryz.prog (binM .eql 24 (.tmp 19) (.const (.pointer none)) t19 (.pointer none)) w_7 k) w_7 fun t20 w_8=>
 pickS t17 (.bool true) t20 w_8 fun t21 w_9=>
 gd t21 false (fun k=>k t14 w_9) w_9 fun t23 w_10=>
 gd t21 false (fun k=>callS Tryz.prog 21 (pA #[t23,(.int .i64 0)]) w_10 k) w_10 fun t24 w_11=>
 gd t21 false (fun k=>ev Tryz.prog (binM .eql 25 (.tmp 24) (.const (.pointer none)) t24 (.pointer none)) w_11 k) w_11 fun t25 w_12=>
 pickS t21 (.bool true) t25 w_12 fun t26 w_13=>
 cndS t26 (
 K (.tuple #[(.pointer none),(.pointer none),(.pointer none)]) w_13) (
 callS Tryz.prog 21 (pA #[t14,(.int .i64 0)]) w_13 fun t28 w_14=>
 ev Tryz.prog (Instr.makeInterface 25 t28) w_14 fun t30 w_15=>
 ev Tryz.prog (binM .mul 3 (.const (.int .i64 32)) (.tmp 31) (.int .i64 32) x0) w_15 fun t32 w_16=>
 ev Tryz.prog (binM .add 3 (.tmp 32) (.const (.int .i64 1)) t32 (.int .i64 1)) w_16 fun t33 w_17=>
 callS Tryz.prog 39 (pA #[t30,(.int .i64 3),t33]) w_17 fun t34 w_18=>
 ev Tryz.prog (binM .neq 43 (.tmp 34) (.const (.int .i64 0)) t34 (.int .i64 0)) w_18 fun t35 w_19=>
 cndS t35 (
 K (.tuple #[(.pointer none),(.pointer none),(.pointer none)]) w_19) (
 ev Tryz.prog (Instr.makeInterface 25 t28) w_19 fun t38 w_20=>
 ev Tryz.prog (binM .mul 3 (.const (.int .i64 32)) (.tmp 39) (.int .i64 32) x0) w_20 fun t40 w_21=>
 ev Tryz.prog (binM .add 3 (.tmp 40) (.const (.int .i64 1)) t40 (.int .i64 1)) w_21 fun t41 w_22=>
 callS Tryz.prog 14 (pA #[t38,(.int .i64 3),t41]) w_22 fun t42 w_23=>
 ev Tryz.prog (Instr.extract t42 0) w_23 fun t43 w_24=>
 ev Tryz.prog (Instr.extract t42 1) w_24 fun t44 w_25=>
 ev Tryz.prog (binM .neq 43 (.tmp 45) (.const (.int .i64 0)) t44 (.int .i64 0)) w_25 fun t46 w_26=>
 cndS t46 (
 K (.tuple #[(.pointer none),(.pointer none),(.pointer none)]) w_26) (
 K (.tuple #[t14,t28,t43]) w_26)))
theorem f9_call (x0:Value) (K:K1) (w:World) (h:f9_t x0 K w):callS Tryz.prog 9 #[x0] w K:=
 call_of_txt (args:= [x0]) mixed Tryz.func9 .o (by kernel_rfl) (cast (by kernel_rfl) h)
end Go.Proofs.YtifpinhjpbgnoaaGreatDoor
namespace Go.Proofs.YtifpinhjpbgnoaaGreatDoor
open Go Go.Sh
set_option maxRecDepth 100000
set_option maxHeartbeats 4000000
set_option linter.unusedSimpArgs false
set_option linter.unusedVariables false
def bgD (n:Nat):DS:=fmtD (DS.zero (32*n+5)) 3 n
def bgF (_:Nat):Int×Int×Bool:=(-1,-1,false)
section
variable {w0 w w':World} {Y:Lay} {D D2:DS} {S b o cp l0 n k g:Nat} {f f2:Nat→Int×Int×Bool} {c t:Int}
theorem ArS.fcongr (h:ArS w0 w Y D S b o cp l0 n f) (e:∀k,k<n→f k=f2 k):ArS w0 w Y D S b o cp l0 n f2:=⟨h.L,h.gl,h.st,by have:=h.pl;rwa [plL_congr e] at this,h.nS,h.nb,h.n0,h.lt⟩
theorem fmt_wd (on:On D) (gd:Good D) (hl:l0+32*n≤D.n):∀m,m≤n→∀k,k<n→∀i,i<256→wd (fmtD D l0 m) (l0+32*k) i=if i=0∧k<m then sealN (hdX (-1) (-1) 1) else wd D (l0+32*k) i
 |0,_,k,hk,i,hi=>by rw [if_neg (by omega)];rfl
 |m+1,hm,k,hk,i,hi=>by
  obtain ⟨h1,h2,h3,h4⟩:=fmtD_ok on gd hl m (by omega)
  have ih:=fmt_wd on gd hl m (by omega) k hk i hi
  have cg:=clr_gen h1 h2 (l:=l0+32*m) (g:=1) (by omega) (by omega)
  have cc:=clr_cur (l:=l0+32*m) (g:=1) h1.off h1.err (by omega) cg.1.err
  have w1:=fun l'=>wd_one (l':=l') cc.1
  show wd ((fmtD D l0 m).run 0 (clrI (l0+32*m) 1)) (l0+32*k) i=_
  by_cases e:k=m
  ·subst e
   rw [(w1 0).1 i hi,ih]
   by_cases h0:i=0
   ·rw [if_pos h0,if_pos (by omega)]
   ·rw [if_neg h0,if_neg (by omega),if_neg (by omega)]
  ·rw [(w1 (l0+32*k)).2 (by omega) i hi,ih]
   by_cases h0:i=0∧k<m
   ·rw [if_pos h0,if_pos (by omega)]
   ·rw [if_neg h0,if_neg (by omega)]
theorem wd_zero (n l i:Nat):wd (DS.zero n) l i=0:=by
 unfold wd
 show (List.replicate (8*n) 0).getD _ 0=0
 rw [List.getD_eq_getElem?_getD,List.getElem?_replicate]
 split<;>rfl
theorem bg_ok (h0:0<n) (h5:n≤5):RgS (bgD n) 3 n bgF∧(bgD n).n=32*n+5∧(bgD n).exe≤15∧∀k,k<n→∀i,i<256→wd (bgD n) (3+32*k) i=if i=0 then sealN (hdX (-1) (-1) 1) else 0:=by
 have zn:(DS.zero (32*n+5)).n=32*n+5:=rfl
 have hlt:3+32*n≤(DS.zero (32*n+5)).n:=by rw [zn];omega
 obtain ⟨h1,h2,h3,h4⟩:=fmtD_ok (On.zero (32*n+5)) (Good.zero (32*n+5) (by omega) (by omega)) hlt n (Nat.le_refl _)
 have hw:∀k,k<n→∀i,i<256→wd (bgD n) (3+32*k) i=if i=0 then sealN (hdX (-1) (-1) 1) else 0:=fun k hk i hi=>by
  have:=fmt_wd (On.zero (32*n+5)) (Good.zero (32*n+5) (by omega) (by omega)) hlt n (Nat.le_refl _) k hk i hi
  unfold bgD
  rw [this,wd_zero]
  by_cases e:i=0
  ·rw [if_pos ⟨e,hk⟩,if_pos e]
  ·rw [if_neg (by omega),if_neg e]
 have hfr:=hd_free (g:=1) (by omega) (by omega)
 have hx:(DS.zero (32*n+5)).exe=0:=rfl
 refine ⟨⟨h1,h2,by unfold bgD;rw [h3];exact hlt,fun k hk=> ?_,fun k hk hh=> ?_⟩,by unfold bgD;rw [h3,zn],by unfold bgD;omega,hw⟩
 ·rw [hw k hk 0 (by omega),if_pos rfl]
  exact ⟨hfr.1,hfr.2.1.symm,hfr.2.2.1.symm⟩
 ·exact absurd (show (0:Int)≤-1 from hh) (by decide)
theorem k_begin22 (hG:Glob w) (h0:0<n) (h5:n≤5) (K:K1) (hK:∀w' Y S b o cp,ArS w w' Y (bgD n) S b o cp 3 n bgF→K (.tuple #[.pointer (some ⟨Y.d,0,none⟩),.pointer (some ⟨Y.tb 0,0,none⟩),stV S]) w'):
  callS Tryz.prog 9 #[.int .i64 (n:Int)] w K:=by
 have e0:(32:Int)*(n:Int)+5=((32*n+5:Nat):Int):=by omega
 have e1:(32:Int)*(n:Int)+1=((32*n+1:Nat):Int):=by omega
 have zn:(DS.zero (32*n+5)).n=32*n+5:=rfl
 have zx:(DS.zero (32*n+5)).exe=0:=rfl
 have hz:=On.zero (32*n+5)
 have hgz:=Good.zero (32*n+5) (by omega) (by omega)
 obtain ⟨hb,hbn,hbx,hbw⟩:=bg_ok h0 h5
 have hq:(32*n+1)/32=n:=by omega
 refine f9_call _ _ _ ?_
 unfold f9_t
 simp (disch:=first|omega|simp only [RO]|(simp only [RZ]<;>omega)|fail) only [↓RBp,↓RA,↓reduceIte,Nat.reduceAdd,Nat.reduceMul,Nat.reduceEqDiff,RB,RX,RA2,e0,e1]
 refine k_New (32*n+5) (by omega) (by omega) _ (fun w1 Y he hd hF hdt=> ?_)
 have hT:∀(w2:World) (K:K1),Ext w1 w2→callS Tryz.prog 21 #[.pointer (some ⟨Y.d,0,none⟩),.int .i64 0] w2 K=K (.pointer (some ⟨Y.tb 0,0,none⟩)) w2:=fun w2 K e=>by rw [←hdt];exact c_Thread (hd.ext e) 0 (by omega) K
 simp (disch:=first|omega|simp only [RO]|(simp only [RZ]<;>omega)|(with_reducible (repeat (first|assumption|exact Ext.refl _|refine Ext.alloc ?_ _|refine Ext.drew ?_|refine Ext.trans ?_ (by assumption))))|fail) only [↓RBp,↓RA,↓reduceIte,Nat.reduceAdd,Nat.reduceMul,Nat.reduceEqDiff,RB,RX,RA2,hT,e0,e1]
 have L1:Lv w w1 Y (DS.zero (32*n+5)):=⟨hd,hgz,he.trans (by repeat (first|(with_reducible first|refine eB ?_ (by first|omega|(simp only [RZ]<;>omega)) _|assumption|exact eR _|refine eA ?_ _|refine eD ?_|refine eT ?_ (by assumption))|exact eR _)),hF⟩
 refine k_AFormat (l0:=3) (q:=32*n+1) L1 hG hz hgz (by omega) (by omega) (by omega) _ (fun w2 Y2 st=> ?_)
 rw [hq] at st
 have L2:Lv w w2 Y2 (bgD n):=L1.step st hb.gd
 have tb:=st.tb
 have dd:=st.d
 rw [←tb,←dd]
 simp (disch:=first|omega|simp only [RO]|(simp only [RZ]<;>omega)|(with_reducible (repeat (first|assumption|exact Ext.refl _|refine Ext.alloc ?_ _|refine Ext.drew ?_|refine Ext.trans ?_ (by assumption))))|fail) only [↓RBp,↓RA,↓reduceIte,Nat.reduceAdd,Nat.reduceMul,Nat.reduceEqDiff,RB,RX,RA2,e1]
 refine k_AOpen (l0:=3) (q:=32*n+1) (n:=n) L2 hG hb.on.off hb.on.err (by omega) (by omega) hq _ (fun hn=>absurd (fun k hk=>(hb.ag k hk).1) hn) (fun _ S b o cp w3 e3 _ _ h3=> ?_)
 simp (disch:=first|omega|simp only [RO]|(simp only [RZ]<;>omega)|fail) only [↓RBp,↓RA,↓reduceIte,Nat.reduceAdd,Nat.reduceMul,Nat.reduceEqDiff,RB,RX,RA2]
 refine hK _ Y2 S b o cp (h3.fcongr (fun k hk=> ?_))
 have:=hb.ag k hk
 unfold opF
 rw [←this.2.1,←this.2.2];rfl
theorem ClOk.al (h:ClOk D l0 n f c t D2 f2 k g) (c0:0≤c) (c5:c<5):alF D2 (l0+32*k) c (perS c).toNat=true:=by
 refine alF_of (fun i hi=> ?_)
 have hp:=perS_in c0 c5
 have hi':(i:Int)<perS c:=by omega
 have bd:=offN_bd c0 c5 hi'
 have h1:=h.own (offN c i) bd.2.2
 have h2:=h.own 1 (by omega)
 have e1:planF c t g (wd D (l0+32*k)) (offN c i)=sealN (blkX g 0 176):=by
  unfold planF;rw [if_neg (by omega),if_pos (isB_mem.2 ⟨i,hi,rfl⟩)]
 have e2:planF c t g (wd D (l0+32*k)) 1=0:=by
  unfold planF
  rw [if_neg (by omega),if_neg,if_pos (by omega)]
  intro hb
  obtain ⟨q,hq,he⟩:=isB_mem.1 hb
  have:=offN_bd c0 c5 (show (q:Int)<perS c by omega)
  omega
 unfold okF
 rw [h1,h2,e1,e2,isS_blk h.g6 (by omega) (by omega),bit0,bS_blk h.g6 (by omega) (by omega),bG_blk h.g6 (by omega) (by omega)]
 have:=h.g0
 simp [this]
theorem k_awake22 (hG:Glob w) (K:K1) (hK:∀w',Ext w w'→K (.bool true) w'):
  callS Tryz.prog 8 #[] w K:=by
 obtain ⟨hb,hbn,hbx,hbw⟩:=bg_ok (n:=2) (by omega) (by omega)
 refine f8_call _ _ ?_
 unfold f8_t
 simp (disch:=first|omega|simp only [RO]|(simp only [RZ]<;>omega)|fail) only [↓RBp,↓RA,↓reduceIte,Nat.reduceAdd,Nat.reduceMul,Nat.reduceEqDiff,RB,RX,RA2]
 refine k_begin22 (n:=2) hG (by omega) (by omega) _ (fun w1 Y1 S b o cp h1=> ?_)
 have ow:∀D2 f2 r e c t,ClRes (bgD 2) 3 2 bgF c t D2 f2 r e→True:=fun _ _ _ _ _ _ _=>trivial
 simp (disch:=first|omega|simp only [RO]|(simp only [RZ]<;>omega)|fail) only [↓RBp,↓RA,↓reduceIte,Nat.reduceAdd,Nat.reduceMul,Nat.reduceEqDiff,RB,RX,RA2]
 refine k_Claim h1 hb.ag hb.on.off hb.on.err (by omega) (by omega) (by omega) (by omega) (by omega) _ (fun D2 f2 r2 e2 hr2 w2 Y2 a2 h2=> ?_)
 rcases cl_ok hb (by omega) (by omega) (by omega) (by omega) hr2 with ⟨_,_,_,_,hn,_⟩|⟨rfl,k2,g2,rfl,ok2,rg2,n2,x2⟩
 ·exact absurd (show (bgF 0).1<0 by decide) (hn 0 (by omega))
 have k20:k2=0:=by
  rcases ok2.how with ⟨_,h,_⟩|⟨h,_⟩
  ·rcases Nat.eq_zero_or_pos k2 with h3|h3
   ·exact h3
   ·exact absurd (show (bgF 0).1<0 by decide) (h 0 h3)
  ·exact absurd (show (bgF 0).1<0 by decide) (h 0 (by omega))
 subst k20
 have f20:f2 0=(0,3,false):=by rw [ok2.fe,upF_eq];rfl
 have f21:f2 1=(-1,-1,false):=by rw [ok2.fe,upF_ne _ _ (by omega)];rfl
 simp (disch:=first|omega|simp only [RO]|(simp only [RZ]<;>omega)|fail) only [↓RBp,↓RA,↓reduceIte,Nat.reduceAdd,Nat.reduceMul,Nat.reduceEqDiff,RB,RX,RA2]
 refine k_Claim h2 rg2.ag rg2.on.off rg2.on.err (by omega) (by omega) (by omega) (by omega) (by omega) _ (fun D3 f3 r3 e3 hr3 w3 Y3 a3 h3=> ?_)
 rcases cl_ok rg2 (by omega) (by omega) (by omega) (by omega) hr3 with ⟨_,_,_,_,hn,_⟩|⟨rfl,k3,g3,rfl,ok3,rg3,n3,x3⟩
 ·exact absurd (show (f2 1).1<0 by rw [f21];decide) (hn 1 (by omega))
 have k31:k3=1:=by
  have:=ok3.kn
  rcases ok3.how with ⟨h,_,_⟩|⟨h,_⟩
  ·by_cases h0:k3=0
   ·subst h0;rw [f20] at h;exact absurd h (by decide)
   ·omega
  ·exact absurd (show (f2 1).1<0 by rw [f21];decide) (h 1 (by omega))
 subst k31
 have f30:f3 0=(0,3,false):=by rw [ok3.fe,upF_ne _ _ (by omega)];exact f20
 have f31:f3 1=(0,5,false):=by rw [ok3.fe,upF_eq,f21]
 have fr3:frC f3 2=0:=by simp [frC,f30,f31]
 simp (disch:=first|omega|simp only [RO]|(simp only [RZ]<;>omega)|fail) only [↓RBp,↓RA,↓reduceIte,Nat.reduceAdd,Nat.reduceMul,Nat.reduceEqDiff,RB,RX,RA2]
 refine k_OwnerAt (k:=0) h3 (by omega) _ (fun w4 e4=> ?_)
 have h4:=h3.ext e4
 rw [f30]
 simp (disch:=first|omega|simp only [RO]|(simp only [RZ]<;>omega)|fail) only [↓RBp,↓RA,↓reduceIte,Nat.reduceAdd,Nat.reduceMul,Nat.reduceEqDiff,RB,RX,RA2]
 refine k_FreeChunks h4 _ (fun w5 e5=> ?_)
 have h5:=h4.ext e5
 rw [fr3]
 simp (disch:=first|omega|simp only [RO]|(simp only [RZ]<;>omega)|fail) only [↓RBp,↓RA,↓reduceIte,Nat.reduceAdd,Nat.reduceMul,Nat.reduceEqDiff,RB,RX,RA2]
 refine k_Claim h5 rg3.ag rg3.on.off rg3.on.err (by omega) (by omega) (by omega) (by omega) (by omega) _ (fun D6 f6 r6 e6 hr6 w6 Y6 a6 h6=> ?_)
 have al:=ok2.al (by omega) (by omega)
 have hp:=perS_in (c:=0) (by omega) (by omega)
 have al3:=(alF_congr (D:=D2) (D':=D3) (l:=3+32*0) (c:=0) (ok3.oth 0 (by omega) (by omega)) (by omega) (by omega) (perS 0).toNat (by omega)).1
 rw [al] at al3
 have em:emG D3 3 f3 0≠none:=by
  unfold emG
  rw [f30,if_neg (by decide),if_neg (by decide),if_pos al3]
  intro h;cases h
 rcases cl_ok rg3 (by omega) (by omega) (by omega) (by omega) hr6 with ⟨_,_,_,_,_,hn⟩|⟨rfl,k6,g6,rfl,ok6,rg6,n6,x6⟩
 ·exact absurd (hn 0 (by omega)) em
 have k60:k6=0:=by
  have:=ok6.kn
  rcases ok6.how with ⟨h,_,_⟩|⟨_,_,h⟩
  ·exfalso
   by_cases h0:k6=0
   ·subst h0;rw [f30] at h;exact absurd h (by decide)
   ·have:k6=1:=by omega
    subst this;rw [f31] at h;exact absurd h (by decide)
  ·rcases Nat.eq_zero_or_pos k6 with h3|h3
   ·exact h3
   ·exact absurd (h 0 h3) em
 subst k60
 simp (disch:=first|omega|simp only [RO]|(simp only [RZ]<;>omega)|fail) only [↓RBp,↓RA,↓reduceIte,Nat.reduceAdd,Nat.reduceMul,Nat.reduceEqDiff,RB,RX,RA2]
 exact hK _ h6.L.ex
end
end Go.Proofs.YtifpinhjpbgnoaaGreatDoor
