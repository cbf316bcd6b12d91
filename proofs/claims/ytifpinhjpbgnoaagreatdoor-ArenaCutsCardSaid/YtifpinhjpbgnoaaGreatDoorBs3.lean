/-
  Part 3 of what the proofs of this seat share.
-/
import Derived.Test.YtifpinhjpbgnoaaGreatDoorBs1
import Derived.Test.YtifpinhjpbgnoaaGreatDoorBs2
import Derived.Laws.StructEq
set_option linter.unusedSimpArgs false
set_option linter.unusedVariables false
set_option maxHeartbeats 4000000
set_option maxRecDepth 100000
open Go.Proofs.Tryz (prog)
open Go.RowKit (intOf)
namespace Go.Proofs.YtifpinhjpbgnoaaGreatDoor
open Go Go.Sh
def f11_t (x0 x1 x2:Value) (K:K1) (w:World):Prop:=
 ev prog (binM .eql 25 (.tmp 6) (.const (.pointer none)) x0 (.pointer none)) w fun t7 w=>
 gd t7 false (fun k=>k x0 w) w fun t9 w=>
 gd t7 false (fun k=>nilS prog t9 w k) w fun t10 w=>
 gd t7 false (fun k=>ev prog (Instr.fieldAt 99 t10 0) w k) w fun t11 w=>
 gd t7 false (fun k=>ldS prog 24 t11 w k) w fun t12 w=>
 gd t7 false (fun k=>ev prog (binM .eql 24 (.tmp 12) (.const (.pointer none)) t12 (.pointer none)) w k) w fun t13 w=>
 pickS t7 (.bool true) t13 w fun t14 w=>
 gd t14 false (fun k=>k x0 w) w fun t16 w=>
 gd t14 false (fun k=>k x0 w) w fun t17 w=>
 gd t14 false (fun k=>k x1 w) w fun t18 w=>
 gd t14 false (fun k=>callS prog 42 (pA #[t17,t18]) w k) w fun t19 w=>
 gd t14 false (fun k=>callS prog 41 (pA #[t16,t19]) w k) w fun t20 w=>
 gd t14 false (fun k=>ev prog (Op.unary .not t20) w k) w fun t21 w=>
 pickS t14 (.bool true) t21 w fun t22 w=>
 cndS t22 (
 K (.tuple #[]) w) (
 callS prog 43 (pA #[x0,x1,x2]) w fun t26 w=>
 K (.tuple #[]) w)
theorem f11_call (x0 x1 x2:Value) (K:K1) (w:World) (h:f11_t x0 x1 x2 K w):callS prog 11 #[x0,x1,x2] w K:=
 call_of_txt (args:= [x0,x1,x2]) mixed Tryz.func11 .o (by kernel_rfl) (cast (by kernel_rfl) h)
def f19_t (x0:Value) (K:K1) (w:World):Prop:=
 ev prog (binM .eql 25 (.tmp 3) (.const (.pointer none)) x0 (.pointer none)) w fun t4 w=>
 gd t4 false (fun k=>k x0 w) w fun t6 w=>
 gd t4 false (fun k=>nilS prog t6 w k) w fun t7 w=>
 gd t4 false (fun k=>ev prog (Instr.fieldAt 99 t7 0) w k) w fun t8 w=>
 gd t4 false (fun k=>ldS prog 24 t8 w k) w fun t9 w=>
 gd t4 false (fun k=>ev prog (binM .eql 24 (.tmp 9) (.const (.pointer none)) t9 (.pointer none)) w k) w fun t10 w=>
 pickS t4 (.bool true) t10 w fun t11 w=>
 cndS t11 (
 K (.int .i64 1) w) (
 nilS prog x0 w fun t13 w=>
 ev prog (Instr.fieldAt 99 t13 2) w fun t14 w=>
 ldS prog 43 t14 w fun t15 w=>
 K t15 w)
theorem f19_call (x0:Value) (K:K1) (w:World) (h:f19_t x0 K w):callS prog 19 #[x0] w K:=
 call_of_txt (args:= [x0]) mixed Tryz.func19 .o (by kernel_rfl) (cast (by kernel_rfl) h)
def f20_t (x0 x1:Value) (K:K1) (w:World):Prop:=
 ev prog (binM .eql 24 (.tmp 7) (.const (.pointer none)) x0 (.pointer none)) w fun t8 w=>
 cndS t8 (
 K (.pointer none) w) (
 callS prog 58 (pA #[x0,x1]) w fun t12 w=>
 callS prog 57 (pA #[t12]) w fun t13 w=>
 ev prog (Instr.extract t13 0) w fun t14 w=>
 ev prog (Instr.extract t13 1) w fun t15 w=>
 ev prog (binM .neq 43 (.tmp 16) (.const (.int .i64 0)) t15 (.int .i64 0)) w fun t17 w=>
 cndS t17 (
 K (.pointer none) w) (
 K t14 w))
theorem f20_call (x0 x1:Value) (K:K1) (w:World) (h:f20_t x0 x1 K w):callS prog 20 #[x0,x1] w K:=
 call_of_txt (args:= [x0,x1]) mixed Tryz.func20 .o (by kernel_rfl) (cast (by kernel_rfl) h)
def f21_t (x0 x1:Value) (K:K1) (w:World):Prop:=
 ev prog (binM .eql 24 (.tmp 5) (.const (.pointer none)) x0 (.pointer none)) w fun t6 w=>
 gd t6 false (fun k=>k x1 w) w fun t8 w=>
 gd t6 false (fun k=>ev prog (binM .lss 3 (.tmp 8) (.const (.int .i64 0)) t8 (.int .i64 0)) w k) w fun t9 w=>
 pickS t6 (.bool true) t9 w fun t10 w=>
 gd t10 false (fun k=>k x1 w) w fun t12 w=>
 gd t10 false (fun k=>ev prog (binM .geq 3 (.tmp 12) (.const (.int .i64 8)) t12 (.int .i64 8)) w k) w fun t13 w=>
 pickS t10 (.bool true) t13 w fun t14 w=>
 cndS t14 (
 K (.pointer none) w) (
 nilS prog x0 w fun t17 w=>
 ev prog (Instr.fieldAt 127 t17 3) w fun t18 w=>
 ev prog (Instr.indexAt 125 t18 x1) w fun t19 w=>
 ldS prog 25 t19 w fun t20 w=>
 K t20 w)
theorem f21_call (x0 x1:Value) (K:K1) (w:World) (h:f21_t x0 x1 K w):callS prog 21 #[x0,x1] w K:=
 call_of_txt (args:= [x0,x1]) mixed Tryz.func21 .o (by kernel_rfl) (cast (by kernel_rfl) h)
def f34_t (x0 x1:Value) (K:K1) (w:World):Prop:=
 ev prog (binM .eql 24 (.tmp 4) (.const (.pointer none)) x0 (.pointer none)) w fun t5 w=>
 gd t5 false (fun k=>k x0 w) w fun t7 w=>
 gd t5 false (fun k=>nilS prog t7 w k) w fun t8 w=>
 gd t5 false (fun k=>ev prog (Instr.fieldAt 127 t8 4) w k) w fun t9 w=>
 gd t5 false (fun k=>ldS prog 4 t9 w k) w fun t10 w=>
 pickS t5 (.bool true) t10 w fun t11 w=>
 cndS t11 (
 K (.tuple #[]) w) (
 ev prog (binM .geq 3 (.tmp 13) (.const (.int .i64 0)) x1 (.int .i64 0)) w fun t14 w=>
 nilS prog x0 w fun t15 w=>
 ev prog (Instr.fieldAt 127 t15 5) w fun t16 w=>
 stS prog 4 t16 t14 w fun w=>
 bltS prog .max #[3,3] 3 #[false,true] #[x1,(.int .i64 0)] w fun t19 w=>
 nilS prog x0 w fun t20 w=>
 ev prog (Instr.fieldAt 127 t20 6) w fun t21 w=>
 stS prog 3 t21 t19 w fun w=>
 K (.tuple #[]) w)
theorem f34_call (x0 x1:Value) (K:K1) (w:World) (h:f34_t x0 x1 K w):callS prog 34 #[x0,x1] w K:=
 call_of_txt (args:= [x0,x1]) mixed Tryz.func34 .o (by kernel_rfl) (cast (by kernel_rfl) h)
def f38_t (x0:Value) (K:K1) (w:World):Prop:=
 ev prog (binM .lss 3 (.tmp 4) (.const (.int .i64 1)) x0 (.int .i64 1)) w fun t5 w=>
 gd t5 false (fun k=>k x0 w) w fun t7 w=>
 gd t5 false (fun k=>ev prog (binM .gtr 3 (.tmp 7) (.const (.int .i64 4096)) t7 (.int .i64 4096)) w k) w fun t8 w=>
 pickS t5 (.bool true) t8 w fun t9 w=>
 cndS t9 (
 K (.tuple #[(.pointer none),(.int .i64 1)]) w) (
 ev prog (binM .mul 3 (.tmp 10) (.const (.int .i64 8)) x0 (.int .i64 8)) w fun t11 w=>
 ev prog (Instr.makeSlice 39 t11 t11) w fun t12 w=>
 callS prog 81 (pA #[t12]) w fun t13 w=>
 K (.tuple #[t13,(.int .i64 0)]) w)
theorem f38_call (x0:Value) (K:K1) (w:World) (h:f38_t x0 K w):callS prog 38 #[x0] w K:=
 call_of_txt (args:= [x0]) mixed Tryz.func38 .o (by kernel_rfl) (cast (by kernel_rfl) h)
noncomputable def f41_u:Code×Dec:=((Tryz.f41.body).getD .skip,(.s .o (.s .o (.s .o (.x 32 .o .o)))))
abbrev f41_e (K:K1):KF:=endK prog Tryz.f41.results.toList K
def f41_k1_o (K:K1):KF:=fun fr w=>∀σ,cP (pr (pr (pr (pr f41_u)))) (f41_e K) (f41_e K) nX (mixF 32 σ 0 fr) w
def f41_k1 (K:K1) (x5:Value) (w:World):Prop:=f41_k1_o K (fz 42 0 [(5,x5)]) w
def f41_k1_t (x5:Value) (K:K1) (w:World):Prop:=
 nilS prog x5 w fun t36 w=>
 ev prog (Instr.fieldAt 127 t36 7) w fun t37 w=>
 ldS prog 30 t37 w fun t38 w=>
 ev prog (binM .add 30 (.tmp 38) (.const (.int .u64 ((1:Nat):Int))) t38 (.int .u64 ((1:Nat):Int))) w fun t39 w=>
 nilS prog x5 w fun t40 w=>
 ev prog (Instr.fieldAt 127 t40 7) w fun t41 w=>
 stS prog 30 t41 t39 w fun w=>
 K (.bool true) w
theorem f41_k1_eq (K:K1) (x5:Value) (w:World):f41_k1 K x5 w=f41_k1_t x5 K w:=cutE fun σ=>by kernel_rfl
def f41_t (x0 x1:Value) (K:K1) (w:World):Prop:=
 callS prog 83 (pA #[x0,x1]) w fun t8 w=>
 ev prog (Op.unary .not t8) w fun t9 w=>
 cndS t9 (
 K (.bool false) w) (
 nilS prog x0 w fun t11 w=>
 ev prog (Instr.fieldAt 99 t11 0) w fun t12 w=>
 ldS prog 24 t12 w fun t13 w=>
 nilS prog t13 w fun t15 w=>
 ev prog (Instr.fieldAt 127 t15 5) w fun t16 w=>
 ldS prog 4 t16 w fun t17 w=>
 cndS t17 (
 nilS prog t13 w fun t19 w=>
 ev prog (Instr.fieldAt 127 t19 6) w fun t20 w=>
 ldS prog 3 t20 w fun t21 w=>
 ev prog (binM .eql 3 (.tmp 21) (.const (.int .i64 0)) t21 (.int .i64 0)) w fun t22 w=>
 cndS t22 (
 nilS prog t13 w fun t24 w=>
 ev prog (Instr.fieldAt 127 t24 4) w fun t25 w=>
 stS prog 4 t25 (.bool true) w fun w=>
 callS prog 84 (pA #[x0,(.int .i64 3)]) w fun t27 w=>
 K (.bool false) w) (
 nilS prog t13 w fun t29 w=>
 ev prog (Instr.fieldAt 127 t29 6) w fun t30 w=>
 ldS prog 3 t30 w fun t31 w=>
 ev prog (binM .sub 3 (.tmp 31) (.const (.int .i64 1)) t31 (.int .i64 1)) w fun t32 w=>
 nilS prog t13 w fun t33 w=>
 ev prog (Instr.fieldAt 127 t33 6) w fun t34 w=>
 stS prog 3 t34 t32 w fun w=>
 f41_k1 K t13 w)) (
 f41_k1 K t13 w))
theorem f41_call (x0 x1:Value) (K:K1) (w:World) (h:f41_t x0 x1 K w):callS prog 41 #[x0,x1] w K:=
 call_of_txt (args:= [x0,x1]) mixed Tryz.func41 f41_u.2 (by kernel_rfl) (cast (by kernel_rfl) h)
def f42_t (x0 x1:Value) (K:K1) (w:World):Prop:=
 ev prog (binM .rem 30 (.tmp 5) (.const (.int .u64 ((8:Nat):Int))) x1 (.int .u64 ((8:Nat):Int))) w fun t6 w=>
 ev prog (binM .eql 30 (.tmp 6) (.const (.int .u64 ((0:Nat):Int))) t6 (.int .u64 ((0:Nat):Int))) w fun t7 w=>
 gd t7 true (fun k=>k x1 w) w fun t9 w=>
 gd t7 true (fun k=>k x0 w) w fun t10 w=>
 gd t7 true (fun k=>nilS prog t10 w k) w fun t11 w=>
 gd t7 true (fun k=>ev prog (Instr.fieldAt 99 t11 0) w k) w fun t12 w=>
 gd t7 true (fun k=>ldS prog 24 t12 w k) w fun t13 w=>
 gd t7 true (fun k=>callS prog 85 (pA #[t13]) w k) w fun t14 w=>
 gd t7 true (fun k=>ev prog (binM .lss 30 (.tmp 9) (.tmp 14) t9 t14) w k) w fun t15 w=>
 pickS t7 t15 (.bool false) w fun t16 w=>
 K t16 w
theorem f42_call (x0 x1:Value) (K:K1) (w:World) (h:f42_t x0 x1 K w):callS prog 42 #[x0,x1] w K:=
 call_of_txt (args:= [x0,x1]) mixed Tryz.func42 .o (by kernel_rfl) (cast (by kernel_rfl) h)
def f43_t (x0 x1 x2:Value) (K:K1) (w:World):Prop:=
 nilS prog x0 w fun t8 w=>
 ev prog (Instr.fieldAt 99 t8 0) w fun t9 w=>
 ldS prog 24 t9 w fun t10 w=>
 nilS prog t10 w fun t11 w=>
 ev prog (Instr.fieldAt 127 t11 2) w fun t12 w=>
 ldS prog 124 t12 w fun t13 w=>
 ev prog (binM .quo 30 (.tmp 14) (.const (.int .u64 ((64:Nat):Int))) x1 (.int .u64 ((64:Nat):Int))) w fun t15 w=>
 ev prog (Instr.indexAt 124 t13 t15) w fun t16 w=>
 nilS prog t16 w fun t19 w=>
 ev prog (Instr.fieldAt 160 t19 1) w fun t20 w=>
 ldS prog 76 t20 w fun t21 w=>
 ev prog (Instr.build 80 #[(0,x1),(1,x2)]) w fun t24 w=>
 ev prog (Instr.buildSlice 76 1 #[(0,t24)]) w fun t25 w=>
 bltS prog .append #[76,76] 76 #[false,false] (pA #[t21,t25]) w fun t26 w=>
 nilS prog t16 w fun t27 w=>
 ev prog (Instr.fieldAt 160 t27 1) w fun t28 w=>
 stS prog 76 t28 t26 w fun w=>
 nilS prog x0 w fun t30 w=>
 ev prog (Instr.fieldAt 99 t30 0) w fun t31 w=>
 ldS prog 24 t31 w fun t32 w=>
 nilS prog t32 w fun t33 w=>
 ev prog (Instr.fieldAt 127 t33 1) w fun t34 w=>
 ldS prog 39 t34 w fun t35 w=>
 ev prog (binM .quo 30 (.tmp 36) (.const (.int .u64 ((8:Nat):Int))) x1 (.int .u64 ((8:Nat):Int))) w fun t37 w=>
 ev prog (Instr.indexAt 39 t35 t37) w fun t39 w=>
 stS prog 30 t39 x2 w fun w=>
 K (.tuple #[]) w
theorem f43_call (x0 x1 x2:Value) (K:K1) (w:World) (h:f43_t x0 x1 x2 K w):callS prog 43 #[x0,x1,x2] w K:=
 call_of_txt (args:= [x0,x1,x2]) mixed Tryz.func43 .o (by kernel_rfl) (cast (by kernel_rfl) h)
def f46_t (x0 x1:Value) (K:K1) (w:World):Prop:=
 ev prog (binM .eql 25 (.tmp 5) (.const (.pointer none)) x0 (.pointer none)) w fun t6 w=>
 gd t6 false (fun k=>k x0 w) w fun t8 w=>
 gd t6 false (fun k=>nilS prog t8 w k) w fun t9 w=>
 gd t6 false (fun k=>ev prog (Instr.fieldAt 99 t9 0) w k) w fun t10 w=>
 gd t6 false (fun k=>ldS prog 24 t10 w k) w fun t11 w=>
 gd t6 false (fun k=>ev prog (binM .eql 24 (.tmp 11) (.const (.pointer none)) t11 (.pointer none)) w k) w fun t12 w=>
 pickS t6 (.bool true) t12 w fun t13 w=>
 gd t13 false (fun k=>k x0 w) w fun t15 w=>
 gd t13 false (fun k=>k x0 w) w fun t16 w=>
 gd t13 false (fun k=>k x1 w) w fun t17 w=>
 gd t13 false (fun k=>callS prog 42 (pA #[t16,t17]) w k) w fun t18 w=>
 gd t13 false (fun k=>callS prog 83 (pA #[t15,t18]) w k) w fun t19 w=>
 gd t13 false (fun k=>ev prog (Op.unary .not t19) w k) w fun t20 w=>
 pickS t13 (.bool true) t20 w fun t21 w=>
 cndS t21 (
 K (.int .u64 ((0:Nat):Int)) w) (
 nilS prog x0 w fun t23 w=>
 ev prog (Instr.fieldAt 99 t23 0) w fun t24 w=>
 ldS prog 24 t24 w fun t25 w=>
 nilS prog t25 w fun t26 w=>
 ev prog (Instr.fieldAt 127 t26 1) w fun t27 w=>
 ldS prog 39 t27 w fun t28 w=>
 ev prog (binM .quo 30 (.tmp 29) (.const (.int .u64 ((8:Nat):Int))) x1 (.int .u64 ((8:Nat):Int))) w fun t30 w=>
 ev prog (Instr.indexAt 39 t28 t30) w fun t31 w=>
 ldS prog 30 t31 w fun t32 w=>
 K t32 w)
theorem f46_call (x0 x1:Value) (K:K1) (w:World) (h:f46_t x0 x1 K w):callS prog 46 #[x0,x1] w K:=
 call_of_txt (args:= [x0,x1]) mixed Tryz.func46 .o (by kernel_rfl) (cast (by kernel_rfl) h)
def f54_t (x0 x1:Value) (K:K1) (w:World):Prop:=
 ev prog (binM .eql 25 (.tmp 6) (.const (.pointer none)) x0 (.pointer none)) w fun t7 w=>
 gd t7 false (fun k=>k x0 w) w fun t9 w=>
 gd t7 false (fun k=>nilS prog t9 w k) w fun t10 w=>
 gd t7 false (fun k=>ev prog (Instr.fieldAt 99 t10 0) w k) w fun t11 w=>
 gd t7 false (fun k=>ldS prog 24 t11 w k) w fun t12 w=>
 gd t7 false (fun k=>ev prog (binM .eql 24 (.tmp 12) (.const (.pointer none)) t12 (.pointer none)) w k) w fun t13 w=>
 pickS t7 (.bool true) t13 w fun t14 w=>
 gd t14 false (fun k=>k x0 w) w fun t16 w=>
 gd t14 false (fun k=>k x1 w) w fun t17 w=>
 gd t14 false (fun k=>k x0 w) w fun t18 w=>
 gd t14 false (fun k=>nilS prog t18 w k) w fun t19 w=>
 gd t14 false (fun k=>ev prog (Instr.fieldAt 99 t19 0) w k) w fun t20 w=>
 gd t14 false (fun k=>ldS prog 24 t20 w k) w fun t21 w=>
 gd t14 false (fun k=>callS prog 85 (pA #[t21]) w k) w fun t22 w=>
 gd t14 false (fun k=>ev prog (binM .lss 30 (.tmp 17) (.tmp 22) t17 t22) w k) w fun t23 w=>
 gd t14 false (fun k=>callS prog 41 (pA #[t16,t23]) w k) w fun t24 w=>
 gd t14 false (fun k=>ev prog (Op.unary .not t24) w k) w fun t25 w=>
 pickS t14 (.bool true) t25 w fun t26 w=>
 cndS t26 (
 K (.tuple #[]) w) (
 ev prog (binM .quo 30 (.tmp 27) (.const (.int .u64 ((64:Nat):Int))) x1 (.int .u64 ((64:Nat):Int))) w fun t28 w=>
 ev prog (convert 30 3 t28) w fun t29 w=>
 nilS prog x0 w fun t31 w=>
 ev prog (Instr.fieldAt 99 t31 0) w fun t32 w=>
 ldS prog 24 t32 w fun t33 w=>
 nilS prog t33 w fun t34 w=>
 ev prog (Instr.fieldAt 127 t34 2) w fun t35 w=>
 ldS prog 124 t35 w fun t36 w=>
 ev prog (Instr.indexAt 124 t36 t29) w fun t38 w=>
 nilR prog x0 w.drew fun t40=>
 rd prog (Instr.fieldAt 99 t40 3) w.drew fun t41=>
 ldR prog 97 t41 w.drew fun t42=>
 nilR prog t38 w.drew fun t45=>
 rd prog (Instr.fieldAt 160 t45 0) w.drew fun t46=>
 ldR prog 30 t46 w.drew fun t47=>
 nilR prog t38 w.drew fun t49=>
 rd prog (Instr.fieldAt 160 t49 1) w.drew fun t50=>
 ldR prog 76 t50 w.drew fun t51=>
 rd prog (Builtin.len_ #[76] 3 #[t51]) w.drew fun t52=>
 rd prog (convert 3 30 t52) w.drew fun t53=>
 rd prog (binM .add 30 (.tmp 47) (.tmp 53) t47 t53) w.drew fun t54=>
 ac prog (Instr.mapUpdate 97 t42 t29 t54) w.drew fun w=>
 K (.tuple #[]) w)
theorem f54_call (x0 x1:Value) (K:K1) (w:World) (h:f54_t x0 x1 K w):callS prog 54 #[x0,x1] w K:=
 call_of_txt (args:= [x0,x1]) mixed Tryz.func54 .o (by kernel_rfl) (cast (by kernel_rfl) h)
noncomputable def f55_u:Code×Dec:=((Tryz.f55.body).getD .skip,(.s .o (.x 1 (.s .o (.b (.l [] 8388609 9007199237963804 .o))) .o)))
abbrev f55_e (K:K1):KF:=endK prog Tryz.f55.results.toList K
def f55_k1_o (K:K1):KF:=fun fr w=>∀σ,cP (pr (pr f55_u)) (f55_e K) (f55_e K) nX (mixF 1 σ 0 fr) w
def f55_k1 (K:K1) (x0:Value) (w:World):Prop:=f55_k1_o K (fz 57 0 [(0,x0)]) w
def f55_l1 (K:K1) (x0 x23:Value) (w:World):Prop:=loopT [] 8388609 (fun E=>cP (pl (pl (pr (pl (pr f55_u))))) E (f55_e K) (exB 0 (f55_k1_o K) nX)) (fz 57 0 [(0,x0),(23,x23)]) w
def f55_k1_t (x0:Value) (K:K1) (w:World):Prop:=
 nilS prog x0 w fun t54 w=>
 ev prog (Instr.fieldAt 99 t54 3) w fun t55 w=>
 ldS prog 97 t55 w fun t56 w=>
 bltS prog .clear #[97] 0 #[false] (pA #[t56]) w fun _ w=>
 K (.tuple #[]) w
theorem f55_k1_eq (K:K1) (x0:Value) (w:World):f55_k1 K x0 w=f55_k1_t x0 K w:=cutE fun σ=>by kernel_rfl
def f55_l1_t (x0 x23:Value) (K:K1) (E1:VP0) (w:World):Prop:=
 ev prog (Instr.next x23 false 0) w fun t24 w=>
 ev prog (Instr.extract t24 0) w fun t25 w=>
 cndS t25 (
 ev prog (Instr.entry x23) w fun t26 w=>
 ev prog (Instr.extract t26 0) w fun t27 w=>
 ev prog (Instr.extract t26 1) w fun t28 w=>
 nilS prog x0 w fun t30 w=>
 ev prog (Instr.fieldAt 99 t30 0) w fun t31 w=>
 ldS prog 24 t31 w fun t32 w=>
 nilS prog t32 w fun t33 w=>
 ev prog (Instr.fieldAt 127 t33 2) w fun t34 w=>
 ldS prog 124 t34 w fun t35 w=>
 ev prog (Instr.indexAt 124 t35 t27) w fun t37 w=>
 ev prog (Instr.fieldAt 160 t37 0) w fun t38 w=>
 ldS prog 30 t38 w fun t39 w=>
 ev prog (binM .gtr 30 (.tmp 40) (.tmp 41) t28 t39) w fun t42 w=>
 cndS t42 (
 nilS prog x0 w fun t44 w=>
 ev prog (Instr.fieldAt 99 t44 0) w fun t45 w=>
 ldS prog 24 t45 w fun t46 w=>
 ev prog (binM .sub 30 (.tmp 48) (.tmp 49) t28 t39) w fun t50 w=>
 ev prog (convert 30 3 t50) w fun t51 w=>
 callS prog 90 (pA #[t46,t27,t51]) w fun t52 w=>
 E1 w) (
 E1 w)) (
 f55_k1 K x0 w)
theorem f55_l1_rule (x0 x23:Value) (K:K1) (w:World) (I:VP0) (μ:World→Nat) (h0:I w)
  (hr:∀(w:World),I w→∀E1:VP0,(∀(w':World),I w'→μ w'<μ w→E1 w')→f55_l1_t x0 x23 K E1 w):f55_l1 K x0 x23 w:=
 ⟨I,μ,h0,fun σ w hI E hE=>cast (by kernel_rfl) (hr w hI E hE)⟩
def f55_t (x0:Value) (K:K1) (w:World):Prop:=
 ev prog (binM .eql 25 (.tmp 5) (.const (.pointer none)) x0 (.pointer none)) w fun t6 w=>
 gd t6 false (fun k=>k x0 w) w fun t8 w=>
 gd t6 false (fun k=>nilS prog t8 w k) w fun t9 w=>
 gd t6 false (fun k=>ev prog (Instr.fieldAt 99 t9 0) w k) w fun t10 w=>
 gd t6 false (fun k=>ldS prog 24 t10 w k) w fun t11 w=>
 gd t6 false (fun k=>ev prog (binM .eql 24 (.tmp 11) (.const (.pointer none)) t11 (.pointer none)) w k) w fun t12 w=>
 pickS t6 (.bool true) t12 w fun t13 w=>
 gd t13 false (fun k=>k x0 w) w fun t15 w=>
 gd t13 false (fun k=>callS prog 41 (pA #[t15,(.bool true)]) w k) w fun t16 w=>
 gd t13 false (fun k=>ev prog (Op.unary .not t16) w k) w fun t17 w=>
 pickS t13 (.bool true) t17 w fun t18 w=>
 cndS t18 (
 K (.tuple #[]) w) (
 nilS prog x0 w fun t20 w=>
 ev prog (Instr.fieldAt 99 t20 3) w fun t21 w=>
 ldS prog 97 t21 w fun t22 w=>
 ev prog (Instr.range 97 t22) w fun t23 w=>
 f55_l1 K x0 t23 w)
theorem f55_call (x0:Value) (K:K1) (w:World) (h:f55_t x0 K w):callS prog 55 #[x0] w K:=
 call_of_txt (args:= [x0]) mixed Tryz.func55 f55_u.2 (by kernel_rfl) (cast (by kernel_rfl) h)
noncomputable def f57_u:Code×Dec:=((Tryz.f57.body).getD .skip,(.s .o (.s .o (.s .o (.s .o (.x 16 (.s .o (.b (.l [26] 50331664 70368677068896 .o))) .o))))))
abbrev f57_e (K:K1):KF:=endK prog Tryz.f57.results.toList K
def f57_k1_o (K:K1):KF:=fun fr w=>∀σ,cP (pr (pr (pr (pr (pr f57_u))))) (f57_e K) (f57_e K) nX (mixF 16 σ 0 fr) w
def f57_k1 (K:K1) (x4:Value) (w:World):Prop:=f57_k1_o K (fz 48 0 [(4,x4)]) w
def f57_l1 (K:K1) (x4 x24 x25 x26:Value) (w:World):Prop:=loopT [26] 50331664 (fun E=>cP (pl (pl (pr (pl (pr (pr (pr (pr f57_u)))))))) E (f57_e K) (exB 0 (f57_k1_o K) nX)) (fz 48 0 [(4,x4),(24,x24),(25,x25),(26,x26)]) w
def f57_k1_t (x4:Value) (K:K1) (w:World):Prop:=
 callS prog 81 (pA #[x4]) w fun t47 w=>
 K (.tuple #[t47,(.int .i64 0)]) w
theorem f57_k1_eq (K:K1) (x4:Value) (w:World):f57_k1 K x4 w=f57_k1_t x4 K w:=cutE fun σ=>by kernel_rfl
def f57_l1_t (x4 x24 x25 x26:Value) (K:K1) (E1:VP1) (w:World):Prop:=
 ev prog (binM .lss 3 (.tmp 26) (.tmp 25) x26 x25) w fun t27 w=>
 cndS t27 (
 ev prog (Instr.indexAt 58 x24 x26) w fun t29 w=>
 ldS prog 5 t29 w fun t30 w=>
 ev prog (binM .quo 3 (.tmp 32) (.const (.int .i64 8)) x26 (.int .i64 8)) w fun t33 w=>
 ev prog (Instr.indexAt 39 x4 t33) w fun t34 w=>
 ldS prog 30 t34 w fun t35 w=>
 ev prog (convert 5 30 t30) w fun t37 w=>
 ev prog (binM .rem 3 (.tmp 38) (.const (.int .i64 8)) x26 (.int .i64 8)) w fun t39 w=>
 ev prog (binM .mul 3 (.tmp 39) (.const (.int .i64 8)) t39 (.int .i64 8)) w fun t40 w=>
 ev prog (convert 3 96 t40) w fun t41 w=>
 ev prog (binM .shl 30 (.tmp 37) (.tmp 41) t37 t41) w fun t42 w=>
 ev prog (binM .or 30 (.tmp 35) (.tmp 42) t35 t42) w fun t43 w=>
 ev prog (Instr.indexAt 39 x4 t33) w fun t44 w=>
 stS prog 30 t44 t43 w fun w=>
 ev prog (binM .add 3 (.tmp 26) (.const (.int .i64 1)) x26 (.int .i64 1)) w fun t45 w=>
 E1 t45 w) (
 f57_k1 K x4 w)
theorem f57_l1_rule (x4 x24 x25 x26:Value) (K:K1) (w:World) (I:VP1) (μ:Value→World→Nat) (h0:I x26 w)
  (hr:∀(x26:Value) (w:World),I x26 w→∀E1:VP1,(∀(y26:Value) (w':World),I y26 w'→μ y26 w'<μ x26 w→E1 y26 w')→f57_l1_t x4 x24 x25 x26 K E1 w):f57_l1 K x4 x24 x25 x26 w:=
 ⟨I,μ,h0,fun σ w hI E hE=>cast (by kernel_rfl) (hr (σ 26) w hI E hE)⟩
def f57_t (x0:Value) (K:K1) (w:World):Prop:=
 bltS prog .len #[58] 3 #[false] #[x0] w fun t8 w=>
 ev prog (binM .rem 3 (.tmp 8) (.const (.int .i64 64)) t8 (.int .i64 64)) w fun t9 w=>
 ev prog (binM .neq 3 (.tmp 9) (.const (.int .i64 0)) t9 (.int .i64 0)) w fun t10 w=>
 cndS t10 (
 K (.tuple #[(.pointer none),(.int .i64 11)]) w) (
 bltS prog .len #[58] 3 #[false] #[x0] w fun t12 w=>
 ev prog (binM .eql 3 (.tmp 12) (.const (.int .i64 0)) t12 (.int .i64 0)) w fun t13 w=>
 gd t13 false (fun k=>k x0 w) w fun t15 w=>
 gd t13 false (fun k=>bltS prog .len #[58] 3 #[false] #[t15] w k) w fun t16 w=>
 gd t13 false (fun k=>ev prog (binM .quo 3 (.tmp 16) (.const (.int .i64 64)) t16 (.int .i64 64)) w k) w fun t17 w=>
 gd t13 false (fun k=>ev prog (binM .gtr 3 (.tmp 17) (.const (.int .i64 4096)) t17 (.int .i64 4096)) w k) w fun t18 w=>
 pickS t13 (.bool true) t18 w fun t19 w=>
 cndS t19 (
 K (.tuple #[(.pointer none),(.int .i64 1)]) w) (
 bltS prog .len #[58] 3 #[false] #[x0] w fun t21 w=>
 ev prog (binM .quo 3 (.tmp 21) (.const (.int .i64 8)) t21 (.int .i64 8)) w fun t22 w=>
 ev prog (Instr.makeSlice 39 t22 t22) w fun t23 w=>
 bltS prog .len #[58] 3 #[false] #[x0] w fun t25 w=>
 f57_l1 K t23 x0 t25 (.int .i64 0) w))
theorem f57_call (x0:Value) (K:K1) (w:World) (h:f57_t x0 K w):callS prog 57 #[x0] w K:=
 call_of_txt (args:= [x0]) mixed Tryz.func57 f57_u.2 (by kernel_rfl) (cast (by kernel_rfl) h)
noncomputable def f58_u:Code×Dec:=((Tryz.f58.body).getD .skip,(.s .o (.s .o (.s .o (.x 32 (.s .o (.s (.s .o (.b (.l [23] 6291491 18014398501094336 .o))) .o)) .o)))))
abbrev f58_e (K:K1):KF:=endK prog Tryz.f58.results.toList K
def f58_k1_o (K:K1):KF:=fun fr w=>∀σ,cP (pr (pr (pr (pr f58_u)))) (f58_e K) (f58_e K) nX (mixF 32 σ 0 fr) w
def f58_k1 (K:K1) (x5:Value) (w:World):Prop:=f58_k1_o K (fz 56 0 [(5,x5)]) w
def f58_l1 (K:K1) (x0 x1 x5 x21 x22 x23:Value) (w:World):Prop:=loopT [23] 6291491 (fun E=>cP (pl (pl (pr (pl (pr (pl (pr (pr (pr f58_u))))))))) E (f58_e K) (exB 0 (f58_k1_o K) nX)) (fz 56 0 [(0,x0),(1,x1),(5,x5),(21,x21),(22,x22),(23,x23)]) w
def f58_k1_t (x5:Value) (K:K1) (w:World):Prop:=
 callS prog 95 (pA #[x5]) w fun t55 w=>
 K t55 w
theorem f58_k1_eq (K:K1) (x5:Value) (w:World):f58_k1 K x5 w=f58_k1_t x5 K w:=cutE fun σ=>by kernel_rfl
def f58_l1_t (x0 x1 x5 x21 x22 x23:Value) (K:K1) (E1:VP1) (w:World):Prop:=
 ev prog (binM .lss 3 (.tmp 23) (.tmp 22) x23 x22) w fun t24 w=>
 cndS t24 (
 ev prog (Instr.indexAt 50 x21 x23) w fun t26 w=>
 ldS prog 3 t26 w fun t27 w=>
 nilS prog x0 w fun t29 w=>
 ev prog (Instr.fieldAt 127 t29 2) w fun t30 w=>
 ldS prog 124 t30 w fun t31 w=>
 ev prog (Instr.indexAt 124 t31 t27) w fun t33 w=>
 ev prog (Instr.fieldAt 160 t33 1) w fun t34 w=>
 ldS prog 76 t34 w fun t35 w=>
 bltS prog .len #[58] 3 #[false] #[x1] w fun t39 w=>
 ev prog (binM .rem 3 (.tmp 37) (.tmp 39) x23 t39) w fun t40 w=>
 ev prog (Instr.indexAt 58 x1 t40) w fun t41 w=>
 ldS prog 5 t41 w fun t42 w=>
 ev prog (convert 5 3 t42) w fun t43 w=>
 bltS prog .len #[76] 3 #[false] #[t35] w fun t45 w=>
 ev prog (binM .add 3 (.tmp 45) (.const (.int .i64 1)) t45 (.int .i64 1)) w fun t46 w=>
 ev prog (binM .rem 3 (.tmp 43) (.tmp 46) t43 t46) w fun t47 w=>
 ev prog (Instr.sliceAt 76 t35 none (some t47) none) w fun t51 w=>
 callS prog 94 (pA #[x5,t51]) w fun t52 w=>
 ev prog (binM .add 3 (.tmp 23) (.const (.int .i64 1)) x23 (.int .i64 1)) w fun t53 w=>
 E1 t53 w) (
 f58_k1 K x5 w)
theorem f58_l1_rule (x0 x1 x5 x21 x22 x23:Value) (K:K1) (w:World) (I:VP1) (μ:Value→World→Nat) (h0:I x23 w)
  (hr:∀(x23:Value) (w:World),I x23 w→∀E1:VP1,(∀(y23:Value) (w':World),I y23 w'→μ y23 w'<μ x23 w→E1 y23 w')→f58_l1_t x0 x1 x5 x21 x22 x23 K E1 w):f58_l1 K x0 x1 x5 x21 x22 x23 w:=
 ⟨I,μ,h0,fun σ w hI E hE=>cast (by kernel_rfl) (hr (σ 23) w hI E hE)⟩
def f58_t (x0 x1:Value) (K:K1) (w:World):Prop:=
 ev prog (binM .eql 24 (.tmp 10) (.const (.pointer none)) x0 (.pointer none)) w fun t11 w=>
 cndS t11 (
 K (.slice none 0 0) w) (
 nilS prog x0 w fun t13 w=>
 ev prog (Instr.fieldAt 127 t13 0) w fun t14 w=>
 ldS prog 39 t14 w fun t15 w=>
 callS prog 92 (pA #[t15]) w fun t16 w=>
 bltS prog .len #[58] 3 #[false] #[x1] w fun t18 w=>
 ev prog (binM .gtr 3 (.tmp 18) (.const (.int .i64 0)) t18 (.int .i64 0)) w fun t19 w=>
 cndS t19 (
 callS prog 93 (pA #[x0]) w fun t21 w=>
 bltS prog .len #[50] 3 #[false] #[t21] w fun t22 w=>
 f58_l1 K x0 x1 t16 t21 t22 (.int .i64 0) w) (
 f58_k1 K t16 w))
theorem f58_call (x0 x1:Value) (K:K1) (w:World) (h:f58_t x0 x1 K w):callS prog 58 #[x0,x1] w K:=
 call_of_txt (args:= [x0,x1]) mixed Tryz.func58 f58_u.2 (by kernel_rfl) (cast (by kernel_rfl) h)
noncomputable def f81_u:Code×Dec:=((Tryz.f81.body).getD .skip,(.s .o (.x 8 .o (.x 8 (.s .o (.b (.l [14] 8 268419088 .o))) .o))))
abbrev f81_e (K:K1):KF:=endK prog Tryz.f81.results.toList K
def f81_k1_o (K:K1):KF:=fun fr w=>∀σ,cP (pr (pr f81_u)) (f81_e K) (f81_e K) nX (mixF 8 σ 0 fr) w
def f81_k1 (K:K1) (x3:Value) (w:World):Prop:=f81_k1_o K (fz 29 0 [(3,x3)]) w
def f81_k2_o (K:K1):KF:=fun fr w=>∀σ,cP (pr (pr (pr f81_u))) (f81_e K) (f81_e K) nX (mixF 8 σ 0 fr) w
def f81_k2 (K:K1) (x3:Value) (w:World):Prop:=f81_k2_o K (fz 29 0 [(3,x3)]) w
def f81_l1 (K:K1) (x3 x14:Value) (w:World):Prop:=loopT [14] 8 (fun E=>cP (pl (pl (pr (pl (pr (pr f81_u)))))) E (f81_e K) (exB 0 (f81_k2_o K) nX)) (fz 29 0 [(3,x3),(14,x14)]) w
def f81_k1_t (x3:Value) (K:K1) (w:World):Prop:=
 f81_l1 K x3 (.int .i64 0) w
theorem f81_k1_eq (K:K1) (x3:Value) (w:World):f81_k1 K x3 w=f81_k1_t x3 K w:=cutE fun σ=>by kernel_rfl
def f81_k2_t (x3:Value) (K:K1) (w:World):Prop:=
 K x3 w
theorem f81_k2_eq (K:K1) (x3:Value) (w:World):f81_k2 K x3 w=f81_k2_t x3 K w:=cutE fun σ=>by kernel_rfl
def f81_l1_t (x3 x14:Value) (K:K1) (E1:VP1) (w:World):Prop:=
 ev prog (binM .lss 3 (.tmp 14) (.const (.int .i64 8)) x14 (.int .i64 8)) w fun t15 w=>
 cndS t15 (
 ev prog (Instr.makeMap 97 none) w fun t21 w=>
 ev prog (Instr.build 99 #[(0,x3),(1,x14),(3,t21)]) w fun t22 w=>
 ev prog (Instr.box 99 t22) w fun t23 w=>
 nilS prog x3 w fun t24 w=>
 ev prog (Instr.fieldAt 127 t24 3) w fun t25 w=>
 ev prog (Instr.indexAt 125 t25 x14) w fun t26 w=>
 stS prog 25 t26 t23 w fun w=>
 ev prog (binM .add 3 (.tmp 14) (.const (.int .i64 1)) x14 (.int .i64 1)) w fun t27 w=>
 E1 t27 w) (
 f81_k2 K x3 w)
theorem f81_l1_rule (x3 x14:Value) (K:K1) (w:World) (I:VP1) (μ:Value→World→Nat) (h0:I x14 w)
  (hr:∀(x14:Value) (w:World),I x14 w→∀E1:VP1,(∀(y14:Value) (w':World),I y14 w'→μ y14 w'<μ x14 w→E1 y14 w')→f81_l1_t x3 x14 K E1 w):f81_l1 K x3 x14 w:=
 ⟨I,μ,h0,fun σ w hI E hE=>cast (by kernel_rfl) (hr (σ 14) w hI E hE)⟩
def f81_t (x0:Value) (K:K1) (w:World):Prop:=
 rd prog (Builtin.len_ #[39] 3 #[x0]) w.drew fun t9=>
 rd prog (binM .quo 3 (.tmp 9) (.const (.int .i64 8)) t9 (.int .i64 8)) w.drew fun t10=>
 (callS prog 92 (pA #[x0]) w.drew fun t7 w=>
 (ag prog (Builtin.len_ #[39] 3 #[x0]) w t9)∧
 (ag prog (binM .quo 3 (.tmp 9) (.const (.int .i64 8)) t9 (.int .i64 8)) w t10)∧
 ev prog (Instr.makeSlice 124 t10 t10) w fun t11 w=>
 rd prog (Instr.build 127 #[(0,x0),(1,t7),(2,t11)]) w fun t12=>
 ev prog (Instr.box 127 t12) w fun t13 w=>
 f81_k1 K t13 w)∧
 (ev prog (Instr.makeSlice 124 t10 t10) w.drew fun t11_1 w=>
 callS prog 92 (pA #[x0]) w fun t7_1 w=>
 (ag prog (Builtin.len_ #[39] 3 #[x0]) w t9)∧
 (ag prog (binM .quo 3 (.tmp 9) (.const (.int .i64 8)) t9 (.int .i64 8)) w t10)∧
 rd prog (Instr.build 127 #[(0,x0),(1,t7_1),(2,t11_1)]) w fun t12_1=>
 ev prog (Instr.box 127 t12_1) w fun t13_1 w=>
 f81_k1 K t13_1 w)
theorem f81_call (x0:Value) (K:K1) (w:World) (h:f81_t x0 K w):callS prog 81 #[x0] w K:=
 call_of_txt (args:= [x0]) mixed Tryz.func81 f81_u.2 (by kernel_rfl) (cast (by kernel_rfl) h)
noncomputable def f83_u:Code×Dec:=((Tryz.f83.body).getD .skip,(.s .o (.x 0 .o .o)))
abbrev f83_e (K:K1):KF:=endK prog Tryz.f83.results.toList K
def f83_k1_o (K:K1):KF:=fun fr w=>∀σ,cP (pr (pr f83_u)) (f83_e K) (f83_e K) nX (mixF 0 σ 0 fr) w
def f83_k1 (K:K1) (w:World):Prop:=f83_k1_o K (fz 20 0 []) w
def f83_k1_t (K:K1) (w:World):Prop:=
 K (.bool false) w
theorem f83_k1_eq (K:K1) (w:World):f83_k1 K w=f83_k1_t K w:=cutE fun σ=>by kernel_rfl
def f83_t (x0 x1:Value) (K:K1) (w:World):Prop:=
 nilS prog x0 w fun t7 w=>
 ev prog (Instr.fieldAt 99 t7 0) w fun t8 w=>
 ldS prog 24 t8 w fun t9 w=>
 nilS prog t9 w fun t10 w=>
 ev prog (Instr.fieldAt 127 t10 4) w fun t11 w=>
 ldS prog 4 t11 w fun t12 w=>
 cndS t12 (
 callS prog 84 (pA #[x0,(.int .i64 3)]) w fun t14 w=>
 f83_k1 K w) (
 ev prog (Op.unary .not x1) w fun t17 w=>
 cndS t17 (
 callS prog 84 (pA #[x0,(.int .i64 2)]) w fun t19 w=>
 f83_k1 K w) (
 K (.bool true) w))
theorem f83_call (x0 x1:Value) (K:K1) (w:World) (h:f83_t x0 x1 K w):callS prog 83 #[x0,x1] w K:=
 call_of_txt (args:= [x0,x1]) mixed Tryz.func83 f83_u.2 (by kernel_rfl) (cast (by kernel_rfl) h)
def f84_t (x0 x1:Value) (K:K1) (w:World):Prop:=
 nilS prog x0 w fun t5 w=>
 ev prog (Instr.fieldAt 99 t5 2) w fun t6 w=>
 ldS prog 43 t6 w fun t7 w=>
 ev prog (binM .eql 43 (.tmp 7) (.const (.int .i64 0)) t7 (.int .i64 0)) w fun t8 w=>
 cndS t8 (
 nilS prog x0 w fun t11 w=>
 ev prog (Instr.fieldAt 99 t11 2) w fun t12 w=>
 stS prog 43 t12 x1 w fun w=>
 K (.tuple #[]) w) (
 K (.tuple #[]) w)
theorem f84_call (x0 x1:Value) (K:K1) (w:World) (h:f84_t x0 x1 K w):callS prog 84 #[x0,x1] w K:=
 call_of_txt (args:= [x0,x1]) mixed Tryz.func84 .o (by kernel_rfl) (cast (by kernel_rfl) h)
def f85_t (x0:Value) (K:K1) (w:World):Prop:=
 callS prog 111 (pA #[x0]) w fun t4 w=>
 ev prog (convert 3 30 t4) w fun t5 w=>
 ev prog (binM .mul 30 (.tmp 5) (.const (.int .u64 ((64:Nat):Int))) t5 (.int .u64 ((64:Nat):Int))) w fun t6 w=>
 K t6 w
theorem f85_call (x0:Value) (K:K1) (w:World) (h:f85_t x0 K w):callS prog 85 #[x0] w K:=
 call_of_txt (args:= [x0]) mixed Tryz.func85 .o (by kernel_rfl) (cast (by kernel_rfl) h)
def f90_t (x0 x1 x2:Value) (K:K1) (w:World):Prop:=
 nilS prog x0 w fun t8 w=>
 ev prog (Instr.fieldAt 127 t8 2) w fun t9 w=>
 ldS prog 124 t9 w fun t10 w=>
 ev prog (Instr.indexAt 124 t10 x1) w fun t12 w=>
 nilR prog x0 w.drew fun t14=>
 rd prog (Instr.fieldAt 127 t14 0) w.drew fun t15=>
 ldR prog 39 t15 w.drew fun t16=>
 nilR prog t12 w.drew fun t18=>
 rd prog (Instr.fieldAt 160 t18 1) w.drew fun t19=>
 ldR prog 76 t19 w.drew fun t20=>
 rd prog (Instr.sliceAt 76 t20 none (some x2) none) w.drew fun t22=>
 callS prog 94 (pA #[t16,t22]) w.drew fun t23 w=>
 nilS prog t12 w fun t25 w=>
 ev prog (Instr.fieldAt 160 t25 0) w fun t26 w=>
 ldS prog 30 t26 w fun t27 w=>
 ev prog (convert 3 30 x2) w fun t29 w=>
 ev prog (binM .add 30 (.tmp 27) (.tmp 29) t27 t29) w fun t30 w=>
 nilS prog t12 w fun t31 w=>
 ev prog (Instr.fieldAt 160 t31 0) w fun t32 w=>
 stS prog 30 t32 t30 w fun w=>
 nilS prog t12 w fun t35 w=>
 ev prog (Instr.fieldAt 160 t35 1) w fun t36 w=>
 ldS prog 76 t36 w fun t37 w=>
 ev prog (Instr.sliceAt 76 t37 (some x2) none none) w fun t39 w=>
 nilS prog t12 w fun t40 w=>
 ev prog (Instr.fieldAt 160 t40 1) w fun t41 w=>
 stS prog 76 t41 t39 w fun w=>
 nilS prog t12 w fun t43 w=>
 ev prog (Instr.fieldAt 160 t43 1) w fun t44 w=>
 ldS prog 76 t44 w fun t45 w=>
 bltS prog .len #[76] 3 #[false] #[t45] w fun t46 w=>
 ev prog (binM .eql 3 (.tmp 46) (.const (.int .i64 0)) t46 (.int .i64 0)) w fun t47 w=>
 cndS t47 (
 nilS prog t12 w fun t49 w=>
 ev prog (Instr.fieldAt 160 t49 1) w fun t50 w=>
 stS prog 76 t50 (.slice none 0 0) w fun w=>
 K (.tuple #[]) w) (
 K (.tuple #[]) w)
theorem f90_call (x0 x1 x2:Value) (K:K1) (w:World) (h:f90_t x0 x1 x2 K w):callS prog 90 #[x0,x1,x2] w K:=
 call_of_txt (args:= [x0,x1,x2]) mixed Tryz.func90 .o (by kernel_rfl) (cast (by kernel_rfl) h)
def f92_t (x0:Value) (K:K1) (w:World):Prop:=
 ev prog (binM .eql 39 (.tmp 3) (.const (.slice none 0 0)) x0 (.slice none 0 0)) w fun t4 w=>
 cndS t4 (
 K (.slice none 0 0) w) (
 ev prog (Instr.buildSlice 39 0 #[]) w fun t5 w=>
 bltS prog .append #[39,39] 39 #[false,false] (pA #[t5,x0]) w fun t7 w=>
 K t7 w)
theorem f92_call (x0:Value) (K:K1) (w:World) (h:f92_t x0 K w):callS prog 92 #[x0] w K:=
 call_of_txt (args:= [x0]) mixed Tryz.func92 .o (by kernel_rfl) (cast (by kernel_rfl) h)
noncomputable def f93_u:Code×Dec:=((Tryz.f93.body).getD .skip,(.s .o (.s .o (.s .o (.x 8 (.s .o (.b (.l [3,12] 2049 1073737752 (.s .o (.s .o (.x 6153 .o .o)))))) .o)))))
abbrev f93_e (K:K1):KF:=endK prog Tryz.f93.results.toList K
def f93_k1_o (K:K1):KF:=fun fr w=>∀σ,cP (pr (pr (pr (pr f93_u)))) (f93_e K) (f93_e K) nX (mixF 8 σ 0 fr) w
def f93_k1 (K:K1) (x3:Value) (w:World):Prop:=f93_k1_o K (fz 31 0 [(3,x3)]) w
def f93_l1 (K:K1) (x0 x3 x11 x12:Value) (w:World):Prop:=loopT [3,12] 2049 (fun E=>cP (pl (pl (pr (pl (pr (pr (pr f93_u))))))) E (f93_e K) (exB 0 (f93_k1_o K) nX)) (fz 31 0 [(0,x0),(3,x3),(11,x11),(12,x12)]) w
def f93_k2_o (K:K1) (E1:VP2):KF:=fun fr w=>∀σ,cP (pr (pr (pr (pl (pl (pr (pl (pr (pr (pr f93_u)))))))))) (fun fr w=>E1 (sv fr 3) (sv fr 12) w) (f93_e K) (exB 0 (f93_k1_o K) nX) (mixF 6153 σ 0 fr) w
def f93_k2 (K:K1) (E1:VP2) (x0 x3 x11 x12:Value) (w:World):Prop:=f93_k2_o K E1 (fz 31 0 [(0,x0),(3,x3),(11,x11),(12,x12)]) w
def f93_k1_t (x3:Value) (K:K1) (w:World):Prop:=
 K x3 w
theorem f93_k1_eq (K:K1) (x3:Value) (w:World):f93_k1 K x3 w=f93_k1_t x3 K w:=cutE fun σ=>by kernel_rfl
def f93_l1_t (x0 x3 x11 x12:Value) (K:K1) (E1:VP2) (w:World):Prop:=
 ev prog (binM .lss 3 (.tmp 12) (.tmp 11) x12 x11) w fun t13 w=>
 cndS t13 (
 nilS prog x0 w fun t16 w=>
 ev prog (Instr.fieldAt 127 t16 2) w fun t17 w=>
 ldS prog 124 t17 w fun t18 w=>
 ev prog (Instr.indexAt 124 t18 x12) w fun t20 w=>
 ev prog (Instr.fieldAt 160 t20 1) w fun t21 w=>
 ldS prog 76 t21 w fun t22 w=>
 bltS prog .len #[76] 3 #[false] #[t22] w fun t23 w=>
 ev prog (binM .gtr 3 (.tmp 23) (.const (.int .i64 0)) t23 (.int .i64 0)) w fun t24 w=>
 cndS t24 (
 ev prog (Instr.buildSlice 50 1 #[(0,x12)]) w fun t27 w=>
 bltS prog .append #[50,50] 50 #[false,false] (pA #[x3,t27]) w fun t28 w=>
 f93_k2 K E1 x0 t28 x11 x12 w) (
 f93_k2 K E1 x0 x3 x11 x12 w)) (
 f93_k1 K x3 w)
theorem f93_l1_rule (x0 x3 x11 x12:Value) (K:K1) (w:World) (I:VP2) (μ:Value→Value→World→Nat) (h0:I x3 x12 w)
  (hr:∀(x3 x12:Value) (w:World),I x3 x12 w→∀E1:VP2,(∀(y3 y12:Value) (w':World),I y3 y12 w'→μ y3 y12 w'<μ x3 x12 w→E1 y3 y12 w')→f93_l1_t x0 x3 x11 x12 K E1 w):f93_l1 K x0 x3 x11 x12 w:=
 ⟨I,μ,h0,fun σ w hI E hE=>cast (by kernel_rfl) (hr (σ 3) (σ 12) w hI E hE)⟩
def f93_k2_t (x0 x3 x11 x12:Value) (K:K1) (E1:VP2) (w:World):Prop:=
 ev prog (binM .add 3 (.tmp 12) (.const (.int .i64 1)) x12 (.int .i64 1)) w fun t29 w=>
 E1 x3 t29 w
theorem f93_k2_eq (K:K1) (E1:VP2) (x0 x3 x11 x12:Value) (w:World):f93_k2 K E1 x0 x3 x11 x12 w=f93_k2_t x0 x3 x11 x12 K E1 w:=cutE fun σ=>by kernel_rfl
def f93_t (x0:Value) (K:K1) (w:World):Prop:=
 ev prog (binM .eql 24 (.tmp 5) (.const (.pointer none)) x0 (.pointer none)) w fun t6 w=>
 cndS t6 (
 K (.slice none 0 0) w) (
 nilS prog x0 w fun t8 w=>
 ev prog (Instr.fieldAt 127 t8 2) w fun t9 w=>
 ldS prog 124 t9 w fun t10 w=>
 bltS prog .len #[124] 3 #[false] #[t10] w fun t11 w=>
 f93_l1 K x0 (.slice none 0 0) t11 (.int .i64 0) w)
theorem f93_call (x0:Value) (K:K1) (w:World) (h:f93_t x0 K w):callS prog 93 #[x0] w K:=
 call_of_txt (args:= [x0]) mixed Tryz.func93 f93_u.2 (by kernel_rfl) (cast (by kernel_rfl) h)
noncomputable def f94_u:Code×Dec:=((Tryz.f94.body).getD .skip,(.s .o (.b (.l [8] 193 1048352 .o))))
abbrev f94_e (K:K1):KF:=endK prog Tryz.f94.results.toList K
def f94_l1 (K:K1) (x0 x6 x7 x8:Value) (w:World):Prop:=loopT [8] 193 (fun E=>cP (pl (pl (pr f94_u))) E (f94_e K) (exB 0 (f94_e K) nX)) (fz 20 0 [(0,x0),(6,x6),(7,x7),(8,x8)]) w
def f94_l1_t (x0 x6 x7 x8:Value) (K:K1) (E1:VP1) (w:World):Prop:=
 ev prog (binM .lss 3 (.tmp 8) (.tmp 7) x8 x7) w fun t9 w=>
 cndS t9 (
 ev prog (Instr.indexAt 76 x6 x8) w fun t10 w=>
 ldS prog 80 t10 w fun t11 w=>
 ev prog (Instr.alloc 80 true (.tuple #[])) w fun t5 w=>
 stS prog 80 t5 t11 w fun w=>
 ev prog (Instr.fieldAt 80 t5 0) w fun t13 w=>
 ldS prog 30 t13 w fun t14 w=>
 ev prog (binM .quo 30 (.tmp 14) (.const (.int .u64 ((8:Nat):Int))) t14 (.int .u64 ((8:Nat):Int))) w fun t15 w=>
 ev prog (Instr.fieldAt 80 t5 1) w fun t16 w=>
 ldS prog 30 t16 w fun t17 w=>
 ev prog (Instr.indexAt 39 x0 t15) w fun t18 w=>
 stS prog 30 t18 t17 w fun w=>
 ev prog (binM .add 3 (.tmp 8) (.const (.int .i64 1)) x8 (.int .i64 1)) w fun t19 w=>
 E1 t19 w) (
 K (.tuple #[]) w)
theorem f94_l1_rule (x0 x6 x7 x8:Value) (K:K1) (w:World) (I:VP1) (μ:Value→World→Nat) (h0:I x8 w)
  (hr:∀(x8:Value) (w:World),I x8 w→∀E1:VP1,(∀(y8:Value) (w':World),I y8 w'→μ y8 w'<μ x8 w→E1 y8 w')→f94_l1_t x0 x6 x7 x8 K E1 w):f94_l1 K x0 x6 x7 x8 w:=
 ⟨I,μ,h0,fun σ w hI E hE=>cast (by kernel_rfl) (hr (σ 8) w hI E hE)⟩
def f94_t (x0 x1:Value) (K:K1) (w:World):Prop:=
 bltS prog .len #[76] 3 #[false] #[x1] w fun t7 w=>
 f94_l1 K x0 x1 t7 (.int .i64 0) w
theorem f94_call (x0 x1:Value) (K:K1) (w:World) (h:f94_t x0 x1 K w):callS prog 94 #[x0,x1] w K:=
 call_of_txt (args:= [x0,x1]) mixed Tryz.func94 f94_u.2 (by kernel_rfl) (cast (by kernel_rfl) h)
noncomputable def f95_u:Code×Dec:=((Tryz.f95.body).getD .skip,(.s .o (.s .o (.x 8 (.s .o (.b (.l [11] 1033 536868880 .o))) .o))))
abbrev f95_e (K:K1):KF:=endK prog Tryz.f95.results.toList K
def f95_k1_o (K:K1):KF:=fun fr w=>∀σ,cP (pr (pr (pr f95_u))) (f95_e K) (f95_e K) nX (mixF 8 σ 0 fr) w
def f95_k1 (K:K1) (x3:Value) (w:World):Prop:=f95_k1_o K (fz 30 0 [(3,x3)]) w
def f95_l1 (K:K1) (x0 x3 x10 x11:Value) (w:World):Prop:=loopT [11] 1033 (fun E=>cP (pl (pl (pr (pl (pr (pr f95_u)))))) E (f95_e K) (exB 0 (f95_k1_o K) nX)) (fz 30 0 [(0,x0),(3,x3),(10,x10),(11,x11)]) w
def f95_k1_t (x3:Value) (K:K1) (w:World):Prop:=
 K x3 w
theorem f95_k1_eq (K:K1) (x3:Value) (w:World):f95_k1 K x3 w=f95_k1_t x3 K w:=cutE fun σ=>by kernel_rfl
def f95_l1_t (x0 x3 x10 x11:Value) (K:K1) (E1:VP1) (w:World):Prop:=
 ev prog (binM .lss 3 (.tmp 11) (.tmp 10) x11 x10) w fun t12 w=>
 cndS t12 (
 ev prog (binM .quo 3 (.tmp 17) (.const (.int .i64 8)) x11 (.int .i64 8)) w fun t18 w=>
 ev prog (Instr.indexAt 39 x0 t18) w fun t19 w=>
 ldS prog 30 t19 w fun t20 w=>
 ev prog (binM .rem 3 (.tmp 21) (.const (.int .i64 8)) x11 (.int .i64 8)) w fun t22 w=>
 ev prog (binM .mul 3 (.tmp 22) (.const (.int .i64 8)) t22 (.int .i64 8)) w fun t23 w=>
 ev prog (convert 3 96 t23) w fun t24 w=>
 ev prog (binM .shr 30 (.tmp 20) (.tmp 24) t20 t24) w fun t25 w=>
 ev prog (convert 30 5 t25) w fun t26 w=>
 ev prog (Instr.indexAt 58 x3 x11) w fun t27 w=>
 stS prog 5 t27 t26 w fun w=>
 ev prog (binM .add 3 (.tmp 11) (.const (.int .i64 1)) x11 (.int .i64 1)) w fun t28 w=>
 E1 t28 w) (
 f95_k1 K x3 w)
theorem f95_l1_rule (x0 x3 x10 x11:Value) (K:K1) (w:World) (I:VP1) (μ:Value→World→Nat) (h0:I x11 w)
  (hr:∀(x11:Value) (w:World),I x11 w→∀E1:VP1,(∀(y11:Value) (w':World),I y11 w'→μ y11 w'<μ x11 w→E1 y11 w')→f95_l1_t x0 x3 x10 x11 K E1 w):f95_l1 K x0 x3 x10 x11 w:=
 ⟨I,μ,h0,fun σ w hI E hE=>cast (by kernel_rfl) (hr (σ 11) w hI E hE)⟩
def f95_t (x0:Value) (K:K1) (w:World):Prop:=
 bltS prog .len #[39] 3 #[false] #[x0] w fun t6 w=>
 ev prog (binM .mul 3 (.tmp 6) (.const (.int .i64 8)) t6 (.int .i64 8)) w fun t7 w=>
 ev prog (Instr.makeSlice 58 t7 t7) w fun t8 w=>
 bltS prog .len #[58] 3 #[false] #[t8] w fun t10 w=>
 f95_l1 K x0 t8 t10 (.int .i64 0) w
theorem f95_call (x0:Value) (K:K1) (w:World) (h:f95_t x0 K w):callS prog 95 #[x0] w K:=
 call_of_txt (args:= [x0]) mixed Tryz.func95 f95_u.2 (by kernel_rfl) (cast (by kernel_rfl) h)
def f111_t (x0:Value) (K:K1) (w:World):Prop:=
 ev prog (binM .eql 24 (.tmp 3) (.const (.pointer none)) x0 (.pointer none)) w fun t4 w=>
 cndS t4 (
 K (.int .i64 0) w) (
 nilS prog x0 w fun t6 w=>
 ev prog (Instr.fieldAt 127 t6 2) w fun t7 w=>
 ldS prog 124 t7 w fun t8 w=>
 bltS prog .len #[124] 3 #[false] #[t8] w fun t9 w=>
 K t9 w)
theorem f111_call (x0:Value) (K:K1) (w:World) (h:f111_t x0 K w):callS prog 111 #[x0] w K:=
 call_of_txt (args:= [x0]) mixed Tryz.func111 .o (by kernel_rfl) (cast (by kernel_rfl) h)
def f167_t (x0:Value) (K:K1) (w:World):Prop:=
 ev prog (binM .eql 25 (.tmp 3) (.const (.pointer none)) x0 (.pointer none)) w fun t4 w=>
 cndS t4 (
 K (.int .u64 ((0:Nat):Int)) w) (
 nilS prog x0 w fun t6 w=>
 ev prog (Instr.fieldAt 99 t6 0) w fun t7 w=>
 ldS prog 24 t7 w fun t8 w=>
 callS prog 85 (pA #[t8]) w fun t9 w=>
 K t9 w)
theorem f167_call (x0:Value) (K:K1) (w:World) (h:f167_t x0 K w):callS prog 167 #[x0] w K:=
 call_of_txt (args:= [x0]) mixed Tryz.func167 .o (by kernel_rfl) (cast (by kernel_rfl) h)
structure DS where
 n:Nat
 cur:Nat→Nat
 pers:Nat→Nat
 done:Nat→Nat
 hist:Nat→List (Nat×Nat)
 off:Bool
 armed:Bool
 left:Int
 exe:Nat
 err:Nat→Int
 notes:Nat→Int→Option Nat
structure Lay where
 n:Nat
 d:Nat
 pb:Nat
 cb:Nat
 pc:Nat
 cc:Nat
 lb:Nat
 tb:Nat→Nat
 nb:Nat→Nat
 dt:Nat→Nat
 ids:Nat→Nat
 hv:Nat→Value
inductive Role
 |dev|pe|cu|li
 |th (i:Nat)|nt (i:Nat)|hs (l:Nat)
def Lay.blk (Y:Lay):Role→Option Nat
 | .dev=>some Y.d
 | .pe=>some Y.pb
 | .cu=>some Y.cb
 | .li=>some Y.lb
 | .th i=>if i<8 then some (Y.tb i) else none
 | .nt i=>if i<8 then some (Y.nb i) else none
 | .hs l=>if l<Y.n then (Y.hv l).ownBlock else none
def Lay.F (Y:Lay) (b:Nat):Prop:=∃r,Y.blk r=some b
abbrev bp (b:Nat):Value:= .pointer (some ⟨b,0,none⟩)
abbrev u64 (n:Nat):Value:= .int .u64 (n:Int)
abbrev sl (b n c:Nat):Value:= .slice (some ⟨b,0,none⟩) n c
def devF (Y:Lay) (D:DS) (i:Nat):Value:=
 if i=0 then sl Y.pb (8*D.n) Y.pc else if i=1 then sl Y.cb (8*D.n) Y.cc else if i=2 then sl Y.lb D.n D.n else
 if i<11 then bp (Y.dt (i-3)) else if i=11 then .bool D.off else if i=12 then .bool D.armed else if i=13 then .int .i64 D.left else u64 D.exe
def linF (Y:Lay) (D:DS) (i:Nat):Value:=if i%2=0 then u64 (D.done (i/2)) else Y.hv (i/2)
def thF (Y:Lay) (D:DS) (id i:Nat):Value:=if i=0 then bp Y.d else if i=1 then .int .i64 (Y.ids id:Int) else if i=2 then .int .i64 (D.err id) else .map (some (Y.nb id))
def wrL:List (Nat×Nat)→List Value
 | []=> []
 |(o,v)::l=>u64 o::u64 v::wrL l
def ntF (D:DS) (id:Nat) (i:Int):Option Value:=(D.notes id i).map u64
structure Good (D:DS):Prop where
 n0:0<D.n
 n:D.n≤4096
 cur:∀i,i<8*D.n→D.cur i<18446744073709551616
 pers:∀i,i<8*D.n→D.pers i<18446744073709551616
 hist:∀l,l<D.n→∀o v,(o,v)∈D.hist l→o%8=0∧o/64=l∧v<18446744073709551616
 cnt:∀l,l<D.n→D.done l+(D.hist l).length≤D.exe
 left:0≤D.left∧D.left<9223372036854775808
 notes:∀id,id<8→∀k p,D.notes id k=some p→0≤k∧k<D.n∧p≤D.done k.toNat+(D.hist k.toNat).length
structure Dv (w:World) (Y:Lay) (D:DS):Prop where
 yn:Y.n=D.n
 dev:Cells w Y.d 127 15 (devF Y D)
 pe:Cells w Y.pb 30 (8*D.n) (fun i=>u64 (D.pers i))
 cu:Cells w Y.cb 30 (8*D.n) (fun i=>u64 (D.cur i))
 li:Cells w Y.lb 160 (2*D.n) (linF Y D)
 hs:∀l,l<D.n→SlO w 80 2 (Y.hv l) (D.hist l).length (wrL (D.hist l))
 th:∀i,i<8→Cells w (Y.tb i) 99 4 (thF Y D i)
 nt:∀i,i<8→∃es c,MapI w (Y.nb i) es c (ntF D i)
 inj:∀r r' b,Y.blk r=some b→Y.blk r'=some b→r=r'
theorem Dv.lt {w:World} {Y:Lay} {D:DS} (h:Dv w Y D) {b:Nat} (hb:Y.F b):b<w.heap.size:=by
 obtain ⟨r,hr⟩:=hb
 cases r with
 |dev=>injection hr with hr;subst hr;exact h.dev.lt
 |pe=>injection hr with hr;subst hr;exact h.pe.lt
 |cu=>injection hr with hr;subst hr;exact h.cu.lt
 |li=>injection hr with hr;subst hr;exact h.li.lt
 |th i=>simp only [Lay.blk] at hr;split at hr<;>cases hr;exact (h.th i (by assumption)).lt
 |nt i=>
  simp only [Lay.blk] at hr;split at hr<;>cases hr
  obtain ⟨es,c,hm⟩:=h.nt i (by assumption)
  exact hm.lt
 |hs l=>
  simp only [Lay.blk] at hr;split at hr
  ·exact (h.hs l (by have:=h.yn;omega)).lt hr
  ·cases hr
theorem Dv.of_heap {w w':World} {Y:Lay} {D:DS} (h:Dv w Y D) (e:∀b,Y.F b→w'.heap[b]? =w.heap[b]?):Dv w' Y D where
 yn:=h.yn
 dev:=h.dev.of_heap (e _ ⟨.dev,rfl⟩)
 pe:=h.pe.of_heap (e _ ⟨.pe,rfl⟩)
 cu:=h.cu.of_heap (e _ ⟨.cu,rfl⟩)
 li:=h.li.of_heap (e _ ⟨.li,rfl⟩)
 hs l hl:=(h.hs l hl).of_heap (fun b hb=>e b ⟨.hs l,by have:=h.yn;simp only [Lay.blk];rw [if_pos (by omega)];exact hb⟩)
 th i hi:=(h.th i hi).of_heap (e _ ⟨.th i,by simp [Lay.blk,hi]⟩)
 nt i hi:=by obtain ⟨es,c,hm⟩:=h.nt i hi;exact ⟨es,c,hm.of_heap (e _ ⟨.nt i,by simp [Lay.blk,hi]⟩)⟩
 inj:=h.inj
theorem Dv.ext {w w':World} {Y:Lay} {D:DS} (h:Dv w Y D) (e:Ext w w'):Dv w' Y D:=h.of_heap (fun b hb=>e.blk b (h.lt hb))
theorem Dv.frm {w w':World} {Y:Lay} {D:DS} {G:Nat→Prop} (h:Dv w Y D) (e:Frm G w w') (hG:∀b,Y.F b→¬G b):Dv w' Y D:=h.of_heap (fun b hb=>e.block b (h.lt hb) (hG b hb))
structure Stp (w:World) (Y:Lay) (w':World) (Y':Lay) (D':DS):Prop where
 dv:Dv w' Y' D'
 y:Y'={Y with hv:=Y'.hv}
 frm:Frm Y.F w w'
 fr:∀b,Y'.F b→Y.F b∨w.heap.size≤b
theorem Stp.refl {w:World} {Y:Lay} {D:DS} (h:Dv w Y D):Stp w Y w Y D:=⟨h,rfl,Frm.refl _ _,fun b hb=> .inl hb⟩
theorem Stp.ext {w w':World} {Y:Lay} {D:DS} (h:Dv w Y D) (e:Ext w w'):Stp w Y w' Y D:=⟨h.ext e,rfl,Frm.of_ext e,fun b hb=> .inl hb⟩
theorem Stp.trans {w w' w'':World} {Y Y' Y'':Lay} {D' D'':DS} (h:Stp w Y w' Y' D') (k:Stp w' Y' w'' Y'' D''):Stp w Y w'' Y'' D'' where
 dv:=k.dv
 y:=by rw [k.y,h.y]
 frm:=h.frm.trans k.frm (fun x hx hf=>by
  rcases h.fr x hf with h1|h1
  ·exact h1
  ·omega)
 fr b hb:=by
  rcases k.fr b hb with h1|h1
  ·exact h.fr b h1
  ·exact .inr (Nat.le_trans h.frm.size h1)
theorem Stp.grow {w w' w'':World} {Y Y':Lay} {D':DS} (h:Stp w Y w' Y' D') (e:Ext w' w''):Stp w Y w'' Y' D':=h.trans (Stp.ext h.dv e)
theorem Stp.pre {w0 w w':World} {Y Y':Lay} {D':DS} (e:Ext w0 w) (hl:∀b,Y.F b→b<w0.heap.size) (h:Stp w Y w' Y' D'):Stp w0 Y w' Y' D' where
 dv:=h.dv
 y:=h.y
 frm:=(Frm.of_ext e:Frm Y.F w0 w).trans h.frm (fun _ _ h=>h)
 fr b hb:=by
  rcases h.fr b hb with h1|h1
  ·exact .inl h1
  ·exact .inr (Nat.le_trans e.size h1)
theorem Stp.to {w w':World} {Y Y':Lay} {D1 D2:DS} (h:Stp w Y w' Y' D1) (e:D1=D2):Stp w Y w' Y' D2:=e▸h
theorem Stp.tb {w w':World} {Y Y':Lay} {D':DS} (h:Stp w Y w' Y' D'):Y'.tb=Y.tb:=by rw [h.y]
theorem Stp.d {w w':World} {Y Y':Lay} {D':DS} (h:Stp w Y w' Y' D'):Y'.d=Y.d:=by rw [h.y]
theorem Frm.one (w:World) (b i:Nat) (v:Value):Frm (fun x=>x=b) w (w.setCell ⟨b,i,none⟩ v):=(Frm.refl _ w).set v (fun _=>rfl)
section
variable {w w':World} {Y:Lay} {D D':DS}
theorem Dv.setDev (h:Dv w Y D) (i:Nat) (v:Value) (hi:i<15) (hv:∀j,j<15→devF Y D' j=if j=i then v else devF Y D j)
  (e:D'.n=D.n∧D'.pers=D.pers∧D'.cur=D.cur∧D'.done=D.done∧D'.hist=D.hist∧D'.err=D.err∧D'.notes=D.notes):Stp w Y (w.setCell ⟨Y.d,i,none⟩ v) Y D':=by
 have hf:=Frm.one w Y.d i v
 have ne:∀r b,Y.blk r=some b→r≠ .dev→b≠Y.d:=fun r b hr hn e=>hn (h.inj r .dev b hr (by rw [e];rfl))
 obtain ⟨e1,e2,e3,e4,e5,e6,e7⟩:=e
 refine ⟨⟨by rw [e1];exact h.yn,(h.dev.set v hi).congr (fun j hj=>(hv j hj).symm),?_,?_,?_,?_,?_,?_,h.inj⟩,rfl,hf.mono (fun b hb=>⟨.dev,by rw [hb];rfl⟩),fun b hb=> .inl hb⟩
 ·rw [e1,e2];exact h.pe.frm hf (ne .pe _ rfl (by simp))
 ·rw [e1,e3];exact h.cu.frm hf (ne .cu _ rfl (by simp))
 ·have:linF Y D'=linF Y D:=by funext j;simp [linF,e4]
  rw [e1,this];exact h.li.frm hf (ne .li _ rfl (by simp))
 ·rw [e1,e5];exact fun l hl=>(h.hs l hl).frm hf (fun b hb=>ne (.hs l) b (by simp only [Lay.blk];rw [if_pos (by have:=h.yn;omega)];exact hb) (by simp))
 ·intro j hj
  have:thF Y D' j=thF Y D j:=by funext q;simp [thF,e6]
  rw [this];exact (h.th j hj).frm hf (ne (.th j) _ (by simp [Lay.blk,hj]) (by simp))
 ·intro j hj
  have:ntF D' j=ntF D j:=by funext q;simp [ntF,e7]
  rw [this]
  obtain ⟨es,c,hm⟩:=h.nt j hj
  exact ⟨es,c,hm.of_heap (hf.block _ hm.lt (ne (.nt j) _ (by simp [Lay.blk,hj]) (by simp)))⟩
theorem Dv.setErr (h:Dv w Y D) (id:Nat) (hid:id<8) (x:Int):Stp w Y (w.setCell ⟨Y.tb id,2,none⟩ (.int .i64 x)) Y {D with err:=fun j=>if j=id then x else D.err j}:=by
 have hf:=Frm.one w (Y.tb id) 2 (.int .i64 x)
 have hb:Y.blk (.th id)=some (Y.tb id):=by simp [Lay.blk,hid]
 have ne:∀r b,Y.blk r=some b→r≠ .th id→b≠Y.tb id:=fun r b hr hn e=>hn (h.inj r (.th id) b hr (by rw [e];exact hb))
 refine ⟨⟨h.yn,h.dev.frm hf (ne .dev _ rfl (by simp)),h.pe.frm hf (ne .pe _ rfl (by simp)),h.cu.frm hf (ne .cu _ rfl (by simp)),h.li.frm hf (ne .li _ rfl (by simp)),?_,?_,?_,h.inj⟩,rfl,hf.mono (fun b hb'=>⟨.th id,by rw [hb'];exact hb⟩),fun b hb=> .inl hb⟩
 ·exact fun l hl=>(h.hs l hl).frm hf (fun b hb=>ne (.hs l) b (by simp only [Lay.blk];rw [if_pos (by have:=h.yn;have:l<D.n:=hl;omega)];exact hb) (by simp))
 ·intro j hj
  by_cases hji:j=id
  ·subst hji
   refine ((h.th j hj).set _ (by omega)).congr (fun q hq=> ?_)
   have hq':q=0∨q=1∨q=2∨q=3:=by omega
   rcases hq' with rfl|rfl|rfl|rfl<;>simp [thF]
  ·have:thF Y {D with err:=fun j=>if j=id then x else D.err j} j=thF Y D j:=by funext q;simp [thF,hji]
   rw [this];exact (h.th j hj).frm hf (ne (.th j) _ (by simp [Lay.blk,hj]) (by simpa using hji))
 ·intro j hj
  obtain ⟨es,c,hm⟩:=h.nt j hj
  exact ⟨es,c,hm.of_heap (hf.block _ hm.lt (ne (.nt j) _ (by simp [Lay.blk,hj]) (by simp)))⟩
theorem Dv.setCur (h:Dv w Y D) (i x:Nat) (hi:i<8*D.n):Stp w Y (w.setCell ⟨Y.cb,i,none⟩ (u64 x)) Y {D with cur:=fun j=>if j=i then x else D.cur j}:=by
 have hf:=Frm.one w Y.cb i (u64 x)
 have ne:∀r b,Y.blk r=some b→r≠ .cu→b≠Y.cb:=fun r b hr hn e=>hn (h.inj r .cu b hr (by rw [e];rfl))
 refine ⟨⟨h.yn,h.dev.frm hf (ne .dev _ rfl (by simp)),h.pe.frm hf (ne .pe _ rfl (by simp)),?_,h.li.frm hf (ne .li _ rfl (by simp)),?_,?_,?_,h.inj⟩,rfl,hf.mono (fun b hb'=>⟨.cu,by rw [hb'];rfl⟩),fun b hb=> .inl hb⟩
 ·exact (h.cu.set (u64 x) hi).congr (fun j hj=>by show _=u64 (if j=i then x else D.cur j);split<;>simp_all)
 ·exact fun l hl=>(h.hs l hl).frm hf (fun b hb=>ne (.hs l) b (by simp only [Lay.blk];rw [if_pos (by have:=h.yn;have:l<D.n:=hl;omega)];exact hb) (by simp))
 ·exact fun j hj=>(h.th j hj).frm hf (ne (.th j) _ (by simp [Lay.blk,hj]) (by simp))
 ·intro j hj
  obtain ⟨es,c,hm⟩:=h.nt j hj
  exact ⟨es,c,hm.of_heap (hf.block _ hm.lt (ne (.nt j) _ (by simp [Lay.blk,hj]) (by simp)))⟩
theorem Dv.setPers (h:Dv w Y D) (i x:Nat) (hi:i<8*D.n):Stp w Y (w.setCell ⟨Y.pb,i,none⟩ (u64 x)) Y {D with pers:=fun j=>if j=i then x else D.pers j}:=by
 have hf:=Frm.one w Y.pb i (u64 x)
 have ne:∀r b,Y.blk r=some b→r≠ .pe→b≠Y.pb:=fun r b hr hn e=>hn (h.inj r .pe b hr (by rw [e];rfl))
 refine ⟨⟨h.yn,h.dev.frm hf (ne .dev _ rfl (by simp)),?_,h.cu.frm hf (ne .cu _ rfl (by simp)),h.li.frm hf (ne .li _ rfl (by simp)),?_,?_,?_,h.inj⟩,rfl,hf.mono (fun b hb'=>⟨.pe,by rw [hb'];rfl⟩),fun b hb=> .inl hb⟩
 ·exact (h.pe.set (u64 x) hi).congr (fun j hj=>by show _=u64 (if j=i then x else D.pers j);split<;>simp_all)
 ·exact fun l hl=>(h.hs l hl).frm hf (fun b hb=>ne (.hs l) b (by simp only [Lay.blk];rw [if_pos (by have:=h.yn;have:l<D.n:=hl;omega)];exact hb) (by simp))
 ·exact fun j hj=>(h.th j hj).frm hf (ne (.th j) _ (by simp [Lay.blk,hj]) (by simp))
 ·intro j hj
  obtain ⟨es,c,hm⟩:=h.nt j hj
  exact ⟨es,c,hm.of_heap (hf.block _ hm.lt (ne (.nt j) _ (by simp [Lay.blk,hj]) (by simp)))⟩
theorem Dv.setDone (h:Dv w Y D) (l x:Nat) (hl:l<D.n):Stp w Y (w.setCell ⟨Y.lb,l*2,none⟩ (u64 x)) Y {D with done:=fun j=>if j=l then x else D.done j}:=by
 have hf:=Frm.one w Y.lb (l*2) (u64 x)
 have ne:∀r b,Y.blk r=some b→r≠ .li→b≠Y.lb:=fun r b hr hn e=>hn (h.inj r .li b hr (by rw [e];rfl))
 refine ⟨⟨h.yn,h.dev.frm hf (ne .dev _ rfl (by simp)),h.pe.frm hf (ne .pe _ rfl (by simp)),h.cu.frm hf (ne .cu _ rfl (by simp)),?_,?_,?_,?_,h.inj⟩,rfl,hf.mono (fun b hb'=>⟨.li,by rw [hb'];rfl⟩),fun b hb=> .inl hb⟩
 ·refine (h.li.set (u64 x) (i:=l*2) (by omega)).congr (fun j hj=> ?_)
  by_cases e:j=l*2
  ·subst e
   have e1:l*2%2=0:=by omega
   have e2:l*2/2=l:=by omega
   simp [linF,e1,e2]
  ·rw [if_neg e]
   by_cases e2:j%2=0
   ·have:¬j/2=l:=by omega
    simp [linF,e2,this]
   ·simp [linF,e2]
 ·exact fun l hl=>(h.hs l hl).frm hf (fun b hb=>ne (.hs l) b (by simp only [Lay.blk];rw [if_pos (by have:=h.yn;have:l<D.n:=hl;omega)];exact hb) (by simp))
 ·exact fun j hj=>(h.th j hj).frm hf (ne (.th j) _ (by simp [Lay.blk,hj]) (by simp))
 ·intro j hj
  obtain ⟨es,c,hm⟩:=h.nt j hj
  exact ⟨es,c,hm.of_heap (hf.block _ hm.lt (ne (.nt j) _ (by simp [Lay.blk,hj]) (by simp)))⟩
theorem Dv.setHist (h:Dv w Y D) (l:Nat) (hl:l<D.n) (v:Value) (H:List (Nat×Nat)) (hv:SlO w' 80 2 v H.length (wrL H)) (hf:Frm (fun b=>(Y.hv l).ownBlock=some b) w w') (hn:∀b,v.ownBlock=some b→(Y.hv l).ownBlock=some b∨w.heap.size≤b):
  Stp w Y (w'.setCell ⟨Y.lb,l*2+1,none⟩ v) {Y with hv:=fun j=>if j=l then v else Y.hv j} {D with hist:=fun j=>if j=l then H else D.hist j}:=by
 have hyn:=h.yn
 have hbl:∀b,(Y.hv l).ownBlock=some b→Y.blk (.hs l)=some b:=fun b hb=>by simp only [Lay.blk];rw [if_pos (by omega)];exact hb
 have ne:∀r b,Y.blk r=some b→r≠ .hs l→¬(Y.hv l).ownBlock=some b:=fun r b hr hn e=>hn (h.inj r (.hs l) b hr (hbl b e))
 have hli:=h.li.frm hf (ne .li _ rfl (by simp))
 have hf2:=Frm.one w' Y.lb (l*2+1) v
 have ne2:∀r b,Y.blk r=some b→r≠ .li→b≠Y.lb:=fun r b hr hn e=>hn (h.inj r .li b hr (by rw [e];rfl))
 have hvl:∀b,v.ownBlock=some b→b≠Y.lb:=by
  intro b hb e
  rcases hn b hb with h1|h1
  ·exact ne2 (.hs l) b (hbl b h1) (by simp) e
  ·have:=h.li.lt;omega
 have blk':∀r,r≠ .hs l→Lay.blk {Y with hv:=fun j=>if j=l then v else Y.hv j} r=Y.blk r:=by
  intro r hr
  cases r with
  |hs q=>have:¬q=l:=fun e=>hr (by rw [e]);simp [Lay.blk,this]
  |_=>rfl
 have blkl:Lay.blk {Y with hv:=fun j=>if j=l then v else Y.hv j} (.hs l)=v.ownBlock:=by simp [Lay.blk];omega
 have both:Frm Y.F w (w'.setCell ⟨Y.lb,l*2+1,none⟩ v):=(hf.mono (fun b hb=>(⟨.hs l,hbl b hb⟩:Y.F b))).trans (hf2.mono (fun b hb=>(⟨.li,by rw [hb];rfl⟩:Y.F b))) (fun _ _ h=>h)
 have hnew:∀b,v.ownBlock=some b→∀r,r≠ .hs l→Y.blk r=some b→False:=by
  intro b hb r hr hrb
  rcases hn b hb with h1|h1
  ·exact ne r b hrb hr h1
  ·have:=h.lt ⟨r,hrb⟩;omega
 refine ⟨⟨h.yn,?_,?_,?_,?_,?_,?_,?_,?_⟩,rfl,both,?_⟩
 ·exact (h.dev.frm hf (ne .dev _ rfl (by simp))).frm hf2 (ne2 .dev _ rfl (by simp))
 ·exact (h.pe.frm hf (ne .pe _ rfl (by simp))).frm hf2 (ne2 .pe _ rfl (by simp))
 ·exact (h.cu.frm hf (ne .cu _ rfl (by simp))).frm hf2 (ne2 .cu _ rfl (by simp))
 ·refine (hli.set v (i:=l*2+1) (by omega)).congr (fun j hj=> ?_)
  by_cases e:j=l*2+1
  ·subst e
   have e1:(l*2+1)%2=1:=by omega
   have e2:(l*2+1)/2=l:=by omega
   simp [linF,e1,e2]
  ·rw [if_neg e]
   by_cases e2:j%2=0
   ·simp [linF,e2]
   ·have:¬j/2=l:=by omega
    simp [linF,e2,this]
 ·intro q hq
  have hq':q<D.n:=hq
  by_cases e:q=l
  ·subst e
   simp only [if_true]
   exact hv.frm hf2 hvl
  ·simp only [e,if_false]
   have hqb:∀b,(Y.hv q).ownBlock=some b→Y.blk (.hs q)=some b:=fun b hb=>by simp only [Lay.blk];rw [if_pos (by omega)];exact hb
   exact ((h.hs q hq').frm hf (fun b hb=>ne (.hs q) b (hqb b hb) (by simpa using e))).frm hf2 (fun b hb=>ne2 (.hs q) b (hqb b hb) (by simp))
 ·intro j hj
  exact ((h.th j hj).frm hf (ne (.th j) _ (by simp [Lay.blk,hj]) (by simp))).frm hf2 (ne2 (.th j) _ (by simp [Lay.blk,hj]) (by simp))
 ·intro j hj
  obtain ⟨es,c,hm⟩:=h.nt j hj
  have hm1:=hm.of_heap (hf.block _ hm.lt (ne (.nt j) _ (by simp [Lay.blk,hj]) (by simp)))
  exact ⟨es,c,hm1.of_heap (hf2.block _ hm1.lt (ne2 (.nt j) _ (by simp [Lay.blk,hj]) (by simp)))⟩
 ·intro r r' b hr hr'
  by_cases e1:r= .hs l
  ·by_cases e2:r'= .hs l
   ·rw [e1,e2]
   ·rw [e1,blkl] at hr;rw [blk' r' e2] at hr'
    exact (hnew b hr r' e2 hr').elim
  ·by_cases e2:r'= .hs l
   ·rw [e2,blkl] at hr';rw [blk' r e1] at hr
    exact (hnew b hr' r e1 hr).elim
   ·rw [blk' r e1] at hr;rw [blk' r' e2] at hr';exact h.inj r r' b hr hr'
 ·rintro b ⟨r,hr⟩
  by_cases e1:r= .hs l
  ·rw [e1,blkl] at hr
   rcases hn b hr with h1|h1
   ·exact .inl ⟨.hs l,hbl b h1⟩
   ·exact .inr h1
  ·rw [blk' r e1] at hr;exact .inl ⟨r,hr⟩
theorem Dv.setNote (h:Dv w Y D) (id:Nat) (hid:id<8) (m:Int→Option Nat) {es:Array MapEntry} {c:Nat} (hm:MapI w' (Y.nb id) es c (fun i=>(m i).map u64)) (hf:Frm (fun b=>b=Y.nb id) w w'):
  Stp w Y w' Y {D with notes:=fun j=>if j=id then m else D.notes j}:=by
 have hb:Y.blk (.nt id)=some (Y.nb id):=by simp [Lay.blk,hid]
 have ne:∀r b,Y.blk r=some b→r≠ .nt id→b≠Y.nb id:=fun r b hr hn e=>hn (h.inj r (.nt id) b hr (by rw [e];exact hb))
 refine ⟨⟨h.yn,h.dev.frm hf (ne .dev _ rfl (by simp)),h.pe.frm hf (ne .pe _ rfl (by simp)),h.cu.frm hf (ne .cu _ rfl (by simp)),h.li.frm hf (ne .li _ rfl (by simp)),?_,?_,?_,h.inj⟩,rfl,hf.mono (fun b hb'=>⟨.nt id,by rw [hb'];exact hb⟩),fun b hb=> .inl hb⟩
 ·exact fun l hl=>(h.hs l hl).frm hf (fun b hb=>ne (.hs l) b (by simp only [Lay.blk];rw [if_pos (by have:=h.yn;have:l<D.n:=hl;omega)];exact hb) (by simp))
 ·exact fun j hj=>(h.th j hj).frm hf (ne (.th j) _ (by simp [Lay.blk,hj]) (by simp))
 ·intro j hj
  by_cases e:j=id
  ·subst e
   have e:ntF {D with notes:=fun q=>if q=j then m else D.notes q} j=fun i=>(m i).map u64:=by funext q;simp [ntF]
   rw [e];exact ⟨es,c,hm⟩
  ·obtain ⟨es',c',hm'⟩:=h.nt j hj
   have:ntF {D with notes:=fun j=>if j=id then m else D.notes j} j=ntF D j:=by funext q;simp [ntF,e]
   rw [this]
   exact ⟨es',c',hm'.of_heap (hf.block _ hm'.lt (ne (.nt j) _ (by simp [Lay.blk,hj]) (by simpa using e)))⟩
end
section
variable {w w':World} {Y:Lay} {D D':DS}
theorem Dv.c_tdev (h:Dv w Y D) (id:Nat) (hi:id<8):w.cell? ⟨Y.tb id,0,none⟩=some (.pointer (some ⟨Y.d,0,none⟩)):=(h.th id hi).cell (by omega)
theorem Dv.c_err (h:Dv w Y D) (id:Nat) (hi:id<8):w.cell? ⟨Y.tb id,2,none⟩=some (.int .i64 (D.err id)):=(h.th id hi).cell (by omega)
theorem Dv.c_nb (h:Dv w Y D) (id:Nat) (hi:id<8):w.cell? ⟨Y.tb id,3,none⟩=some (.map (some (Y.nb id))):=(h.th id hi).cell (by omega)
theorem Dv.z_t (h:Dv w Y D) (id i:Nat) (hi:id<8):w.frozen? ⟨Y.tb id,i,none⟩=false:=(h.th id hi).frz i
theorem Dv.c_pe (h:Dv w Y D):w.cell? ⟨Y.d,0,none⟩=some (.slice (some ⟨Y.pb,0,none⟩) (8*D.n) Y.pc):=h.dev.cell (by omega)
theorem Dv.c_cu (h:Dv w Y D):w.cell? ⟨Y.d,1,none⟩=some (.slice (some ⟨Y.cb,0,none⟩) (8*D.n) Y.cc):=h.dev.cell (by omega)
theorem Dv.c_li (h:Dv w Y D):w.cell? ⟨Y.d,2,none⟩=some (.slice (some ⟨Y.lb,0,none⟩) D.n D.n):=h.dev.cell (by omega)
theorem Dv.c_th (h:Dv w Y D) (i:Nat) (h1:3≤i) (h2:i<11):w.cell? ⟨Y.d,i,none⟩=some (.pointer (some ⟨Y.dt (i-3),0,none⟩)):=by
 rw [h.dev.cell (by omega)];unfold devF;rw [if_neg (by omega),if_neg (by omega),if_neg (by omega),if_pos h2]
theorem Dv.c_off (h:Dv w Y D):w.cell? ⟨Y.d,11,none⟩=some (.bool D.off):=h.dev.cell (by omega)
theorem Dv.c_arm (h:Dv w Y D):w.cell? ⟨Y.d,12,none⟩=some (.bool D.armed):=h.dev.cell (by omega)
theorem Dv.c_left (h:Dv w Y D):w.cell? ⟨Y.d,13,none⟩=some (.int .i64 D.left):=h.dev.cell (by omega)
theorem Dv.c_exe (h:Dv w Y D):w.cell? ⟨Y.d,14,none⟩=some (.int .u64 (D.exe:Int)):=h.dev.cell (by omega)
theorem Dv.z_d (h:Dv w Y D) (i:Nat):w.frozen? ⟨Y.d,i,none⟩=false:=h.dev.frz i
theorem Dv.c_cur (h:Dv w Y D) (i:Nat) (hi:i<8*D.n):w.cell? ⟨Y.cb,i,none⟩=some (.int .u64 (D.cur i:Int)):=h.cu.cell hi
theorem Dv.z_c (h:Dv w Y D) (i:Nat):w.frozen? ⟨Y.cb,i,none⟩=false:=h.cu.frz i
theorem Dv.c_pers (h:Dv w Y D) (i:Nat) (hi:i<8*D.n):w.cell? ⟨Y.pb,i,none⟩=some (.int .u64 (D.pers i:Int)):=h.pe.cell hi
theorem Dv.z_p (h:Dv w Y D) (i:Nat):w.frozen? ⟨Y.pb,i,none⟩=false:=h.pe.frz i
theorem Dv.c_done (h:Dv w Y D) (l:Nat) (hl:l<D.n):w.cell? ⟨Y.lb,l*2,none⟩=some (.int .u64 (D.done l:Int)):=by
 rw [h.li.cell (by omega)];unfold linF;rw [if_pos (by omega),show l*2/2=l by omega]
theorem Dv.c_hist (h:Dv w Y D) (l:Nat) (hl:l<D.n):w.cell? ⟨Y.lb,l*2+1,none⟩=some (Y.hv l):=by
 rw [h.li.cell (by omega)];unfold linF;rw [if_neg (by omega),show (l*2+1)/2=l by omega]
theorem Dv.z_l (h:Dv w Y D) (i:Nat):w.frozen? ⟨Y.lb,i,none⟩=false:=h.li.frz i
set_option linter.defProp false in
def Dv.R (h:Dv w Y D):=And.intro h.c_tdev<|And.intro h.c_err<|And.intro h.c_nb<|And.intro h.z_t<|And.intro h.c_pe<|And.intro h.c_cu<|And.intro h.c_li<|And.intro h.c_th<|And.intro h.c_off<|And.intro h.c_arm<|And.intro h.c_left<|And.intro h.c_exe<|And.intro h.z_d<|And.intro h.c_cur<|And.intro h.z_c<|And.intro h.c_pers<|And.intro h.z_p<|And.intro h.c_done<|And.intro h.c_hist h.z_l
end
def DS.fail (D:DS) (id:Nat) (e:Int):DS:=if D.err id=0 then {D with err:=fun j=>if j=id then e else D.err j} else D
theorem k_fail {w:World} {Y:Lay} {D:DS} (h:Dv w Y D) (id:Nat) (hid:id<8) (e:Int) (K:K1) (hK:∀w',Stp w Y w' Y (D.fail id e)→K (.tuple #[]) w'):callS prog 84 #[.pointer (some ⟨Y.tb id,0,none⟩),.int .i64 e] w K:=by
 refine f84_call _ _ _ _ ?_
 unfold f84_t
 (repeat' (first|(with_reducible first|refine brS_mk (fun _=> ?_) (fun _=> ?_)|refine And.intro ?_ ?_)|(simp (disch:=first|omega|simp only [RO]|(simp only [RZ]<;>omega)|fail) only [↓RBp,↓RA,↓reduceIte,Nat.reduceAdd,Nat.reduceMul,Nat.reduceEqDiff,RB,RX,RA2,h.R])))
 ·rename_i h0
  refine hK _ ?_
  unfold DS.fail;rw [if_pos h0];exact h.setErr id hid e
 ·rename_i h0
  refine hK _ ?_
  unfold DS.fail;rw [if_neg h0];exact Stp.refl h
def DS.on (D:DS) (id:Nat) (v:Bool):DS:=if D.off=true then D.fail id 3 else if v=true then D else D.fail id 2
theorem k_on {w:World} {Y:Lay} {D:DS} (h:Dv w Y D) (id:Nat) (hid:id<8) (v:Bool) (K:K1) (hK:∀w',Stp w Y w' Y (D.on id v)→K (.bool (!D.off&&v)) w'):callS prog 83 #[.pointer (some ⟨Y.tb id,0,none⟩),.bool v] w K:=by
 refine f83_call _ _ _ _ ?_
 unfold f83_t
 unfold DS.on at hK
 (repeat' (first|(with_reducible first|refine brS_mk (fun _=> ?_) (fun _=> ?_)|refine And.intro ?_ ?_)|(simp (disch:=first|omega|simp only [RO]|(simp only [RZ]<;>omega)|fail) only [↓RBp,↓RA,↓reduceIte,Nat.reduceAdd,Nat.reduceMul,Nat.reduceEqDiff,RB,RX,RA2,h.R])))
 ·rename_i h0
  refine k_fail h id hid 3 _ (fun w' hs=> ?_)
  simp (disch:=first|omega|simp only [RO]|(simp only [RZ]<;>omega)|fail) only [↓RBp,↓RA,↓reduceIte,Nat.reduceAdd,Nat.reduceMul,Nat.reduceEqDiff,RB,RX,RA2,f83_k1_eq,f83_k1_t]
  simpa [h0] using hK w' (by simpa [h0] using hs)
 ·rename_i h0 h1
  simpa [h0,h1] using hK w (by simpa [h0,h1] using Stp.refl h)
 ·rename_i h0 h1
  refine k_fail h id hid 2 _ (fun w' hs=> ?_)
  simp (disch:=first|omega|simp only [RO]|(simp only [RZ]<;>omega)|fail) only [↓RBp,↓RA,↓reduceIte,Nat.reduceAdd,Nat.reduceMul,Nat.reduceEqDiff,RB,RX,RA2,f83_k1_eq,f83_k1_t]
  simpa [h0,h1] using hK w' (by simpa [h0,h1] using hs)
def DS.counted (D:DS) (id:Nat) (v:Bool):DS:=
 if D.off=true then D.fail id 3 else if v=false then D.fail id 2 else
 if D.armed=true then if D.left=0 then ({D with off:=true}:DS).fail id 3 else {D with left:=D.left-1,exe:=D.exe+1} else {D with exe:=D.exe+1}
def DS.runs (D:DS) (v:Bool):Bool:= !D.off&&v&& !(D.armed&&decide (D.left=0))
theorem devF_off (Y:Lay) (D:DS) (b:Bool) (j:Nat):devF Y {D with off:=b} j=if j=11 then .bool b else devF Y D j:=by
 unfold devF
 by_cases h:j=11
 ·subst h;simp
 ·simp [h]
theorem devF_left (Y:Lay) (D:DS) (x:Int) (j:Nat):devF Y {D with left:=x} j=if j=13 then .int .i64 x else devF Y D j:=by
 unfold devF
 by_cases h:j=13
 ·subst h;simp
 ·simp [h]
theorem devF_exe (Y:Lay) (D:DS) (x:Nat) (j:Nat) (hj:j<15):devF Y {D with exe:=x} j=if j=14 then .int .u64 (x:Int) else devF Y D j:=by
 unfold devF
 by_cases h:j=14
 ·subst h;simp [u64]
 ·rw [if_neg h];simp;repeat (first|rfl|split|omega)
theorem Dv.setOff {w:World} {Y:Lay} {D:DS} (h:Dv w Y D) (b:Bool):Stp w Y (w.setCell ⟨Y.d,11,none⟩ (.bool b)) Y {D with off:=b}:=h.setDev 11 _ (by omega) (fun j hj=>devF_off Y D b j) ⟨rfl,rfl,rfl,rfl,rfl,rfl,rfl⟩
theorem Dv.setLeft {w:World} {Y:Lay} {D:DS} (h:Dv w Y D) (x:Int):Stp w Y (w.setCell ⟨Y.d,13,none⟩ (.int .i64 x)) Y {D with left:=x}:=h.setDev 13 _ (by omega) (fun j hj=>devF_left Y D x j) ⟨rfl,rfl,rfl,rfl,rfl,rfl,rfl⟩
theorem Dv.setExe {w:World} {Y:Lay} {D:DS} (h:Dv w Y D) (x:Nat):Stp w Y (w.setCell ⟨Y.d,14,none⟩ (.int .u64 (x:Int))) Y {D with exe:=x}:=h.setDev 14 _ (by omega) (fun j hj=>devF_exe Y D x j hj) ⟨rfl,rfl,rfl,rfl,rfl,rfl,rfl⟩
theorem k_counted {w:World} {Y:Lay} {D:DS} (h:Dv w Y D) (id:Nat) (hid:id<8) (v:Bool) (hx:D.exe<1099511627776) (hl:0≤D.left) (hl':D.left<9223372036854775808) (K:K1) (hK:∀w',Stp w Y w' Y (D.counted id v)→K (.bool (D.runs v)) w'):callS prog 41 #[.pointer (some ⟨Y.tb id,0,none⟩),.bool v] w K:=by
 refine f41_call _ _ _ _ ?_
 unfold f41_t
 unfold DS.counted DS.runs at hK
 simp (disch:=first|omega|simp only [RO]|(simp only [RZ]<;>omega)|fail) only [↓RBp,↓RA,↓reduceIte,Nat.reduceAdd,Nat.reduceMul,Nat.reduceEqDiff,RB,RX,RA2]
 refine k_on h id hid v _ (fun w1 h1=> ?_)
 by_cases ho:D.off=true
 ·simp (disch:=first|omega|simp only [RO]|(simp only [RZ]<;>omega)|fail) only [↓RBp,↓RA,↓reduceIte,Nat.reduceAdd,Nat.reduceMul,Nat.reduceEqDiff,RB,RX,RA2,ho]
  simp only [DS.on,ho,if_true] at h1
  simpa [ho] using hK w1 (by simpa [ho] using h1)
 ·by_cases hv:v=true
  ·have e:D.on id v=D:=by simp [DS.on,ho,hv]
   rw [e] at h1
   have ho':D.off=false:=by simpa using ho
   subst hv
   (repeat' (first|(with_reducible first|refine brS_mk (fun _=> ?_) (fun _=> ?_)|refine And.intro ?_ ?_)|(simp (disch:=first|omega|simp only [RO]|(simp only [RZ]<;>omega)|fail) only [↓RBp,↓RA,↓reduceIte,Nat.reduceAdd,Nat.reduceMul,Nat.reduceEqDiff,RB,RX,RA2,ho',h1.dv.R,f41_k1_eq,f41_k1_t])))
   ·rename_i ha hz
    have h2:=h1.trans (h1.dv.setOff true)
    refine k_fail h2.dv id hid 3 _ (fun w3 h3=> ?_)
    simpa [ho',ha,hz] using hK w3 (by simpa [ho',ha,hz] using h2.trans h3)
   ·rename_i ha hz
    have h2:=h1.trans (h1.dv.setLeft (D.left-1))
    simp (disch:=first|omega|simp only [RO]|(simp only [RZ]<;>omega)|fail) only [↓RBp,↓RA,↓reduceIte,Nat.reduceAdd,Nat.reduceMul,Nat.reduceEqDiff,RB,RX,RA2,h2.dv.R]
    simpa [ho',ha,hz] using hK _ (by simpa [ho',ha,hz] using h2.trans (h2.dv.setExe (D.exe+1)))
   ·rename_i ha
    simpa [ho',ha] using hK _ (by simpa [ho',ha] using h1.trans (h1.dv.setExe (D.exe+1)))
  ·have hv':v=false:=by simpa using hv
   subst hv'
   simp (disch:=first|omega|simp only [RO]|(simp only [RZ]<;>omega)|fail) only [↓RBp,↓RA,↓reduceIte,Nat.reduceAdd,Nat.reduceMul,Nat.reduceEqDiff,RB,RX,RA2]
   have ho':D.off=false:=by simpa using ho
   have e:D.on id false=D.fail id 2:=by simp [DS.on,ho']
   rw [e] at h1
   simpa [ho'] using hK _ (by simpa [ho'] using h1)
def f10_t (x0:Value) (K:K1) (w:World):Prop:=
 callS prog 40 (pA #[x0]) w fun t4 w=>
 ev prog (convert 32 30 t4) w fun t5 w=>
 ev prog (binM .shl 30 (.tmp 5) (.const (.int .u64 ((32:Nat):Int))) t5 (.int .u64 ((32:Nat):Int))) w fun t6 w=>
 ev prog (convert 32 30 x0) w fun t8 w=>
 ev prog (binM .add 30 (.tmp 6) (.tmp 8) t6 t8) w fun t9 w=>
 K t9 w
theorem f10_call (x0:Value) (K:K1) (w:World) (h:f10_t x0 K w):callS prog 10 #[x0] w K:=
 call_of_txt (args:= [x0]) mixed Tryz.func10 .o (by kernel_rfl) (cast (by kernel_rfl) h)
def f12_t (x0:Value) (K:K1) (w:World):Prop:=
 ev prog (Instr.alloc 36 true (.tuple #[])) w fun t2 w=>
 ev prog (binM .shr 30 (.tmp 5) (.const (.int .u64 ((16:Nat):Int))) x0 (.int .u64 ((16:Nat):Int))) w fun t6 w=>
 ev prog (binM .rem 30 (.tmp 6) (.const (.int .u64 ((16:Nat):Int))) t6 (.int .u64 ((16:Nat):Int))) w fun t7 w=>
 ev prog (convert 30 3 t7) w fun t8 w=>
 ev prog (binM .sub 3 (.tmp 8) (.const (.int .i64 1)) t8 (.int .i64 1)) w fun t9 w=>
 ev prog (binM .shr 30 (.tmp 10) (.const (.int .u64 ((20:Nat):Int))) x0 (.int .u64 ((20:Nat):Int))) w fun t11 w=>
 ev prog (binM .rem 30 (.tmp 11) (.const (.int .u64 ((16:Nat):Int))) t11 (.int .u64 ((16:Nat):Int))) w fun t12 w=>
 ev prog (convert 30 3 t12) w fun t13 w=>
 ev prog (binM .sub 3 (.tmp 13) (.const (.int .i64 1)) t13 (.int .i64 1)) w fun t14 w=>
 ev prog (convert 30 34 x0) w fun t16 w=>
 ev prog (Instr.build 36 #[(0,t9),(1,t14),(2,t16)]) w fun t17 w=>
 ev prog (Instr.alloc 36 true (.tuple #[])) w fun t4 w=>
 stS prog 36 t4 t17 w fun w=>
 ldR prog 36 t4 w.drew fun t18=>
 ldR prog 36 t4 w.drew fun t19=>
 callS prog 44 (pA #[t19]) w.drew fun t20 w=>
 (ldG prog 36 t4 w t18)∧
 gdR t20 true (fun k=>k x0) fun t22=>
 gdR t20 true (fun k=>ldR prog 36 t4 w k) fun t23=>
 gd t20 true (fun k=>callS prog 45 (pA #[t23]) w k) w fun t24 w=>
 (ldG prog 36 t4 w t18)∧
 gdR t20 true (fun k=>rd prog (binM .eql 30 (.tmp 22) (.tmp 24) t22 t24) w k) fun t25=>
 pickV t20 t25 (.bool false) fun t26=>
 stS prog 36 t2 t18 w fun w=>
 (gq t20 true (ag prog (binM .eql 30 (.tmp 22) (.tmp 24) t22 t24) w t25))∧
 ldR prog 36 t2 w fun r=>
 K (.tuple #[r,t26]) w
theorem f12_call (x0:Value) (K:K1) (w:World) (h:f12_t x0 K w):callS prog 12 #[x0] w K:=
 call_of_txt (args:= [x0]) mixed Tryz.func12 .o (by kernel_rfl) (cast (by kernel_rfl) h)
noncomputable def f40_u:Code×Dec:=((Tryz.f40.body).getD .skip,(.s .o (.s .o (.x 8 (.s .o (.b (.l [3,4] 0 524184 (.s .o (.x 24 .o .o))))) .o))))
abbrev f40_e (K:K1):KF:=endK prog Tryz.f40.results.toList K
def f40_k1_o (K:K1):KF:=fun fr w=>∀σ,cP (pr (pr (pr f40_u))) (f40_e K) (f40_e K) nX (mixF 8 σ 0 fr) w
def f40_k1 (K:K1) (x3:Value) (w:World):Prop:=f40_k1_o K (fz 21 0 [(3,x3)]) w
def f40_l1 (K:K1) (x3 x4:Value) (w:World):Prop:=loopT [3,4] 0 (fun E=>cP (pl (pl (pr (pl (pr (pr f40_u)))))) E (f40_e K) (exB 0 (f40_k1_o K) nX)) (fz 21 0 [(3,x3),(4,x4)]) w
def f40_k2_o (K:K1) (E1:VP2):KF:=fun fr w=>∀σ,cP (pr (pr (pl (pl (pr (pl (pr (pr f40_u)))))))) (fun fr w=>E1 (sv fr 3) (sv fr 4) w) (f40_e K) (exB 0 (f40_k1_o K) nX) (mixF 24 σ 0 fr) w
def f40_k2 (K:K1) (E1:VP2) (x3 x4:Value) (w:World):Prop:=f40_k2_o K E1 (fz 21 0 [(3,x3),(4,x4)]) w
def f40_k1_t (x3:Value) (K:K1) (w:World):Prop:=
 ev prog (binM .xor 32 (.tmp 19) (.const (.int .u32 ((4294967295:Nat):Int))) x3 (.int .u32 ((4294967295:Nat):Int))) w fun t20 w=>
 K t20 w
theorem f40_k1_eq (K:K1) (x3:Value) (w:World):f40_k1 K x3 w=f40_k1_t x3 K w:=cutE fun σ=>by kernel_rfl
def f40_l1_t (x3 x4:Value) (K:K1) (E1:VP2) (w:World):Prop:=
 ev prog (binM .lss 3 (.tmp 7) (.const (.int .i64 32)) x4 (.int .i64 32)) w fun t8 w=>
 cndS t8 (
 ev prog (binM .rem 32 (.tmp 11) (.const (.int .u32 ((2:Nat):Int))) x3 (.int .u32 ((2:Nat):Int))) w fun t12 w=>
 ev prog (binM .eql 32 (.tmp 12) (.const (.int .u32 ((1:Nat):Int))) t12 (.int .u32 ((1:Nat):Int))) w fun t13 w=>
 cndS t13 (
 ev prog (binM .shr 32 (.tmp 14) (.const (.int .u64 ((1:Nat):Int))) x3 (.int .u64 ((1:Nat):Int))) w fun t15 w=>
 ev prog (binM .xor 32 (.tmp 15) (.const (.int .u32 ((2197175160:Nat):Int))) t15 (.int .u32 ((2197175160:Nat):Int))) w fun t16 w=>
 f40_k2 K E1 t16 x4 w) (
 ev prog (binM .shr 32 (.tmp 17) (.const (.int .u64 ((1:Nat):Int))) x3 (.int .u64 ((1:Nat):Int))) w fun t18 w=>
 f40_k2 K E1 t18 x4 w)) (
 f40_k1 K x3 w)
theorem f40_l1_rule (x3 x4:Value) (K:K1) (w:World) (I:VP2) (μ:Value→Value→World→Nat) (h0:I x3 x4 w)
  (hr:∀(x3 x4:Value) (w:World),I x3 x4 w→∀E1:VP2,(∀(y3 y4:Value) (w':World),I y3 y4 w'→μ y3 y4 w'<μ x3 x4 w→E1 y3 y4 w')→f40_l1_t x3 x4 K E1 w):f40_l1 K x3 x4 w:=
 ⟨I,μ,h0,fun σ w hI E hE=>cast (by kernel_rfl) (hr (σ 3) (σ 4) w hI E hE)⟩
def f40_k2_t (x3 x4:Value) (K:K1) (E1:VP2) (w:World):Prop:=
 ev prog (binM .add 3 (.tmp 9) (.const (.int .i64 1)) x4 (.int .i64 1)) w fun t10 w=>
 E1 x3 t10 w
theorem f40_k2_eq (K:K1) (E1:VP2) (x3 x4:Value) (w:World):f40_k2 K E1 x3 x4 w=f40_k2_t x3 x4 K E1 w:=cutE fun σ=>by kernel_rfl
def f40_t (x0:Value) (K:K1) (w:World):Prop:=
 ev prog (binM .xor 32 (.const (.int .u32 ((4294967295:Nat):Int))) (.tmp 5) (.int .u32 ((4294967295:Nat):Int)) x0) w fun t6 w=>
 f40_l1 K t6 (.int .i64 0) w
theorem f40_call (x0:Value) (K:K1) (w:World) (h:f40_t x0 K w):callS prog 40 #[x0] w K:=
 call_of_txt (args:= [x0]) mixed Tryz.func40 f40_u.2 (by kernel_rfl) (cast (by kernel_rfl) h)
def f44_t (x0:Value) (K:K1) (w:World):Prop:=
 ev prog (Instr.box 36 x0) w fun t1 w=>
 ev prog (Instr.fieldAt 36 t1 2) w fun t3 w=>
 ldS prog 34 t3 w fun t4 w=>
 ev prog (binM .eql 34 (.tmp 4) (.const (.int .u16 ((0:Nat):Int))) t4 (.int .u16 ((0:Nat):Int))) w fun t5 w=>
 cndS t5 (
 K (.bool false) w) (
 ev prog (Instr.fieldAt 36 t1 0) w fun t6 w=>
 ldS prog 3 t6 w fun t7 w=>
 ev prog (binM .eql 3 (.tmp 7) (.const (.int .i64 (-1))) t7 (.int .i64 (-1))) w fun t8 w=>
 gd t8 true (fun k=>ev prog (Instr.fieldAt 36 t1 1) w k) w fun t10 w=>
 gd t8 true (fun k=>ldS prog 3 t10 w k) w fun t11 w=>
 gd t8 true (fun k=>ev prog (binM .eql 3 (.tmp 11) (.const (.int .i64 (-1))) t11 (.int .i64 (-1))) w k) w fun t12 w=>
 pickS t8 t12 (.bool false) w fun t13 w=>
 gd t13 false (fun k=>ev prog (Instr.fieldAt 36 t1 0) w k) w fun t15 w=>
 gd t13 false (fun k=>ldS prog 3 t15 w k) w fun t16 w=>
 gd t13 false (fun k=>ev prog (binM .geq 3 (.tmp 16) (.const (.int .i64 0)) t16 (.int .i64 0)) w k) w fun t17 w=>
 gd t13 false (fun k=>k t17 w) w fun t18 w=>
 gd t18 true (fun k=>ev prog (Instr.fieldAt 36 t1 0) w k) w fun t19 w=>
 gd t18 true (fun k=>ldS prog 3 t19 w k) w fun t20 w=>
 gd t18 true (fun k=>ev prog (binM .lss 3 (.tmp 20) (.const (.int .i64 5)) t20 (.int .i64 5)) w k) w fun t21 w=>
 gd t13 false (fun k=>pickS t18 t21 (.bool false) w k) w fun t22 w=>
 gd t13 false (fun k=>k t22 w) w fun t23 w=>
 gd t23 true (fun k=>ev prog (Instr.fieldAt 36 t1 1) w k) w fun t24 w=>
 gd t23 true (fun k=>ldS prog 3 t24 w k) w fun t25 w=>
 gd t23 true (fun k=>ev prog (binM .geq 3 (.tmp 25) (.const (.int .i64 0)) t25 (.int .i64 0)) w k) w fun t26 w=>
 gd t13 false (fun k=>pickS t23 t26 (.bool false) w k) w fun t27 w=>
 gd t13 false (fun k=>k t27 w) w fun t28 w=>
 gd t28 true (fun k=>ev prog (Instr.fieldAt 36 t1 1) w k) w fun t29 w=>
 gd t28 true (fun k=>ldS prog 3 t29 w k) w fun t30 w=>
 gd t28 true (fun k=>ev prog (binM .lss 3 (.tmp 30) (.const (.int .i64 8)) t30 (.int .i64 8)) w k) w fun t31 w=>
 gd t13 false (fun k=>pickS t28 t31 (.bool false) w k) w fun t32 w=>
 pickS t13 (.bool true) t32 w fun t33 w=>
 K t33 w)
theorem f44_call (x0:Value) (K:K1) (w:World) (h:f44_t x0 K w):callS prog 44 #[x0] w K:=
 call_of_txt (args:= [x0]) mixed Tryz.func44 .o (by kernel_rfl) (cast (by kernel_rfl) h)
def f45_t (x0:Value) (K:K1) (w:World):Prop:=
 ev prog (Instr.box 36 x0) w fun t1 w=>
 ev prog (Instr.fieldAt 36 t1 2) w fun t3 w=>
 ldS prog 34 t3 w fun t4 w=>
 ev prog (convert 34 32 t4) w fun t5 w=>
 ev prog (Instr.fieldAt 36 t1 0) w fun t6 w=>
 ldS prog 3 t6 w fun t7 w=>
 ev prog (binM .add 3 (.tmp 7) (.const (.int .i64 1)) t7 (.int .i64 1)) w fun t8 w=>
 ev prog (convert 3 32 t8) w fun t9 w=>
 ev prog (binM .shl 32 (.tmp 9) (.const (.int .u64 ((16:Nat):Int))) t9 (.int .u64 ((16:Nat):Int))) w fun t10 w=>
 ev prog (binM .add 32 (.tmp 5) (.tmp 10) t5 t10) w fun t11 w=>
 ev prog (Instr.fieldAt 36 t1 1) w fun t12 w=>
 ldS prog 3 t12 w fun t13 w=>
 ev prog (binM .add 3 (.tmp 13) (.const (.int .i64 1)) t13 (.int .i64 1)) w fun t14 w=>
 ev prog (convert 3 32 t14) w fun t15 w=>
 ev prog (binM .shl 32 (.tmp 15) (.const (.int .u64 ((20:Nat):Int))) t15 (.int .u64 ((20:Nat):Int))) w fun t16 w=>
 ev prog (binM .add 32 (.tmp 11) (.tmp 16) t11 t16) w fun t17 w=>
 ev prog (binM .add 32 (.tmp 17) (.const (.int .u32 ((3305111552:Nat):Int))) t17 (.int .u32 ((3305111552:Nat):Int))) w fun t18 w=>
 callS prog 10 (pA #[t18]) w fun t19 w=>
 K t19 w
theorem f45_call (x0:Value) (K:K1) (w:World) (h:f45_t x0 K w):callS prog 45 #[x0] w K:=
 call_of_txt (args:= [x0]) mixed Tryz.func45 .o (by kernel_rfl) (cast (by kernel_rfl) h)
def f59_t (x0:Value) (K:K1) (w:World):Prop:=
 callS prog 96 (pA #[x0]) w fun t5 w=>
 ev prog (binM .eql 3 (.tmp 6) (.const (.int .i64 0)) t5 (.int .i64 0)) w fun t7 w=>
 cndS t7 (
 K (.int .i64 0) w) (
 ev prog (binM .add 3 (.tmp 8) (.const (.int .i64 1)) t5 (.int .i64 1)) w fun t9 w=>
 ev prog (binM .quo 3 (.const (.int .i64 248)) (.tmp 9) (.int .i64 248) t9) w fun t10 w=>
 K t10 w)
theorem f59_call (x0:Value) (K:K1) (w:World) (h:f59_t x0 K w):callS prog 59 #[x0] w K:=
 call_of_txt (args:= [x0]) mixed Tryz.func59 .o (by kernel_rfl) (cast (by kernel_rfl) h)
def f66_t (x0:Value) (K:K1) (w:World):Prop:=
 ev prog (Instr.box 137 x0) w fun t1 w=>
 ev prog (Instr.fieldAt 137 t1 2) w fun t3 w=>
 ldS prog 5 t3 w fun t4 w=>
 ev prog (binM .eql 5 (.tmp 4) (.const (.int .u8 ((176:Nat):Int))) t4 (.int .u8 ((176:Nat):Int))) w fun t6 w=>
 cndS t6 (
 ev prog (Instr.fieldAt 137 t1 0) w fun t7 w=>
 ldS prog 34 t7 w fun t8 w=>
 ev prog (binM .neq 34 (.tmp 8) (.const (.int .u16 ((0:Nat):Int))) t8 (.int .u16 ((0:Nat):Int))) w fun t9 w=>
 gd t9 true (fun k=>ev prog (Instr.fieldAt 137 t1 1) w k) w fun t11 w=>
 gd t9 true (fun k=>ldS prog 5 t11 w k) w fun t12 w=>
 gd t9 true (fun k=>ev prog (binM .eql 5 (.tmp 12) (.const (.int .u8 ((0:Nat):Int))) t12 (.int .u8 ((0:Nat):Int))) w k) w fun t13 w=>
 pickS t9 t13 (.bool false) w fun t14 w=>
 K t14 w) (
 ev prog (binM .eql 5 (.tmp 4) (.const (.int .u8 ((177:Nat):Int))) t4 (.int .u8 ((177:Nat):Int))) w fun t16 w=>
 cndS t16 (
 ev prog (Instr.fieldAt 137 t1 0) w fun t17 w=>
 ldS prog 34 t17 w fun t18 w=>
 ev prog (binM .neq 34 (.tmp 18) (.const (.int .u16 ((0:Nat):Int))) t18 (.int .u16 ((0:Nat):Int))) w fun t19 w=>
 gd t19 true (fun k=>ev prog (Instr.fieldAt 137 t1 1) w k) w fun t21 w=>
 gd t19 true (fun k=>ldS prog 5 t21 w k) w fun t22 w=>
 gd t19 true (fun k=>ev prog (binM .neq 5 (.tmp 22) (.const (.int .u8 ((0:Nat):Int))) t22 (.int .u8 ((0:Nat):Int))) w k) w fun t23 w=>
 pickS t19 t23 (.bool false) w fun t24 w=>
 gd t24 true (fun k=>ev prog (Instr.fieldAt 137 t1 1) w k) w fun t26 w=>
 gd t24 true (fun k=>ldS prog 5 t26 w k) w fun t27 w=>
 gd t24 true (fun k=>ev prog (binM .leq 5 (.tmp 27) (.const (.int .u8 ((127:Nat):Int))) t27 (.int .u8 ((127:Nat):Int))) w k) w fun t28 w=>
 pickS t24 t28 (.bool false) w fun t29 w=>
 K t29 w) (
 ev prog (binM .eql 5 (.tmp 4) (.const (.int .u8 ((178:Nat):Int))) t4 (.int .u8 ((178:Nat):Int))) w fun t31 w=>
 cndS t31 (
 ev prog (Instr.fieldAt 137 t1 0) w fun t32 w=>
 ldS prog 34 t32 w fun t33 w=>
 ev prog (binM .eql 34 (.tmp 33) (.const (.int .u16 ((65535:Nat):Int))) t33 (.int .u16 ((65535:Nat):Int))) w fun t34 w=>
 gd t34 true (fun k=>ev prog (Instr.fieldAt 137 t1 1) w k) w fun t36 w=>
 gd t34 true (fun k=>ldS prog 5 t36 w k) w fun t37 w=>
 gd t34 true (fun k=>ev prog (binM .eql 5 (.tmp 37) (.const (.int .u8 ((0:Nat):Int))) t37 (.int .u8 ((0:Nat):Int))) w k) w fun t38 w=>
 pickS t34 t38 (.bool false) w fun t39 w=>
 K t39 w) (
 K (.bool false) w)))
theorem f66_call (x0:Value) (K:K1) (w:World) (h:f66_t x0 K w):callS prog 66 #[x0] w K:=
 call_of_txt (args:= [x0]) mixed Tryz.func66 .o (by kernel_rfl) (cast (by kernel_rfl) h)
def f67_t (x0 x1 x2:Value) (K:K1) (w:World):Prop:=
 ev prog (binM .eql 30 (.tmp 8) (.const (.int .u64 ((0:Nat):Int))) x0 (.int .u64 ((0:Nat):Int))) w fun t9 w=>
 gd t9 false (fun k=>k x0 w) w fun t11 w=>
 gd t9 false (fun k=>ev prog (binM .rem 30 (.tmp 11) (.const (.int .u64 ((8:Nat):Int))) t11 (.int .u64 ((8:Nat):Int))) w k) w fun t12 w=>
 gd t9 false (fun k=>ev prog (binM .neq 30 (.tmp 12) (.const (.int .u64 ((0:Nat):Int))) t12 (.int .u64 ((0:Nat):Int))) w k) w fun t13 w=>
 pickS t9 (.bool true) t13 w fun t14 w=>
 gd t14 false (fun k=>k x1 w) w fun t16 w=>
 gd t14 false (fun k=>ev prog (binM .eql 34 (.tmp 16) (.const (.int .u16 ((0:Nat):Int))) t16 (.int .u16 ((0:Nat):Int))) w k) w fun t17 w=>
 pickS t14 (.bool true) t17 w fun t18 w=>
 gd t18 false (fun k=>k x2 w) w fun t20 w=>
 gd t18 false (fun k=>ev prog (binM .eql 5 (.tmp 20) (.const (.int .u8 ((0:Nat):Int))) t20 (.int .u8 ((0:Nat):Int))) w k) w fun t21 w=>
 pickS t18 (.bool true) t21 w fun t22 w=>
 gd t22 false (fun k=>k x2 w) w fun t24 w=>
 gd t22 false (fun k=>ev prog (binM .gtr 5 (.tmp 24) (.const (.int .u8 ((127:Nat):Int))) t24 (.int .u8 ((127:Nat):Int))) w k) w fun t25 w=>
 pickS t22 (.bool true) t25 w fun t26 w=>
 cndS t26 (
 K (.tuple #[(.int .u64 ((0:Nat):Int)),(.int .i64 1)]) w) (
 ev prog (binM .gtr 30 (.tmp 27) (.const (.int .u64 ((34359738360:Nat):Int))) x0 (.int .u64 ((34359738360:Nat):Int))) w fun t28 w=>
 cndS t28 (
 K (.tuple #[(.int .u64 ((0:Nat):Int)),(.int .i64 2)]) w) (
 ev prog (binM .quo 30 (.tmp 29) (.const (.int .u64 ((8:Nat):Int))) x0 (.int .u64 ((8:Nat):Int))) w fun t30 w=>
 ev prog (convert 34 30 x1) w fun t32 w=>
 ev prog (binM .shl 30 (.tmp 32) (.const (.int .u64 ((32:Nat):Int))) t32 (.int .u64 ((32:Nat):Int))) w fun t33 w=>
 ev prog (binM .or 30 (.tmp 30) (.tmp 33) t30 t33) w fun t34 w=>
 ev prog (convert 5 30 x2) w fun t36 w=>
 ev prog (binM .shl 30 (.tmp 36) (.const (.int .u64 ((48:Nat):Int))) t36 (.int .u64 ((48:Nat):Int))) w fun t37 w=>
 ev prog (binM .or 30 (.tmp 34) (.tmp 37) t34 t37) w fun t38 w=>
 K (.tuple #[t38,(.int .i64 0)]) w))
theorem f67_call (x0 x1 x2:Value) (K:K1) (w:World) (h:f67_t x0 x1 x2 K w):callS prog 67 #[x0,x1,x2] w K:=
 call_of_txt (args:= [x0,x1,x2]) mixed Tryz.func67 .o (by kernel_rfl) (cast (by kernel_rfl) h)
def f71_t (x0:Value) (K:K1) (w:World):Prop:=
 ev prog (binM .eql 73 (.tmp 3) (.const (.int .u64 ((0:Nat):Int))) x0 (.int .u64 ((0:Nat):Int))) w fun t4 w=>
 K t4 w
theorem f71_call (x0:Value) (K:K1) (w:World) (h:f71_t x0 K w):callS prog 71 #[x0] w K:=
 call_of_txt (args:= [x0]) mixed Tryz.func71 .o (by kernel_rfl) (cast (by kernel_rfl) h)
def f73_t (x0:Value) (K:K1) (w:World):Prop:=
 ev prog (convert 73 32 x0) w fun t4 w=>
 ev prog (convert 32 30 t4) w fun t5 w=>
 ev prog (binM .mul 30 (.tmp 5) (.const (.int .u64 ((8:Nat):Int))) t5 (.int .u64 ((8:Nat):Int))) w fun t6 w=>
 K t6 w
theorem f73_call (x0:Value) (K:K1) (w:World) (h:f73_t x0 K w):callS prog 73 #[x0] w K:=
 call_of_txt (args:= [x0]) mixed Tryz.func73 .o (by kernel_rfl) (cast (by kernel_rfl) h)
def f74_t (x0:Value) (K:K1) (w:World):Prop:=
 ev prog (binM .shr 73 (.tmp 3) (.const (.int .u64 ((32:Nat):Int))) x0 (.int .u64 ((32:Nat):Int))) w fun t4 w=>
 ev prog (convert 73 34 t4) w fun t5 w=>
 K t5 w
theorem f74_call (x0:Value) (K:K1) (w:World) (h:f74_t x0 K w):callS prog 74 #[x0] w K:=
 call_of_txt (args:= [x0]) mixed Tryz.func74 .o (by kernel_rfl) (cast (by kernel_rfl) h)
def f75_t (x0:Value) (K:K1) (w:World):Prop:=
 ev prog (binM .shr 73 (.tmp 3) (.const (.int .u64 ((48:Nat):Int))) x0 (.int .u64 ((48:Nat):Int))) w fun t4 w=>
 ev prog (convert 73 5 t4) w fun t5 w=>
 K t5 w
theorem f75_call (x0:Value) (K:K1) (w:World) (h:f75_t x0 K w):callS prog 75 #[x0] w K:=
 call_of_txt (args:= [x0]) mixed Tryz.func75 .o (by kernel_rfl) (cast (by kernel_rfl) h)
def f86_t (x0:Value) (K:K1) (w:World):Prop:=
 ev prog (convert 3 30 x0) w fun t4 w=>
 ev prog (binM .mul 30 (.tmp 4) (.const (.int .u64 ((64:Nat):Int))) t4 (.int .u64 ((64:Nat):Int))) w fun t5 w=>
 K t5 w
theorem f86_call (x0:Value) (K:K1) (w:World) (h:f86_t x0 K w):callS prog 86 #[x0] w K:=
 call_of_txt (args:= [x0]) mixed Tryz.func86 .o (by kernel_rfl) (cast (by kernel_rfl) h)
def f87_t (x0:Value) (K:K1) (w:World):Prop:=
 ev prog (Instr.alloc 67 true (.tuple #[])) w fun t2 w=>
 ev prog (convert 30 32 x0) w fun t7 w=>
 callS prog 112 (pA #[t7]) w fun t9 w=>
 ev prog (binM .neq 30 (.tmp 9) (.tmp 10) t9 x0) w fun t11 w=>
 gd t11 false (fun k=>k t7 w) w fun t13 w=>
 gd t11 false (fun k=>ev prog (binM .shr 32 (.tmp 13) (.const (.int .u64 ((24:Nat):Int))) t13 (.int .u64 ((24:Nat):Int))) w k) w fun t14 w=>
 gd t11 false (fun k=>ev prog (binM .neq 32 (.tmp 14) (.const (.int .u32 ((197:Nat):Int))) t14 (.int .u32 ((197:Nat):Int))) w k) w fun t15 w=>
 pickS t11 (.bool true) t15 w fun t16 w=>
 gd t16 false (fun k=>k t7 w) w fun t18 w=>
 gd t16 false (fun k=>ev prog (convert 32 34 t18) w k) w fun t19 w=>
 gd t16 false (fun k=>ev prog (binM .eql 34 (.tmp 19) (.const (.int .u16 ((0:Nat):Int))) t19 (.int .u16 ((0:Nat):Int))) w k) w fun t20 w=>
 pickS t16 (.bool true) t20 w fun t21 w=>
 cndS t21 (
 ev prog (Instr.build 67 #[]) w fun t22 w=>
 stS prog 67 t2 t22 w fun w=>
 ldR prog 67 t2 w fun r=>
 K (.tuple #[r,(.bool false)]) w) (
 ev prog (binM .shr 32 (.tmp 23) (.const (.int .u64 ((16:Nat):Int))) t7 (.int .u64 ((16:Nat):Int))) w fun t24 w=>
 ev prog (binM .and 32 (.tmp 24) (.const (.int .u32 ((15:Nat):Int))) t24 (.int .u32 ((15:Nat):Int))) w fun t25 w=>
 ev prog (convert 32 3 t25) w fun t26 w=>
 ev prog (binM .sub 3 (.tmp 26) (.const (.int .i64 1)) t26 (.int .i64 1)) w fun t27 w=>
 ev prog (binM .shr 32 (.tmp 28) (.const (.int .u64 ((20:Nat):Int))) t7 (.int .u64 ((20:Nat):Int))) w fun t29 w=>
 ev prog (binM .and 32 (.tmp 29) (.const (.int .u32 ((15:Nat):Int))) t29 (.int .u32 ((15:Nat):Int))) w fun t30 w=>
 ev prog (convert 32 3 t30) w fun t31 w=>
 ev prog (binM .sub 3 (.tmp 31) (.const (.int .i64 1)) t31 (.int .i64 1)) w fun t32 w=>
 ev prog (convert 32 34 t7) w fun t34 w=>
 ev prog (Instr.build 67 #[(0,t27),(1,t32),(2,t34)]) w fun t35 w=>
 ev prog (Instr.alloc 67 true (.tuple #[])) w fun t5 w=>
 stS prog 67 t5 t35 w fun w=>
 ev prog (Instr.fieldAt 67 t5 0) w fun t36 w=>
 ldS prog 3 t36 w fun t37 w=>
 ev prog (binM .lss 3 (.tmp 37) (.const (.int .i64 0)) t37 (.int .i64 0)) w fun t38 w=>
 gd t38 true (fun k=>ev prog (Instr.fieldAt 67 t5 1) w k) w fun t40 w=>
 gd t38 true (fun k=>ldS prog 3 t40 w k) w fun t41 w=>
 gd t38 true (fun k=>ev prog (binM .lss 3 (.tmp 41) (.const (.int .i64 0)) t41 (.int .i64 0)) w k) w fun t42 w=>
 pickS t38 t42 (.bool false) w fun t43 w=>
 gd t43 false (fun k=>ldS prog 67 t5 w k) w fun t45 w=>
 gd t43 false (fun k=>callS prog 98 (pA #[t45]) w k) w fun t46 w=>
 pickS t43 (.bool true) t46 w fun t47 w=>
 cndS t47 (
 ldS prog 67 t5 w fun t48 w=>
 stS prog 67 t2 t48 w fun w=>
 ldR prog 67 t2 w fun r_1=>
 K (.tuple #[r_1,(.bool true)]) w) (
 ev prog (Instr.build 67 #[]) w fun t49 w=>
 stS prog 67 t2 t49 w fun w=>
 ldR prog 67 t2 w fun r_2=>
 K (.tuple #[r_2,(.bool false)]) w))
theorem f87_call (x0:Value) (K:K1) (w:World) (h:f87_t x0 K w):callS prog 87 #[x0] w K:=
 call_of_txt (args:= [x0]) mixed Tryz.func87 .o (by kernel_rfl) (cast (by kernel_rfl) h)
def f96_t (x0:Value) (K:K1) (w:World):Prop:=
 ev prog (binM .lss 3 (.tmp 3) (.const (.int .i64 0)) x0 (.int .i64 0)) w fun t4 w=>
 gd t4 false (fun k=>k x0 w) w fun t6 w=>
 gd t4 false (fun k=>ev prog (binM .geq 3 (.tmp 6) (.const (.int .i64 5)) t6 (.int .i64 5)) w k) w fun t7 w=>
 pickS t4 (.bool true) t7 w fun t8 w=>
 cndS t8 (
 K (.int .i64 0) w) (
 ev prog (Instr.indexAt 187 (.pointer (some ⟨0,0,none⟩)) x0) w fun t10 w=>
 ldS prog 3 t10 w fun t11 w=>
 K t11 w)
theorem f96_call (x0:Value) (K:K1) (w:World) (h:f96_t x0 K w):callS prog 96 #[x0] w K:=
 call_of_txt (args:= [x0]) mixed Tryz.func96 .o (by kernel_rfl) (cast (by kernel_rfl) h)
def f97_t (x0:Value) (K:K1) (w:World):Prop:=
 ev prog (binM .geq 3 (.tmp 3) (.const (.int .i64 0)) x0 (.int .i64 0)) w fun t4 w=>
 gd t4 true (fun k=>k x0 w) w fun t6 w=>
 gd t4 true (fun k=>ev prog (binM .leq 3 (.tmp 6) (.const (.int .i64 4064)) t6 (.int .i64 4064)) w k) w fun t7 w=>
 pickS t4 t7 (.bool false) w fun t8 w=>
 K t8 w
theorem f97_call (x0:Value) (K:K1) (w:World) (h:f97_t x0 K w):callS prog 97 #[x0] w K:=
 call_of_txt (args:= [x0]) mixed Tryz.func97 .o (by kernel_rfl) (cast (by kernel_rfl) h)
def f98_t (x0:Value) (K:K1) (w:World):Prop:=
 ev prog (Instr.box 67 x0) w fun t1 w=>
 ev prog (Instr.fieldAt 67 t1 0) w fun t3 w=>
 ldS prog 3 t3 w fun t4 w=>
 callS prog 59 (pA #[t4]) w fun t5 w=>
 ev prog (binM .gtr 3 (.tmp 5) (.const (.int .i64 0)) t5 (.int .i64 0)) w fun t6 w=>
 gd t6 true (fun k=>ev prog (Instr.fieldAt 67 t1 1) w k) w fun t8 w=>
 gd t6 true (fun k=>ldS prog 3 t8 w k) w fun t9 w=>
 gd t6 true (fun k=>ev prog (binM .geq 3 (.tmp 9) (.const (.int .i64 0)) t9 (.int .i64 0)) w k) w fun t10 w=>
 pickS t6 t10 (.bool false) w fun t11 w=>
 gd t11 true (fun k=>ev prog (Instr.fieldAt 67 t1 1) w k) w fun t13 w=>
 gd t11 true (fun k=>ldS prog 3 t13 w k) w fun t14 w=>
 gd t11 true (fun k=>ev prog (binM .lss 3 (.tmp 14) (.const (.int .i64 8)) t14 (.int .i64 8)) w k) w fun t15 w=>
 pickS t11 t15 (.bool false) w fun t16 w=>
 K t16 w
theorem f98_call (x0:Value) (K:K1) (w:World) (h:f98_t x0 K w):callS prog 98 #[x0] w K:=
 call_of_txt (args:= [x0]) mixed Tryz.func98 .o (by kernel_rfl) (cast (by kernel_rfl) h)
def f99_t (x0:Value) (K:K1) (w:World):Prop:=
 ev prog (Instr.box 137 x0) w fun t1 w=>
 ev prog (Instr.fieldAt 137 t1 0) w fun t3 w=>
 ldS prog 34 t3 w fun t4 w=>
 ev prog (convert 34 32 t4) w fun t5 w=>
 ev prog (Instr.fieldAt 137 t1 1) w fun t6 w=>
 ldS prog 5 t6 w fun t7 w=>
 ev prog (convert 5 32 t7) w fun t8 w=>
 ev prog (binM .shl 32 (.tmp 8) (.const (.int .u64 ((16:Nat):Int))) t8 (.int .u64 ((16:Nat):Int))) w fun t9 w=>
 ev prog (binM .or 32 (.tmp 5) (.tmp 9) t5 t9) w fun t10 w=>
 ev prog (Instr.fieldAt 137 t1 2) w fun t11 w=>
 ldS prog 5 t11 w fun t12 w=>
 ev prog (convert 5 32 t12) w fun t13 w=>
 ev prog (binM .shl 32 (.tmp 13) (.const (.int .u64 ((24:Nat):Int))) t13 (.int .u64 ((24:Nat):Int))) w fun t14 w=>
 ev prog (binM .or 32 (.tmp 10) (.tmp 14) t10 t14) w fun t15 w=>
 callS prog 112 (pA #[t15]) w fun t16 w=>
 K t16 w
theorem f99_call (x0:Value) (K:K1) (w:World) (h:f99_t x0 K w):callS prog 99 #[x0] w K:=
 call_of_txt (args:= [x0]) mixed Tryz.func99 .o (by kernel_rfl) (cast (by kernel_rfl) h)
def f100_t (x0 x1:Value) (K:K1) (w:World):Prop:=
 callS prog 59 (pA #[x0]) w fun t8 w=>
 ev prog (binM .eql 3 (.tmp 9) (.const (.int .i64 0)) t8 (.int .i64 0)) w fun t10 w=>
 cndS t10 (
 K (.tuple #[(.int .i64 0),(.int .i64 1)]) w) (
 ev prog (binM .lss 3 (.tmp 11) (.const (.int .i64 0)) x1 (.int .i64 0)) w fun t12 w=>
 gd t12 false (fun k=>k x1 w) w fun t14 w=>
 gd t12 false (fun k=>k t8 w) w fun t15 w=>
 gd t12 false (fun k=>ev prog (binM .geq 3 (.tmp 14) (.tmp 15) t14 t15) w k) w fun t16 w=>
 pickS t12 (.bool true) t16 w fun t17 w=>
 cndS t17 (
 K (.tuple #[(.int .i64 0),(.int .i64 2)]) w) (
 ev prog (Instr.indexAt 187 (.pointer (some ⟨0,0,none⟩)) x0) w fun t20 w=>
 ldS prog 3 t20 w fun t21 w=>
 ev prog (binM .add 3 (.tmp 21) (.const (.int .i64 1)) t21 (.int .i64 1)) w fun t22 w=>
 ev prog (binM .mul 3 (.tmp 18) (.tmp 22) x1 t22) w fun t23 w=>
 ev prog (binM .add 3 (.const (.int .i64 8)) (.tmp 23) (.int .i64 8) t23) w fun t24 w=>
 K (.tuple #[t24,(.int .i64 0)]) w))
theorem f100_call (x0 x1:Value) (K:K1) (w:World) (h:f100_t x0 x1 K w):callS prog 100 #[x0,x1] w K:=
 call_of_txt (args:= [x0,x1]) mixed Tryz.func100 .o (by kernel_rfl) (cast (by kernel_rfl) h)
noncomputable def f102_u:Code×Dec:=((Tryz.f102.body).getD .skip,(.s .o (.s .o (.x 8 .o .o))))
abbrev f102_e (K:K1):KF:=endK prog Tryz.f102.results.toList K
def f102_k1_o (K:K1):KF:=fun fr w=>∀σ,cP (pr (pr (pr f102_u))) (f102_e K) (f102_e K) nX (mixF 8 σ 0 fr) w
def f102_k1 (K:K1) (x3:Value) (w:World):Prop:=f102_k1_o K (fz 26 0 [(3,x3)]) w
def f102_k1_t (x3:Value) (K:K1) (w:World):Prop:=
 callS prog 112 (pA #[x3]) w fun t25 w=>
 K t25 w
theorem f102_k1_eq (K:K1) (x3:Value) (w:World):f102_k1 K x3 w=f102_k1_t x3 K w:=cutE fun σ=>by kernel_rfl
def f102_t (x0:Value) (K:K1) (w:World):Prop:=
 ev prog (Instr.box 67 x0) w fun t1 w=>
 ev prog (Instr.fieldAt 67 t1 2) w fun t4 w=>
 ldS prog 34 t4 w fun t5 w=>
 ev prog (convert 34 32 t5) w fun t6 w=>
 ev prog (binM .or 32 (.tmp 6) (.const (.int .u32 ((3305111552:Nat):Int))) t6 (.int .u32 ((3305111552:Nat):Int))) w fun t7 w=>
 ev prog (Instr.fieldAt 67 t1 0) w fun t8 w=>
 ldS prog 3 t8 w fun t9 w=>
 ev prog (binM .geq 3 (.tmp 9) (.const (.int .i64 0)) t9 (.int .i64 0)) w fun t10 w=>
 cndS t10 (
 ev prog (Instr.fieldAt 67 t1 0) w fun t12 w=>
 ldS prog 3 t12 w fun t13 w=>
 ev prog (binM .add 3 (.tmp 13) (.const (.int .i64 1)) t13 (.int .i64 1)) w fun t14 w=>
 ev prog (convert 3 32 t14) w fun t15 w=>
 ev prog (binM .shl 32 (.tmp 15) (.const (.int .u64 ((16:Nat):Int))) t15 (.int .u64 ((16:Nat):Int))) w fun t16 w=>
 ev prog (Instr.fieldAt 67 t1 1) w fun t17 w=>
 ldS prog 3 t17 w fun t18 w=>
 ev prog (binM .add 3 (.tmp 18) (.const (.int .i64 1)) t18 (.int .i64 1)) w fun t19 w=>
 ev prog (convert 3 32 t19) w fun t20 w=>
 ev prog (binM .shl 32 (.tmp 20) (.const (.int .u64 ((20:Nat):Int))) t20 (.int .u64 ((20:Nat):Int))) w fun t21 w=>
 ev prog (binM .or 32 (.tmp 16) (.tmp 21) t16 t21) w fun t22 w=>
 ev prog (binM .or 32 (.tmp 11) (.tmp 22) t7 t22) w fun t23 w=>
 f102_k1 K t23 w) (
 f102_k1 K t7 w)
theorem f102_call (x0:Value) (K:K1) (w:World) (h:f102_t x0 K w):callS prog 102 #[x0] w K:=
 call_of_txt (args:= [x0]) mixed Tryz.func102 f102_u.2 (by kernel_rfl) (cast (by kernel_rfl) h)
def f107_t (x0:Value) (K:K1) (w:World):Prop:=
 ev prog (Instr.alloc 137 true (.tuple #[])) w fun t2 w=>
 ev prog (convert 30 32 x0) w fun t6 w=>
 callS prog 112 (pA #[t6]) w fun t8 w=>
 ev prog (binM .neq 30 (.tmp 8) (.tmp 9) t8 x0) w fun t10 w=>
 cndS t10 (
 ev prog (Instr.build 137 #[]) w fun t11 w=>
 stS prog 137 t2 t11 w fun w=>
 ldR prog 137 t2 w fun r=>
 K (.tuple #[r,(.bool false)]) w) (
 ev prog (convert 32 34 t6) w fun t13 w=>
 ev prog (binM .shr 32 (.tmp 14) (.const (.int .u64 ((16:Nat):Int))) t6 (.int .u64 ((16:Nat):Int))) w fun t15 w=>
 ev prog (convert 32 5 t15) w fun t16 w=>
 ev prog (binM .shr 32 (.tmp 17) (.const (.int .u64 ((24:Nat):Int))) t6 (.int .u64 ((24:Nat):Int))) w fun t18 w=>
 ev prog (convert 32 5 t18) w fun t19 w=>
 ev prog (Instr.build 137 #[(0,t13),(1,t16),(2,t19)]) w fun t20 w=>
 stS prog 137 t2 t20 w fun w=>
 ldR prog 137 t2 w fun r_1=>
 K (.tuple #[r_1,(.bool true)]) w)
theorem f107_call (x0:Value) (K:K1) (w:World) (h:f107_t x0 K w):callS prog 107 #[x0] w K:=
 call_of_txt (args:= [x0]) mixed Tryz.func107 .o (by kernel_rfl) (cast (by kernel_rfl) h)
def f108_t (x0:Value) (K:K1) (w:World):Prop:=
 ev prog (Instr.box 137 x0) w fun t1 w=>
 ev prog (Instr.alloc 137 true (.tuple #[])) w fun t2 w=>
 ev prog (Instr.fieldAt 137 t1 0) w fun t6 w=>
 ldS prog 34 t6 w fun t7 w=>
 callS prog 121 (pA #[t7]) w fun t8 w=>
 ev prog (Instr.extract t8 0) w fun t9 w=>
 ev prog (Instr.extract t8 1) w fun t10 w=>
 cndS t10 (
 ev prog (Instr.build 137 #[(0,t9),(2,(.int .u8 ((176:Nat):Int)))]) w fun t13 w=>
 stS prog 137 t2 t13 w fun w=>
 ldR prog 137 t2 w fun r=>
 K r w) (
 ev prog (Instr.build 137 #[(0,(.int .u16 ((65535:Nat):Int))),(2,(.int .u8 ((178:Nat):Int)))]) w fun t14 w=>
 stS prog 137 t2 t14 w fun w=>
 ldR prog 137 t2 w fun r_1=>
 K r_1 w)
theorem f108_call (x0:Value) (K:K1) (w:World) (h:f108_t x0 K w):callS prog 108 #[x0] w K:=
 call_of_txt (args:= [x0]) mixed Tryz.func108 .o (by kernel_rfl) (cast (by kernel_rfl) h)
def f109_t (x0 x1:Value) (K:K1) (w:World):Prop:=
 callS prog 59 (pA #[x0]) w fun t10 w=>
 ev prog (binM .eql 3 (.tmp 11) (.const (.int .i64 0)) t10 (.int .i64 0)) w fun t12 w=>
 gd t12 false (fun k=>k x1 w) w fun t14 w=>
 gd t12 false (fun k=>ev prog (binM .leq 3 (.tmp 14) (.const (.int .i64 8)) t14 (.int .i64 8)) w k) w fun t15 w=>
 pickS t12 (.bool true) t15 w fun t16 w=>
 gd t16 false (fun k=>k x1 w) w fun t18 w=>
 gd t16 false (fun k=>ev prog (binM .geq 3 (.tmp 18) (.const (.int .i64 256)) t18 (.int .i64 256)) w k) w fun t19 w=>
 pickS t16 (.bool true) t19 w fun t20 w=>
 cndS t20 (
 K (.tuple #[(.int .i64 0),(.bool false)]) w) (
 ev prog (Instr.indexAt 187 (.pointer (some ⟨0,0,none⟩)) x0) w fun t22 w=>
 ldS prog 3 t22 w fun t23 w=>
 ev prog (binM .add 3 (.tmp 23) (.const (.int .i64 1)) t23 (.int .i64 1)) w fun t24 w=>
 ev prog (binM .sub 3 (.tmp 25) (.const (.int .i64 8)) x1 (.int .i64 8)) w fun t26 w=>
 ev prog (binM .sub 3 (.tmp 26) (.const (.int .i64 1)) t26 (.int .i64 1)) w fun t27 w=>
 ev prog (binM .rem 3 (.tmp 28) (.tmp 29) t27 t24) w fun t30 w=>
 ev prog (binM .neq 3 (.tmp 30) (.const (.int .i64 0)) t30 (.int .i64 0)) w fun t31 w=>
 gd t31 false (fun k=>k t27 w) w fun t33 w=>
 gd t31 false (fun k=>k t24 w) w fun t34 w=>
 gd t31 false (fun k=>ev prog (binM .quo 3 (.tmp 33) (.tmp 34) t33 t34) w k) w fun t35 w=>
 gd t31 false (fun k=>k t10 w) w fun t36 w=>
 gd t31 false (fun k=>ev prog (binM .geq 3 (.tmp 35) (.tmp 36) t35 t36) w k) w fun t37 w=>
 pickS t31 (.bool true) t37 w fun t38 w=>
 cndS t38 (
 K (.tuple #[(.int .i64 0),(.bool false)]) w) (
 ev prog (binM .quo 3 (.tmp 39) (.tmp 40) t27 t24) w fun t41 w=>
 K (.tuple #[t41,(.bool true)]) w))
theorem f109_call (x0 x1:Value) (K:K1) (w:World) (h:f109_t x0 x1 K w):callS prog 109 #[x0,x1] w K:=
 call_of_txt (args:= [x0,x1]) mixed Tryz.func109 .o (by kernel_rfl) (cast (by kernel_rfl) h)
def f112_t (x0:Value) (K:K1) (w:World):Prop:=
 ev prog (convert 32 5 x0) w fun t5 w=>
 ev prog (binM .shr 32 (.tmp 6) (.const (.int .u64 ((8:Nat):Int))) x0 (.int .u64 ((8:Nat):Int))) w fun t7 w=>
 ev prog (convert 32 5 t7) w fun t8 w=>
 ev prog (binM .shr 32 (.tmp 9) (.const (.int .u64 ((16:Nat):Int))) x0 (.int .u64 ((16:Nat):Int))) w fun t10 w=>
 ev prog (convert 32 5 t10) w fun t11 w=>
 ev prog (binM .shr 32 (.tmp 12) (.const (.int .u64 ((24:Nat):Int))) x0 (.int .u64 ((24:Nat):Int))) w fun t13 w=>
 ev prog (convert 32 5 t13) w fun t14 w=>
 ev prog (Instr.buildSlice 58 4 #[(0,t5),(1,t8),(2,t11),(3,t14)]) w fun t15 w=>
 callS prog 122 (pA #[t15]) w fun t17 w=>
 ev prog (convert 32 30 t17) w fun t18 w=>
 ev prog (binM .shl 30 (.tmp 18) (.const (.int .u64 ((32:Nat):Int))) t18 (.int .u64 ((32:Nat):Int))) w fun t19 w=>
 ev prog (convert 32 30 x0) w fun t21 w=>
 ev prog (binM .or 30 (.tmp 19) (.tmp 21) t19 t21) w fun t22 w=>
 K t22 w
theorem f112_call (x0:Value) (K:K1) (w:World) (h:f112_t x0 K w):callS prog 112 #[x0] w K:=
 call_of_txt (args:= [x0]) mixed Tryz.func112 .o (by kernel_rfl) (cast (by kernel_rfl) h)
noncomputable def f114_u:Code×Dec:=((Tryz.f114.body).getD .skip,(.s .o (.s .o (.x 8 (.b (.l [3] 1 524280 .o)) .o))))
abbrev f114_e (K:K1):KF:=endK prog Tryz.f114.results.toList K
def f114_k1_o (K:K1):KF:=fun fr w=>∀σ,cP (pr (pr (pr f114_u))) (f114_e K) (f114_e K) nX (mixF 8 σ 0 fr) w
def f114_k1 (K:K1) (x3:Value) (w:World):Prop:=f114_k1_o K (fz 20 0 [(3,x3)]) w
def f114_l1 (K:K1) (x0 x3:Value) (w:World):Prop:=loopT [3] 1 (fun E=>cP (pl (pl (pl (pr (pr f114_u))))) E (f114_e K) (exB 0 (f114_k1_o K) nX)) (fz 20 0 [(0,x0),(3,x3)]) w
def f114_k1_t (x3:Value) (K:K1) (w:World):Prop:=
 K x3 w
theorem f114_k1_eq (K:K1) (x3:Value) (w:World):f114_k1 K x3 w=f114_k1_t x3 K w:=cutE fun σ=>by kernel_rfl
def f114_l1_t (x0 x3:Value) (K:K1) (E1:VP1) (w:World):Prop:=
 callS prog 124 (pA #[x0]) w fun t5 w=>
 ev prog (binM .gtr 3 (.tmp 5) (.const (.int .i64 0)) t5 (.int .i64 0)) w fun t6 w=>
 gd t6 true (fun k=>k x3 w) w fun t8 w=>
 gd t6 true (fun k=>ev prog (binM .add 3 (.tmp 8) (.const (.int .i64 1)) t8 (.int .i64 1)) w k) w fun t9 w=>
 gd t6 true (fun k=>k x0 w) w fun t10 w=>
 gd t6 true (fun k=>callS prog 124 (pA #[t10]) w k) w fun t11 w=>
 gd t6 true (fun k=>ev prog (binM .add 3 (.tmp 11) (.const (.int .i64 1)) t11 (.int .i64 1)) w k) w fun t12 w=>
 gd t6 true (fun k=>ev prog (binM .mul 3 (.tmp 9) (.tmp 12) t9 t12) w k) w fun t13 w=>
 gd t6 true (fun k=>ev prog (binM .add 3 (.const (.int .i64 8)) (.tmp 13) (.int .i64 8) t13) w k) w fun t14 w=>
 gd t6 true (fun k=>ev prog (binM .leq 3 (.tmp 14) (.const (.int .i64 256)) t14 (.int .i64 256)) w k) w fun t15 w=>
 pickS t6 t15 (.bool false) w fun t16 w=>
 cndS t16 (
 ev prog (binM .add 3 (.tmp 17) (.const (.int .i64 1)) x3 (.int .i64 1)) w fun t18 w=>
 E1 t18 w) (
 f114_k1 K x3 w)
theorem f114_l1_rule (x0 x3:Value) (K:K1) (w:World) (I:VP1) (μ:Value→World→Nat) (h0:I x3 w)
  (hr:∀(x3:Value) (w:World),I x3 w→∀E1:VP1,(∀(y3:Value) (w':World),I y3 w'→μ y3 w'<μ x3 w→E1 y3 w')→f114_l1_t x0 x3 K E1 w):f114_l1 K x0 x3 w:=
 ⟨I,μ,h0,fun σ w hI E hE=>cast (by kernel_rfl) (hr (σ 3) w hI E hE)⟩
def f114_t (x0:Value) (K:K1) (w:World):Prop:=
 f114_l1 K x0 (.int .i64 0) w
theorem f114_call (x0:Value) (K:K1) (w:World) (h:f114_t x0 K w):callS prog 114 #[x0] w K:=
 call_of_txt (args:= [x0]) mixed Tryz.func114 f114_u.2 (by kernel_rfl) (cast (by kernel_rfl) h)
def f115_t (x0 x1 x2:Value) (K:K1) (w:World):Prop:=
 ev prog (convert 34 32 x0) w fun t8 w=>
 ev prog (convert 5 32 x1) w fun t10 w=>
 ev prog (binM .shl 32 (.tmp 10) (.const (.int .u64 ((16:Nat):Int))) t10 (.int .u64 ((16:Nat):Int))) w fun t11 w=>
 ev prog (binM .add 32 (.tmp 8) (.tmp 11) t8 t11) w fun t12 w=>
 ev prog (binM .shl 32 (.tmp 13) (.const (.int .u64 ((24:Nat):Int))) x2 (.int .u64 ((24:Nat):Int))) w fun t14 w=>
 ev prog (binM .add 32 (.tmp 12) (.tmp 14) t12 t14) w fun t15 w=>
 callS prog 10 (pA #[t15]) w fun t16 w=>
 K t16 w
theorem f115_call (x0 x1 x2:Value) (K:K1) (w:World) (h:f115_t x0 x1 x2 K w):callS prog 115 #[x0,x1,x2] w K:=
 call_of_txt (args:= [x0,x1,x2]) mixed Tryz.func115 .o (by kernel_rfl) (cast (by kernel_rfl) h)
def f116_t (x0 x1:Value) (K:K1) (w:World):Prop:=
 callS prog 124 (pA #[x0]) w fun t7 w=>
 ev prog (binM .add 3 (.tmp 7) (.const (.int .i64 1)) t7 (.int .i64 1)) w fun t8 w=>
 ev prog (binM .mul 3 (.tmp 5) (.tmp 8) x1 t8) w fun t9 w=>
 ev prog (binM .add 3 (.const (.int .i64 8)) (.tmp 9) (.int .i64 8) t9) w fun t10 w=>
 K t10 w
theorem f116_call (x0 x1:Value) (K:K1) (w:World) (h:f116_t x0 x1 K w):callS prog 116 #[x0,x1] w K:=
 call_of_txt (args:= [x0,x1]) mixed Tryz.func116 .o (by kernel_rfl) (cast (by kernel_rfl) h)
def f117_t (x0:Value) (K:K1) (w:World):Prop:=
 ev prog (binM .rem 30 (.tmp 4) (.const (.int .u64 ((64:Nat):Int))) x0 (.int .u64 ((64:Nat):Int))) w fun t5 w=>
 ev prog (binM .sub 30 (.tmp 3) (.tmp 5) x0 t5) w fun t6 w=>
 K t6 w
theorem f117_call (x0:Value) (K:K1) (w:World) (h:f117_t x0 K w):callS prog 117 #[x0] w K:=
 call_of_txt (args:= [x0]) mixed Tryz.func117 .o (by kernel_rfl) (cast (by kernel_rfl) h)
def f121_t (x0:Value) (K:K1) (w:World):Prop:=
 ev prog (binM .eql 34 (.tmp 4) (.const (.int .u16 ((65535:Nat):Int))) x0 (.int .u16 ((65535:Nat):Int))) w fun t5 w=>
 cndS t5 (
 K (.tuple #[(.int .u16 ((0:Nat):Int)),(.bool false)]) w) (
 ev prog (binM .add 34 (.tmp 6) (.const (.int .u16 ((1:Nat):Int))) x0 (.int .u16 ((1:Nat):Int))) w fun t7 w=>
 K (.tuple #[t7,(.bool true)]) w)
theorem f121_call (x0:Value) (K:K1) (w:World) (h:f121_t x0 K w):callS prog 121 #[x0] w K:=
 call_of_txt (args:= [x0]) mixed Tryz.func121 .o (by kernel_rfl) (cast (by kernel_rfl) h)
def f122_t (x0:Value) (K:K1) (w:World):Prop:=
 callS prog 128 (pA #[(.int .u32 ((0:Nat):Int)),x0]) w fun t4 w=>
 K t4 w
theorem f122_call (x0:Value) (K:K1) (w:World) (h:f122_t x0 K w):callS prog 122 #[x0] w K:=
 call_of_txt (args:= [x0]) mixed Tryz.func122 .o (by kernel_rfl) (cast (by kernel_rfl) h)
def f123_t (x0 x1 x2 x3:Value) (K:K1) (w:World):Prop:=
 ev prog (binM .lss 3 (.tmp 13) (.const (.int .i64 0)) x2 (.int .i64 0)) w fun t14 w=>
 gd t14 false (fun k=>k x2 w) w fun t16 w=>
 gd t14 false (fun k=>k x1 w) w fun t17 w=>
 gd t14 false (fun k=>callS prog 114 (pA #[t17]) w k) w fun t18 w=>
 gd t14 false (fun k=>ev prog (binM .geq 3 (.tmp 16) (.tmp 18) t16 t18) w k) w fun t19 w=>
 pickS t14 (.bool true) t19 w fun t20 w=>
 cndS t20 (
 K (.bool false) w) (
 callS prog 116 (pA #[x1,x2]) w fun t25 w=>
 ev prog (Instr.indexAt 39 x0 t25) w fun t26 w=>
 ldS prog 30 t26 w fun t27 w=>
 callS prog 129 (pA #[t27]) w fun t28 w=>
 ev prog (Instr.extract t28 0) w fun t29 w=>
 ev prog (Instr.extract t28 1) w fun t30 w=>
 ev prog (Instr.extract t28 2) w fun t31 w=>
 ev prog (Instr.extract t28 3) w fun t32 w=>
 gd t32 true (fun k=>k t31 w) w fun t35 w=>
 gd t32 true (fun k=>k x3 w) w fun t36 w=>
 gd t32 true (fun k=>ev prog (binM .eql 32 (.tmp 35) (.tmp 36) t35 t36) w k) w fun t37 w=>
 pickS t32 t37 (.bool false) w fun t38 w=>
 gd t38 true (fun k=>k x0 w) w fun t40 w=>
 gd t38 true (fun k=>k x2 w) w fun t41 w=>
 gd t38 true (fun k=>callS prog 130 (pA #[t40,t41]) w k) w fun t42 w=>
 gd t38 true (fun k=>k x3 w) w fun t43 w=>
 gd t38 true (fun k=>ev prog (binM .neq 32 (.tmp 43) (.const (.int .u32 ((176:Nat):Int))) t43 (.int .u32 ((176:Nat):Int))) w k) w fun t44 w=>
 gd t38 true (fun k=>ev prog (binM .eql 4 (.tmp 42) (.tmp 44) t42 t44) w k) w fun t45 w=>
 pickS t38 t45 (.bool false) w fun t46 w=>
 K t46 w)
theorem f123_call (x0 x1 x2 x3:Value) (K:K1) (w:World) (h:f123_t x0 x1 x2 x3 K w):callS prog 123 #[x0,x1,x2,x3] w K:=
 call_of_txt (args:= [x0,x1,x2,x3]) mixed Tryz.func123 .o (by kernel_rfl) (cast (by kernel_rfl) h)
def f124_t (x0:Value) (K:K1) (w:World):Prop:=
 ev prog (binM .eql 3 (.tmp 3) (.const (.int .i64 0)) x0 (.int .i64 0)) w fun t5 w=>
 cndS t5 (
 K (.int .i64 3) w) (
 ev prog (binM .eql 3 (.tmp 3) (.const (.int .i64 1)) x0 (.int .i64 1)) w fun t7 w=>
 cndS t7 (
 K (.int .i64 7) w) (
 ev prog (binM .eql 3 (.tmp 3) (.const (.int .i64 2)) x0 (.int .i64 2)) w fun t9 w=>
 cndS t9 (
 K (.int .i64 15) w) (
 ev prog (binM .eql 3 (.tmp 3) (.const (.int .i64 3)) x0 (.int .i64 3)) w fun t11 w=>
 cndS t11 (
 K (.int .i64 31) w) (
 ev prog (binM .eql 3 (.tmp 3) (.const (.int .i64 4)) x0 (.int .i64 4)) w fun t13 w=>
 cndS t13 (
 K (.int .i64 60) w) (
 K (.int .i64 0) w)))))
theorem f124_call (x0:Value) (K:K1) (w:World) (h:f124_t x0 K w):callS prog 124 #[x0] w K:=
 call_of_txt (args:= [x0]) mixed Tryz.func124 .o (by kernel_rfl) (cast (by kernel_rfl) h)
noncomputable def f128_u:Code×Dec:=((Tryz.f128.body).getD .skip,(.s .o (.s .o (.x 32 (.s .o (.b (.l [5,12] 3072 1044640 .o))) .o))))
abbrev f128_e (K:K1):KF:=endK prog Tryz.f128.results.toList K
def f128_k1_o (K:K1):KF:=fun fr w=>∀σ,cP (pr (pr (pr f128_u))) (f128_e K) (f128_e K) nX (mixF 32 σ 0 fr) w
def f128_k1 (K:K1) (x5:Value) (w:World):Prop:=f128_k1_o K (fz 22 0 [(5,x5)]) w
def f128_l1 (K:K1) (x5 x10 x11 x12:Value) (w:World):Prop:=loopT [5,12] 3072 (fun E=>cP (pl (pl (pr (pl (pr (pr f128_u)))))) E (f128_e K) (exB 0 (f128_k1_o K) nX)) (fz 22 0 [(5,x5),(10,x10),(11,x11),(12,x12)]) w
def f128_k1_t (x5:Value) (K:K1) (w:World):Prop:=
 ev prog (Op.unary .xor x5) w fun t21 w=>
 K t21 w
theorem f128_k1_eq (K:K1) (x5:Value) (w:World):f128_k1 K x5 w=f128_k1_t x5 K w:=cutE fun σ=>by kernel_rfl
def f128_l1_t (x5 x10 x11 x12:Value) (K:K1) (E1:VP2) (w:World):Prop:=
 ev prog (binM .lss 3 (.tmp 12) (.tmp 11) x12 x11) w fun t13 w=>
 cndS t13 (
 ev prog (Instr.indexAt 58 x10 x12) w fun t14 w=>
 ldS prog 5 t14 w fun t15 w=>
 callS prog 142 (pA #[x5,t15]) w fun t18 w=>
 ev prog (binM .add 3 (.tmp 12) (.const (.int .i64 1)) x12 (.int .i64 1)) w fun t19 w=>
 E1 t18 t19 w) (
 f128_k1 K x5 w)
theorem f128_l1_rule (x5 x10 x11 x12:Value) (K:K1) (w:World) (I:VP2) (μ:Value→Value→World→Nat) (h0:I x5 x12 w)
  (hr:∀(x5 x12:Value) (w:World),I x5 x12 w→∀E1:VP2,(∀(y5 y12:Value) (w':World),I y5 y12 w'→μ y5 y12 w'<μ x5 x12 w→E1 y5 y12 w')→f128_l1_t x5 x10 x11 x12 K E1 w):f128_l1 K x5 x10 x11 x12 w:=
 ⟨I,μ,h0,fun σ w hI E hE=>cast (by kernel_rfl) (hr (σ 5) (σ 12) w hI E hE)⟩
def f128_t (x0 x1:Value) (K:K1) (w:World):Prop:=
 ev prog (Op.unary .xor x0) w fun t9 w=>
 bltS prog .len #[58] 3 #[false] #[x1] w fun t11 w=>
 f128_l1 K t9 x1 t11 (.int .i64 0) w
theorem f128_call (x0 x1:Value) (K:K1) (w:World) (h:f128_t x0 x1 K w):callS prog 128 #[x0,x1] w K:=
 call_of_txt (args:= [x0,x1]) mixed Tryz.func128 f128_u.2 (by kernel_rfl) (cast (by kernel_rfl) h)
def f129_t (x0:Value) (K:K1) (w:World):Prop:=
 ev prog (convert 30 34 x0) w fun t11 w=>
 ev prog (binM .shr 30 (.tmp 12) (.const (.int .u64 ((16:Nat):Int))) x0 (.int .u64 ((16:Nat):Int))) w fun t13 w=>
 ev prog (convert 30 5 t13) w fun t14 w=>
 ev prog (convert 30 32 x0) w fun t16 w=>
 ev prog (binM .shr 32 (.tmp 16) (.const (.int .u64 ((24:Nat):Int))) t16 (.int .u64 ((24:Nat):Int))) w fun t17 w=>
 ev prog (binM .eql 32 (.tmp 18) (.const (.int .u32 ((176:Nat):Int))) t17 (.int .u32 ((176:Nat):Int))) w fun t19 w=>
 gd t19 true (fun k=>k t11 w) w fun t21 w=>
 gd t19 true (fun k=>ev prog (binM .geq 34 (.tmp 21) (.const (.int .u16 ((1:Nat):Int))) t21 (.int .u16 ((1:Nat):Int))) w k) w fun t22 w=>
 pickS t19 t22 (.bool false) w fun t23 w=>
 gd t23 true (fun k=>k t14 w) w fun t25 w=>
 gd t23 true (fun k=>ev prog (binM .eql 5 (.tmp 25) (.const (.int .u8 ((0:Nat):Int))) t25 (.int .u8 ((0:Nat):Int))) w k) w fun t26 w=>
 pickS t23 t26 (.bool false) w fun t27 w=>
 gd t27 false (fun k=>k t17 w) w fun t29 w=>
 gd t27 false (fun k=>ev prog (binM .eql 32 (.tmp 29) (.const (.int .u32 ((177:Nat):Int))) t29 (.int .u32 ((177:Nat):Int))) w k) w fun t30 w=>
 gd t27 false (fun k=>k t30 w) w fun t31 w=>
 gd t31 true (fun k=>k t11 w) w fun t32 w=>
 gd t31 true (fun k=>ev prog (binM .geq 34 (.tmp 32) (.const (.int .u16 ((1:Nat):Int))) t32 (.int .u16 ((1:Nat):Int))) w k) w fun t33 w=>
 gd t27 false (fun k=>pickS t31 t33 (.bool false) w k) w fun t34 w=>
 gd t27 false (fun k=>k t34 w) w fun t35 w=>
 gd t35 true (fun k=>k t14 w) w fun t36 w=>
 gd t35 true (fun k=>ev prog (binM .geq 5 (.tmp 36) (.const (.int .u8 ((1:Nat):Int))) t36 (.int .u8 ((1:Nat):Int))) w k) w fun t37 w=>
 gd t27 false (fun k=>pickS t35 t37 (.bool false) w k) w fun t38 w=>
 gd t27 false (fun k=>k t38 w) w fun t39 w=>
 gd t39 true (fun k=>k t14 w) w fun t40 w=>
 gd t39 true (fun k=>ev prog (binM .leq 5 (.tmp 40) (.const (.int .u8 ((127:Nat):Int))) t40 (.int .u8 ((127:Nat):Int))) w k) w fun t41 w=>
 gd t27 false (fun k=>pickS t39 t41 (.bool false) w k) w fun t42 w=>
 pickS t27 (.bool true) t42 w fun t43 w=>
 gd t43 false (fun k=>k t17 w) w fun t45 w=>
 gd t43 false (fun k=>ev prog (binM .eql 32 (.tmp 45) (.const (.int .u32 ((178:Nat):Int))) t45 (.int .u32 ((178:Nat):Int))) w k) w fun t46 w=>
 gd t43 false (fun k=>k t46 w) w fun t47 w=>
 gd t47 true (fun k=>k t11 w) w fun t48 w=>
 gd t47 true (fun k=>ev prog (binM .eql 34 (.tmp 48) (.const (.int .u16 ((65535:Nat):Int))) t48 (.int .u16 ((65535:Nat):Int))) w k) w fun t49 w=>
 gd t43 false (fun k=>pickS t47 t49 (.bool false) w k) w fun t50 w=>
 gd t43 false (fun k=>k t50 w) w fun t51 w=>
 gd t51 true (fun k=>k t14 w) w fun t52 w=>
 gd t51 true (fun k=>ev prog (binM .eql 5 (.tmp 52) (.const (.int .u8 ((0:Nat):Int))) t52 (.int .u8 ((0:Nat):Int))) w k) w fun t53 w=>
 gd t43 false (fun k=>pickS t51 t53 (.bool false) w k) w fun t54 w=>
 pickS t43 (.bool true) t54 w fun t55 w=>
 gd t55 true (fun k=>k x0 w) w fun t61 w=>
 gd t55 true (fun k=>callS prog 143 (pA #[t61]) w k) w fun t62 w=>
 pickS t55 t62 (.bool false) w fun t63 w=>
 K (.tuple #[t11,t14,t17,t63]) w
theorem f129_call (x0:Value) (K:K1) (w:World) (h:f129_t x0 K w):callS prog 129 #[x0] w K:=
 call_of_txt (args:= [x0]) mixed Tryz.func129 .o (by kernel_rfl) (cast (by kernel_rfl) h)
def f130_t (x0 x1:Value) (K:K1) (w:World):Prop:=
 ev prog (Instr.indexAt 39 x0 (.int .i64 1)) w fun t6 w=>
 ldS prog 30 t6 w fun t7 w=>
 ev prog (binM .shr 30 (.tmp 7) (.tmp 8) t7 x1) w fun t9 w=>
 ev prog (binM .and 30 (.tmp 9) (.const (.int .u64 ((1:Nat):Int))) t9 (.int .u64 ((1:Nat):Int))) w fun t10 w=>
 ev prog (binM .eql 30 (.tmp 10) (.const (.int .u64 ((1:Nat):Int))) t10 (.int .u64 ((1:Nat):Int))) w fun t11 w=>
 K t11 w
theorem f130_call (x0 x1:Value) (K:K1) (w:World) (h:f130_t x0 x1 K w):callS prog 130 #[x0,x1] w K:=
 call_of_txt (args:= [x0,x1]) mixed Tryz.func130 .o (by kernel_rfl) (cast (by kernel_rfl) h)
def f142_t (x0 x1:Value) (K:K1) (w:World):Prop:=
 ev prog (convert 5 32 x1) w fun t7 w=>
 ev prog (binM .xor 32 (.tmp 5) (.tmp 7) x0 t7) w fun t8 w=>
 ev prog (binM .shr 32 (.tmp 9) (.const (.int .u64 ((4:Nat):Int))) t8 (.int .u64 ((4:Nat):Int))) w fun t10 w=>
 ev prog (binM .and 32 (.tmp 11) (.const (.int .u32 ((15:Nat):Int))) t8 (.int .u32 ((15:Nat):Int))) w fun t12 w=>
 ev prog (Instr.indexAt 217 (.pointer (some ⟨1,0,none⟩)) t12) w fun t13 w=>
 ldS prog 32 t13 w fun t14 w=>
 ev prog (binM .xor 32 (.tmp 10) (.tmp 14) t10 t14) w fun t15 w=>
 ev prog (binM .shr 32 (.tmp 16) (.const (.int .u64 ((4:Nat):Int))) t15 (.int .u64 ((4:Nat):Int))) w fun t17 w=>
 ev prog (binM .and 32 (.tmp 18) (.const (.int .u32 ((15:Nat):Int))) t15 (.int .u32 ((15:Nat):Int))) w fun t19 w=>
 ev prog (Instr.indexAt 217 (.pointer (some ⟨1,0,none⟩)) t19) w fun t20 w=>
 ldS prog 32 t20 w fun t21 w=>
 ev prog (binM .xor 32 (.tmp 17) (.tmp 21) t17 t21) w fun t22 w=>
 K t22 w
theorem f142_call (x0 x1:Value) (K:K1) (w:World) (h:f142_t x0 x1 K w):callS prog 142 #[x0,x1] w K:=
 call_of_txt (args:= [x0,x1]) mixed Tryz.func142 .o (by kernel_rfl) (cast (by kernel_rfl) h)
def f143_t (x0:Value) (K:K1) (w:World):Prop:=
 ev prog (convert 30 32 x0) w fun t5 w=>
 callS prog 10 (pA #[t5]) w fun t6 w=>
 ev prog (binM .eql 30 (.tmp 3) (.tmp 6) x0 t6) w fun t7 w=>
 K t7 w
theorem f143_call (x0:Value) (K:K1) (w:World) (h:f143_t x0 K w):callS prog 143 #[x0] w K:=
 call_of_txt (args:= [x0]) mixed Tryz.func143 .o (by kernel_rfl) (cast (by kernel_rfl) h)
end Go.Proofs.YtifpinhjpbgnoaaGreatDoor
namespace Go.Proofs.YtifpinhjpbgnoaaGreatDoor
def nibN (i:Nat):Nat:=([0,274646895,549293790,820201905,1098587580,1361435347,1640403810,1905808397,2197175160,2460548119,2722870694,2987750089,3280807620,3553878443,3811616794,4084100981]:List Nat).getD i 0
def bs (c:Nat):Nat:=if c%2=1 then (c/2)^^^2197175160 else c/2
def bsN:Nat→Nat→Nat
 |0,c=>c
 |n+1,c=>bsN n (bs c)
def nb (c:Nat):Nat:=(c/16)^^^nibN (c%16)
def stepN (r b:Nat):Nat:=nb (nb (r^^^b))
def sumL (l:List Nat):Nat:=4294967295^^^(l.foldl stepN (4294967295^^^0))
def sumN (x:Nat):Nat:=bsN 32 (4294967295^^^x)^^^4294967295
def sealN (x:Nat):Nat:=sumN x*4294967296+x
theorem div2_xor (a b:Nat):(a^^^b)/2=a/2^^^b/2:=by
 have:=Nat.shiftRight_xor_distrib (a:=a) (b:=b) (i:=1)
 simpa [Nat.shiftRight_succ] using this
theorem mod2_xor (a b:Nat):(a^^^b)%2=(a%2+b%2)%2:=by
 have h:=Nat.testBit_xor a b 0
 simp only [Nat.testBit_zero] at h
 have ha:=Nat.mod_two_eq_zero_or_one a
 have hb:=Nat.mod_two_eq_zero_or_one b
 have hc:=Nat.mod_two_eq_zero_or_one (a^^^b)
 rcases ha with ha|ha<;>rcases hb with hb|hb<;>rcases hc with hc|hc<;>simp [ha,hb,hc] at h ⊢
theorem bs_xor (a b:Nat):bs (a^^^b)=bs a^^^bs b:=by
 have ha:=Nat.mod_two_eq_zero_or_one a
 have hb:=Nat.mod_two_eq_zero_or_one b
 unfold bs
 rw [mod2_xor,div2_xor]
 rcases ha with ha|ha<;>rcases hb with hb|hb<;>simp [ha,hb]
 ·rw [Nat.xor_assoc]
 ·rw [Nat.xor_assoc,Nat.xor_assoc,Nat.xor_comm (b/2)]
 ·rw [Nat.xor_assoc,←Nat.xor_assoc 2197175160,Nat.xor_comm 2197175160,Nat.xor_assoc,Nat.xor_self,Nat.xor_zero]
theorem bsN_xor:∀(n a b:Nat),bsN n (a^^^b)=bsN n a^^^bsN n b:=by
 intro n
 induction n with
 |zero=>intro a b;rfl
 |succ n ih=>intro a b;simp only [bsN,bs_xor,ih]
theorem bs_two (q:Nat):bs (2*q)=q:=by unfold bs;rw [if_neg (by omega)];omega
theorem bsN_shift:∀(n q:Nat),bsN n (2^n*q)=q:=by
 intro n
 induction n with
 |zero=>intro q;simp [bsN]
 |succ n ih=>
  intro q
  simp only [bsN]
  rw [show 2^(n+1)*q=2*(2^n*q) by rw [Nat.pow_succ];ac_rfl,bs_two,ih]
theorem bsN_add:∀(m n c:Nat),bsN (m+n) c=bsN n (bsN m c):=by
 intro m
 induction m with
 |zero=>intro n c;simp [bsN]
 |succ m ih=>intro n c;rw [show m+1+n=(m+n)+1 by omega];simp only [bsN,ih]
theorem nib_table (r:Nat) (h:r<16):bsN 4 r=nibN r:=by
 have:∀r:Fin 16,bsN 4 r.1=nibN r.1:=by decide
 exact this ⟨r,h⟩
theorem split_xor (k c:Nat):c=(2^k*(c/2^k))^^^(c%2^k):=by
 apply Nat.eq_of_testBit_eq
 intro i
 rw [Nat.testBit_xor,Nat.testBit_two_pow_mul,Nat.testBit_mod_two_pow]
 by_cases h:i<k
 ·simp [h,Nat.not_le.2 h]
 ·have h':k≤i:=by omega
  simp only [h,h',decide_true,decide_false,Bool.true_and,Bool.false_and,Bool.xor_false]
  rw [Nat.testBit_div_two_pow]
  congr 1;omega
theorem nb_eq (c:Nat):nb c=bsN 4 c:=by
 have h:=split_xor 4 c
 conv=>rhs;rw [h]
 rw [bsN_xor,bsN_shift,nib_table _ (by omega)]
 rfl
theorem stepN_eq (r b:Nat):stepN r b=bsN 8 (r^^^b):=by
 unfold stepN;rw [nb_eq,nb_eq,←bsN_add 4 4]
theorem bsN_in (k y b:Nat):bsN k y^^^b=bsN k (y^^^(2^k*b)):=by rw [bsN_xor,bsN_shift]
theorem four_bytes (x:Nat) (h:x<4294967296):x=((x%256^^^(2^8*(x/256%256)))^^^(2^16*(x/65536%256)))^^^(2^24*(x/16777216%256)):=by
 have e1:=split_xor 8 (x%2^16)
 have e2:=split_xor 16 (x%2^24)
 have e3:=split_xor 24 x
 rw [show x%2^16/2^8=x/256%256 by omega,show x%2^16%2^8=x%256 by omega] at e1
 rw [show x%2^24/2^16=x/65536%256 by omega,show x%2^24%2^16=x%2^16 by omega] at e2
 rw [show x/2^24=x/16777216%256 by omega] at e3
 conv=>lhs;rw [e3,e2,e1]
 rw [Nat.xor_comm,Nat.xor_comm (2^16*_),Nat.xor_comm (2^8*_)]
theorem sumL_bytes (x:Nat) (h:x<4294967296):sumL [x%256,x/256%256,x/65536%256,x/16777216%256]=sumN x:=by
 unfold sumL sumN
 simp only [List.foldl_cons,List.foldl_nil,stepN_eq,Nat.xor_zero]
 rw [bsN_in 8 (4294967295^^^x%256),←bsN_add 8 8,bsN_in (8+8) _ (x/65536%256),←bsN_add (8+8) 8,bsN_in (8+8+8) _ (x/16777216%256),←bsN_add (8+8+8) 8,Nat.xor_comm 4294967295 (bsN _ _)]
 congr 2
 conv=>rhs;rw [four_bytes x h]
 simp only [Nat.xor_assoc,Nat.reduceAdd]
theorem bs_lt (c:Nat) (h:c<4294967296):bs c<4294967296:=by
 unfold bs
 split
 ·exact Nat.xor_lt_two_pow (n:=32) (by omega) (by omega)
 ·omega
theorem bsN_lt:∀(n c:Nat),c<4294967296→bsN n c<4294967296:=by
 intro n
 induction n with
 |zero=>intro c h;exact h
 |succ n ih=>intro c h;exact ih _ (bs_lt c h)
theorem sumN_lt (x:Nat) (h:x<4294967296):sumN x<4294967296:=
 Nat.xor_lt_two_pow (n:=32) (bsN_lt 32 _ (Nat.xor_lt_two_pow (n:=32) (by omega) h)) (by omega)
theorem nibN_lt (i:Nat):nibN i<4294967296:=by
 by_cases h:i<16
 ·have:∀r:Fin 16,nibN r.1<4294967296:=by decide
  exact this ⟨i,h⟩
 ·unfold nibN
  rw [List.getD_eq_getElem?_getD,List.getElem?_eq_none (by simp;omega)]
  decide
theorem nb_lt (c:Nat) (h:c<4294967296):nb c<4294967296:=Nat.xor_lt_two_pow (n:=32) (by omega) (nibN_lt _)
theorem stepN_lt (r b:Nat) (h:r<4294967296) (hb:b<256):stepN r b<4294967296:=nb_lt _ (nb_lt _ (Nat.xor_lt_two_pow (n:=32) h (by omega)))
end Go.Proofs.YtifpinhjpbgnoaaGreatDoor
namespace Go.Proofs.YtifpinhjpbgnoaaGreatDoor
open Go Go.Sh
def payN (i:Nat):Int:=([3,7,15,31,60]:List Int).getD i 0
structure Glob (w:World):Prop where
 pay:∀i,i<5→w.cell? ⟨0,i,none⟩=some (.int .i64 (payN i))
 nib:∀i,i<16→w.cell? ⟨1,i,none⟩=some (.int .u32 (nibN i))
def wordsS (c:Int):Int:=if 0≤c∧c<5 then payN c.toNat else 0
theorem payN_bd (i:Nat) (h:i<5):3≤payN i∧payN i≤60:=by
 rcases i with _|_|_|_|_|i<;>first|(simp [payN];done)|omega
theorem wordsS_in {c:Int} (h0:0≤c) (h1:c<5):wordsS c=payN c.toNat∧3≤wordsS c∧wordsS c≤60:=by
 unfold wordsS;rw [if_pos ⟨h0,h1⟩];exact ⟨rfl,payN_bd _ (by omega)⟩
theorem wordsS_out {c:Int} (h:¬(0≤c∧c<5)):wordsS c=0:=by unfold wordsS;rw [if_neg h]
theorem c_start (off:Nat) (w:World) (K:K1) (h1:off<18446744073709551616):callS prog 117 #[.int .u64 off] w K=K (.int .u64 ((off-off%64:Nat):Int)) w:=by
 refine callS_det (by kernel_rfl) (f117_call _ _ _ ?_) K
 unfold f117_t
 simp (disch:=first|omega|simp only [RO]) only [↓RA,↓reduceIte,Nat.reduceAdd,Nat.reduceMul,Nat.reduceEqDiff,RB]
theorem c_Words (c:Int) (w:World) (K:K1) (hG:Glob w):callS prog 96 #[.int .i64 c] w K=K (.int .i64 (wordsS c)) w:=by
 refine callS_det (by kernel_rfl) (f96_call _ _ _ ?_) K
 unfold f96_t
 by_cases h0:c<0
 ·simp (disch:=first|omega|simp only [RO]) only [↓RA,↓reduceIte,Nat.reduceAdd,Nat.reduceMul,Nat.reduceEqDiff,RB,wordsS_out]
 ·by_cases h1:5≤c
  ·simp (disch:=first|omega|simp only [RO]) only [↓RA,↓reduceIte,Nat.reduceAdd,Nat.reduceMul,Nat.reduceEqDiff,RB,wordsS_out]
  ·simp (disch:=first|omega|simp only [RO]) only [↓RA,↓reduceIte,Nat.reduceAdd,Nat.reduceMul,Nat.reduceEqDiff,RB,hG.pay,(wordsS_in (c:=c) (by omega) (by omega)).1]
def perS (c:Int):Int:=if wordsS c=0 then 0 else 248/(wordsS c+1)
theorem c_PerChunk (c:Int) (w:World) (K:K1) (hG:Glob w):callS prog 59 #[.int .i64 c] w K=K (.int .i64 (perS c)) w:=by
 refine callS_det (by kernel_rfl) (f59_call _ _ _ ?_) K
 unfold f59_t
 by_cases h:0≤c∧c<5
 ·have hw:=wordsS_in h.1 h.2
  have e:perS c=248/(wordsS c+1):=by unfold perS;rw [if_neg (by omega)]
  simp (disch:=first|omega|simp only [RO]) only [↓RA,↓reduceIte,Nat.reduceAdd,Nat.reduceMul,Nat.reduceEqDiff,RB,c_Words c w _ hG,e]
 ·have hw:=wordsS_out h
  have e:perS c=0:=by unfold perS;rw [if_pos hw]
  simp (disch:=first|omega|simp only [RO]) only [↓RA,↓reduceIte,Nat.reduceAdd,Nat.reduceMul,Nat.reduceEqDiff,RB,c_Words c w _ hG,hw,e]
section
variable {w w':World} {Y:Lay} {D D':DS}
theorem c_Lines (h:Dv w Y D) (K:K1):callS prog 111 #[.pointer (some ⟨Y.d,0,none⟩)] w K=K (.int .i64 (D.n:Int)) w:=by
 refine callS_det (by kernel_rfl) (f111_call _ _ _ ?_) K
 unfold f111_t
 (repeat' (first|(with_reducible first|refine brS_mk (fun _=> ?_) (fun _=> ?_)|refine And.intro ?_ ?_)|(simp (disch:=first|omega|simp only [RO]|(simp only [RZ]<;>omega)|fail) only [↓RBp,↓RA,↓reduceIte,Nat.reduceAdd,Nat.reduceMul,Nat.reduceEqDiff,RB,RX,RA2,h.R])))
theorem c_DSize (h:Dv w Y D) (g:Good D) (K:K1):callS prog 85 #[.pointer (some ⟨Y.d,0,none⟩)] w K=K (.int .u64 ((D.n*64:Nat):Int)) w:=by
 refine callS_det (by kernel_rfl) (f85_call _ _ _ ?_) K
 unfold f85_t
 have:=g.n
 (repeat' (first|(with_reducible first|refine brS_mk (fun _=> ?_) (fun _=> ?_)|refine And.intro ?_ ?_)|(simp (disch:=first|omega|simp only [RO]|(simp only [RZ]<;>omega)|fail) only [↓RBp,↓RA,↓reduceIte,Nat.reduceAdd,Nat.reduceMul,Nat.reduceEqDiff,RB,RX,RA2,c_Lines h])))
def vOff (D:DS) (off:Nat):Bool:=decide (off%8=0)&&decide (off<D.n*64)
theorem c_word (h:Dv w Y D) (g:Good D) (id:Nat) (hid:id<8) (off:Nat) (K:K1):callS prog 42 #[.pointer (some ⟨Y.tb id,0,none⟩),.int .u64 (off:Int)] w K=K (.bool (vOff D off)) w:=by
 refine callS_det (by kernel_rfl) (f42_call _ _ _ _ ?_) K
 unfold f42_t vOff
 (repeat' (first|(with_reducible first|refine brS_mk (fun _=> ?_) (fun _=> ?_)|refine And.intro ?_ ?_)|(simp (disch:=first|omega|simp only [RO]|(simp only [RZ]<;>omega)|fail) only [↓RBp,↓RA,↓reduceIte,Nat.reduceAdd,Nat.reduceMul,Nat.reduceEqDiff,RB,RX,RA2,h.R,c_DSize h g])))
theorem c_onOk (h:Dv w Y D) (id:Nat) (hid:id<8) (ho:D.off=false) (K:K1):callS prog 83 #[.pointer (some ⟨Y.tb id,0,none⟩),.bool true] w K=K (.bool true) w:=by
 refine callS_det (by kernel_rfl) (f83_call _ _ _ _ ?_) K
 unfold f83_t
 (repeat' (first|(with_reducible first|refine brS_mk (fun _=> ?_) (fun _=> ?_)|refine And.intro ?_ ?_)|(simp (disch:=first|omega|simp only [RO]|(simp only [RZ]<;>omega)|fail) only [↓RBp,↓RA,↓reduceIte,Nat.reduceAdd,Nat.reduceMul,Nat.reduceEqDiff,RB,RX,RA2,h.R,ho])))
theorem c_Load (h:Dv w Y D) (g:Good D) (id:Nat) (hid:id<8) (ho:D.off=false) (off:Nat) (h1:off%8=0) (h2:off<D.n*64) (K:K1):callS prog 46 #[.pointer (some ⟨Y.tb id,0,none⟩),.int .u64 (off:Int)] w K=K (.int .u64 (D.cur (off/8):Int)) w:=by
 refine callS_det (by kernel_rfl) (f46_call _ _ _ _ ?_) K
 unfold f46_t
 have hv:vOff D off=true:=by simp [vOff,h1,h2]
 have:=g.n
 (repeat' (first|(with_reducible first|refine brS_mk (fun _=> ?_) (fun _=> ?_)|refine And.intro ?_ ?_)|(simp (disch:=first|omega|simp only [RO]|(simp only [RZ]<;>omega)|fail) only [↓RBp,↓RA,↓reduceIte,Nat.reduceAdd,Nat.reduceMul,Nat.reduceEqDiff,RB,RX,RA2,h.R,c_word h g id hid,c_onOk h id hid ho,hv])))
theorem c_Err (h:Dv w Y D) (id:Nat) (hid:id<8) (K:K1):callS prog 19 #[.pointer (some ⟨Y.tb id,0,none⟩)] w K=K (.int .i64 (D.err id)) w:=by
 refine callS_det (by kernel_rfl) (f19_call _ _ _ ?_) K
 unfold f19_t
 (repeat' (first|(with_reducible first|refine brS_mk (fun _=> ?_) (fun _=> ?_)|refine And.intro ?_ ?_)|(simp (disch:=first|omega|simp only [RO]|(simp only [RZ]<;>omega)|fail) only [↓RBp,↓RA,↓reduceIte,Nat.reduceAdd,Nat.reduceMul,Nat.reduceEqDiff,RB,RX,RA2,h.R])))
theorem c_TSize (h:Dv w Y D) (g:Good D) (id:Nat) (hid:id<8) (K:K1):callS prog 167 #[.pointer (some ⟨Y.tb id,0,none⟩)] w K=K (.int .u64 ((D.n*64:Nat):Int)) w:=by
 refine callS_det (by kernel_rfl) (f167_call _ _ _ ?_) K
 unfold f167_t
 (repeat' (first|(with_reducible first|refine brS_mk (fun _=> ?_) (fun _=> ?_)|refine And.intro ?_ ?_)|(simp (disch:=first|omega|simp only [RO]|(simp only [RZ]<;>omega)|fail) only [↓RBp,↓RA,↓reduceIte,Nat.reduceAdd,Nat.reduceMul,Nat.reduceEqDiff,RB,RX,RA2,h.R,c_DSize h g])))
theorem c_Thread (h:Dv w Y D) (id:Nat) (hid:id<8) (K:K1):callS prog 21 #[.pointer (some ⟨Y.d,0,none⟩),.int .i64 (id:Int)] w K=K (.pointer (some ⟨Y.dt id,0,none⟩)) w:=by
 refine callS_det (by kernel_rfl) (f21_call _ _ _ _ ?_) K
 unfold f21_t
 have e:3+id-3=id:=by omega
 (repeat' (first|(with_reducible first|refine brS_mk (fun _=> ?_) (fun _=> ?_)|refine And.intro ?_ ?_)|(simp (disch:=first|omega|simp only [RO]|(simp only [RZ]<;>omega)|fail) only [↓RBp,↓RA,↓reduceIte,Nat.reduceAdd,Nat.reduceMul,Nat.reduceEqDiff,RB,RX,RA2,h.R,e])))
end
theorem elWrite:ElT prog 76 76 80 2 16 (.agg #[.int .u64 0,.int .u64 0]):=⟨by kernel_rfl,by kernel_rfl,by kernel_rfl,by kernel_rfl,by decide⟩
theorem wrL_append (a b:List (Nat×Nat)):wrL (a++b)=wrL a++wrL b:=by
 induction a with
 |nil=>rfl
 |cons x a ih=>obtain ⟨o,v⟩:=x;simp [wrL,ih]
def DS.write (D:DS) (off v:Nat):DS:={D with hist:=fun j=>if j=off/64 then D.hist (off/64)++ [(off,v)] else D.hist j,cur:=fun j=>if j=off/8 then v else D.cur j}
section
variable {w w':World} {Y:Lay} {D D':DS}
theorem k_write (h:Dv w Y D) (g:Good D) (id:Nat) (hid:id<8) (off v:Nat) (h1:off%8=0) (h2:off<D.n*64) (hx:D.exe<1099511627776) (K:K1) (hK:∀w' Y',Stp w Y w' Y' (D.write off v)→K (.tuple #[]) w'):callS prog 43 #[.pointer (some ⟨Y.tb id,0,none⟩),.int .u64 (off:Int),.int .u64 (v:Int)] w K:=by
 refine f43_call _ _ _ _ _ ?_
 unfold f43_t
 have:=g.n
 have hl:off/64<D.n:=by omega
 have hc:=g.cnt (off/64) hl
 simp (disch:=first|omega|simp only [RO]|(simp only [RZ]<;>omega)|fail) only [↓RBp,↓RA,↓reduceIte,Nat.reduceAdd,Nat.reduceMul,Nat.reduceEqDiff,RB,RX,RA2,h.R]
 have h':=h.ext (Ext.alloc_self w (.cells #[.int .u64 (off:Int),.int .u64 (v:Int)] 80))
 refine blt_append elWrite (h'.hs _ hl) (news:= [u64 off,u64 v]) (by simp) ?_ rfl (by omega) (by omega) (by omega) (fun v' w' hv hf hn _=> ?_)
 ·intro j u hj
  rw [Nat.zero_add,cell_new _ _ _ _ _ rfl];simpa [u64] using hj
 have hs:=h'.setHist (off/64) hl v' (D.hist (off/64)++ [(off,v)]) (by rw [wrL_append];simpa [wrL] using hv) hf hn
 have hli:=(h'.li.frm hf (fun e=>by have:=h'.inj (.hs (off/64)) .li Y.lb (by simp only [Lay.blk];rw [if_pos (by have:=h'.yn;omega)];exact e) rfl;cases this))
 have c1:=hli.cell (i:=off/64*2+1) (by omega)
 have o1:isOne v'=true:=by rcases hv.2 with ⟨rfl,_⟩|⟨_,_,_,_,rfl,_⟩<;>rfl
 have c2:=hs.dv.c_cur (off/8) (by show off/8<8*D.n;omega)
 simp (disch:=first|omega|simp only [RO]|(simp only [RZ]<;>omega)|fail) only [↓RBp,↓RA,↓reduceIte,Nat.reduceAdd,Nat.reduceMul,Nat.reduceEqDiff,RB,RX,RA2,c1,c2,hli.frz,o1,hs.dv.R]
 have hs2:=(Stp.pre (Ext.alloc_self w _) (fun b hb=>h.lt hb) hs).trans (hs.dv.setCur (off/8) v (by show off/8<8*D.n;omega))
 exact hK _ _ hs2
def DS.store (D:DS) (id off v:Nat):DS:=if D.runs (vOff D off)=true then (D.counted id (vOff D off)).write off v else D.counted id (vOff D off)
theorem DS.fail_n (D:DS) (id:Nat) (e:Int):(D.fail id e).n=D.n:=by unfold DS.fail;split<;>rfl
theorem DS.counted_run {D:DS} {id:Nat} {v:Bool} (h:D.runs v=true):D.counted id v=if D.armed=true then {D with left:=D.left-1,exe:=D.exe+1} else {D with exe:=D.exe+1}:=by
 simp only [DS.runs,Bool.and_eq_true,Bool.not_eq_true',Bool.and_eq_false_iff] at h
 obtain ⟨⟨h1,h2⟩,h3⟩:=h
 unfold DS.counted
 rw [if_neg (by simp [h1]),if_neg (by simp [h2])]
 by_cases ha:D.armed=true
 ·rw [if_pos ha,if_pos ha]
  have:¬D.left=0:=by rcases h3 with h3|h3<;>simp_all
  rw [if_neg this]
 ·rw [if_neg ha,if_neg ha]
theorem Good.fail (g:Good D) (id:Nat) (e:Int):Good (D.fail id e):=by
 unfold DS.fail
 split
 ·exact ⟨g.n0,g.n,g.cur,g.pers,g.hist,g.cnt,g.left,g.notes⟩
 ·exact g
theorem Good.counted (g:Good D) (id:Nat) (v:Bool):Good (D.counted id v):=by
 unfold DS.counted
 have hc:∀l,l<D.n→D.done l+(D.hist l).length≤D.exe+1:=fun l hl=>Nat.le_succ_of_le (g.cnt l hl)
 have hl:=g.left
 split
 ·exact g.fail _ _
 ·split
  ·exact g.fail _ _
  ·split
   ·split
    ·exact Good.fail (D:={D with off:=true}) ⟨g.n0,g.n,g.cur,g.pers,g.hist,g.cnt,g.left,g.notes⟩ _ _
    ·exact ⟨g.n0,g.n,g.cur,g.pers,g.hist,hc,⟨by show 0≤D.left-1;omega,by show D.left-1<_;omega⟩,g.notes⟩
   ·exact ⟨g.n0,g.n,g.cur,g.pers,g.hist,hc,g.left,g.notes⟩
theorem DS.counted_n (D:DS) (id:Nat) (v:Bool):(D.counted id v).n=D.n:=by
 unfold DS.counted
 split
 ·exact D.fail_n _ _
 ·split
  ·exact D.fail_n _ _
  ·split
   ·split
    ·exact DS.fail_n _ _ _
    ·rfl
   ·rfl
theorem DS.counted_exe (D:DS) (id:Nat) (v:Bool):(D.counted id v).exe≤D.exe+1:=by
 have hf:∀(D:DS) e,(D.fail id e).exe=D.exe:=by intro D e;unfold DS.fail;split<;>rfl
 unfold DS.counted
 split
 ·rw [hf];omega
 ·split
  ·rw [hf];omega
  ·split
   ·split
    ·rw [hf];show D.exe≤_;omega
    ·exact Nat.le_refl _
   ·exact Nat.le_refl _
theorem Good.write (g:Good D) (off v:Nat) (h1:off%8=0) (h2:off<D.n*64) (hv:v<18446744073709551616) (hc:∀l,l<D.n→D.done l+(D.hist l).length+1≤D.exe):Good (D.write off v):=by
 refine ⟨g.n0,g.n,?_,g.pers,?_,?_,g.left,?_⟩
 ·intro i hi
  show (if i=off/8 then v else D.cur i)<_
  split
  ·exact hv
  ·exact g.cur i hi
 ·intro l hl o x hx
  have hx':(o,x)∈(if l=off/64 then D.hist (off/64)++ [(off,v)] else D.hist l):=hx
  split at hx'
  ·rename_i e
   rcases List.mem_append.1 hx' with h|h
   ·have:=g.hist _ (by show off/64<D.n;omega) o x h;omega
   ·simp at h;obtain ⟨rfl,rfl⟩:=h;exact ⟨h1,e.symm,hv⟩
  ·exact g.hist l hl o x hx'
 ·intro l hl
  show D.done l+(if l=off/64 then D.hist (off/64)++ [(off,v)] else D.hist l).length≤D.exe
  have:=hc l hl
  split
  ·rename_i e;subst e;simp;omega
  ·omega
 ·intro id hid k p hk
  have:=g.notes id hid k p hk
  refine ⟨this.1,this.2.1,?_⟩
  show p≤D.done k.toNat+(if k.toNat=off/64 then D.hist (off/64)++ [(off,v)] else D.hist k.toNat).length
  split
  ·rename_i e;rw [←e];simp;omega
  ·exact this.2.2
theorem DS.counted_hist {D:DS} {id:Nat} {v:Bool} (h:D.runs v=true):(D.counted id v).hist=D.hist∧(D.counted id v).done=D.done∧(D.counted id v).exe=D.exe+1∧(D.counted id v).cur=D.cur∧(D.counted id v).pers=D.pers∧(D.counted id v).notes=D.notes∧(D.counted id v).off=D.off∧(D.counted id v).err=D.err:=by
 rw [DS.counted_run h];split<;>exact ⟨rfl,rfl,rfl,rfl,rfl,rfl,rfl,rfl⟩
theorem runs_v {D:DS} {v:Bool} (h:D.runs v=true):v=true∧D.off=false:=by
 simp only [DS.runs,Bool.and_eq_true,Bool.not_eq_true'] at h;exact ⟨h.1.2,h.1.1⟩
theorem vOff_iff {D:DS} {off:Nat} (h:vOff D off=true):off%8=0∧off<D.n*64:=by simpa [vOff] using h
theorem Good.store (g:Good D) (id off v:Nat) (hv:v<18446744073709551616):Good (D.store id off v):=by
 unfold DS.store
 split
 ·rename_i hr
  obtain ⟨h1,h2⟩:=vOff_iff (runs_v hr).1
  have:=DS.counted_hist (id:=id) hr
  refine (g.counted id _).write off v h1 (by rw [DS.counted_n];exact h2) hv ?_
  intro l hl
  rw [DS.counted_n] at hl
  rw [this.1,this.2.1,this.2.2.1]
  have:=g.cnt l hl
  omega
 ·exact g.counted id _
theorem k_Store (h:Dv w Y D) (g:Good D) (id:Nat) (hid:id<8) (off v:Nat) (hx:D.exe<1099511627775) (K:K1) (hK:∀w' Y',Stp w Y w' Y' (D.store id off v)→K (.tuple #[]) w'):callS prog 11 #[.pointer (some ⟨Y.tb id,0,none⟩),.int .u64 (off:Int),.int .u64 (v:Int)] w K:=by
 refine f11_call _ _ _ _ _ ?_
 unfold f11_t
 simp (disch:=first|omega|simp only [RO]|(simp only [RZ]<;>omega)|fail) only [↓RBp,↓RA,↓reduceIte,Nat.reduceAdd,Nat.reduceMul,Nat.reduceEqDiff,RB,RX,RA2,h.R,c_word h g id hid]
 refine k_counted h id hid (vOff D off) (by omega) g.left.1 g.left.2 _ (fun w1 h1=> ?_)
 unfold DS.store at hK
 (repeat' (first|(with_reducible first|refine brS_mk (fun _=> ?_) (fun _=> ?_)|refine And.intro ?_ ?_)|(simp (disch:=first|omega|simp only [RO]|(simp only [RZ]<;>omega)|fail) only [↓RBp,↓RA,↓reduceIte,Nat.reduceAdd,Nat.reduceMul,Nat.reduceEqDiff,RB,RX,RA2])))
 ·rename_i hr
  rw [if_pos hr] at hK
  obtain ⟨e1,e2⟩:=vOff_iff (runs_v hr).1
  have hn:=DS.counted_hist (id:=id) hr
  refine k_write h1.dv (g.counted id _) id hid off v e1 (by rw [DS.counted_n];exact e2) (by rw [hn.2.2.1];omega) _ (fun w2 Y2 h2=> ?_)
  exact hK _ _ (h1.trans h2)
 ·rename_i hr
  rw [if_neg hr] at hK
  exact hK _ _ h1
end
def applyH (l:List (Nat×Nat)) (f:Nat→Nat):Nat→Nat:=l.foldl (fun f x=>fun j=>if j=x.1/8 then x.2 else f j) f
theorem applyH_snoc (l:List (Nat×Nat)) (x:Nat×Nat) (f:Nat→Nat):applyH (l++ [x]) f=fun j=>if j=x.1/8 then x.2 else applyH l f j:=by simp [applyH,List.foldl_append]
theorem wrL_get:∀(l:List (Nat×Nat)) (i:Nat) (x:Nat×Nat),l[i]? =some x→(wrL l)[i*2]? =some (.int .u64 (x.1:Int))∧(wrL l)[i*2+1]? =some (.int .u64 (x.2:Int)):=by
 intro l
 induction l with
 |nil=>intro i x h;simp at h
 |cons y l ih=>
  intro i x h
  obtain ⟨o,v⟩:=y
  cases i with
  |zero=>simp at h;subst h;exact ⟨rfl,rfl⟩
  |succ i=>
   have:=ih i x (by simpa using h)
   simp only [wrL,show (i+1)*2=i*2+1+1 by omega,List.getElem?_cons_succ]
   exact this
theorem take_snoc' {α:Type} {l:List α} {k:Nat} {x:α} (h:l[k]? =some x):l.take (k+1)=l.take k++ [x]:=by
 have hk:=(List.getElem?_eq_some_iff.1 h).1
 rw [List.take_succ_eq_append_getElem hk];congr 2;simpa [List.getElem?_eq_getElem hk] using h
section
variable {w w':World} {Y:Lay} {D D':DS}
theorem k_apply (h:Dv w Y D) (g:Good D) (l k b o len cap:Nat) (hl:l<D.n) (hv:Y.hv l= .slice (some ⟨b,o,none⟩) len cap) (hk:k≤(D.hist l).length) (hk':(D.hist l).length<1099511627776) (K:K1) (hK:∀w',Stp w Y w' Y {D with pers:=applyH ((D.hist l).take k) D.pers}→Frm (fun b=>b=Y.pb) w w'→K (.tuple #[]) w'):
  callS prog 94 #[.slice (some ⟨Y.pb,0,none⟩) (8*D.n) Y.pc,.slice (some ⟨b,o,none⟩) k cap] w K:=by
 refine f94_call _ _ _ _ ?_
 unfold f94_t
 simp (disch:=first|omega|simp only [RO]|(simp only [RZ]<;>omega)|fail) only [↓RBp,↓RA,↓reduceIte,Nat.reduceAdd,Nat.reduceMul,Nat.reduceEqDiff,RB,RX,RA2]
 apply f94_l1_rule (I:=fun x8 w'=>∃j:Nat,x8= .int .i64 (j:Int)∧j≤k∧Stp w Y w' Y {D with pers:=applyH ((D.hist l).take j) D.pers}∧Frm (fun b=>b=Y.pb) w w') (μ:=fun x8 _=>k-(intOf x8).toNat)
 ·exact ⟨0,rfl,by omega,Stp.refl h,Frm.refl _ _⟩
 ·intros;rename_i w1 hI E1 hE
  obtain ⟨j,rfl,hj,hs,hfr⟩:=hI
  unfold f94_l1_t
  have hn:=g.n
  by_cases hjk:j<k
  ·have hjl:j<(D.hist l).length:=by omega
   obtain ⟨x,hx⟩:∃x,(D.hist l)[j]? =some x:=⟨_,List.getElem?_eq_getElem hjl⟩
   have hw:=wrL_get _ _ _ hx
   have hS:=hs.dv.hs l hl
   have c1:=hS.cell hv hw.1
   have c2:=hS.cell hv hw.2
   have hg:=g.hist l hl x.1 x.2 (List.mem_of_getElem? hx)
   have bp:=hs.dv.pe.lt
   have c3:=hs.dv.c_pers (x.1/8) (by show _<8*D.n;omega)
   rw [←Nat.add_assoc] at c2
   simp (disch:=first|omega|simp only [RO]|(simp only [RZ]<;>omega)|fail) only [↓RBp,↓RA,↓reduceIte,Nat.reduceAdd,Nat.reduceMul,Nat.reduceEqDiff,RB,RX,RA2,hs.dv.R,c1,c2,c3]
   apply hE
   ·refine ⟨j+1,by simp,by omega,?_,(hfr.set _ (fun _=>rfl)).alloc _⟩
    rw [take_snoc' hx,applyH_snoc]
    exact (hs.trans (hs.dv.setPers (x.1/8) x.2 (by show _<8*D.n;omega))).grow (Ext.alloc_self _ _)
   ·simp [intOf];omega
  ·have:j=k:=by omega
   subst this
   simp (disch:=first|omega|simp only [RO]|(simp only [RZ]<;>omega)|fail) only [↓RBp,↓RA,↓reduceIte,Nat.reduceAdd,Nat.reduceMul,Nat.reduceEqDiff,RB,RX,RA2]
   exact hK _ hs hfr
def DS.persist (D:DS) (l k:Nat):DS:={D with pers:=applyH ((D.hist l).take k) D.pers,done:=fun j=>if j=l then D.done l+k else D.done j,hist:=fun j=>if j=l then (D.hist l).drop k else D.hist j}
theorem wrL_drop (k:Nat) (l:List (Nat×Nat)):wrL (l.drop k)=(wrL l).drop (k*2):=by
 induction k generalizing l with
 |zero=>simp
 |succ k ih=>
  cases l with
  |nil=>simp [wrL]
  |cons x l=>obtain ⟨o,v⟩:=x;simp only [List.drop_succ_cons,ih,wrL,show (k+1)*2=k*2+1+1 by omega]
theorem k_persist (h:Dv w Y D) (g:Good D) (l k:Nat) (hl:l<D.n) (h0:0<k) (hk:k≤(D.hist l).length) (hx:D.exe<1099511627776) (K:K1) (hK:∀w' Y',Stp w Y w' Y' (D.persist l k)→Frm (fun b=>b=Y.pb∨b=Y.lb) w w'→K (.tuple #[]) w'):
  callS prog 90 #[.pointer (some ⟨Y.d,0,none⟩),.int .i64 (l:Int),.int .i64 (k:Int)] w K:=by
 have hn:=g.n
 have hc:=g.cnt l hl
 have hS:=h.hs l hl
 obtain ⟨b,o,cap,hv,hcap⟩:=hS.isS (Nat.lt_of_lt_of_le h0 hk)
 have r1:=fun w k'=>rd_of_run (P:=prog) (run_hi elWrite b o (D.hist l).length cap .i64 k w (by omega)) k'
 have r2:=fun w k'=>ev_of_run (P:=prog) (run_lo elWrite b o (D.hist l).length cap .i64 k w hk) k'
 have c1:=h.c_hist l hl
 rw [hv] at c1
 refine f90_call _ _ _ _ _ ?_
 unfold f90_t
 simp (disch:=first|omega|simp only [RO]|(simp only [RZ]<;>omega)|fail) only [↓RBp,↓RA,↓reduceIte,Nat.reduceAdd,Nat.reduceMul,Nat.reduceEqDiff,RB,RX,RA2,h.R,hv,r1]
 have hd:=h.ext (Ext.refl w).drew
 refine k_apply hd g l k b o _ cap hl hv hk (by omega) _ (fun w1 h1 hf1=> ?_)
 have hF1:Frm (fun b=>b=Y.pb∨b=Y.lb) w w1:=(Frm.of_ext (Ext.refl w).drew).trans (hf1.mono (fun b hb=> .inl hb)) (fun _ _ h=>h)
 have h1':=Stp.pre (Ext.refl w).drew (fun b hb=>h.lt hb) h1
 have c2:=h1'.dv.c_done l hl
 have c3:=h1'.dv.c_hist l hl
 rw [hv] at c3
 simp (disch:=first|omega|simp only [RO]|(simp only [RZ]<;>omega)|fail) only [↓RBp,↓RA,↓reduceIte,Nat.reduceAdd,Nat.reduceMul,Nat.reduceEqDiff,RB,RX,RA2,h1'.dv.R,c2]
 have h2:=h1'.trans (h1'.dv.setDone l (D.done l+k) hl)
 have c4:=h2.dv.c_hist l hl
 have c4':=h2.dv.c_done l hl
 rw [hv] at c4
 simp (disch:=first|omega|simp only [RO]|(simp only [RZ]<;>omega)|fail) only [↓RBp,↓RA,↓reduceIte,Nat.reduceAdd,Nat.reduceMul,Nat.reduceEqDiff,RB,RX,RA2,h2.dv.R,hv,r2]
 have hS2:=h2.dv.hs l hl
 rw [hv] at hS2
 have hd2:=hS2.drop (k:=k) hk
 have h3:=h2.trans (h2.dv.setHist l hl _ ((D.hist l).drop k) (by rw [wrL_drop,List.length_drop];exact hd2) (Frm.refl _ _) (fun b' hb'=> .inl (by rw [hv];exact hb')))
 have c5:=h3.dv.c_hist l hl
 simp only [if_true] at c5
 (repeat' (first|(with_reducible first|refine brS_mk (fun _=> ?_) (fun _=> ?_)|refine And.intro ?_ ?_)|(simp (disch:=first|omega|simp only [RO]|(simp only [RZ]<;>omega)|fail) only [↓RBp,↓RA,↓reduceIte,Nat.reduceAdd,Nat.reduceMul,Nat.reduceEqDiff,RB,RX,RA2,h3.dv.R,c5])))
 ·rename_i e
  have e':(D.hist l).drop k= []:=List.eq_nil_of_length_eq_zero (by rw [List.length_drop];omega)
  have h4:=h3.trans (h3.dv.setHist l hl (.slice none 0 0) [] (SlO.nil _ _ _) (Frm.refl _ _) (fun b' hb'=>by cases hb'))
  refine hK _ _ (h4.to ?_) (((hF1.set _ (fun _=> .inr rfl)).set _ (fun _=> .inr rfl)).set _ (fun _=> .inr rfl))
  unfold DS.persist
  simp only [DS.mk.injEq,true_and,and_true]
  funext j
  by_cases hj:j=l
  ·simp [hj,e']
  ·simp [hj]
 ·refine hK _ _ (h3.to ?_) ((hF1.set _ (fun _=> .inr rfl)).set _ (fun _=> .inr rfl))
  unfold DS.persist
  simp only [DS.mk.injEq,true_and,and_true]
end
def DS.note (D:DS) (id:Nat) (k:Int) (p:Nat):DS:={D with notes:=fun j=>if j=id then (fun i=>if i=k then some p else D.notes id i) else D.notes j}
def fOff (D:DS) (off:Nat):Bool:=decide (off<D.n*64)
def DS.flush (D:DS) (id off:Nat):DS:=if D.runs (fOff D off)=true then (D.counted id (fOff D off)).note id ((off/64:Nat):Int) (D.done (off/64)+(D.hist (off/64)).length) else D.counted id (fOff D off)
theorem mapN:mapT prog 97=true:=by kernel_rfl
section
variable {w w':World} {Y:Lay} {D D':DS}
theorem Good.note (g:Good D) (id:Nat) (l p:Nat) (hl:l<D.n) (hp:p≤D.done l+(D.hist l).length):Good (D.note id (l:Int) p):=by
 refine ⟨g.n0,g.n,g.cur,g.pers,g.hist,g.cnt,g.left,?_⟩
 intro j hj k q hk
 have hk':(if j=id then (fun i=>if i=(l:Int) then some p else D.notes id i) else D.notes j) k=some q:=hk
 by_cases e1:j=id
 ·by_cases e2:k=(l:Int)
  ·simp only [e1,e2,if_true,Option.some.injEq] at hk'
   subst e2;subst hk'
   exact ⟨Int.natCast_nonneg _,by show (l:Int)<(D.n:Int);omega,by show p≤D.done (l:Int).toNat+(D.hist (l:Int).toNat).length;simpa using hp⟩
  ·simp only [e1,e2,if_true,if_false] at hk'
   subst e1;exact g.notes j hj k q hk'
 ·simp only [e1,if_false] at hk'
  exact g.notes j hj k q hk'
theorem Good.flush (g:Good D) (id off:Nat):Good (D.flush id off):=by
 unfold DS.flush
 split
 ·rename_i hr
  have hv:=(runs_v hr).1
  have hn:=DS.counted_hist (id:=id) hr
  simp only [fOff,decide_eq_true_eq] at hv
  refine (g.counted id _).note id _ _ (by rw [DS.counted_n];omega) ?_
  rw [hn.1,hn.2.1];exact Nat.le_refl _
 ·exact g.counted id _
theorem k_Flush (h:Dv w Y D) (g:Good D) (id:Nat) (hid:id<8) (off:Nat) (hx:D.exe<1099511627775) (K:K1) (hK:∀w',Stp w Y w' Y (D.flush id off)→K (.tuple #[]) w'):callS prog 54 #[.pointer (some ⟨Y.tb id,0,none⟩),.int .u64 (off:Int)] w K:=by
 refine f54_call _ _ _ _ ?_
 unfold f54_t
 unfold DS.flush at hK
 have hn:=g.n
 simp (disch:=first|omega|simp only [RO]|(simp only [RZ]<;>omega)|fail) only [↓RBp,↓RA,↓reduceIte,Nat.reduceAdd,Nat.reduceMul,Nat.reduceEqDiff,RB,RX,RA2,h.R,c_DSize h g]
 refine k_counted h id hid (fOff D off) (by omega) g.left.1 g.left.2 _ (fun w1 h1=> ?_)
 by_cases hr:D.runs (fOff D off)=true
 ·rw [if_pos hr] at hK
  have hv:=(runs_v hr).1
  simp only [fOff,decide_eq_true_eq] at hv
  have hc:=DS.counted_hist (id:=id) hr
  have hcn:=DS.counted_n D id (fOff D off)
  have hcl:=g.cnt (off/64) (by omega)
  have hl:off/64<(D.counted id (fOff D off)).n:=by rw [hcn];omega
  have c1:=h1.dv.c_done (off/64) hl
  have hS:=h1.dv.hs (off/64) hl
  have c2:=h1.dv.c_hist (off/64) hl
  have ln:∃a cap,Y.hv (off/64)= .slice a (D.hist (off/64)).length cap:=by
   rw [hc.1] at hS
   rcases hS.2 with ⟨e,e2⟩|⟨b,o,cap,a,e,_⟩
   ·rw [e,e2];exact ⟨_,_,rfl⟩
   ·exact ⟨_,_,e⟩
  obtain ⟨a,cap,hv2⟩:=ln
  rw [hc.2.1] at c1
  rw [hv2] at c2
  simp (disch:=first|omega|simp only [RO]|(simp only [RZ]<;>omega)|fail) only [↓RBp,↓RA,↓reduceIte,Nat.reduceAdd,Nat.reduceMul,Nat.reduceEqDiff,RB,RX,RA2,hr,h1.dv.R,hcn,hc.2.1,hv2]
  obtain ⟨es,c,hm⟩:=h1.dv.nt id hid
  refine ac_mapUpdate mapN (hm.of_heap (w':=w1.drew) rfl) _ _ (fun w2 es2 c2 hm2 hf2=> ?_)
  have hfr:Frm (fun b=>b=Y.nb id) w1 w2:=⟨hf2.os,hf2.tape,hf2.output,hf2.size,hf2.block⟩
  have hm3:MapI w2 (Y.nb id) es2 c2 (fun i=>((if i=((off/64:Nat):Int) then some (D.done (off/64)+(D.hist (off/64)).length) else (D.counted id (fOff D off)).notes id i):Option Nat).map u64):=by
   refine ⟨hm2.1,hm2.2.1,hm2.2.2.1,hm2.2.2.2.1,hm2.2.2.2.2.1,?_⟩
   intro i v
   have:=hm2.2.2.2.2.2 i v
   rw [←this]
   show ((if i=((off/64:Nat):Int) then some (D.done (off/64)+(D.hist (off/64)).length) else (D.counted id (fOff D off)).notes id i):Option Nat).map u64=some v↔(if i=((off/64:Nat):Int) then some _ else ntF (D.counted id (fOff D off)) id i)=some v
   by_cases e:i=((off/64:Nat):Int)
   ·rw [if_pos e,if_pos e];exact Iff.rfl
   ·rw [if_neg e,if_neg e];exact Iff.rfl
  exact hK _ (h1.trans (h1.dv.setNote id hid _ hm3 hfr))
 ·rw [if_neg hr] at hK
  have hr':D.runs (fOff D off)=false:=by simpa using hr
  simp (disch:=first|omega|simp only [RO]|(simp only [RZ]<;>omega)|fail) only [↓RBp,↓RA,↓reduceIte,Nat.reduceAdd,Nat.reduceMul,Nat.reduceEqDiff,RB,RX,RA2,hr']
  exact hK _ h1
def DS.parts (D:DS) (kk:Nat→Nat):DS:={D with pers:=fun x=>applyH ((D.hist (x/8)).take (kk (x/8))) D.pers x,done:=fun l=>D.done l+kk l,hist:=fun l=>(D.hist l).drop (kk l)}
theorem applyH_cons (x:Nat×Nat) (l:List (Nat×Nat)) (f:Nat→Nat):applyH (x::l) f=applyH l (fun j=>if j=x.1/8 then x.2 else f j):=rfl
theorem applyH_congr (l:List (Nat×Nat)):∀(f g:Nat→Nat) (x:Nat),f x=g x→applyH l f x=applyH l g x:=by
 induction l with
 |nil=>intro f g x h;exact h
 |cons y l ih=>
  intro f g x h
  rw [applyH_cons,applyH_cons]
  exact ih _ _ x (by simp [h])
theorem applyH_other (l:List (Nat×Nat)):∀(f:Nat→Nat) (x:Nat),(∀y∈l,y.1/8≠x)→applyH l f x=f x:=by
 induction l with
 |nil=>intro f x h;rfl
 |cons y l ih=>
  intro f x h
  rw [applyH_cons,ih _ x (fun z hz=>h z (List.mem_cons_of_mem _ hz))]
  have:=h y List.mem_cons_self
  simp [Ne.symm this]
theorem parts_persist (g:Good D) (kk:Nat→Nat) (l k:Nat) (hl:l<D.n) (h0:kk l=0):(D.parts kk).persist l k=D.parts (fun j=>if j=l then k else kk j):=by
 unfold DS.persist DS.parts
 simp only [DS.mk.injEq,true_and,and_true,h0,List.drop_zero,Nat.add_zero]
 refine ⟨?_,?_,?_⟩
 ·funext x
  by_cases hx:x/8=l
  ·simp only [hx,if_true]
   exact applyH_congr _ _ _ _ (by simp [hx,h0,applyH])
  ·simp only [hx,if_false]
   rw [applyH_other]
   intro y hy e
   have:=g.hist l hl y.1 y.2 (List.mem_of_mem_take hy)
   apply hx;omega
 ·funext j
  by_cases hj:j=l
  ·simp [hj]
  ·simp [hj]
 ·funext j
  by_cases hj:j=l
  ·simp [hj]
  ·simp [hj]
theorem applyH_lt (l:List (Nat×Nat)):∀(f:Nat→Nat) (x:Nat),f x<18446744073709551616→(∀y∈l,y.2<18446744073709551616)→applyH l f x<18446744073709551616:=by
 induction l with
 |nil=>intro f x h _;exact h
 |cons y l ih=>
  intro f x h hl
  rw [applyH_cons]
  refine ih _ x ?_ (fun z hz=>hl z (List.mem_cons_of_mem _ hz))
  have:=hl y List.mem_cons_self
  split
  ·exact this
  ·exact h
theorem Good.parts (g:Good D) (kk:Nat→Nat) (hk:∀l,l<D.n→kk l≤(D.hist l).length):Good (D.parts kk):=by
 refine ⟨g.n0,g.n,g.cur,?_,?_,?_,g.left,?_⟩
 ·intro i hi
  refine applyH_lt _ _ _ (g.pers i hi) ?_
  intro y hy
  exact (g.hist (i/8) (by show i/8<D.n;have:i<8*D.n:=hi;omega) y.1 y.2 (List.mem_of_mem_take hy)).2.2
 ·intro l hl o v hv
  exact g.hist l hl o v (List.mem_of_mem_drop hv)
 ·intro l hl
  have:=g.cnt l hl
  have h2:=hk l hl
  show D.done l+kk l+((D.hist l).drop (kk l)).length≤D.exe
  rw [List.length_drop];omega
 ·intro id hid k p hkp
  have:=g.notes id hid k p hkp
  refine ⟨this.1,this.2.1,?_⟩
  have h2:=hk k.toNat (by omega)
  show p≤D.done k.toNat+kk k.toNat+((D.hist k.toNat).drop (kk k.toNat)).length
  rw [List.length_drop];omega
def DS.due (D:DS) (id l:Nat):Nat:=
 match D.notes id (l:Int) with
 |some p=>p-D.done l
 |none=>0
def DS.clr (D:DS) (id:Nat):DS:={D with notes:=fun j=>if j=id then (fun _=>none) else D.notes j}
def DS.fence (D:DS) (id:Nat):DS:=if D.runs true=true then ((D.counted id true).parts (D.due id)).clr id else D.counted id true
theorem due_le (g:Good D) (id l:Nat) (hid:id<8):D.due id l≤(D.hist l).length:=by
 unfold DS.due
 cases h:D.notes id (l:Int) with
 |none=>simp
 |some p=>have:=(g.notes id hid _ p h).2.2;simp at this;simp;omega
theorem Good.clr (g:Good D) (id:Nat):Good (D.clr id):=by
 refine ⟨g.n0,g.n,g.cur,g.pers,g.hist,g.cnt,g.left,?_⟩
 intro j hj k p hk
 have hk':(if j=id then (fun _=>none) else D.notes j) k=some p:=hk
 by_cases e:j=id
 ·simp [e] at hk'
 ·simp only [e,if_false] at hk';exact g.notes j hj k p hk'
theorem Good.fence (g:Good D) (id:Nat) (hid:id<8):Good (D.fence id):=by
 unfold DS.fence
 split
 ·rename_i hr
  have hn:=DS.counted_hist (id:=id) hr
  refine ((g.counted id _).parts _ ?_).clr id
  intro l hl
  rw [hn.1];exact due_le g id l hid
 ·exact g.counted id _
def leftN (es:Array MapEntry) (seen:Array Nat):Nat:=(es.toList.filter fun x=> !seen.contains x.born).length
theorem filter_lt {α:Type} {p q:α→Bool}:∀{l:List α},(∀x,q x=true→p x=true)→∀{x:α},x∈l→p x=true→q x=false→(l.filter q).length<(l.filter p).length:=by
 intro l
 induction l with
 |nil=>intro _ x hx;cases hx
 |cons a l ih=>
  intro hpq x hx hp hq
  have hle:(l.filter q).length≤(l.filter p).length:=by
   clear ih hx
   induction l with
   |nil=>simp
   |cons b l ih=>
    simp only [List.filter_cons]
    cases hb:q b with
    |true=>rw [hpq b hb];simp;exact ih
    |false=>cases p b<;>simp<;>omega
  simp only [List.filter_cons]
  cases hx with
  |head=>rw [hp,hq];simp;omega
  |tail _ hx=>
   have:=ih hpq hx hp hq
   cases ha:q a with
   |true=>rw [hpq a ha];simp;exact this
   |false=>cases p a<;>simp<;>omega
theorem leftN_lt {es:Array MapEntry} {seen:Array Nat} {x:MapEntry} (hx:x∈es.toList) (hs:x.born∉seen):leftN es (seen.push x.born)<leftN es seen:=by
 refine filter_lt ?_ hx (by simpa using hs) (by simp)
 intro y hy
 simp at hy ⊢
 intro h;exact hy.1 h
def itN (it:Nat) (es:Array MapEntry) (w:World):Nat:=
 match w.heap[it]? with
 |some (.mapIter _ _ seen _)=>leftN es seen
 |_=>0
theorem k_Fence (h:Dv w Y D) (g:Good D) (id:Nat) (hid:id<8) (hx:D.exe<1099511627775) (K:K1) (hK:∀w' Y',Stp w Y w' Y' (D.fence id)→K (.tuple #[]) w'):callS prog 55 #[.pointer (some ⟨Y.tb id,0,none⟩)] w K:=by
 refine f55_call _ _ _ ?_
 unfold f55_t
 unfold DS.fence at hK
 simp (disch:=first|omega|simp only [RO]|(simp only [RZ]<;>omega)|fail) only [↓RBp,↓RA,↓reduceIte,Nat.reduceAdd,Nat.reduceMul,Nat.reduceEqDiff,RB,RX,RA2,h.R]
 refine k_counted h id hid true (by omega) g.left.1 g.left.2 _ (fun w1 h1=> ?_)
 by_cases hr:D.runs true=true
 ·rw [if_pos hr] at hK
  have hc:=DS.counted_hist (id:=id) hr
  have hcn:=DS.counted_n D id true
  have gc:=g.counted id true
  have hexe:(D.counted id true).exe<1099511627776:=by rw [hc.2.2.1];omega
  have hdue:∀l,l<(D.counted id true).n→D.due id l≤((D.counted id true).hist l).length:=fun l hl=>by rw [hc.1];exact due_le g id l hid
  generalize hC:D.counted id true=C at*
  obtain ⟨es,clk,hm⟩:=h1.dv.nt id hid
  have r1:=ev_range mapN hm.1
  simp (disch:=first|omega|simp only [RO]|(simp only [RZ]<;>omega)|fail) only [↓RBp,↓RA,↓reduceIte,Nat.reduceAdd,Nat.reduceMul,Nat.reduceEqDiff,RB,RX,RA2,hr,h1.dv.R,r1]
  obtain ⟨it,hit⟩:∃it,it=w1.heap.size:=⟨_,rfl⟩
  rw [←hit]
  have hborn:=hm.2.1
  have hnd:=hm.2.2.1
  have hkeys:=hm.2.2.2.2.1
  have hlk:=hm.2.2.2.2.2
  have hknd:=hm.2.2.2.1
  apply f55_l1_rule (I:=fun w'=>∃seen last kk Y',w'.heap[it]? =some (.mapIter (some (Y.nb id)) clk seen last)∧clk≤last∧Stp w Y w' Y' (C.parts kk)∧¬Y'.F it∧w'.heap[Y.nb id]? =some (.map es clk)∧it<w'.heap.size∧(∀l,l<C.n→kk l≤(C.hist l).length)∧
   (∀x∈es.toList,∀l:Nat,x.key= .int .i64 (l:Int)→(x.born∈seen→kk l=D.due id l)∧(x.born∉seen→kk l=0))∧(∀l:Nat,(∀x∈es.toList,x.key≠ .int .i64 (l:Int))→kk l=0)) (μ:=fun w'=>itN it es w')
  ·subst hit
   refine ⟨#[],clk,fun _=>0,Y,heap_alloc_eq _ _,Nat.le_refl _,(h1.grow (Ext.alloc_self _ _)).to ?_,fun hF=> ?_,?_,?_,fun l hl=>Nat.zero_le _,fun x hx l hk=>⟨fun hb=>by simp at hb,fun _=>rfl⟩,fun l hl=>rfl⟩
   ·unfold DS.parts;simp [applyH]
   ·have:=h1.dv.lt hF;omega
   ·rw [heap_alloc_lt _ hm.lt];exact hm.1
   ·rw [size_alloc];omega
  ·intros;rename_i w2 hI E1 hE
   obtain ⟨seen,last,kk,Y',hit2,hle,hs,hnF,hmap,hitlt,hkk,hin,hout⟩:=hI
   obtain ⟨hv',rfl⟩:∃hv',Y'={Y with hv:=hv'}:=⟨_,hs.y⟩
   unfold f55_l1_t
   refine ev_next hit2 hmap hborn hle ?_ ?_
   ·intro hall w3 he
    have h3:=hs.grow he
    have hmap3:=Ext.heap_some he hmap
    have r2:=fun ty cs k=>blt_clear (ty:=ty) (cs:=cs) mapN hmap3 k
    simp (disch:=first|omega|simp only [RO]|(simp only [RZ]<;>omega)|fail) only [↓RBp,↓RA,↓reduceIte,Nat.reduceAdd,Nat.reduceMul,Nat.reduceEqDiff,RB,RX,RA2,f55_k1_eq,f55_k1_t,h3.dv.R,r2]
    have hkd:kk=D.due id:=by
     funext l
     by_cases hx:∃x∈es.toList,x.key= .int .i64 (l:Int)
     ·obtain ⟨x,hx,hk⟩:=hx
      exact (hin x hx l hk).1 (hall x hx)
     ·rw [hout l (fun x hx' hk=>hx ⟨x,hx',hk⟩)]
      unfold DS.due
      cases hn:D.notes id (l:Int) with
      |none=>rfl
      |some p=>
       exfalso;apply hx
       have:=(hlk (l:Int) (u64 p)).1 (by simp [ntF,hc.2.2.2.2.2.1,hn])
       obtain ⟨x,hx,hk,_⟩:=this
       exact ⟨x,hx,hk⟩
    rw [hkd] at h3
    have hme:MapI (putO w3 (Y.nb id) (.map #[] clk)) (Y.nb id) #[] clk (fun i=>((fun _=>none:Int→Option Nat) i).map u64):=MapI.empty (putO_eq hmap3)
    exact hK _ _ (h3.trans (h3.dv.setNote id hid (fun _=>none) hme putO_frm))
   ·intro x hx hns w3 hit3 hsz hf3
    obtain ⟨i,hki⟩:=hkeys x hx
    have hval:(C.notes id i).map u64=some x.val:=(hlk i x.val).2 ⟨x,hx,hki,rfl⟩
    have hval2:∃p,C.notes id i=some p∧u64 p=x.val:=Option.map_eq_some_iff.1 hval
    obtain ⟨p,hp,hxv⟩:=hval2
    have hgn:=gc.notes id hid i p hp
    have hil:∃l:Nat,i=(l:Int):=⟨i.toNat,(Int.toNat_of_nonneg hgn.1).symm⟩
    obtain ⟨l,hil⟩:=hil
    rw [hil] at hki hp hgn
    have hl:l<C.n:=Int.ofNat_lt.1 hgn.2.1
    have hk0:kk l=0:=(hin x hx l hki).2 hns
    have hitw:w.heap.size≤it:=by rw [hit];exact h1.frm.size
    have hdv3:Dv w3 {Y with hv:=hv'} (C.parts kk):=hs.dv.frm hf3 (fun b hb e=>hnF (by rw [←e];exact hb))
    have h3:Stp w Y w3 {Y with hv:=hv'} (C.parts kk):=⟨hdv3,rfl,hs.frm.trans hf3 (fun b hb e=>absurd (e▸hb) (Nat.not_lt.2 hitw)),hs.fr⟩
    have hnb:Y.nb id≠it:=fun e=>hnF ⟨.nt id,by simp [Lay.blk,hid,e]⟩
    have hmap3:w3.heap[Y.nb id]? =some (.map es clk):=by rw [hf3.block _ (lt_of_heap hmap) hnb];exact hmap
    have r2:=fun k=>ev_entry (P:=prog) hit3 hmap3 hnd hx rfl k
    have hd:(C.parts kk).done l=C.done l:=by simp [DS.parts,hk0]
    have hn4:=gc.n
    have hcl:=gc.cnt l hl
    have hp':p≤C.done l+(C.hist l).length:=by simpa using hgn.2.2
    have hnn:(C.parts kk).n=C.n:=rfl
    have c1:=hdv3.c_done l hl
    rw [hd] at c1
    have hdue1:D.due id l=p-C.done l:=by
     have hp2:=hp
     rw [hc.2.2.2.2.2.1] at hp2
     unfold DS.due;rw [hp2,hc.2.1]
    have hh1:((C.parts kk).hist l).length=(C.hist l).length:=by simp [DS.parts,hk0]
    have hit3lt:it<w3.heap.size:=by rw [hsz];exact hitlt
    have hit0:itN it es w2=leftN es seen:=by unfold itN;rw [hit2]
    have hin':∀y∈es.toList,∀q:Nat,y.key= .int .i64 (q:Int)→∀kk':Nat→Nat,kk' l=D.due id l→(∀j,j≠l→kk' j=kk j)→(y.born∈seen.push x.born→kk' q=D.due id q)∧(y.born∉seen.push x.born→kk' q=0):=by
     intro y hy q hq kk' e1 e2
     by_cases hql:q=l
     ·subst hql
      refine ⟨fun _=>e1,fun hn=> ?_⟩
      exfalso;apply hn
      have hyx:y=x:=by
       have h5:=List.mem_iff_getElem?.1 hy
       have h6:=List.mem_iff_getElem?.1 hx
       obtain ⟨a,ha⟩:=h5
       obtain ⟨b,hb⟩:=h6
       have h7:(es.toList.map (·.key))[a]? =some (.int .i64 (q:Int)):=by rw [List.getElem?_map,ha,Option.map_some,hq]
       have h8:(es.toList.map (·.key))[b]? =some (.int .i64 (q:Int)):=by rw [List.getElem?_map,hb,Option.map_some,hki]
       have h9:a=b:=(List.getElem?_inj (by rw [List.length_map];exact (List.getElem?_eq_some_iff.1 ha).1) hknd).1 (h7.trans h8.symm)
       rw [h9,hb] at ha
       injection ha with ha
       exact ha.symm
      rw [hyx];simp
     ·rw [e2 q hql]
      have h5:=hin y hy q hq
      have hne:y.born≠x.born:=by
       intro e
       have h10:=List.mem_iff_getElem?.1 hy
       have h11:=List.mem_iff_getElem?.1 hx
       obtain ⟨a,ha⟩:=h10
       obtain ⟨b,hb⟩:=h11
       have h7:(es.toList.map (·.born))[a]? =some x.born:=by rw [List.getElem?_map,ha,Option.map_some,e]
       have h8:(es.toList.map (·.born))[b]? =some x.born:=by rw [List.getElem?_map,hb,Option.map_some]
       have h9:a=b:=(List.getElem?_inj (by rw [List.length_map];exact (List.getElem?_eq_some_iff.1 ha).1) hnd).1 (h7.trans h8.symm)
       rw [h9,hb] at ha
       injection ha with ha
       rw [←ha,hki] at hq
       injection hq with _ hq
       exact hql (Int.ofNat_inj.1 hq).symm
      refine ⟨fun hb=>h5.1 ?_,fun hb=>h5.2 (fun h6=>hb ?_)⟩
      ·rcases Array.mem_push.1 hb with h6|h6
       ·exact h6
       ·exact absurd h6 hne
      ·exact Array.mem_push.2 (.inl h6)
    have hout':∀q:Nat,(∀y∈es.toList,y.key≠ .int .i64 (q:Int))→q≠l:=fun q hq e=>hq x hx (by rw [hki,e])
    by_cases hpd:C.done l<p
    ·simp (disch:=first|omega|simp only [RO]|(simp only [RZ]<;>omega)|fail) only [↓RBp,↓RA,↓reduceIte,Nat.reduceAdd,Nat.reduceMul,Nat.reduceEqDiff,RB,RX,RA2,r2,hki,←hxv,hdv3.R,hnn,hd]
     refine k_persist hdv3 (gc.parts kk hkk) l (p-C.done l) hl (by clear hE;omega) (by rw [hh1];clear hE;omega) (show C.exe<_ from hexe) _ (fun w4 Y4 h4 hf4=> ?_)
     have hnb4:¬(Y.nb id=Y.pb∨Y.nb id=Y.lb):=by
      rintro (e|e)
      ·have:=h.inj (.nt id) .pe (Y.nb id) (by simp [Lay.blk,hid]) (by rw [e];rfl);cases this
      ·have:=h.inj (.nt id) .li (Y.nb id) (by simp [Lay.blk,hid]) (by rw [e];rfl);cases this
     have hit4:w4.heap[it]? =some (.mapIter (some (Y.nb id)) clk (seen.push x.born) clk):=by rw [h4.frm.block it hit3lt hnF];exact hit3
     apply hE
     ·refine ⟨seen.push x.born,clk,fun j=>if j=l then p-C.done l else kk j,Y4,hit4,Nat.le_refl _,?_,?_,?_,?_,?_,?_,?_⟩
      ·rw [←parts_persist gc kk l _ hl hk0];exact h3.trans h4
      ·intro hF
       rcases h4.fr it hF with h5|h5
       ·exact hnF h5
       ·exact absurd hit3lt (Nat.not_lt.2 h5)
      ·rw [hf4.block _ (lt_of_heap hmap3) hnb4];exact hmap3
      ·exact Nat.lt_of_lt_of_le hit3lt h4.frm.size
      ·intro q hq
       show (if q=l then p-C.done l else kk q)≤_
       by_cases e:q=l
       ·rw [if_pos e,e];clear hE;omega
       ·rw [if_neg e];exact hkk q hq
      ·intro y hy q hq
       exact hin' y hy q hq (fun j=>if j=l then p-C.done l else kk j) ((if_pos rfl).trans hdue1.symm) (fun j hj=>if_neg hj)
      ·intro q hq
       show (if q=l then p-C.done l else kk q)=0
       rw [if_neg (hout' q hq)];exact hout q hq
     ·show itN it es w4<itN it es w2
      rw [hit0];unfold itN;rw [hit4];exact leftN_lt hx hns
    ·simp (disch:=first|omega|simp only [RO]|(simp only [RZ]<;>omega)|fail) only [↓RBp,↓RA,↓reduceIte,Nat.reduceAdd,Nat.reduceMul,Nat.reduceEqDiff,RB,RX,RA2,r2,hki,←hxv,hdv3.R,hnn,hd]
     apply hE
     ·refine ⟨seen.push x.born,clk,kk,_,hit3,Nat.le_refl _,h3,hnF,hmap3,hit3lt,hkk,?_,hout⟩
      intro y hy q hq
      exact hin' y hy q hq kk (by rw [hk0,hdue1];clear hE;omega) (fun j hj=>rfl)
     ·show itN it es w3<itN it es w2
      rw [hit0];unfold itN;rw [hit3];exact leftN_lt hx hns
 ·rw [if_neg hr] at hK
  have hr':D.runs true=false:=by simpa using hr
  simp (disch:=first|omega|simp only [RO]|(simp only [RZ]<;>omega)|fail) only [↓RBp,↓RA,↓reduceIte,Nat.reduceAdd,Nat.reduceMul,Nat.reduceEqDiff,RB,RX,RA2,hr']
  exact hK _ _ h1
end
noncomputable def f61_u:Code×Dec:=((Tryz.f61.body).getD .skip,(.s .o (.s .o (.s .o (.s .o (.x 73 (.s .o (.b (.l [6,33] 4294967433 36028788429031232 .o))) (.x 73 (.s .o (.b (.l [6,11] 9 295111876382333864000 .o))) .o)))))))
abbrev f61_e (K:K1):KF:=endK prog Tryz.f61.results.toList K
def f61_k1_o (K:K1):KF:=fun fr w=>∀σ,cP (pr (pr (pr (pr (pr f61_u))))) (f61_e K) (f61_e K) nX (mixF 73 σ 0 fr) w
def f61_k1 (K:K1) (x0 x3 x6:Value) (w:World):Prop:=f61_k1_o K (fz 79 0 [(0,x0),(3,x3),(6,x6)]) w
def f61_l1 (K:K1) (x0 x3 x6 x7 x32 x33:Value) (w:World):Prop:=loopT [6,33] 4294967433 (fun E=>cP (pl (pl (pr (pl (pr (pr (pr (pr f61_u)))))))) E (f61_e K) (exB 0 (f61_k1_o K) nX)) (fz 79 0 [(0,x0),(3,x3),(6,x6),(7,x7),(32,x32),(33,x33)]) w
def f61_k2_o (K:K1):KF:=fun fr w=>∀σ,cP (pr (pr (pr (pr (pr (pr f61_u)))))) (f61_e K) (f61_e K) nX (mixF 73 σ 0 fr) w
def f61_k2 (K:K1) (x0 x3 x6:Value) (w:World):Prop:=f61_k2_o K (fz 79 0 [(0,x0),(3,x3),(6,x6)]) w
def f61_l2 (K:K1) (x0 x3 x6 x11:Value) (w:World):Prop:=loopT [6,11] 9 (fun E=>cP (pl (pl (pr (pl (pr (pr (pr (pr (pr f61_u))))))))) E (f61_e K) (exB 2 (f61_k2_o K) nX)) (fz 79 0 [(0,x0),(3,x3),(6,x6),(11,x11)]) w
def f61_k1_t (x0 x3 x6:Value) (K:K1) (w:World):Prop:=
 f61_l2 K x0 x3 x6 (.int .u64 ((1:Nat):Int)) w
theorem f61_k1_eq (K:K1) (x0 x3 x6:Value) (w:World):f61_k1 K x0 x3 x6 w=f61_k1_t x0 x3 x6 K w:=cutE fun σ=>by kernel_rfl
def f61_l1_t (x0 x3 x6 x7 x32 x33:Value) (K:K1) (E1:VP2) (w:World):Prop:=
 ev prog (binM .lss 3 (.tmp 33) (.tmp 32) x33 x32) w fun t34 w=>
 cndS t34 (
 ev prog (Instr.fieldAt 67 x3 0) w fun t37 w=>
 ldS prog 3 t37 w fun t38 w=>
 callS prog 100 (pA #[t38,x33]) w fun t40 w=>
 ev prog (Instr.extract t40 0) w fun t41 w=>
 ev prog (Instr.extract t40 1) w fun t42 w=>
 callS prog 86 (pA #[x0]) w fun t45 w=>
 ev prog (convert 3 30 t41) w fun t47 w=>
 ev prog (binM .mul 30 (.tmp 47) (.const (.int .u64 ((8:Nat):Int))) t47 (.int .u64 ((8:Nat):Int))) w fun t48 w=>
 ev prog (binM .add 30 (.tmp 45) (.tmp 48) t45 t48) w fun t49 w=>
 ev prog (Instr.build 80 #[(0,t49),(1,x7)]) w fun t51 w=>
 ev prog (Instr.buildSlice 76 1 #[(0,t51)]) w fun t52 w=>
 bltS prog .append #[76,76] 76 #[false,false] (pA #[x6,t52]) w fun t53 w=>
 ev prog (binM .add 3 (.tmp 33) (.const (.int .i64 1)) x33 (.int .i64 1)) w fun t54 w=>
 E1 t53 t54 w) (
 f61_k1 K x0 x3 x6 w)
theorem f61_l1_rule (x0 x3 x6 x7 x32 x33:Value) (K:K1) (w:World) (I:VP2) (μ:Value→Value→World→Nat) (h0:I x6 x33 w)
  (hr:∀(x6 x33:Value) (w:World),I x6 x33 w→∀E1:VP2,(∀(y6 y33:Value) (w':World),I y6 y33 w'→μ y6 y33 w'<μ x6 x33 w→E1 y6 y33 w')→f61_l1_t x0 x3 x6 x7 x32 x33 K E1 w):f61_l1 K x0 x3 x6 x7 x32 x33 w:=
 ⟨I,μ,h0,fun σ w hI E hE=>cast (by kernel_rfl) (hr (σ 6) (σ 33) w hI E hE)⟩
def f61_k2_t (x0 x3 x6:Value) (K:K1) (w:World):Prop:=
 ldR prog 67 x3 w.drew fun t70=>
 callS prog 86 (pA #[x0]) w.drew fun t69 w=>
 (ldG prog 67 x3 w t70)∧
 callS prog 102 (pA #[t70]) w fun t71 w=>
 rd prog (Instr.build 80 #[(0,t69),(1,t71)]) w fun t72=>
 ev prog (Instr.buildSlice 76 1 #[(0,t72)]) w fun t73 w=>
 callS prog 101 (pA #[t73]) w fun t74 w=>
 callS prog 101 (pA #[x6]) w fun t76 w=>
 callS prog 103 (pA #[t76,t74]) w fun t78 w=>
 K (.tuple #[t78,(.int .i64 0)]) w
theorem f61_k2_eq (K:K1) (x0 x3 x6:Value) (w:World):f61_k2 K x0 x3 x6 w=f61_k2_t x0 x3 x6 K w:=cutE fun σ=>by kernel_rfl
def f61_l2_t (x0 x3 x6 x11:Value) (K:K1) (E1:VP2) (w:World):Prop:=
 ev prog (binM .lss 30 (.tmp 55) (.const (.int .u64 ((8:Nat):Int))) x11 (.int .u64 ((8:Nat):Int))) w fun t56 w=>
 cndS t56 (
 callS prog 86 (pA #[x0]) w fun t61 w=>
 ev prog (binM .mul 30 (.tmp 62) (.const (.int .u64 ((8:Nat):Int))) x11 (.int .u64 ((8:Nat):Int))) w fun t63 w=>
 ev prog (binM .add 30 (.tmp 61) (.tmp 63) t61 t63) w fun t64 w=>
 ev prog (Instr.build 80 #[(0,t64)]) w fun t65 w=>
 ev prog (Instr.buildSlice 76 1 #[(0,t65)]) w fun t66 w=>
 bltS prog .append #[76,76] 76 #[false,false] (pA #[x6,t66]) w fun t67 w=>
 ev prog (binM .add 30 (.tmp 57) (.const (.int .u64 ((1:Nat):Int))) x11 (.int .u64 ((1:Nat):Int))) w fun t58 w=>
 E1 t67 t58 w) (
 f61_k2 K x0 x3 x6 w)
theorem f61_l2_rule (x0 x3 x6 x11:Value) (K:K1) (w:World) (I:VP2) (μ:Value→Value→World→Nat) (h0:I x6 x11 w)
  (hr:∀(x6 x11:Value) (w:World),I x6 x11 w→∀E1:VP2,(∀(y6 y11:Value) (w':World),I y6 y11 w'→μ y6 y11 w'<μ x6 x11 w→E1 y6 y11 w')→f61_l2_t x0 x3 x6 x11 K E1 w):f61_l2 K x0 x3 x6 x11 w:=
 ⟨I,μ,h0,fun σ w hI E hE=>cast (by kernel_rfl) (hr (σ 6) (σ 11) w hI E hE)⟩
def f61_t (x0 x1:Value) (K:K1) (w:World):Prop:=
 ev prog (Instr.box 67 x1) w fun t3 w=>
 callS prog 97 (pA #[x0]) w fun t14 w=>
 ev prog (Op.unary .not t14) w fun t15 w=>
 gd t15 false (fun k=>ldS prog 67 t3 w k) w fun t17 w=>
 gd t15 false (fun k=>callS prog 98 (pA #[t17]) w k) w fun t18 w=>
 gd t15 false (fun k=>ev prog (Op.unary .not t18) w k) w fun t19 w=>
 pickS t15 (.bool true) t19 w fun t20 w=>
 gd t20 false (fun k=>ev prog (Instr.fieldAt 67 t3 2) w k) w fun t22 w=>
 gd t20 false (fun k=>ldS prog 34 t22 w k) w fun t23 w=>
 gd t20 false (fun k=>ev prog (binM .eql 34 (.tmp 23) (.const (.int .u16 ((0:Nat):Int))) t23 (.int .u16 ((0:Nat):Int))) w k) w fun t24 w=>
 pickS t20 (.bool true) t24 w fun t25 w=>
 cndS t25 (
 K (.tuple #[(.slice none 0 0),(.int .i64 1)]) w) (
 ev prog (Instr.fieldAt 67 t3 2) w fun t26 w=>
 ldS prog 34 t26 w fun t27 w=>
 ev prog (Instr.build 137 #[(0,t27),(2,(.int .u8 ((176:Nat):Int)))]) w fun t28 w=>
 callS prog 99 (pA #[t28]) w fun t29 w=>
 ev prog (Instr.fieldAt 67 t3 0) w fun t30 w=>
 ldS prog 3 t30 w fun t31 w=>
 callS prog 59 (pA #[t31]) w fun t32 w=>
 f61_l1 K x0 t3 (.slice none 0 0) t29 t32 (.int .i64 0) w)
theorem f61_call (x0 x1:Value) (K:K1) (w:World) (h:f61_t x0 x1 K w):callS prog 61 #[x0,x1] w K:=
 call_of_txt (args:= [x0,x1]) mixed Tryz.func61 f61_u.2 (by kernel_rfl) (cast (by kernel_rfl) h)
noncomputable def f62_u:Code×Dec:=((Tryz.f62.body).getD .skip,(.s .o (.s .o (.x 2 (.s .o (.b (.l [16] 49154 16711744 .o))) .o))))
abbrev f62_e (K:K1):KF:=endK prog Tryz.f62.results.toList K
def f62_k1_o (K:K1):KF:=fun fr w=>∀σ,cP (pr (pr (pr f62_u))) (f62_e K) (f62_e K) nX (mixF 2 σ 0 fr) w
def f62_k1 (K:K1) (x1:Value) (w:World):Prop:=f62_k1_o K (fz 26 0 [(1,x1)]) w
def f62_l1 (K:K1) (x1 x14 x15 x16:Value) (w:World):Prop:=loopT [16] 49154 (fun E=>cP (pl (pl (pr (pl (pr (pr f62_u)))))) E (f62_e K) (exB 0 (f62_k1_o K) nX)) (fz 26 0 [(1,x1),(14,x14),(15,x15),(16,x16)]) w
def f62_k1_t (x1:Value) (K:K1) (w:World):Prop:=
 invS prog x1 "Err" (pA #[]) w fun t25 w=>
 K t25 w
theorem f62_k1_eq (K:K1) (x1:Value) (w:World):f62_k1 K x1 w=f62_k1_t x1 K w:=cutE fun σ=>by kernel_rfl
def f62_l1_t (x1 x14 x15 x16:Value) (K:K1) (E1:VP1) (w:World):Prop:=
 ev prog (binM .lss 3 (.tmp 16) (.tmp 15) x16 x15) w fun t17 w=>
 cndS t17 (
 ev prog (Instr.indexAt 132 x14 x16) w fun t18 w=>
 ldS prog 176 t18 w fun t19 w=>
 ev prog (Instr.alloc 176 true (.tuple #[])) w fun t6 w=>
 stS prog 176 t6 t19 w fun w=>
 ldS prog 176 t6 w fun t20 w=>
 callS prog 105 (pA #[t20,x1]) w fun t22 w=>
 ev prog (binM .add 3 (.tmp 16) (.const (.int .i64 1)) x16 (.int .i64 1)) w fun t23 w=>
 E1 t23 w) (
 f62_k1 K x1 w)
theorem f62_l1_rule (x1 x14 x15 x16:Value) (K:K1) (w:World) (I:VP1) (μ:Value→World→Nat) (h0:I x16 w)
  (hr:∀(x16:Value) (w:World),I x16 w→∀E1:VP1,(∀(y16:Value) (w':World),I y16 w'→μ y16 w'<μ x16 w→E1 y16 w')→f62_l1_t x1 x14 x15 x16 K E1 w):f62_l1 K x1 x14 x15 x16 w:=
 ⟨I,μ,h0,fun σ w hI E hE=>cast (by kernel_rfl) (hr (σ 16) w hI E hE)⟩
def f62_t (x0 x1:Value) (K:K1) (w:World):Prop:=
 ev prog (binM .eql 66 (.tmp 7) (.const .nilIface) x1 .nilIface) w fun t8 w=>
 gd t8 false (fun k=>k x0 w) w fun t10 w=>
 gd t8 false (fun k=>callS prog 104 (pA #[t10]) w k) w fun t11 w=>
 gd t8 false (fun k=>ev prog (Op.unary .not t11) w k) w fun t12 w=>
 pickS t8 (.bool true) t12 w fun t13 w=>
 cndS t13 (
 K (.int .i64 1) w) (
 bltS prog .len #[132] 3 #[false] #[x0] w fun t15 w=>
 f62_l1 K x1 x0 t15 (.int .i64 0) w)
theorem f62_call (x0 x1:Value) (K:K1) (w:World) (h:f62_t x0 x1 K w):callS prog 62 #[x0,x1] w K:=
 call_of_txt (args:= [x0,x1]) mixed Tryz.func62 f62_u.2 (by kernel_rfl) (cast (by kernel_rfl) h)
def f82_t (x0 x1:Value) (K:K1) (w:World):Prop:=
 callS prog 97 (pA #[x0]) w fun t8 w=>
 ev prog (Op.unary .not t8) w fun t9 w=>
 gd t9 false (fun k=>k x1 w) w fun t11 w=>
 gd t9 false (fun k=>ev prog (binM .eql 34 (.tmp 11) (.const (.int .u16 ((0:Nat):Int))) t11 (.int .u16 ((0:Nat):Int))) w k) w fun t12 w=>
 pickS t9 (.bool true) t12 w fun t13 w=>
 cndS t13 (
 K (.tuple #[(.slice none 0 0),(.int .i64 1)]) w) (
 ev prog (Instr.build 67 #[(0,(.int .i64 (-1))),(1,(.int .i64 (-1))),(2,x1)]) w fun t15 w=>
 ev prog (Instr.alloc 67 true (.tuple #[])) w fun t6 w=>
 stS prog 67 t6 t15 w fun w=>
 ldR prog 67 t6 w.drew fun t18=>
 callS prog 86 (pA #[x0]) w.drew fun t17 w=>
 (ldG prog 67 t6 w t18)∧
 callS prog 102 (pA #[t18]) w fun t19 w=>
 rd prog (Instr.build 80 #[(0,t17),(1,t19)]) w fun t20=>
 ev prog (Instr.buildSlice 76 1 #[(0,t20)]) w fun t21 w=>
 callS prog 101 (pA #[t21]) w fun t22 w=>
 K (.tuple #[t22,(.int .i64 0)]) w)
theorem f82_call (x0 x1:Value) (K:K1) (w:World) (h:f82_t x0 x1 K w):callS prog 82 #[x0,x1] w K:=
 call_of_txt (args:= [x0,x1]) mixed Tryz.func82 .o (by kernel_rfl) (cast (by kernel_rfl) h)
noncomputable def f101_u:Code×Dec:=((Tryz.f101.body).getD .skip,(.s .o (.s .o (.s .o (.s .o (.x 24 (.s .o (.b (.l [3,4,17] 98304 68719345752 .o))) (.s .o (.x 8 (.s .o (.b (.l [3,41] 1649267441664 2249600790429960 .o))) .o))))))))
abbrev f101_e (K:K1):KF:=endK prog Tryz.f101.results.toList K
def f101_k1_o (K:K1):KF:=fun fr w=>∀σ,cP (pr (pr (pr (pr (pr f101_u))))) (f101_e K) (f101_e K) nX (mixF 24 σ 0 fr) w
def f101_k1 (K:K1) (x3 x4:Value) (w:World):Prop:=f101_k1_o K (fz 55 0 [(3,x3),(4,x4)]) w
def f101_l1 (K:K1) (x3 x4 x15 x16 x17:Value) (w:World):Prop:=loopT [3,4,17] 98304 (fun E=>cP (pl (pl (pr (pl (pr (pr (pr (pr f101_u)))))))) E (f101_e K) (exB 0 (f101_k1_o K) nX)) (fz 55 0 [(3,x3),(4,x4),(15,x15),(16,x16),(17,x17)]) w
def f101_k2_o (K:K1):KF:=fun fr w=>∀σ,cP (pr (pr (pr (pr (pr (pr (pr f101_u))))))) (f101_e K) (f101_e K) nX (mixF 8 σ 0 fr) w
def f101_k2 (K:K1) (x3:Value) (w:World):Prop:=f101_k2_o K (fz 55 0 [(3,x3)]) w
def f101_l2 (K:K1) (x3 x39 x40 x41:Value) (w:World):Prop:=loopT [3,41] 1649267441664 (fun E=>cP (pl (pl (pr (pl (pr (pr (pr (pr (pr (pr f101_u)))))))))) E (f101_e K) (exB 2 (f101_k2_o K) nX)) (fz 55 0 [(3,x3),(39,x39),(40,x40),(41,x41)]) w
def f101_k1_t (x3 x4:Value) (K:K1) (w:World):Prop:=
 callS prog 118 (pA #[x4]) w fun t37 w=>
 callS prog 119 (pA #[x4]) w fun t39 w=>
 bltS prog .len #[39] 3 #[false] #[t39] w fun t40 w=>
 f101_l2 K x3 t39 t40 (.int .i64 0) w
theorem f101_k1_eq (K:K1) (x3 x4:Value) (w:World):f101_k1 K x3 x4 w=f101_k1_t x3 x4 K w:=cutE fun σ=>by kernel_rfl
def f101_l1_t (x3 x4 x15 x16 x17:Value) (K:K1) (E1:VP3) (w:World):Prop:=
 ev prog (binM .lss 3 (.tmp 17) (.tmp 16) x17 x16) w fun t18 w=>
 cndS t18 (
 ev prog (Instr.indexAt 76 x15 x17) w fun t19 w=>
 ldS prog 80 t19 w fun t20 w=>
 ev prog (Instr.alloc 80 true (.tuple #[])) w fun t6 w=>
 stS prog 80 t6 t20 w fun w=>
 ev prog (Instr.fieldAt 80 t6 0) w fun t22 w=>
 ldS prog 30 t22 w fun t23 w=>
 ev prog (Instr.fieldAt 80 t6 1) w fun t24 w=>
 ldS prog 30 t24 w fun t25 w=>
 ev prog (Instr.build 176 #[(0,(.int .u8 ((1:Nat):Int))),(1,t23),(2,t25)]) w fun t26 w=>
 ev prog (Instr.buildSlice 132 1 #[(0,t26)]) w fun t27 w=>
 bltS prog .append #[132,132] 132 #[false,false] (pA #[x3,t27]) w fun t28 w=>
 ev prog (Instr.fieldAt 80 t6 0) w fun t30 w=>
 ldS prog 30 t30 w fun t31 w=>
 callS prog 117 (pA #[t31]) w fun t32 w=>
 ev prog (Instr.buildSlice 39 1 #[(0,t32)]) w fun t33 w=>
 bltS prog .append #[39,39] 39 #[false,false] (pA #[x4,t33]) w fun t34 w=>
 ev prog (binM .add 3 (.tmp 17) (.const (.int .i64 1)) x17 (.int .i64 1)) w fun t35 w=>
 E1 t28 t34 t35 w) (
 f101_k1 K x3 x4 w)
theorem f101_l1_rule (x3 x4 x15 x16 x17:Value) (K:K1) (w:World) (I:VP3) (μ:Value→Value→Value→World→Nat) (h0:I x3 x4 x17 w)
  (hr:∀(x3 x4 x17:Value) (w:World),I x3 x4 x17 w→∀E1:VP3,(∀(y3 y4 y17:Value) (w':World),I y3 y4 y17 w'→μ y3 y4 y17 w'<μ x3 x4 x17 w→E1 y3 y4 y17 w')→f101_l1_t x3 x4 x15 x16 x17 K E1 w):f101_l1 K x3 x4 x15 x16 x17 w:=
 ⟨I,μ,h0,fun σ w hI E hE=>cast (by kernel_rfl) (hr (σ 3) (σ 4) (σ 17) w hI E hE)⟩
def f101_k2_t (x3:Value) (K:K1) (w:World):Prop:=
 ev prog (Instr.build 176 #[(0,(.int .u8 ((3:Nat):Int)))]) w fun t52 w=>
 ev prog (Instr.buildSlice 132 1 #[(0,t52)]) w fun t53 w=>
 bltS prog .append #[132,132] 132 #[false,false] (pA #[x3,t53]) w fun t54 w=>
 K t54 w
theorem f101_k2_eq (K:K1) (x3:Value) (w:World):f101_k2 K x3 w=f101_k2_t x3 K w:=cutE fun σ=>by kernel_rfl
def f101_l2_t (x3 x39 x40 x41:Value) (K:K1) (E1:VP2) (w:World):Prop:=
 ev prog (binM .lss 3 (.tmp 41) (.tmp 40) x41 x40) w fun t42 w=>
 cndS t42 (
 ev prog (Instr.indexAt 39 x39 x41) w fun t43 w=>
 ldS prog 30 t43 w fun t44 w=>
 ev prog (Instr.build 176 #[(0,(.int .u8 ((2:Nat):Int))),(1,t44)]) w fun t47 w=>
 ev prog (Instr.buildSlice 132 1 #[(0,t47)]) w fun t48 w=>
 bltS prog .append #[132,132] 132 #[false,false] (pA #[x3,t48]) w fun t49 w=>
 ev prog (binM .add 3 (.tmp 41) (.const (.int .i64 1)) x41 (.int .i64 1)) w fun t50 w=>
 E1 t49 t50 w) (
 f101_k2 K x3 w)
theorem f101_l2_rule (x3 x39 x40 x41:Value) (K:K1) (w:World) (I:VP2) (μ:Value→Value→World→Nat) (h0:I x3 x41 w)
  (hr:∀(x3 x41:Value) (w:World),I x3 x41 w→∀E1:VP2,(∀(y3 y41:Value) (w':World),I y3 y41 w'→μ y3 y41 w'<μ x3 x41 w→E1 y3 y41 w')→f101_l2_t x3 x39 x40 x41 K E1 w):f101_l2 K x3 x39 x40 x41 w:=
 ⟨I,μ,h0,fun σ w hI E hE=>cast (by kernel_rfl) (hr (σ 3) (σ 41) w hI E hE)⟩
def f101_t (x0:Value) (K:K1) (w:World):Prop:=
 bltS prog .len #[76] 3 #[false] #[x0] w fun t10 w=>
 ev prog (binM .eql 3 (.tmp 10) (.const (.int .i64 0)) t10 (.int .i64 0)) w fun t11 w=>
 cndS t11 (
 K (.slice none 0 0) w) (
 bltS prog .len #[76] 3 #[false] #[x0] w fun t13 w=>
 ev prog (Instr.makeSlice 39 (.int .i64 0) t13) w fun t14 w=>
 bltS prog .len #[76] 3 #[false] #[x0] w fun t16 w=>
 f101_l1 K (.slice none 0 0) t14 x0 t16 (.int .i64 0) w)
theorem f101_call (x0:Value) (K:K1) (w:World) (h:f101_t x0 K w):callS prog 101 #[x0] w K:=
 call_of_txt (args:= [x0]) mixed Tryz.func101 f101_u.2 (by kernel_rfl) (cast (by kernel_rfl) h)
def f103_t (x0 x1:Value) (K:K1) (w:World):Prop:=
 ev prog (Instr.buildSlice 195 2 #[(0,x0),(1,x1)]) w fun t7 w=>
 callS prog 120 (pA #[t7]) w fun t8 w=>
 K t8 w
theorem f103_call (x0 x1:Value) (K:K1) (w:World) (h:f103_t x0 x1 K w):callS prog 103 #[x0,x1] w K:=
 call_of_txt (args:= [x0,x1]) mixed Tryz.func103 .o (by kernel_rfl) (cast (by kernel_rfl) h)
noncomputable def f104_u:Code×Dec:=((Tryz.f104.body).getD .skip,(.s .o (.x 0 (.s .o (.b (.l [7] 96 1048468 .o))) .o)))
abbrev f104_e (K:K1):KF:=endK prog Tryz.f104.results.toList K
def f104_k1_o (K:K1):KF:=fun fr w=>∀σ,cP (pr (pr f104_u)) (f104_e K) (f104_e K) nX (mixF 0 σ 0 fr) w
def f104_k1 (K:K1) (w:World):Prop:=f104_k1_o K (fz 20 0 []) w
def f104_l1 (K:K1) (x5 x6 x7:Value) (w:World):Prop:=loopT [7] 96 (fun E=>cP (pl (pl (pr (pl (pr f104_u))))) E (f104_e K) (exB 0 (f104_k1_o K) nX)) (fz 20 0 [(5,x5),(6,x6),(7,x7)]) w
def f104_k1_t (K:K1) (w:World):Prop:=
 K (.bool true) w
theorem f104_k1_eq (K:K1) (w:World):f104_k1 K w=f104_k1_t K w:=cutE fun σ=>by kernel_rfl
def f104_l1_t (x5 x6 x7:Value) (K:K1) (E1:VP1) (w:World):Prop:=
 ev prog (binM .lss 3 (.tmp 7) (.tmp 6) x7 x6) w fun t8 w=>
 cndS t8 (
 ev prog (Instr.indexAt 132 x5 x7) w fun t9 w=>
 ldS prog 176 t9 w fun t10 w=>
 ev prog (Instr.alloc 176 true (.tuple #[])) w fun t4 w=>
 stS prog 176 t4 t10 w fun w=>
 ev prog (Instr.fieldAt 176 t4 0) w fun t11 w=>
 ldS prog 174 t11 w fun t12 w=>
 ev prog (binM .lss 174 (.tmp 12) (.const (.int .u8 ((1:Nat):Int))) t12 (.int .u8 ((1:Nat):Int))) w fun t13 w=>
 gd t13 false (fun k=>ev prog (Instr.fieldAt 176 t4 0) w k) w fun t15 w=>
 gd t13 false (fun k=>ldS prog 174 t15 w k) w fun t16 w=>
 gd t13 false (fun k=>ev prog (binM .gtr 174 (.tmp 16) (.const (.int .u8 ((3:Nat):Int))) t16 (.int .u8 ((3:Nat):Int))) w k) w fun t17 w=>
 pickS t13 (.bool true) t17 w fun t18 w=>
 cndS t18 (
 K (.bool false) w) (
 ev prog (binM .add 3 (.tmp 7) (.const (.int .i64 1)) x7 (.int .i64 1)) w fun t19 w=>
 E1 t19 w)) (
 f104_k1 K w)
theorem f104_l1_rule (x5 x6 x7:Value) (K:K1) (w:World) (I:VP1) (μ:Value→World→Nat) (h0:I x7 w)
  (hr:∀(x7:Value) (w:World),I x7 w→∀E1:VP1,(∀(y7:Value) (w':World),I y7 w'→μ y7 w'<μ x7 w→E1 y7 w')→f104_l1_t x5 x6 x7 K E1 w):f104_l1 K x5 x6 x7 w:=
 ⟨I,μ,h0,fun σ w hI E hE=>cast (by kernel_rfl) (hr (σ 7) w hI E hE)⟩
def f104_t (x0:Value) (K:K1) (w:World):Prop:=
 bltS prog .len #[132] 3 #[false] #[x0] w fun t6 w=>
 f104_l1 K x0 t6 (.int .i64 0) w
theorem f104_call (x0:Value) (K:K1) (w:World) (h:f104_t x0 K w):callS prog 104 #[x0] w K:=
 call_of_txt (args:= [x0]) mixed Tryz.func104 f104_u.2 (by kernel_rfl) (cast (by kernel_rfl) h)
def f105_t (x0 x1:Value) (K:K1) (w:World):Prop:=
 ev prog (Instr.box 176 x0) w fun t2 w=>
 ev prog (Instr.fieldAt 176 t2 0) w fun t4 w=>
 ldS prog 174 t4 w fun t5 w=>
 ev prog (binM .eql 174 (.tmp 5) (.const (.int .u8 ((1:Nat):Int))) t5 (.int .u8 ((1:Nat):Int))) w fun t7 w=>
 cndS t7 (
 ev prog (Instr.fieldAt 176 t2 1) w fun t9 w=>
 ldS prog 30 t9 w fun t10 w=>
 ev prog (Instr.fieldAt 176 t2 2) w fun t11 w=>
 ldS prog 30 t11 w fun t12 w=>
 invS prog x1 "Store" (pA #[t10,t12]) w fun t13 w=>
 K (.tuple #[]) w) (
 ev prog (binM .eql 174 (.tmp 5) (.const (.int .u8 ((2:Nat):Int))) t5 (.int .u8 ((2:Nat):Int))) w fun t15 w=>
 cndS t15 (
 ev prog (Instr.fieldAt 176 t2 1) w fun t17 w=>
 ldS prog 30 t17 w fun t18 w=>
 invS prog x1 "Flush" (pA #[t18]) w fun t19 w=>
 K (.tuple #[]) w) (
 ev prog (binM .eql 174 (.tmp 5) (.const (.int .u8 ((3:Nat):Int))) t5 (.int .u8 ((3:Nat):Int))) w fun t21 w=>
 cndS t21 (
 invS prog x1 "Fence" (pA #[]) w fun t23 w=>
 K (.tuple #[]) w) (
 K (.tuple #[]) w)))
theorem f105_call (x0 x1:Value) (K:K1) (w:World) (h:f105_t x0 x1 K w):callS prog 105 #[x0,x1] w K:=
 call_of_txt (args:= [x0,x1]) mixed Tryz.func105 .o (by kernel_rfl) (cast (by kernel_rfl) h)
noncomputable def f119_u:Code×Dec:=((Tryz.f119.body).getD .skip,(.s .o (.s .o (.x 1 (.s .o (.b (.l [3] 1 1152921504606846012 (.s .o (.x 9 (.b (.s .o (.s (.s .o (.x 9 (.s .o (.b (.l [3,5] 17 18014397972611112 (.s .o (.x 57 .o .o))))) .o)) .o))) .o))))) .o))))
abbrev f119_e (K:K1):KF:=endK prog Tryz.f119.results.toList K
def f119_k1_o (K:K1):KF:=fun fr w=>∀σ,cP (pr (pr (pr f119_u))) (f119_e K) (f119_e K) nX (mixF 1 σ 0 fr) w
def f119_k1 (K:K1) (x0:Value) (w:World):Prop:=f119_k1_o K (fz 61 0 [(0,x0)]) w
def f119_l1 (K:K1) (x0 x3:Value) (w:World):Prop:=loopT [3] 1 (fun E=>cP (pl (pl (pr (pl (pr (pr f119_u)))))) E (f119_e K) (exB 0 (f119_k1_o K) nX)) (fz 61 0 [(0,x0),(3,x3)]) w
def f119_k2_o (K:K1) (E1:VP1):KF:=fun fr w=>∀σ,cP (pr (pr (pl (pl (pr (pl (pr (pr f119_u)))))))) (fun fr w=>E1 (sv fr 3) w) (f119_e K) (exB 0 (f119_k1_o K) nX) (mixF 9 σ 0 fr) w
def f119_k2 (K:K1) (E1:VP1) (x0 x3:Value) (w:World):Prop:=f119_k2_o K E1 (fz 61 0 [(0,x0),(3,x3)]) w
def f119_k3_o (K:K1) (E1:VP1):KF:=fun fr w=>∀σ,cP (pr (pr (pl (pr (pl (pl (pr (pl (pl (pr (pl (pr (pr f119_u))))))))))))) (f119_k2_o K E1) (f119_e K) (exB 1 (f119_k2_o K E1) (exB 0 (f119_k1_o K) nX)) (mixF 9 σ 0 fr) w
def f119_k3 (K:K1) (E1:VP1) (x0 x3:Value) (w:World):Prop:=f119_k3_o K E1 (fz 61 0 [(0,x0),(3,x3)]) w
def f119_l2 (K:K1) (E1:VP1) (x0 x3 x4 x5:Value) (w:World):Prop:=loopT [3,5] 17 (fun E=>cP (pl (pl (pr (pl (pr (pl (pr (pl (pl (pr (pl (pl (pr (pl (pr (pr f119_u)))))))))))))))) E (f119_e K) (exB 2 (f119_k3_o K E1) (exB 1 (f119_k2_o K E1) (exB 0 (f119_k1_o K) nX)))) (fz 61 0 [(0,x0),(3,x3),(4,x4),(5,x5)]) w
def f119_k4_o (K:K1) (E1:VP1) (E2:VP2):KF:=fun fr w=>∀σ,cP (pr (pr (pl (pl (pr (pl (pr (pl (pr (pl (pl (pr (pl (pl (pr (pl (pr (pr f119_u)))))))))))))))))) (fun fr w=>E2 (sv fr 3) (sv fr 5) w) (f119_e K) (exB 2 (f119_k3_o K E1) (exB 1 (f119_k2_o K E1) (exB 0 (f119_k1_o K) nX))) (mixF 57 σ 0 fr) w
def f119_k4 (K:K1) (E1:VP1) (E2:VP2) (x0 x3 x4 x5:Value) (w:World):Prop:=f119_k4_o K E1 E2 (fz 61 0 [(0,x0),(3,x3),(4,x4),(5,x5)]) w
def f119_k1_t (x0:Value) (K:K1) (w:World):Prop:=
 K x0 w
theorem f119_k1_eq (K:K1) (x0:Value) (w:World):f119_k1 K x0 w=f119_k1_t x0 K w:=cutE fun σ=>by kernel_rfl
def f119_l1_t (x0 x3:Value) (K:K1) (E1:VP1) (w:World):Prop:=
 bltS prog .len #[39] 3 #[false] #[x0] w fun t12 w=>
 ev prog (binM .lss 3 (.tmp 10) (.tmp 12) x3 t12) w fun t13 w=>
 cndS t13 (
 rd prog (Instr.indexAt 39 x0 x3) w.drew fun t18=>
 ldR prog 30 t18 w.drew fun t19=>
 rd prog (binM .sub 3 (.tmp 21) (.const (.int .i64 1)) x3 (.int .i64 1)) w.drew fun t22=>
 rd prog (Instr.indexAt 39 x0 t22) w.drew fun t23=>
 ldR prog 30 t23 w.drew fun t24=>
 rd prog (binM .eql 30 (.tmp 19) (.tmp 24) t19 t24) w.drew fun t25=>
 cndS t25 (
 ev prog (Instr.sliceAt 39 x0 (some x3) none none) w.drew fun t28 w=>
 f119_l2 K E1 x0 x3 t28 (.int .i64 1) w) (
 f119_k2 K E1 x0 x3 w.drew)) (
 f119_k1 K x0 w)
theorem f119_l1_rule (x0 x3:Value) (K:K1) (w:World) (I:VP1) (μ:Value→World→Nat) (h0:I x3 w)
  (hr:∀(x3:Value) (w:World),I x3 w→∀E1:VP1,(∀(y3:Value) (w':World),I y3 w'→μ y3 w'<μ x3 w→E1 y3 w')→f119_l1_t x0 x3 K E1 w):f119_l1 K x0 x3 w:=
 ⟨I,μ,h0,fun σ w hI E hE=>cast (by kernel_rfl) (hr (σ 3) w hI E hE)⟩
def f119_k2_t (x0 x3:Value) (K:K1) (E1:VP1) (w:World):Prop:=
 ev prog (binM .add 3 (.tmp 14) (.const (.int .i64 1)) x3 (.int .i64 1)) w fun t15 w=>
 E1 t15 w
theorem f119_k2_eq (K:K1) (E1:VP1) (x0 x3:Value) (w:World):f119_k2 K E1 x0 x3 w=f119_k2_t x0 x3 K E1 w:=cutE fun σ=>by kernel_rfl
def f119_k3_t (x0 x3:Value) (K:K1) (E1:VP1) (w:World):Prop:=
 ev prog (Instr.sliceAt 39 x0 (some x3) none none) w fun t56 w=>
 bltS prog .clear #[39] 0 #[false] (pA #[t56]) w fun _ w=>
 ev prog (Instr.sliceAt 39 x0 none (some x3) none) w fun t59 w=>
 K t59 w
theorem f119_k3_eq (K:K1) (E1:VP1) (x0 x3:Value) (w:World):f119_k3 K E1 x0 x3 w=f119_k3_t x0 x3 K E1 w:=cutE fun σ=>by kernel_rfl
def f119_l2_t (x0 x3 x4 x5:Value) (K:K1) (E1:VP1) (E2:VP2) (w:World):Prop:=
 bltS prog .len #[39] 3 #[false] #[x4] w fun t31 w=>
 ev prog (binM .lss 3 (.tmp 29) (.tmp 31) x5 t31) w fun t32 w=>
 cndS t32 (
 rd prog (Instr.indexAt 39 x4 x5) w.drew fun t37=>
 ldR prog 30 t37 w.drew fun t38=>
 rd prog (binM .sub 3 (.tmp 40) (.const (.int .i64 1)) x5 (.int .i64 1)) w.drew fun t41=>
 rd prog (Instr.indexAt 39 x4 t41) w.drew fun t42=>
 ldR prog 30 t42 w.drew fun t43=>
 rd prog (binM .neq 30 (.tmp 38) (.tmp 43) t38 t43) w.drew fun t44=>
 cndS t44 (
 ev prog (Instr.indexAt 39 x4 x5) w.drew fun t49 w=>
 ldS prog 30 t49 w fun t50 w=>
 ev prog (Instr.indexAt 39 x0 x3) w fun t51 w=>
 stS prog 30 t51 t50 w fun w=>
 ev prog (binM .add 3 (.tmp 52) (.const (.int .i64 1)) x3 (.int .i64 1)) w fun t53 w=>
 f119_k4 K E1 E2 x0 t53 x4 x5 w) (
 f119_k4 K E1 E2 x0 x3 x4 x5 w.drew)) (
 f119_k3 K E1 x0 x3 w)
theorem f119_l2_rule (x0 x3 x4 x5:Value) (K:K1) (E1:VP1) (w:World) (I:VP2) (μ:Value→Value→World→Nat) (h0:I x3 x5 w)
  (hr:∀(x3 x5:Value) (w:World),I x3 x5 w→∀E2:VP2,(∀(y3 y5:Value) (w':World),I y3 y5 w'→μ y3 y5 w'<μ x3 x5 w→E2 y3 y5 w')→f119_l2_t x0 x3 x4 x5 K E1 E2 w):f119_l2 K E1 x0 x3 x4 x5 w:=
 ⟨I,μ,h0,fun σ w hI E hE=>cast (by kernel_rfl) (hr (σ 3) (σ 5) w hI E hE)⟩
def f119_k4_t (x0 x3 x4 x5:Value) (K:K1) (E1:VP1) (E2:VP2) (w:World):Prop:=
 ev prog (binM .add 3 (.tmp 33) (.const (.int .i64 1)) x5 (.int .i64 1)) w fun t34 w=>
 E2 x3 t34 w
theorem f119_k4_eq (K:K1) (E1:VP1) (E2:VP2) (x0 x3 x4 x5:Value) (w:World):f119_k4 K E1 E2 x0 x3 x4 x5 w=f119_k4_t x0 x3 x4 x5 K E1 E2 w:=cutE fun σ=>by kernel_rfl
def f119_t (x0:Value) (K:K1) (w:World):Prop:=
 bltS prog .len #[39] 3 #[false] #[x0] w fun t7 w=>
 ev prog (binM .lss 3 (.tmp 7) (.const (.int .i64 2)) t7 (.int .i64 2)) w fun t8 w=>
 cndS t8 (
 K x0 w) (
 f119_l1 K x0 (.int .i64 1) w)
theorem f119_call (x0:Value) (K:K1) (w:World) (h:f119_t x0 K w):callS prog 119 #[x0] w K:=
 call_of_txt (args:= [x0]) mixed Tryz.func119 f119_u.2 (by kernel_rfl) (cast (by kernel_rfl) h)
noncomputable def f120_u:Code×Dec:=((Tryz.f120.body).getD .skip,(.s .o (.s .o (.x 9 (.s .o (.b (.l [3,11] 1537 8386600 (.s .o (.s .o (.x 3593 .o .o)))))) (.s .o (.x 64 (.s .o (.b (.l [6,27] 100663296 34225520960 .o))) .o))))))
abbrev f120_e (K:K1):KF:=endK prog Tryz.f120.results.toList K
def f120_k1_o (K:K1):KF:=fun fr w=>∀σ,cP (pr (pr (pr f120_u))) (f120_e K) (f120_e K) nX (mixF 9 σ 0 fr) w
def f120_k1 (K:K1) (x0 x3:Value) (w:World):Prop:=f120_k1_o K (fz 36 0 [(0,x0),(3,x3)]) w
def f120_l1 (K:K1) (x0 x3 x9 x10 x11:Value) (w:World):Prop:=loopT [3,11] 1537 (fun E=>cP (pl (pl (pr (pl (pr (pr f120_u)))))) E (f120_e K) (exB 0 (f120_k1_o K) nX)) (fz 36 0 [(0,x0),(3,x3),(9,x9),(10,x10),(11,x11)]) w
def f120_k2_o (K:K1):KF:=fun fr w=>∀σ,cP (pr (pr (pr (pr (pr f120_u))))) (f120_e K) (f120_e K) nX (mixF 64 σ 0 fr) w
def f120_k2 (K:K1) (x6:Value) (w:World):Prop:=f120_k2_o K (fz 36 0 [(6,x6)]) w
def f120_l2 (K:K1) (x6 x25 x26 x27:Value) (w:World):Prop:=loopT [6,27] 100663296 (fun E=>cP (pl (pl (pr (pl (pr (pr (pr (pr f120_u)))))))) E (f120_e K) (exB 2 (f120_k2_o K) nX)) (fz 36 0 [(6,x6),(25,x25),(26,x26),(27,x27)]) w
def f120_k3_o (K:K1) (E1:VP2):KF:=fun fr w=>∀σ,cP (pr (pr (pr (pl (pl (pr (pl (pr (pr f120_u))))))))) (fun fr w=>E1 (sv fr 3) (sv fr 11) w) (f120_e K) (exB 0 (f120_k1_o K) nX) (mixF 3593 σ 0 fr) w
def f120_k3 (K:K1) (E1:VP2) (x0 x3 x9 x10 x11:Value) (w:World):Prop:=f120_k3_o K E1 (fz 36 0 [(0,x0),(3,x3),(9,x9),(10,x10),(11,x11)]) w
def f120_k1_t (x0 x3:Value) (K:K1) (w:World):Prop:=
 callS prog 127 (pA #[(.slice none 0 0),x3]) w fun t24 w=>
 bltS prog .len #[195] 3 #[false] #[x0] w fun t26 w=>
 f120_l2 K t24 x0 t26 (.int .i64 0) w
theorem f120_k1_eq (K:K1) (x0 x3:Value) (w:World):f120_k1 K x0 x3 w=f120_k1_t x0 x3 K w:=cutE fun σ=>by kernel_rfl
def f120_l1_t (x0 x3 x9 x10 x11:Value) (K:K1) (E1:VP2) (w:World):Prop:=
 ev prog (binM .lss 3 (.tmp 11) (.tmp 10) x11 x10) w fun t12 w=>
 cndS t12 (
 ev prog (Instr.indexAt 195 x9 x11) w fun t13 w=>
 ldS prog 132 t13 w fun t14 w=>
 bltS prog .len #[132] 3 #[false] #[t14] w fun t17 w=>
 ev prog (binM .add 3 (.tmp 15) (.tmp 17) x3 t17) w fun t18 w=>
 ev prog (binM .lss 3 (.tmp 19) (.const (.int .i64 0)) t18 (.int .i64 0)) w fun t20 w=>
 cndS t20 (
 ev prog (Instr.makeInterface 9 (.string {data:= #[108,101,110,32,111,117,116,32,111,102,32,114,97,110,103,101]})) w fun t21 w=>
 False) (
 f120_k3 K E1 x0 t18 x9 x10 x11 w)) (
 f120_k1 K x0 x3 w)
theorem f120_l1_rule (x0 x3 x9 x10 x11:Value) (K:K1) (w:World) (I:VP2) (μ:Value→Value→World→Nat) (h0:I x3 x11 w)
  (hr:∀(x3 x11:Value) (w:World),I x3 x11 w→∀E1:VP2,(∀(y3 y11:Value) (w':World),I y3 y11 w'→μ y3 y11 w'<μ x3 x11 w→E1 y3 y11 w')→f120_l1_t x0 x3 x9 x10 x11 K E1 w):f120_l1 K x0 x3 x9 x10 x11 w:=
 ⟨I,μ,h0,fun σ w hI E hE=>cast (by kernel_rfl) (hr (σ 3) (σ 11) w hI E hE)⟩
def f120_k2_t (x6:Value) (K:K1) (w:World):Prop:=
 K x6 w
theorem f120_k2_eq (K:K1) (x6:Value) (w:World):f120_k2 K x6 w=f120_k2_t x6 K w:=cutE fun σ=>by kernel_rfl
def f120_l2_t (x6 x25 x26 x27:Value) (K:K1) (E1:VP2) (w:World):Prop:=
 ev prog (binM .lss 3 (.tmp 27) (.tmp 26) x27 x26) w fun t28 w=>
 cndS t28 (
 ev prog (Instr.indexAt 195 x25 x27) w fun t29 w=>
 ldS prog 132 t29 w fun t30 w=>
 bltS prog .append #[132,132] 132 #[false,false] (pA #[x6,t30]) w fun t33 w=>
 ev prog (binM .add 3 (.tmp 27) (.const (.int .i64 1)) x27 (.int .i64 1)) w fun t34 w=>
 E1 t33 t34 w) (
 f120_k2 K x6 w)
theorem f120_l2_rule (x6 x25 x26 x27:Value) (K:K1) (w:World) (I:VP2) (μ:Value→Value→World→Nat) (h0:I x6 x27 w)
  (hr:∀(x6 x27:Value) (w:World),I x6 x27 w→∀E1:VP2,(∀(y6 y27:Value) (w':World),I y6 y27 w'→μ y6 y27 w'<μ x6 x27 w→E1 y6 y27 w')→f120_l2_t x6 x25 x26 x27 K E1 w):f120_l2 K x6 x25 x26 x27 w:=
 ⟨I,μ,h0,fun σ w hI E hE=>cast (by kernel_rfl) (hr (σ 6) (σ 27) w hI E hE)⟩
def f120_k3_t (x0 x3 x9 x10 x11:Value) (K:K1) (E1:VP2) (w:World):Prop:=
 ev prog (binM .add 3 (.tmp 11) (.const (.int .i64 1)) x11 (.int .i64 1)) w fun t22 w=>
 E1 x3 t22 w
theorem f120_k3_eq (K:K1) (E1:VP2) (x0 x3 x9 x10 x11:Value) (w:World):f120_k3 K E1 x0 x3 x9 x10 x11 w=f120_k3_t x0 x3 x9 x10 x11 K E1 w:=cutE fun σ=>by kernel_rfl
def f120_t (x0:Value) (K:K1) (w:World):Prop:=
 bltS prog .len #[195] 3 #[false] #[x0] w fun t10 w=>
 f120_l1 K x0 (.int .i64 0) x0 t10 (.int .i64 0) w
theorem f120_call (x0:Value) (K:K1) (w:World) (h:f120_t x0 K w):callS prog 120 #[x0] w K:=
 call_of_txt (args:= [x0]) mixed Tryz.func120 f120_u.2 (by kernel_rfl) (cast (by kernel_rfl) h)
noncomputable def f127_u:Code×Dec:=((Tryz.f127.body).getD .skip,(.s .o (.x 3 .o (.x 1 .o .o))))
abbrev f127_e (K:K1):KF:=endK prog Tryz.f127.results.toList K
def f127_k1_o (K:K1):KF:=fun fr w=>∀σ,cP (pr (pr f127_u)) (f127_e K) (f127_e K) nX (mixF 3 σ 0 fr) w
def f127_k1 (K:K1) (x0 x1:Value) (w:World):Prop:=f127_k1_o K (fz 27 0 [(0,x0),(1,x1)]) w
def f127_k2_o (K:K1):KF:=fun fr w=>∀σ,cP (pr (pr (pr f127_u))) (f127_e K) (f127_e K) nX (mixF 1 σ 0 fr) w
def f127_k2 (K:K1) (x0:Value) (w:World):Prop:=f127_k2_o K (fz 27 0 [(0,x0)]) w
def f127_k1_t (x0 x1:Value) (K:K1) (w:World):Prop:=
 bltS prog .cap #[132] 3 #[false] (pA #[x0]) w fun t10 w=>
 bltS prog .len #[132] 3 #[false] #[x0] w fun t12 w=>
 ev prog (binM .sub 3 (.tmp 10) (.tmp 12) t10 t12) w fun t13 w=>
 ev prog (binM .sub 3 (.tmp 8) (.tmp 13) x1 t13) w fun t14 w=>
 ev prog (binM .gtr 3 (.tmp 15) (.const (.int .i64 0)) t14 (.int .i64 0)) w fun t16 w=>
 cndS t16 (
 bltS prog .cap #[132] 3 #[false] (pA #[x0]) w fun t19 w=>
 ev prog (Instr.sliceAt 132 x0 none (some t19) none) w fun t20 w=>
 bltS prog .append #[132,3] 132 #[false,false] (pA #[t20,t14]) w fun t22 w=>
 bltS prog .len #[132] 3 #[false] #[x0] w fun t24 w=>
 ev prog (Instr.sliceAt 132 t22 none (some t24) none) w fun t25 w=>
 f127_k2 K t25 w) (
 f127_k2 K x0 w)
theorem f127_k1_eq (K:K1) (x0 x1:Value) (w:World):f127_k1 K x0 x1 w=f127_k1_t x0 x1 K w:=cutE fun σ=>by kernel_rfl
def f127_k2_t (x0:Value) (K:K1) (w:World):Prop:=
 K x0 w
theorem f127_k2_eq (K:K1) (x0:Value) (w:World):f127_k2 K x0 w=f127_k2_t x0 K w:=cutE fun σ=>by kernel_rfl
def f127_t (x0 x1:Value) (K:K1) (w:World):Prop:=
 ev prog (binM .lss 3 (.tmp 5) (.const (.int .i64 0)) x1 (.int .i64 0)) w fun t6 w=>
 cndS t6 (
 ev prog (Instr.makeInterface 9 (.string {data:= #[99,97,110,110,111,116,32,98,101,32,110,101,103,97,116,105,118,101]})) w fun t7 w=>
 False) (
 f127_k1 K x0 x1 w)
theorem f127_call (x0 x1:Value) (K:K1) (w:World) (h:f127_t x0 x1 K w):callS prog 127 #[x0,x1] w K:=
 call_of_txt (args:= [x0,x1]) mixed Tryz.func127 f127_u.2 (by kernel_rfl) (cast (by kernel_rfl) h)
structure Ins where
 op:Nat
 off:Nat
 val:Nat
def inL:List Ins→List Value
 | []=> []
 |i::l=> .int .u8 (i.op:Int):: .int .u64 (i.off:Int):: .int .u64 (i.val:Int)::inL l
theorem inL_append (a b:List Ins):inL (a++b)=inL a++inL b:=by
 induction a with
 |nil=>rfl
 |cons x a ih=>simp [inL,ih]
theorem inL_length (a:List Ins):(inL a).length=a.length*3:=by
 induction a with
 |nil=>rfl
 |cons x a ih=>simp [inL,ih];omega
theorem inL_get:∀(l:List Ins) (i:Nat) (x:Ins),l[i]? =some x→(inL l)[i*3]? =some (.int .u8 (x.op:Int))∧(inL l)[i*3+1]? =some (.int .u64 (x.off:Int))∧(inL l)[i*3+2]? =some (.int .u64 (x.val:Int)):=by
 intro l
 induction l with
 |nil=>intro i x h;simp at h
 |cons y l ih=>
  intro i x h
  cases i with
  |zero=>simp at h;subst h;exact ⟨rfl,rfl,rfl⟩
  |succ i=>
   have:=ih i x (by simpa using h)
   simp only [inL,show (i+1)*3=i*3+1+1+1 by omega,List.getElem?_cons_succ]
   exact this
def okI (i:Ins):Prop:=1≤i.op∧i.op≤3∧i.off<18446744073709551616∧i.val<18446744073709551616
def DS.exec (D:DS) (id:Nat) (i:Ins):DS:=if i.op=1 then D.store id i.off i.val else if i.op=2 then D.flush id i.off else D.fence id
def DS.run (D:DS) (id:Nat) (p:List Ins):DS:=p.foldl (fun D i=>D.exec id i) D
section
variable {w w':World} {Y:Lay} {D D':DS}
theorem store_exe (D:DS) (id off v:Nat):(D.store id off v).exe≤D.exe+1:=by
 unfold DS.store;split
 ·exact DS.counted_exe D id _
 ·exact DS.counted_exe D id _
theorem flush_exe (D:DS) (id off:Nat):(D.flush id off).exe≤D.exe+1:=by
 unfold DS.flush;split
 ·exact DS.counted_exe D id _
 ·exact DS.counted_exe D id _
theorem fence_exe (D:DS) (id:Nat):(D.fence id).exe≤D.exe+1:=by
 unfold DS.fence;split
 ·exact DS.counted_exe D id _
 ·exact DS.counted_exe D id _
theorem store_n (D:DS) (id off v:Nat):(D.store id off v).n=D.n:=by
 unfold DS.store;split
 ·exact DS.counted_n D id _
 ·exact DS.counted_n D id _
theorem flush_n (D:DS) (id off:Nat):(D.flush id off).n=D.n:=by
 unfold DS.flush;split
 ·exact DS.counted_n D id _
 ·exact DS.counted_n D id _
theorem fence_n (D:DS) (id:Nat):(D.fence id).n=D.n:=by
 unfold DS.fence;split
 ·exact DS.counted_n D id _
 ·exact DS.counted_n D id _
theorem exec_exe (D:DS) (id:Nat) (i:Ins):(D.exec id i).exe≤D.exe+1:=by
 unfold DS.exec;split
 ·exact store_exe _ _ _ _
 ·split
  ·exact flush_exe _ _ _
  ·exact fence_exe _ _
theorem exec_n (D:DS) (id:Nat) (i:Ins):(D.exec id i).n=D.n:=by
 unfold DS.exec;split
 ·exact store_n _ _ _ _
 ·split
  ·exact flush_n _ _ _
  ·exact fence_n _ _
theorem Good.exec (g:Good D) (id:Nat) (hid:id<8) (i:Ins) (hi:okI i):Good (D.exec id i):=by
 unfold DS.exec;split
 ·exact g.store _ _ _ hi.2.2.2
 ·split
  ·exact g.flush _ _
  ·exact g.fence _ hid
theorem run_exe (id:Nat):∀(p:List Ins) (D:DS),(D.run id p).exe≤D.exe+p.length:=by
 intro p
 induction p with
 |nil=>intro D;exact Nat.le_refl _
 |cons i p ih=>intro D;have:=ih (D.exec id i);have h2:=exec_exe D id i;simp only [List.length_cons];show ((D.exec id i).run id p).exe≤_;omega
theorem run_n (id:Nat):∀(p:List Ins) (D:DS),(D.run id p).n=D.n:=by
 intro p
 induction p with
 |nil=>intro D;rfl
 |cons i p ih=>intro D;show ((D.exec id i).run id p).n=_;rw [ih,exec_n]
theorem Good.run (id:Nat) (hid:id<8):∀(p:List Ins) (D:DS),Good D→(∀i∈p,okI i)→Good (D.run id p):=by
 intro p
 induction p with
 |nil=>intro D g _;exact g
 |cons i p ih=>intro D g h;exact ih _ (g.exec id hid i (h i List.mem_cons_self)) (fun j hj=>h j (List.mem_cons_of_mem _ hj))
theorem run_append (D:DS) (id:Nat) (p q:List Ins):D.run id (p++q)=(D.run id p).run id q:=by simp [DS.run,List.foldl_append]
theorem k_execute (h:Dv w Y D) (g:Good D) (id:Nat) (hid:id<8) (i:Ins) (hi:okI i) (hx:D.exe<1099511627775) (K:K1) (hK:∀w' Y',Stp w Y w' Y' (D.exec id i)→K (.tuple #[]) w'):callS prog 105 #[.agg #[.int .u8 (i.op:Int),.int .u64 (i.off:Int),.int .u64 (i.val:Int)],.iface 25 (.pointer (some ⟨Y.tb id,0,none⟩))] w K:=by
 refine f105_call _ _ _ _ ?_
 unfold f105_t
 have h':=h.ext (Ext.alloc_self w (.cells #[.int .u8 (i.op:Int),.int .u64 (i.off:Int),.int .u64 (i.val:Int)] 176))
 have hp:∀w' Y' D',Stp (w.alloc (.cells #[.int .u8 (i.op:Int),.int .u64 (i.off:Int),.int .u64 (i.val:Int)] 176)) Y w' Y' D'→Stp w Y w' Y' D':=fun w' Y' D' hs=>Stp.pre (Ext.alloc_self w _) (fun b hb=>h.lt hb) hs
 unfold DS.exec at hK
 obtain ⟨o1,o2,o3,o4⟩:=hi
 (repeat' (first|(with_reducible first|refine brS_mk (fun _=> ?_) (fun _=> ?_)|refine And.intro ?_ ?_)|(simp (disch:=first|omega|simp only [RO]|(simp only [RZ]<;>omega)|fail) only [↓RBp,↓RA,↓reduceIte,Nat.reduceAdd,Nat.reduceMul,Nat.reduceEqDiff,RB,RX,RA2])))
 ·rename_i e
  rw [if_pos e] at hK
  refine k_Store h' g id hid i.off i.val hx _ (fun w' Y' hs=> ?_)
  exact hK _ _ (hp _ _ _ hs)
 ·rename_i e e2
  rw [if_neg e,if_pos e2] at hK
  refine k_Flush h' g id hid i.off hx _ (fun w' hs=> ?_)
  exact hK _ _ (hp _ _ _ hs)
 ·rename_i e e2
  rw [if_neg e,if_neg e2] at hK
  refine k_Fence h' g id hid hx _ (fun w' Y' hs=> ?_)
  exact hK _ _ (hp _ _ _ hs)
theorem k_valid (p:List Ins) (v:Value) (h:SlO w 176 3 v p.length (inL p)) (hp:∀i∈p,okI i) (hl:p.length<1099511627776) (K:K1) (hK:∀w',Ext w w'→K (.bool true) w'):callS prog 104 #[v] w K:=by
 have hv:∃a cap,v= .slice a p.length cap:=by
  rcases h.2 with ⟨e,e2⟩|⟨b,o,cap,a,e,_⟩
  ·rw [e,e2];exact ⟨_,_,rfl⟩
  ·exact ⟨_,_,e⟩
 obtain ⟨a,cap,rfl⟩:=hv
 refine f104_call _ _ _ ?_
 unfold f104_t
 simp (disch:=first|omega|simp only [RO]|(simp only [RZ]<;>omega)|fail) only [↓RBp,↓RA,↓reduceIte,Nat.reduceAdd,Nat.reduceMul,Nat.reduceEqDiff,RB,RX,RA2]
 apply f104_l1_rule (I:=fun x w'=>∃j:Nat,x= .int .i64 (j:Int)∧j≤p.length∧Ext w w') (μ:=fun x _=>p.length-(intOf x).toNat)
 ·exact ⟨0,rfl,by omega,Ext.refl _⟩
 ·intros;rename_i w1 hI E1 hE
  obtain ⟨j,rfl,hj,he⟩:=hI
  by_cases hjk:j<p.length
  ·obtain ⟨x,hx⟩:∃x,p[j]? =some x:=⟨_,List.getElem?_eq_getElem hjk⟩
   have hw:=inL_get _ _ _ hx
   obtain ⟨b,o,cap',ev,hc⟩:=h.isS (by omega)
   injection ev with e1 e2 e3;subst e1;subst e3
   have hS:=h.ext he
   have c1:=hS.cell rfl hw.1
   have c2:=hS.cell rfl hw.2.1
   have c3:=hS.cell rfl hw.2.2
   rw [←Nat.add_assoc] at c2 c3
   obtain ⟨o1,o2,o3,o4⟩:=hp x (List.mem_of_getElem? hx)
   have lt:=hS.lt rfl
   unfold f104_l1_t
   simp (disch:=first|omega|simp only [RO]|(simp only [RZ]<;>omega)|fail) only [↓RBp,↓RA,↓reduceIte,Nat.reduceAdd,Nat.reduceMul,Nat.reduceEqDiff,RB,RX,RA2,c1,c2,c3]
   apply hE
   ·exact ⟨j+1,by simp,by omega,he.alloc _⟩
   ·simp [intOf];omega
  ·have:j=p.length:=by omega
   subst this
   unfold f104_l1_t
   simp (disch:=first|omega|simp only [RO]|(simp only [RZ]<;>omega)|fail) only [↓RBp,↓RA,↓reduceIte,Nat.reduceAdd,Nat.reduceMul,Nat.reduceEqDiff,RB,RX,RA2,f104_k1_eq,f104_k1_t]
   exact hK _ he
theorem k_Run (h:Dv w Y D) (g:Good D) (id:Nat) (hid:id<8) (p:List Ins) (v:Value) (hS:SlO w 176 3 v p.length (inL p)) (hvF:∀b,v.ownBlock=some b→¬Y.F b) (hp:∀i∈p,okI i) (hx:D.exe+p.length<1099511627775) (K:K1)
  (hK:∀w' Y',Stp w Y w' Y' (D.run id p)→K (.int .i64 ((D.run id p).err id)) w'):callS prog 62 #[v,.iface 25 (.pointer (some ⟨Y.tb id,0,none⟩))] w K:=by
 have hv:∃a cap,v= .slice a p.length cap:=by
  rcases hS.2 with ⟨e,e2⟩|⟨b,o,cap,a,e,_⟩
  ·rw [e,e2];exact ⟨_,_,rfl⟩
  ·exact ⟨_,_,e⟩
 obtain ⟨a,cap,rfl⟩:=hv
 refine f62_call _ _ _ _ ?_
 unfold f62_t
 simp (disch:=first|omega|simp only [RO]|(simp only [RZ]<;>omega)|fail) only [↓RBp,↓RA,↓reduceIte,Nat.reduceAdd,Nat.reduceMul,Nat.reduceEqDiff,RB,RX,RA2]
 refine k_valid p _ hS hp (by omega) _ (fun w1 he1=> ?_)
 simp (disch:=first|omega|simp only [RO]|(simp only [RZ]<;>omega)|fail) only [↓RBp,↓RA,↓reduceIte,Nat.reduceAdd,Nat.reduceMul,Nat.reduceEqDiff,RB,RX,RA2]
 apply f62_l1_rule (I:=fun x w'=>∃(j:Nat) (Y':Lay),x= .int .i64 (j:Int)∧j≤p.length∧Stp w Y w' Y' (D.run id (p.take j))) (μ:=fun x _=>p.length-(intOf x).toNat)
 ·exact ⟨0,Y,rfl,by omega,Stp.ext h he1⟩
 ·intros;rename_i w2 hI E1 hE
  obtain ⟨j,Y',rfl,hj,hs⟩:=hI
  obtain ⟨hv',rfl⟩:∃hv',Y'={Y with hv:=hv'}:=⟨_,hs.y⟩
  by_cases hjk:j<p.length
  ·obtain ⟨x,hx'⟩:∃x,p[j]? =some x:=⟨_,List.getElem?_eq_getElem hjk⟩
   have hw:=inL_get _ _ _ hx'
   obtain ⟨b,o,cap',ev,hc⟩:=hS.isS (by omega)
   injection ev with e1 e2 e3;subst e1;subst e3
   have hS2:=hS.frm hs.frm hvF
   have c1:=hS2.cell rfl hw.1
   have c2:=hS2.cell rfl hw.2.1
   have c3:=hS2.cell rfl hw.2.2
   rw [←Nat.add_assoc] at c2 c3
   have lt:=hS2.lt rfl
   have hok:=hp x (List.mem_of_getElem? hx')
   have hex:(D.run id (p.take j)).exe<1099511627775:=by have:=run_exe id (p.take j) D;rw [List.length_take] at this;omega
   have gj:=Good.run id hid (p.take j) D g (fun i hi=>hp i (List.mem_of_mem_take hi))
   unfold f62_l1_t
   simp (disch:=first|omega|simp only [RO]|(simp only [RZ]<;>omega)|fail) only [↓RBp,↓RA,↓reduceIte,Nat.reduceAdd,Nat.reduceMul,Nat.reduceEqDiff,RB,RX,RA2,c1,c2,c3]
   refine k_execute (hs.dv.ext (Ext.alloc_self _ _)) gj id hid x hok hex _ (fun w3 Y3 h3=> ?_)
   simp (disch:=first|omega|simp only [RO]|(simp only [RZ]<;>omega)|fail) only [↓RBp,↓RA,↓reduceIte,Nat.reduceAdd,Nat.reduceMul,Nat.reduceEqDiff,RB,RX,RA2]
   apply hE
   ·refine ⟨j+1,Y3,by simp,by omega,?_⟩
    rw [take_snoc' hx',run_append]
    exact hs.trans (Stp.pre (Ext.alloc_self _ _) (fun b hb=>hs.dv.lt hb) h3)
   ·simp [intOf];omega
  ·have:j=p.length:=by omega
   subst this
   rw [List.take_length] at hs
   unfold f62_l1_t
   simp (disch:=first|omega|simp only [RO]|(simp only [RZ]<;>omega)|fail) only [↓RBp,↓RA,↓reduceIte,Nat.reduceAdd,Nat.reduceMul,Nat.reduceEqDiff,RB,RX,RA2,f62_k1_eq,f62_k1_t,c_Err hs.dv id hid]
   exact hK _ _ hs
end
end Go.Proofs.YtifpinhjpbgnoaaGreatDoor
namespace Go.Sh
open Go
theorem sliceT_un {P:Program} {t:TypeId} (h:sliceT P t=true):∃e,P.underlying t=some (.slice e):=by
 unfold sliceT at h
 split at h
 ·rename_i e hu;exact ⟨e,hu⟩
 ·cases h
theorem blt_cap {P:Program} {t:TypeId} (h:sliceT P t=true) (ty:TypeId) (cs:Array Bool) (a:Option Addr) (n c:Nat) (w:World) (k:K1):bltS P .cap #[t] ty cs #[.slice a n c] w k=k (.int .i64 c) w:=by
 obtain ⟨e,hu⟩:=sliceT_un h
 have:(Builtin.cap_ #[t] ty #[.slice a n c]).run P w= .ok (.int .i64 c) w:=by
  simp [Builtin.cap_,run_underlying hu,goInt]
 unfold bltS builtin
 rw [Sem.run_bind,this];rfl
theorem blt_clearS {P:Program} {t e ty:TypeId} {z bytes:Nat} {zv:Value} (E:ElT P t t e z bytes zv) (h1:allOne zv.cells.toList=true) {cs:Array Bool} {w:World} {b o n c:Nat} {a:Array Value} (hh:w.heap[b]? =some (.cells a e (0,0))) (hn:0<n) (hsz:o+n*z≤a.size) (k:K1):
  bltS P .clear #[t] ty cs #[.slice (some ⟨b,o,none⟩) n c] w k=k (.tuple #[]) (w.setRow b (a.toList.take o++(Builtin.zeroCells zv.cells n).toList++a.toList.drop (o+n*z)).toArray):=by
 obtain ⟨i,hi,rfl,hz,rfl⟩:=E.info
 have hl:(Builtin.zeroCells zv.cells n).toList.length=n*i.size:=by
  rw [Array.length_toList,size_zeroCells,E.zs]
 have ho:∀u∈(Builtin.zeroCells zv.cells n).toList,u.oneCell'=true:=by
  intro u hu
  rw [Builtin.zeroCells] at hu
  simp only [Array.toList_map,List.mem_map] at hu
  obtain ⟨j,hj,rfl⟩:=hu
  simp only [Array.toList_range,List.mem_range] at hj
  by_cases hzs:zv.cells.size=0
  ·rw [hzs] at hj;omega
  ·refine allOne_mem h1 _ ?_
   have:j%zv.cells.size<zv.cells.size:=Nat.mod_lt _ (by omega)
   rw [getElem!_pos zv.cells _ this]
   exact Array.getElem_mem_toList this
 have hst:=run_storeCells_at P b o e (Builtin.zeroCells zv.cells n).toList 0 a w hh (by rw [hl];simpa using hsz) ho
 simp only [Nat.add_zero,hl] at hst
 cases n with
 |zero=>omega
 |succ n=>
  have:(Builtin.clear_ #[t] ty #[.slice (some ⟨b,o,none⟩) (n+1) c]).run P w= .ok (.tuple #[]) (w.setRow b (a.toList.take o++(Builtin.zeroCells zv.cells (n+1)).toList++a.toList.drop (o+(n+1)*i.size)).toArray):=by
   simp [Builtin.clear_,run_underlying E.un,zeroValue,typeInfo,hi,hz,hst]
  unfold bltS builtin
  rw [Sem.run_bind,this];rfl
theorem blt_appendZ {P:Program} {t tx e ty:TypeId} {z bytes:Nat} {zv:Value} (E:ElT P t t e z bytes zv) (hx:intT P tx=some .i64) {cs:Array Bool} {w:World} {m:Nat} (hm:0<m) (hb:m*bytes≤140737488355328) (hm':m<9223372036854775807) {k:K1}
  (h:∀c w',Ext w w'→SlO w' e z (.slice (some ⟨w.heap.size,0,none⟩) 0 c) 0 []→m≤c→k (.slice (some ⟨w.heap.size,0,none⟩) m c) w'):
  bltS P .append #[t,tx] ty cs #[.slice none 0 0,.int .i64 (m:Int)] w k:=by
 obtain ⟨i,hi,rfl,hz,rfl⟩:=E.info
 have hux:=underlying_of_intT hx
 have hwr:IntKind.i64.wrap (m:Int)=m:=wrap_i64 (by omega) (by omega)
 have h0:¬((m:Int)<0):=by omega
 have h48:¬(281474976710656<(m:Int)*(i.bytes:Int)):=by
  have:((m*i.bytes:Nat):Int)=(m:Int)*(i.bytes:Int):=by simp
  omega
 have hg:¬(m≤0):=by omega
 have hne:¬m=0:=by omega
 have h63:¬(9223372036854775807<(m:Int)):=by omega
 have hfit:=growslice_fits (need:=m) (old:=0) (by omega) (show m*i.bytes≤140737488355328 from hb)
 have hfit':¬(281474976710656<Builtin.nextslicecap m 0*i.bytes):=by omega
 have hai:(asIntOf (.int .i64 (m:Int))).run P w= .ok (.i64,(m:Int)) w:=rfl
 have hr:(Builtin.append_ #[t,tx] ty #[.slice none 0 0,.int .i64 (m:Int)]).run P w= .ok (.slice (some ⟨w.heap.size,0,none⟩) m (grownCap w m 0 e)) (w.drew.alloc (.cells ((if m*i.size=0 then #[] else Builtin.zeroCells zv.cells m)++Builtin.zeroCells zv.cells (grownCap w m 0 e-m)) e)):=by
  by_cases hz0:m*i.size=0
  ·simp [Builtin.append_,run_underlying E.un,run_underlying hux,sizeOf,typeInfo,zeroValue,hi,hz,hwr,h0,h48,asInt,hai,hg,h63,hfit',Question.forced,newRow,grownCap,Builtin.firstCells,hz0,hne]
  ·simp [Builtin.append_,run_underlying E.un,run_underlying hux,sizeOf,typeInfo,zeroValue,hi,hz,hwr,h0,h48,asInt,hai,hg,h63,hfit',Question.forced,newRow,grownCap,Builtin.firstCells,hz0,hne]
 unfold bltS builtin
 rw [Sem.run_bind,hr]
 have hge:=grownCap_ge w m 0 e
 have hcm:grownCap w m 0 e≤maxLen:=grownCap_le_maxLen w m 0 e (by simp only [maxLen];omega)
 refine h _ _ (((Ext.refl w).drew).alloc _) ⟨by simp,.inr ⟨w.heap.size,0,_,_,rfl,heap_alloc_eq w.drew _,Nat.zero_le _,hcm,?_,by simp⟩⟩ hge
 have hsz:∀q,(Builtin.zeroCells zv.cells q).size=q*i.size:=fun q=>by rw [size_zeroCells,E.zs]
 rw [Array.size_append,hsz]
 split
 ·rename_i e0
  have:i.size=0:=by rcases Nat.mul_eq_zero.1 e0 with h|h;omega;exact h
  simp [this]
 ·rw [hsz,←Nat.add_mul,Nat.zero_add];exact Nat.mul_le_mul_right _ (by omega)
def kin:List Value→List Value→Bool
 | [],[]=>true
 | .int k _::l,.int k' _::l'=>decide (k=k')&&kin l l'
 |_,_=>false
theorem run_andNot {P:Program} (t:TypeId) (x y:Operand) (a b:Nat) (w:World) (ha:a<18446744073709551616) (hb:b<18446744073709551616):(binM .andNot t x y (.int .u64 (a:Int)) (.int .u64 (b:Int))).run P w= .ok (.int .u64 ((a&&&(18446744073709551615^^^b):Nat):Int)) w:=by
 rw [run_binM_int]
 simp only [binOp,Op.intBits]
 have e1:(BitVec.ofInt 64 (a:Int)).toNat=a:=by rw [ofInt_toNat (by omega) (by omega)];simp
 have e2:(BitVec.ofInt 64 (b:Int)).toNat=b:=by rw [ofInt_toNat (by omega) (by omega)];simp
 have e3:((BitVec.ofInt 64 (a:Int))&&& ~~~(BitVec.ofInt 64 (b:Int))).toNat=a&&&(18446744073709551615^^^b):=by
  rw [BitVec.toNat_and,BitVec.toNat_not,e1,e2]
  congr 1
  apply Nat.eq_of_testBit_eq
  intro i
  rw [show (18446744073709551615:Nat)=2^64-1 from rfl,Nat.testBit_xor,Nat.testBit_two_pow_sub_one]
  have:=Nat.testBit_two_pow_sub_succ (x:=b) (n:=64) hb i
  rw [show (2:Nat)^64-1-b=2^64-(b+1) by omega,this]
  by_cases hi:i<64
  ·simp [hi]
  ·have hbi:b.testBit i=false:=by
    have hpw:2^64≤2^i:=Nat.pow_le_pow_right (by decide) (by omega)
    exact Nat.testBit_lt_two_pow (Nat.lt_of_lt_of_le hb hpw)
   simp [hi,hbi]
 show Result.ok (Value.int IntKind.u64 (IntKind.u64.wrap (((BitVec.ofInt 64 (a:Int))&&& ~~~(BitVec.ofInt 64 (b:Int))).toNat:Int))) w=_
 rw [e3,wrap_u64 (by omega) ?_]
 have:a&&&(18446744073709551615^^^b)≤a:=Nat.and_le_left
 omega
end Go.Sh
namespace Go.Proofs.YtifpinhjpbgnoaaGreatDoor
open Go Go.Sh
section
variable {w w':World} {q o cap:Nat} {d:Array Nat}
theorem k_Sort (h:Ar w q o d) (hd:d.size<1099511627776) (K:K1) (hK:∀w',SW w w' q o (Go.Sort.sort ltN d)→(Go.Sort.sort ltN d).size=d.size→K (.tuple #[]) w'):
  callS prog 118 #[.slice (some ⟨q,o,none⟩) d.size cap] w K:=by
 refine f118_call _ _ _ ?_
 unfold f118_t
 have hb:Go.Sort.bitsLen d.size≤40:=(Go.Sort.bitsLen_le_iff d.size 40).2 (by omega)
 simp (disch:=first|omega|simp only [RO]|(simp only [RZ]<;>omega)|fail) only [↓RBp,↓RA,↓reduceIte,Nat.reduceAdd,Nat.reduceMul,Nat.reduceEqDiff,RB,RX,RA2,c_Len]
 refine k_pdq d.size w d 0 d.size (Go.Sort.bitsLen d.size) _ (by omega) h hd (by omega) (by omega) (by omega) (fun w' h1 h2=> ?_)
 exact hK w' h1 h2
def kpN (d:Array Nat):Nat→List Nat
 |0=> []
 |n+1=>kpN d n++(if n=0∨d[n]!≠d[n-1]! then [d[n]!] else [])
theorem kpN_le (d:Array Nat):∀n,(kpN d n).length≤n:=by
 intro n
 induction n with
 |zero=>simp [kpN]
 |succ n ih=>simp only [kpN,List.length_append];split<;>simp<;>omega
def Beg (D:Array Nat) (l:List Nat):Prop:=l.length≤D.size∧∀i,i<l.length→D[i]! =l[i]!
theorem Ar.beg {D:Array Nat} (h:Ar w q o D) {l:List Nat} (hb:Beg D l):Ar w q o l.toArray:=by
 obtain ⟨a,h1,h2,h3⟩:=h
 refine ⟨a,h1,by have:=hb.1;simp;omega,fun i hi=> ?_⟩
 simp only [List.size_toArray] at hi
 have e:=hb.2 i hi
 rw [h3 i (by have:=hb.1;omega),e]
 simp
theorem getBang_set (D:Array Nat) (i x j:Nat) (hi:i<D.size):(D.setIfInBounds i x)[j]! =if j=i then x else D[j]! :=by
 simp only [getElem!_def,Array.getElem?_setIfInBounds]
 by_cases e:i=j
 ·subst e;simp [hi]
 ·rw [if_neg e,if_neg (fun h=>e h.symm)]
theorem k_Compact (h:Ar w q o d) (hd:d.size<1099511627776) (hc:d.size≤cap) (h0:0<d.size) (K:K1) (hK:∀w',Ar w' q o (kpN d d.size).toArray→Frm (fun x=>x=q) w w'→K (.slice (some ⟨q,o,none⟩) (kpN d d.size).length cap) w'):
  callS prog 119 #[.slice (some ⟨q,o,none⟩) d.size cap] w K:=by
 refine f119_call _ _ _ ?_
 unfold f119_t
 have full:∀k,k≤d.size→(kpN d k).length=k→Beg d (kpN d k):=by
  intro k
  induction k with
  |zero=>intro _ _;exact ⟨by simp [kpN],by simp [kpN]⟩
  |succ k ih=>
   intro hk hl
   have h1:=kpN_le d k
   have hl2:(kpN d k).length=k:=by
    simp only [kpN,List.length_append] at hl
    split at hl<;>simp at hl<;>omega
   have hb:=ih (by omega) hl2
   refine ⟨by rw [hl];exact hk,fun i hi=> ?_⟩
   rw [hl] at hi
   by_cases e:i=k
   ·subst e
    have hc2:i=0∨d[i]!≠d[i-1]! :=by
     by_cases hh:i=0∨d[i]!≠d[i-1]!
     ·exact hh
     ·simp only [kpN,if_neg hh,List.append_nil] at hl;omega
    simp only [kpN,if_pos hc2]
    rw [getElem!_def (kpN d i++ [d[i]!]),List.getElem?_append_right (by omega),hl2]
    simp
   ·have:=hb.2 i (by omega)
    rw [this]
    simp only [kpN]
    rw [getElem!_def,getElem!_def,List.getElem?_append_left (by omega)]
 by_cases h2:d.size<2
 ·have e1:d.size=1:=by omega
  simp (disch:=first|omega|simp only [RO]|(simp only [RZ]<;>omega)|fail) only [↓RBp,↓RA,↓reduceIte,Nat.reduceAdd,Nat.reduceMul,Nat.reduceEqDiff,RB,RX,RA2]
  have hk1:kpN d d.size= [d[0]!]:=by rw [e1];simp [kpN]
  have hb:=full d.size (by omega) (by rw [hk1];simp [e1])
  have:=hK w (h.beg hb) (Frm.refl _ _)
  rw [hk1] at this
  simp only [List.length_singleton] at this
  rw [←e1] at this
  exact this
 ·simp (disch:=first|omega|simp only [RO]|(simp only [RZ]<;>omega)|fail) only [↓RBp,↓RA,↓reduceIte,Nat.reduceAdd,Nat.reduceMul,Nat.reduceEqDiff,RB,RX,RA2]
  apply f119_l1_rule (I:=fun x w'=>∃k:Nat,x= .int .i64 (k:Int)∧1≤k∧k≤d.size∧(kpN d k).length=k∧SW w w' q o d) (μ:=fun x _=>d.size-(intOf x).toNat)
  ·exact ⟨1,by simp,by omega,by omega,by simp [kpN],SW.refl h⟩
  ·intros;rename_i w1 hI E1 hE
   obtain ⟨k,rfl,hk1,hk2,hkl,sw⟩:=hI
   unfold f119_l1_t
   have ar:=sw.ar
   by_cases hk:k<d.size
   ·have c1:=ar.cell k hk
    have c2:=ar.cell (k-1) (by omega)
    have e0:(k:Int)-1=((k-1:Nat):Int):=by omega
    by_cases he:d[k]! =d[k-1]!
    ·have hnc:¬cap=k:=by omega
     have e1:kpN d (k+1)=kpN d k:=by
      simp only [kpN]
      rw [if_neg (by rintro (h|h);omega;exact h he),List.append_nil]
     simp (disch:=first|omega|simp only [RO]|(simp only [RZ]<;>omega)|fail) only [↓RBp,↓RA,↓reduceIte,Nat.reduceAdd,Nat.reduceMul,Nat.reduceEqDiff,RB,RX,RA2,e0,c1,c2,he,hnc]
     apply f119_l2_rule (I:=fun x y w'=>∃(k2:Nat) (D:Array Nat),y= .int .i64 (k2:Int)∧x= .int .i64 (((kpN d (k+k2)).length:Nat):Int)∧1≤k2∧k+k2≤d.size∧D.size=d.size∧SW w w' q o D∧Beg D (kpN d (k+k2))∧(∀j,k+k2-1≤j→D[j]! =d[j]!)∧(kpN d (k+k2)).length≤k+k2-1) (μ:=fun _ y _=>d.size-(intOf y).toNat)
     ·refine ⟨1,d,by simp,by rw [e1,hkl],by omega,by omega,rfl,sw.drew,?_,fun _ _=>rfl,by rw [e1,hkl];omega⟩
      rw [e1];exact full k (by omega) hkl
     ·intros;rename_i w2 hI2 E2 hE2
      obtain ⟨k2,D,rfl,rfl,hk3,hk4,hsz,sw2,hbeg,hsame,hle⟩:=hI2
      unfold f119_l2_t
      have ar2:=sw2.ar
      by_cases hk5:k+k2<d.size
      ·have c3:=ar2.cell (k+k2) (by omega)
       have c4:=ar2.cell (k+k2-1) (by omega)
       have a3:o+k+k2=o+(k+k2):=by omega
       have a4:o+k+(k2-1)=o+(k+k2-1):=by omega
       have g0:(k2:Int)-1=((k2-1:Nat):Int):=by omega
       have g1:((d.size-k:Nat):Int)=(d.size:Int)-(k:Int):=by omega
       generalize hm:(kpN d (k+k2)).length=m at*
       by_cases he2:d[k+k2]! =d[k+k2-1]!
       ·have e2:kpN d (k+k2+1)=kpN d (k+k2):=by
         simp only [kpN]
         rw [if_neg (by rintro (h|h);omega;exact h he2),List.append_nil]
        have he3:D[k+k2]! =D[k+k2-1]! :=by rw [hsame _ (by omega),hsame _ (by omega),he2]
        rw [he3] at c3
        simp (disch:=first|omega|simp only [RO]|(simp only [RZ]<;>omega)|fail) only [↓RBp,↓RA,↓reduceIte,Nat.reduceAdd,Nat.reduceMul,Nat.reduceEqDiff,RB,RX,RA2,g0,a3,a4,c3,c4,f119_k4_eq,f119_k4_t]
        apply hE2
        ·refine ⟨k2+1,D,by simp,by rw [←Nat.add_assoc,e2,hm],by omega,by omega,hsz,sw2.drew,by rw [←Nat.add_assoc,e2];exact hbeg,fun j hj=>hsame j (by omega),by rw [←Nat.add_assoc,e2];omega⟩
        ·simp [intOf];omega
       ·have e2:kpN d (k+k2+1)=kpN d (k+k2)++ [d[k+k2]!]:=by
         simp only [kpN]
         rw [if_pos (.inr he2)]
        have he3:¬D[k+k2]! =D[k+k2-1]! :=by rw [hsame _ (by omega),hsame _ (by omega)];exact he2
        have c5:=ar2.cell m (by omega)
        have he4:¬((D[k+k2]! :Nat):Int)=((D[k+k2-1]! :Nat):Int):=by omega
        simp (disch:=first|omega|simp only [RO]|(simp only [RZ]<;>omega)|fail) only [↓RBp,↓RA,↓reduceIte,Nat.reduceAdd,Nat.reduceMul,Nat.reduceEqDiff,RB,RX,RA2,g0,a3,a4,c3,c4,c5,ar2.frz,he4,f119_k4_eq,f119_k4_t]
        apply hE2
        ·refine ⟨k2+1,D.setIfInBounds m D[k+k2]!,by simp,?_,by omega,by omega,by simp [hsz],(sw2.set1 m _ (by omega)).drew,?_,?_,?_⟩
         ·rw [←Nat.add_assoc,e2];simp [hm]
         ·rw [←Nat.add_assoc,e2]
          refine ⟨by simp;omega,fun i hi=> ?_⟩
          rw [getBang_set _ _ _ _ (by omega)]
          simp only [List.length_append,List.length_singleton,hm] at hi
          by_cases e:i=m
          ·subst e
           rw [if_pos rfl,hsame _ (by omega),getElem!_def (kpN d (k+k2)++ [d[k+k2]!]),List.getElem?_append_right (by omega),hm];simp
          ·rw [if_neg e,hbeg.2 i (by omega),getElem!_def,getElem!_def,List.getElem?_append_left (by omega)]
         ·intro j hj
          rw [getBang_set _ _ _ _ (by omega),if_neg (by omega)]
          exact hsame j (by omega)
         ·rw [←Nat.add_assoc,e2];simp only [List.length_append,List.length_singleton,hm];omega
        ·simp [intOf];omega
      ·have ek:k+k2=d.size:=by omega
       have g1:((d.size-k:Nat):Int)=(k2:Int):=by omega
       rw [ek] at hbeg hle
       rw [ek]
       generalize hm:(kpN d d.size).length=m at*
       obtain ⟨a,hh,hs,hf⟩:=ar2
       have hnc2:¬cap=m:=by omega
       have cl:∀(c:Nat) K,bltS prog .clear #[39] 0 #[false] #[.slice (some ⟨q,o+m,none⟩) (d.size-m) c] w2 K=K (.tuple #[]) _:=fun c K=>blt_clearS el_39_39 rfl hh (by omega) (by omega) K
       simp (disch:=first|omega|simp only [RO]|(simp only [RZ]<;>omega)|fail) only [↓RBp,↓RA,↓reduceIte,Nat.reduceAdd,Nat.reduceMul,Nat.reduceEqDiff,RB,RX,RA2,g1,hnc2,cl,f119_k3_eq,f119_k3_t]
       refine hK _ ?_ ?_
       ·refine ⟨_,setRow_heap_eq hh _,?_,fun i hi=> ?_⟩
        ·simp [Builtin.zeroCells];omega
        ·simp only [List.size_toArray,hm] at hi
         rw [List.getElem?_toArray,List.append_assoc,List.getElem?_append_left (by simp;omega),List.getElem?_take_of_lt (by omega),Array.getElem?_toList,hf i (by omega),hbeg.2 i (by omega)]
         simp
       ·exact sw2.frm.trans (b:=w2) (G:=fun x=>x=q) ⟨rfl,rfl,rfl,by simp,fun x _ hx=>setRow_heap_ne _ hx⟩ (fun _ _ h=>h)
    ·have hne:¬((d[k]! :Nat):Int)=((d[k-1]! :Nat):Int):=by omega
     simp (disch:=first|omega|simp only [RO]|(simp only [RZ]<;>omega)|fail) only [↓RBp,↓RA,↓reduceIte,Nat.reduceAdd,Nat.reduceMul,Nat.reduceEqDiff,RB,RX,RA2,e0,c1,c2,hne,f119_k2_eq,f119_k2_t]
     apply hE
     ·refine ⟨k+1,by simp,by omega,by omega,?_,sw.drew⟩
      simp only [kpN]
      rw [if_pos (.inr he)];simp [hkl]
     ·simp [intOf];omega
   ·have ek:k=d.size:=by omega
    subst ek
    simp (disch:=first|omega|simp only [RO]|(simp only [RZ]<;>omega)|fail) only [↓RBp,↓RA,↓reduceIte,Nat.reduceAdd,Nat.reduceMul,Nat.reduceEqDiff,RB,RX,RA2,f119_k1_eq,f119_k1_t]
    have:=hK w1 (ar.beg (full _ (Nat.le_refl _) hkl)) sw.frm
    rw [hkl] at this
    exact this
end
end Go.Proofs.YtifpinhjpbgnoaaGreatDoor
namespace Go.Sh
open Go
variable {w w':World}
theorem Frm.cell {F:Nat→Prop} (h:Frm F w w') (b i:Nat) (hb:b<w.heap.size) (hn:¬F b):w'.cell? ⟨b,i,none⟩=w.cell? ⟨b,i,none⟩:=by
 have:=h.block b hb hn
 unfold World.cell?
 simp only [this]
theorem SlO.isS' {t:TypeId} {z n:Nat} {v:Value} {L:List Value} (h:SlO w t z v n L):∃a cap,v= .slice a n cap∧n≤cap:=by
 rcases h.2 with ⟨rfl,rfl⟩|⟨b,o,cap,a,rfl,_,h2,_⟩
 ·exact ⟨_,_,rfl,Nat.le_refl _⟩
 ·exact ⟨_,_,rfl,h2⟩
theorem SlO.lit' (w:World) (t:TypeId) (z n:Nat) (l:List Value) (hl:l.length=n*z) (hm:n≤maxLen) {b:Nat} (hb:b=w.heap.size):SlO (w.alloc (.cells l.toArray t)) t z (.slice (some ⟨b,0,none⟩) n n) n l:=by subst hb;exact SlO.lit w t z n l hl hm
end Go.Sh
namespace Go.Proofs.YtifpinhjpbgnoaaGreatDoor
open Go Go.Sh
def srtN (l:List Nat):List Nat:=(Go.Sort.sort ltN l.toArray).toList
def cmpN (l:List Nat):List Nat:=kpN l.toArray l.length
def lineS (x:Nat):Nat:=x-x%64
def wrI (x:Nat×Nat):Ins:=⟨1,x.1,x.2⟩
def flI (x:Nat):Ins:=⟨2,x,0⟩
def storesI (ws:List (Nat×Nat)):List Ins:=ws.map wrI++(cmpN (srtN (ws.map fun x=>lineS x.1))).map flI++ [⟨3,0,0⟩]
theorem cmpN_le (l:List Nat):(cmpN l).length≤l.length:=kpN_le _ _
theorem srtN_perm (l:List Nat):(srtN l).Perm l:=by
 have:=(Go.Sort.sort_sorts ltN ltN_swo l.toArray).1
 have h3:=this.2.2
 have h1:=this.1
 unfold srtN
 rw [Array.extract_eq_self_of_le (by rw [h1];exact Nat.le_refl _)] at h3
 rw [Array.extract_eq_self_of_le (Nat.le_refl _)] at h3
 simpa using h3
theorem srtN_length (l:List Nat):(srtN l).length=l.length:=(srtN_perm l).length_eq
theorem storesI_le (ws:List (Nat×Nat)):(storesI ws).length≤2*ws.length+1:=by
 have:=cmpN_le (srtN (ws.map fun x=>lineS x.1))
 rw [srtN_length] at this
 simp only [storesI,List.length_append,List.length_map,List.length_singleton] at this ⊢
 omega
def NewV (n:Nat) (v:Value):Prop:=∀b,v.ownBlock=some b→n≤b
abbrev Nob:Nat→Prop:=fun _=>False
section
variable {w w':World}
theorem app_new {t tx e ty:TypeId} {z bytes:Nat} {zv:Value} (E:ElT prog t tx e z bytes zv) {cs:Array Bool} {w0 w:World} {v:Value} {n:Nat} {L:List Value} (hv:SlO w e z v n L) (hf:Frm Nob w0 w) (hn:NewV w0.heap.size v)
  {xb xo m c:Nat} {news:List Value} (hl:news.length=m*z) (hx:∀j u,news[j]? =some u→w.cell? ⟨xb,xo+j,none⟩=some u) (h1:allOne news=true) (hm:0<m) (hb:(n+m)*bytes≤140737488355328) (hm':n+m<9223372036854775807) {k:K1}
  (h:∀v' w',SlO w' e z v' (n+m) (L++news)→Frm Nob w0 w'→NewV w0.heap.size v'→Frm (fun b=>v.ownBlock=some b) w w'→(∀b,v'.ownBlock=some b→v.ownBlock=some b∨w.heap.size≤b)→k v' w'):
  bltS prog .append #[t,tx] ty cs #[v,.slice (some ⟨xb,xo,none⟩) m c] w k:=by
 refine blt_append E hv hl hx h1 hm hb hm' (fun v' w' hs hfr hb2 _=> ?_)
 refine h v' w' hs (hf.trans hfr (fun x hx e=>by have:=hn x e;omega)) ?_ hfr hb2
 intro b hb3
 rcases hb2 b hb3 with e|e
 ·exact hn b e
 ·exact Nat.le_trans hf.size e
theorem Ar.of_heap {b o:Nat} {d:Array Nat} (h:Ar w b o d) (e:w'.heap[b]? =w.heap[b]?):Ar w' b o d:=by
 obtain ⟨a,h,h2⟩:=h;exact ⟨a,e.trans h,h2⟩
theorem Ar.of_sl {q o cap n:Nat} {l:List Nat} (h:SlO w 30 1 (.slice (some ⟨q,o,none⟩) n cap) n (l.map u64)):Ar w q o l.toArray:=by
 have hl:l.length=n:=by have:=h.1;simpa using this
 rcases h.2 with ⟨e,_⟩|⟨b,o',c,a,e,hh,h1,h2,h3,h4⟩
 ·cases e
 ·injection e with e1 e2 e3
  injection e1 with e1;injection e1 with e4 e5 e6
  subst e4;subst e5;subst e3
  refine ⟨a,hh,by simp;omega,fun i hi=> ?_⟩
  simp only [List.size_toArray] at hi
  have:=h4 i (u64 l[i]) (by simp [List.getElem?_eq_getElem hi])
  rw [this];simp [hi,u64]
theorem isOne_sl {t:TypeId} {z n:Nat} {v:Value} {L:List Value} (h:SlO w t z v n L):isOne v=true:=by
 rcases h.2 with ⟨rfl,_⟩|⟨_,_,_,_,rfl,_⟩<;>rfl
theorem k_Stores (ws:List (Nat×Nat)) (v:Value) (hS:SlO w 80 2 v ws.length (wrL ws)) (h0:0<ws.length) (hl:ws.length<1073741824) (hw:∀x∈ws,x.1<18446744073709551616) (K:K1)
  (hK:∀v' w',SlO w' 176 3 v' (storesI ws).length (inL (storesI ws))→Ext w w'→NewV w.heap.size v'→K v' w'):callS prog 101 #[v] w K:=by
 obtain ⟨sb,so,scap,rfl,hsc⟩:=hS.isS h0
 refine f101_call _ _ _ ?_
 unfold f101_t
 have hmk:∀K:K1,ev prog (Instr.makeSlice 39 (.int .i64 0) (.int .i64 (ws.length:Int))) w K=K (.slice (some ⟨w.heap.size,0,none⟩) 0 ws.length) (w.alloc (.cells (zrow (.int .u64 0) (ws.length*1)) 30)):=fun K=>by
  have:=ev_make el_39_39 0 (ws.length:Int) w K (by omega) (by omega) (by omega) (by omega)
  simpa using this
 simp (disch:=first|omega|simp only [RO]|(simp only [RZ]<;>omega)|fail) only [↓RBp,↓RA,↓reduceIte,Nat.reduceAdd,Nat.reduceMul,Nat.reduceEqDiff,RB,RX,RA2,hmk]
 apply f101_l1_rule (I:=fun x y z w'=>∃(i:Nat),z= .int .i64 (i:Int)∧i≤ws.length∧SlO w' 176 3 x i (inL ((ws.take i).map wrI))∧SlO w' 30 1 y i (((ws.take i).map fun x=>lineS x.1).map u64)∧Frm Nob w w'∧NewV w.heap.size x∧NewV w.heap.size y∧(∀b,x.ownBlock=some b→y.ownBlock≠some b)) (μ:=fun _ _ z _=>ws.length-(intOf z).toNat)
 ·refine ⟨0,rfl,by omega,SlO.nil _ _ _,?_,Frm.of_ext (Ext.alloc_self _ _),?_,?_,?_⟩
  ·have:=zrow_sl w (.int .u64 0) ws.length 1 30 (by simp only [maxLen];omega)
   rw [Nat.mul_one] at this;exact this
  ·intro b hb;cases hb
  ·intro b hb;injection hb with hb;subst hb;exact Nat.le_refl _
  ·intro b hb;cases hb
 ·intros;rename_i w2 hI E1 hE
  obtain ⟨i,rfl,hi,sp,sl',hf,np,nl,hd⟩:=hI
  obtain ⟨pa,pc,rfl,hpc⟩:=sp.isS'
  obtain ⟨la,lc,rfl,hlc⟩:=sl'.isS'
  unfold f101_l1_t
  by_cases hik:i<ws.length
  ·obtain ⟨x,hx⟩:∃x,ws[i]? =some x:=⟨_,List.getElem?_eq_getElem hik⟩
   have hxw:=hw x (List.mem_of_getElem? hx)
   obtain ⟨xo,xv⟩:=x
   have hg:=wrL_get _ _ _ hx
   have hS2:=hS.frm hf (fun _ _ h=>h)
   have c1:=hS2.cell rfl hg.1
   have c2:=hS2.cell rfl hg.2
   rw [←Nat.add_assoc] at c2
   have lt:=hS2.lt rfl
   simp (disch:=first|omega|simp only [RO]|(simp only [RZ]<;>omega)|fail) only [↓RBp,↓RA,↓reduceIte,Nat.reduceAdd,Nat.reduceMul,Nat.reduceEqDiff,RB,RX,RA2,c1,c2]
   have et:ws.take (i+1)=ws.take i++ [(xo,xv)]:=take_snoc' hx
   refine app_new el_132_132 (w0:=w) (sp.ext (by repeat (first|(with_reducible first|refine eB ?_ _|assumption|exact eR _|refine eA ?_ _|refine eD ?_|refine eT ?_ (by assumption))|exact eR _))) (hf.ext (by repeat (first|(with_reducible first|refine eB ?_ _|assumption|exact eR _|refine eA ?_ _|refine eD ?_|refine eT ?_ (by assumption))|exact eR _))) np (news:=inL [wrI (xo,xv)]) (by simp [inL]) ?_ rfl (by omega) (by omega) (by omega) (fun vp' w3 hsp hf3 np' hfr hb3=> ?_)
   ·intro j u hj
    rw [Nat.zero_add,cell_new _ _ _ _ _ (by simp only [RZ])]
    simpa [inL,wrI] using hj
   obtain ⟨pa',pc',rfl,hpc'⟩:=hsp.isS'
   have ltp:∀b,(Value.slice pa i pc).ownBlock=some b→b<w2.heap.size:=fun b hb=>sp.lt hb
   have c3:w3.cell? ⟨w2.heap.size,0,none⟩=some (.int .u64 (xo:Int)):=by
    rw [hfr.cell _ _ (by simp only [RZ];omega) (fun e=>by have:=ltp _ e;omega),cell_old _ _ _ _ (by simp only [RZ];omega),cell_new _ _ _ _ _ rfl];rfl
   have lt3:w2.heap.size<w3.heap.size:=by have:=hfr.size;simp only [RZ] at this;omega
   have sl3:SlO w3 30 1 (.slice la i lc) i (((ws.take i).map fun x=>lineS x.1).map u64):=(sl'.ext (by repeat (first|(with_reducible first|refine eB ?_ _|assumption|exact eR _|refine eA ?_ _|refine eD ?_|refine eT ?_ (by assumption))|exact eR _))).frm hfr (fun b hb e=>hd b e hb)
   simp (disch:=first|omega|simp only [RO]|(simp only [RZ]<;>omega)|fail) only [↓RBp,↓RA,↓reduceIte,Nat.reduceAdd,Nat.reduceMul,Nat.reduceEqDiff,RB,RX,RA2,c3,c_start]
   have hdl:∀b,(Value.slice pa' (i+1) pc').ownBlock=some b→(Value.slice la i lc).ownBlock≠some b:=by
    intro b hb e
    rcases hb3 b hb with h1|h1
    ·exact hd b h1 e
    ·have:=sl'.lt e;simp only [RZ] at h1;omega
   refine app_new el_39_39 (w0:=w) (sl3.ext (by repeat (first|(with_reducible first|refine eB ?_ _|assumption|exact eR _|refine eA ?_ _|refine eD ?_|refine eT ?_ (by assumption))|exact eR _))) (hf3.ext (by repeat (first|(with_reducible first|refine eB ?_ _|assumption|exact eR _|refine eA ?_ _|refine eD ?_|refine eT ?_ (by assumption))|exact eR _))) nl (news:= [u64 (lineS xo)]) (by simp) ?_ rfl (by omega) (by omega) (by omega) (fun vl' w4 hsl hf4 nl' hfr4 hb4=> ?_)
   ·intro j u hj
    rw [Nat.zero_add,cell_new _ _ _ _ _ (by simp only [RZ])]
    simpa [u64,lineS] using hj
   obtain ⟨la',lc',rfl,hlc'⟩:=hsl.isS'
   simp (disch:=first|omega|simp only [RO]|(simp only [RZ]<;>omega)|fail) only [↓RBp,↓RA,↓reduceIte,Nat.reduceAdd,Nat.reduceMul,Nat.reduceEqDiff,RB,RX,RA2]
   apply hE
   ·refine ⟨i+1,by simp,by omega,?_,?_,hf4,np',nl',?_⟩
    ·rw [et,List.map_append,inL_append]
     exact (hsp.ext (by repeat (first|(with_reducible first|refine eB ?_ _|assumption|exact eR _|refine eA ?_ _|refine eD ?_|refine eT ?_ (by assumption))|exact eR _))).frm hfr4 (fun b hb e=>hdl b hb e)
    ·rw [et];simpa using hsl
    ·intro b hb e
     rcases hb4 b e with h1|h1
     ·exact hdl b hb h1
     ·have:=hsp.lt hb;simp only [RZ] at h1;omega
   ·simp [intOf];omega
  ·have:i=ws.length:=by omega
   subst this
   rw [List.take_length] at sp sl'
   obtain ⟨q,o,cap,ev,hc⟩:=sl'.isS h0
   injection ev with e1 _ e3;subst e1;subst e3
   have ar:=Ar.of_sl sl'
   have hsz:(List.map (fun x:Nat×Nat=>lineS x.1) ws).toArray.size=ws.length:=by simp
   generalize hls:(List.map (fun x:Nat×Nat=>lineS x.1) ws)=ls at*
   have hqp:(Value.slice pa ws.length pc).ownBlock≠some q:=fun e=>hd q e rfl
   have hqn:=nl q rfl
   simp (disch:=first|omega|simp only [RO]|(simp only [RZ]<;>omega)|fail) only [↓RBp,↓RA,↓reduceIte,Nat.reduceAdd,Nat.reduceMul,Nat.reduceEqDiff,RB,RX,RA2,f101_k1_eq,f101_k1_t]
   rw [←hsz]
   refine k_Sort ar (by omega) _ (fun w3 sw3 hz3=> ?_)
   rw [←hz3]
   try simp (disch:=first|omega|simp only [RO]|(simp only [RZ]<;>omega)|fail) only [↓RBp,↓RA,↓reduceIte,Nat.reduceAdd,Nat.reduceMul,Nat.reduceEqDiff,RB,RX,RA2]
   refine k_Compact sw3.ar (by omega) (by omega) (by omega) _ (fun w4 ar4 fr4=> ?_)
   have hkp:kpN (Go.Sort.sort ltN ls.toArray) (Go.Sort.sort ltN ls.toArray).size=cmpN (srtN ls):=by
    unfold cmpN srtN;simp
   rw [hkp] at ar4 ⊢
   rw [hz3.trans hsz]
   have hcl:(cmpN (srtN ls)).length≤ws.length:=by
    have h1:=cmpN_le (srtN ls);rw [srtN_length] at h1;simp at hsz;omega
   have hst:storesI ws=ws.map wrI++(cmpN (srtN ls)).map flI++ [⟨3,0,0⟩]:=by unfold storesI;rw [hls]
   have fq:Frm (fun x=>x=q) w2 w4:=sw3.frm.trans fr4 (fun _ _ h=>h)
   have f4:Frm Nob w w4:=hf.trans fq (fun x hx e=>by omega)
   have sp4:SlO w4 176 3 (.slice pa ws.length pc) ws.length (inL (ws.map wrI)):=sp.frm fq (fun b hb e=>hqp (by rw [hb,e]))
   generalize hcs:cmpN (srtN ls)=cs at*
   simp (disch:=first|omega|simp only [RO]|(simp only [RZ]<;>omega)|fail) only [↓RBp,↓RA,↓reduceIte,Nat.reduceAdd,Nat.reduceMul,Nat.reduceEqDiff,RB,RX,RA2]
   apply f101_l2_rule (I:=fun x z w'=>∃(j:Nat),z= .int .i64 (j:Int)∧j≤cs.length∧SlO w' 176 3 x (ws.length+j) (inL (ws.map wrI++(cs.take j).map flI))∧Frm Nob w w'∧NewV w.heap.size x∧x.ownBlock≠some q∧Ar w' q o cs.toArray) (μ:=fun _ z _=>cs.length-(intOf z).toNat)
   ·exact ⟨0,rfl,by omega,by simpa using sp4,f4,np,hqp,ar4⟩
   ·intros;rename_i w5 hI2 E2 hE2
    obtain ⟨j,rfl,hj,sp5,f5,np5,hq5,ar5⟩:=hI2
    obtain ⟨pa5,pc5,rfl,hpc5⟩:=sp5.isS'
    unfold f101_l2_t
    by_cases hjk:j<cs.length
    ·have c1:=ar5.cell j (by simpa using hjk)
     have c1':(cs.toArray)[j]! =cs[j]:=by simp [hjk]
     rw [c1'] at c1
     have ltq:=ar5.lt
     simp (disch:=first|omega|simp only [RO]|(simp only [RZ]<;>omega)|fail) only [↓RBp,↓RA,↓reduceIte,Nat.reduceAdd,Nat.reduceMul,Nat.reduceEqDiff,RB,RX,RA2,c1]
     refine app_new el_132_132 (w0:=w) (sp5.ext (by repeat (first|(with_reducible first|refine eB ?_ _|assumption|exact eR _|refine eA ?_ _|refine eD ?_|refine eT ?_ (by assumption))|exact eR _))) (f5.ext (by repeat (first|(with_reducible first|refine eB ?_ _|assumption|exact eR _|refine eA ?_ _|refine eD ?_|refine eT ?_ (by assumption))|exact eR _))) np5 (news:=inL [flI cs[j]]) (by simp [inL]) ?_ rfl (by omega) (by omega) (by omega) (fun vp' w6 hsp hf6 np' hfr hb6=> ?_)
     ·intro j u hj
      rw [Nat.zero_add,cell_new _ _ _ _ _ (by simp only [RZ])]
      simpa [inL,flI] using hj
     have et:cs.take (j+1)=cs.take j++ [cs[j]]:=take_snoc' (List.getElem?_eq_getElem hjk)
     simp (disch:=first|omega|simp only [RO]|(simp only [RZ]<;>omega)|fail) only [↓RBp,↓RA,↓reduceIte,Nat.reduceAdd,Nat.reduceMul,Nat.reduceEqDiff,RB,RX,RA2]
     apply hE2
     ·refine ⟨j+1,by simp,by omega,?_,hf6,np',?_,?_⟩
      ·rw [et,List.map_append,←List.append_assoc,inL_append,←Nat.add_assoc];exact hsp
      ·intro e
       rcases hb6 q e with h1|h1
       ·exact hq5 h1
       ·simp only [RZ] at h1;omega
      ·exact (ar5.of_heap (heap_alloc_lt _ ltq)).frm hfr (fun e=>hq5 e)
     ·simp [intOf];omega
    ·have:j=cs.length:=by omega
     subst this
     rw [List.take_length] at sp5
     simp (disch:=first|omega|simp only [RO]|(simp only [RZ]<;>omega)|fail) only [↓RBp,↓RA,↓reduceIte,Nat.reduceAdd,Nat.reduceMul,Nat.reduceEqDiff,RB,RX,RA2,f101_k2_eq,f101_k2_t]
     refine app_new el_132_132 (w0:=w) (sp5.ext (by repeat (first|(with_reducible first|refine eB ?_ _|assumption|exact eR _|refine eA ?_ _|refine eD ?_|refine eT ?_ (by assumption))|exact eR _))) (f5.ext (by repeat (first|(with_reducible first|refine eB ?_ _|assumption|exact eR _|refine eA ?_ _|refine eD ?_|refine eT ?_ (by assumption))|exact eR _))) np5 (news:=inL [⟨3,0,0⟩]) (by simp [inL]) ?_ rfl (by omega) (by omega) (by omega) (fun vp' w6 hsp hf6 np' hfr hb6=> ?_)
     ·intro j u hj
      rw [Nat.zero_add,cell_new _ _ _ _ _ (by simp only [RZ])]
      simpa [inL] using hj
     rw [←inL_append,←hst] at hsp
     have hln:ws.length+cs.length+1=(storesI ws).length:=by rw [hst];simp [Nat.add_assoc]
     rw [hln] at hsp
     exact hK _ _ hsp (hf6.to_ext (fun _ _ h=>h)) np'
end
theorem run_hi_nil {P:Program} {t e:TypeId} {z bytes:Nat} {zv:Value} (E:ElT P t t e z bytes zv) (k:IntKind) (w:World):(Instr.sliceAt t (.slice none 0 0) none (some (.int k ((0:Nat):Int))) none).run P w= .ok (.slice none 0 0) w:=by
 obtain ⟨i,hi,rfl,hz,rfl⟩:=E.info
 have hb:(Instr.sliceBounds true 0 0 none (some (.int k ((0:Nat):Int))) none).run P w= .ok (0,0,0) w:=by
  have:=fun c=>run_bound (P:=P) k 0 0 c w (Nat.le_refl _)
  simp only [Int.ofNat_eq_natCast,Int.cast_ofNat_Int] at this
  simp [Instr.sliceBounds,this]
 simp only [Instr.sliceAt,Sem.run_bind,run_underlying_some E.un,Result.andThen_ok,Instr.slice,hb]
 simp only [sizeOf,typeInfo,Sem.run_bind,program,Sem.run,hi,Result.andThen_ok,Sem.run_pure,Option.map_none]
 simp
theorem run_hi0 {P:Program} {t e:TypeId} {z bytes:Nat} {zv:Value} (E:ElT P t t e z bytes zv) (b o len cap:Nat) (w:World) (k:K1):ev P (Instr.sliceAt t (.slice (some ⟨b,o,none⟩) len cap) none (some (.int .i64 ((0:Nat):Int))) none) w k=k (.slice (some ⟨b,o,none⟩) 0 cap) w:=ev_of_run (run_hi E b o len cap .i64 0 w (by omega)) k
section
variable {w w':World}
theorem elPZ:ElT prog 132 132 176 3 24 (.agg #[.int .u8 0,.int .u64 0,.int .u64 0]):=el_132_132
theorem k_Grow (m:Nat) (hm:0<m) (hm2:m<1099511627776) (K:K1) (hK:∀c w',Ext w w'→SlO w' 176 3 (.slice (some ⟨w.heap.size,0,none⟩) 0 c) 0 []→m≤c→K (.slice (some ⟨w.heap.size,0,none⟩) 0 c) w'):
  callS prog 127 #[.slice none 0 0,.int .i64 (m:Int)] w K:=by
 refine f127_call _ _ _ _ ?_
 unfold f127_t
 have r1:= @blt_cap prog 132 (by kernel_rfl)
 have r2:∀(w:World) (k:K1),ev prog (Instr.sliceAt 132 (.slice none 0 0) none (some (.int .i64 ((0:Nat):Int))) none) w k=k (.slice none 0 0) w:=fun w k=>ev_of_run (run_hi_nil elPZ .i64 w) k
 have r3:=fun b o len cap w k=> @run_hi0 prog 132 _ _ _ _ elPZ b o len cap w k
 have z0:((0:Nat):Int)-((0:Nat):Int)=0:=rfl
 have z1:(m:Int)-0=(m:Int):=by omega
 simp (disch:=first|omega|simp only [RO]|(simp only [RZ]<;>omega)|fail) only [↓RBp,↓RA,↓reduceIte,Nat.reduceAdd,Nat.reduceMul,Nat.reduceEqDiff,RB,RX,RA2,r1,r2,r3,z0,z1,f127_k1_eq,f127_k1_t,f127_k2_eq,f127_k2_t]
 refine blt_appendZ elPZ (by kernel_rfl) hm (by omega) (by omega) (fun c w' he hs hc=> ?_)
 simp (disch:=first|omega|simp only [RO]|(simp only [RZ]<;>omega)|fail) only [↓RBp,↓RA,↓reduceIte,Nat.reduceAdd,Nat.reduceMul,Nat.reduceEqDiff,RB,RX,RA2,r1,r2,r3,z0,z1,f127_k2_eq,f127_k2_t]
 exact hK c w' he hs hc
theorem allOne_inL (l:List Ins):allOne (inL l)=true:=by
 induction l with
 |nil=>rfl
 |cons a l ih=>simp [inL,allOne,isOne,ih]
theorem k_Then (p q:List Ins) (v u:Value) (hp:SlO w 176 3 v p.length (inL p)) (hq:SlO w 176 3 u q.length (inL q)) (h1:0<p.length) (h2:0<q.length) (h3:p.length<1073741824) (h4:q.length<1073741824) (K:K1)
  (hK:∀v' w',SlO w' 176 3 v' (p++q).length (inL (p++q))→Ext w w'→NewV w.heap.size v'→K v' w'):callS prog 103 #[v,u] w K:=by
 obtain ⟨pb,po,pc,rfl,hpc⟩:=hp.isS h1
 obtain ⟨qb,qo,qc,rfl,hqc⟩:=hq.isS h2
 refine f103_call _ _ _ _ ?_
 unfold f103_t
 simp (disch:=first|omega|simp only [RO]|(simp only [RZ]<;>omega)|fail) only [↓RBp,↓RA,↓reduceIte,Nat.reduceAdd,Nat.reduceMul,Nat.reduceEqDiff,RB,RX,RA2]
 refine f120_call _ _ _ ?_
 unfold f120_t
 simp (disch:=first|omega|simp only [RO]|(simp only [RZ]<;>omega)|fail) only [↓RBp,↓RA,↓reduceIte,Nat.reduceAdd,Nat.reduceMul,Nat.reduceEqDiff,RB,RX,RA2]
 have d1:∀(w':World),Ext (w.alloc (.cells #[.slice (some ⟨pb,po,none⟩) p.length pc,.slice (some ⟨qb,qo,none⟩) q.length qc] 132)) w'→w'.cell? ⟨w.heap.size,0,none⟩=some (.slice (some ⟨pb,po,none⟩) p.length pc)∧w'.cell? ⟨w.heap.size,1,none⟩=some (.slice (some ⟨qb,qo,none⟩) q.length qc):=by
  intro w' he
  constructor
  ·rw [he.cell _ _ (by simp only [RZ];omega),cell_new _ _ _ _ _ rfl];rfl
  ·rw [he.cell _ _ (by simp only [RZ];omega),cell_new _ _ _ _ _ rfl];rfl
 generalize hw1:w.alloc (.cells #[.slice (some ⟨pb,po,none⟩) p.length pc,.slice (some ⟨qb,qo,none⟩) q.length qc] 132)=w1 at*
 have e1:Ext w w1:=by rw [←hw1];exact Ext.alloc_self _ _
 apply f120_l1_rule (I:=fun x z w'=>w'=w1∧∃i:Nat,z= .int .i64 (i:Int)∧i≤2∧x= .int .i64 (((if i=0 then 0 else if i=1 then p.length else p.length+q.length:Nat)):Int)) (μ:=fun _ z _=>2-(intOf z).toNat)
 ·exact ⟨rfl,0,rfl,by omega,rfl⟩
 ·intros;rename_i w2 hI E1 hE
  obtain ⟨rfl,i,rfl,hi,hx⟩:=hI
  obtain ⟨c0,c1⟩:=d1 w2 (Ext.refl _)
  have hcs:i=0∨i=1∨i=2:=by omega
  rcases hcs with rfl|rfl|rfl
  ·simp only [↓reduceIte] at hx
   subst hx
   unfold f120_l1_t
   simp (disch:=first|omega|simp only [RO]|(simp only [RZ]<;>omega)|fail) only [↓RBp,↓RA,↓reduceIte,Nat.reduceAdd,Nat.reduceMul,Nat.reduceEqDiff,RB,RX,RA2,c0,f120_k3_eq,f120_k3_t]
   apply hE
   ·exact ⟨rfl,1,rfl,by omega,by simp⟩
   ·simp [intOf]
  ·simp only [↓reduceIte,Nat.one_ne_zero] at hx
   subst hx
   unfold f120_l1_t
   simp (disch:=first|omega|simp only [RO]|(simp only [RZ]<;>omega)|fail) only [↓RBp,↓RA,↓reduceIte,Nat.reduceAdd,Nat.reduceMul,Nat.reduceEqDiff,RB,RX,RA2,c1,f120_k3_eq,f120_k3_t]
   apply hE
   ·exact ⟨rfl,2,rfl,by omega,by simp⟩
   ·simp [intOf]
  ·simp only [↓reduceIte,Nat.reduceEqDiff] at hx
   subst hx
   unfold f120_l1_t
   have gg:∀K':K1,(∀c w',Ext w2 w'→SlO w' 176 3 (.slice (some ⟨w2.heap.size,0,none⟩) 0 c) 0 []→p.length+q.length≤c→K' (.slice (some ⟨w2.heap.size,0,none⟩) 0 c) w')→callS prog 127 #[.slice none 0 0,.int .i64 ((p.length+q.length:Nat):Int)] w2 K':=fun K' h=>k_Grow (p.length+q.length) (by omega) (by omega) K' h
   simp (disch:=first|omega|simp only [RO]|(simp only [RZ]<;>omega)|fail) only [↓RBp,↓RA,↓reduceIte,Nat.reduceAdd,Nat.reduceMul,Nat.reduceEqDiff,RB,RX,RA2,f120_k1_eq,f120_k1_t]
   refine gg _ (fun c w3 he3 hs3 hc3=> ?_)
   simp (disch:=first|omega|simp only [RO]|(simp only [RZ]<;>omega)|fail) only [↓RBp,↓RA,↓reduceIte,Nat.reduceAdd,Nat.reduceMul,Nat.reduceEqDiff,RB,RX,RA2]
   have ap:∀i,i≤2→(if i=0 then [] else if i=1 then p else p++q:List Ins).length=if i=0 then 0 else if i=1 then p.length else p.length+q.length:=by
    intro i hi
    split
    ·rfl
    ·split<;>simp
   apply f120_l2_rule (I:=fun x z w'=>∃i:Nat,z= .int .i64 (i:Int)∧i≤2∧SlO w' 176 3 x (if i=0 then [] else if i=1 then p else p++q:List Ins).length (inL (if i=0 then [] else if i=1 then p else p++q))∧Frm Nob w2 w'∧NewV w2.heap.size x) (μ:=fun _ z _=>2-(intOf z).toNat)
   ·refine ⟨0,rfl,by omega,hs3,Frm.of_ext he3,?_⟩
    intro b hb;injection hb with hb;subst hb;exact Nat.le_refl _
   ·intros;rename_i w4 hI4 E4 hE4
    obtain ⟨i,rfl,hi,s4,f4,n4⟩:=hI4
    unfold f120_l2_t
    have e4:Ext w2 w4:=f4.to_ext (fun _ _ h=>h)
    obtain ⟨c0,c1⟩:=d1 w4 e4
    obtain ⟨xa,xc,rfl,hxc⟩:=s4.isS'
    have hcs:i=0∨i=1∨i=2:=by omega
    rcases hcs with rfl|rfl|rfl
    ·simp only [↓reduceIte,List.length_nil] at s4 ⊢
     simp (disch:=first|omega|simp only [RO]|(simp only [RZ]<;>omega)|fail) only [↓RBp,↓RA,↓reduceIte,Nat.reduceAdd,Nat.reduceMul,Nat.reduceEqDiff,RB,RX,RA2,c0]
     refine app_new elPZ (w0:=w2) s4 f4 n4 (news:=inL p) (inL_length p) (fun j u hj=>(hp.ext (e1.trans e4)).cell rfl hj) (allOne_inL p) h1 (by omega) (by omega) (fun v' w5 s5 f5 n5 _ _=> ?_)
     simp (disch:=first|omega|simp only [RO]|(simp only [RZ]<;>omega)|fail) only [↓RBp,↓RA,↓reduceIte,Nat.reduceAdd,Nat.reduceMul,Nat.reduceEqDiff,RB,RX,RA2]
     apply hE4
     ·exact ⟨1,rfl,by omega,by simpa [inL] using s5,f5,n5⟩
     ·simp [intOf]
    ·simp only [↓reduceIte,Nat.one_ne_zero] at s4 ⊢
     simp (disch:=first|omega|simp only [RO]|(simp only [RZ]<;>omega)|fail) only [↓RBp,↓RA,↓reduceIte,Nat.reduceAdd,Nat.reduceMul,Nat.reduceEqDiff,RB,RX,RA2,c1]
     refine app_new elPZ (w0:=w2) s4 f4 n4 (news:=inL q) (inL_length q) (fun j u hj=>(hq.ext (e1.trans e4)).cell rfl hj) (allOne_inL q) h2 (by omega) (by omega) (fun v' w5 s5 f5 n5 _ _=> ?_)
     simp (disch:=first|omega|simp only [RO]|(simp only [RZ]<;>omega)|fail) only [↓RBp,↓RA,↓reduceIte,Nat.reduceAdd,Nat.reduceMul,Nat.reduceEqDiff,RB,RX,RA2]
     apply hE4
     ·refine ⟨2,rfl,by omega,?_,f5,n5⟩
      simp only [Nat.reduceEqDiff,if_false,List.length_append,inL_append]
      exact s5
     ·simp [intOf]
    ·simp only [↓reduceIte,Nat.reduceEqDiff] at s4 ⊢
     simp (disch:=first|omega|simp only [RO]|(simp only [RZ]<;>omega)|fail) only [↓RBp,↓RA,↓reduceIte,Nat.reduceAdd,Nat.reduceMul,Nat.reduceEqDiff,RB,RX,RA2,f120_k2_eq,f120_k2_t]
     refine hK _ _ s4 (e1.trans e4) (fun b hb=>Nat.le_trans e1.size (n4 b hb))
end
theorem Glob.ext {w w':World} (h:Glob w) (e:Ext w w'):Glob w':=⟨fun i hi=>e.cell_some (h.pay i hi),fun i hi=>e.cell_some (h.nib i hi)⟩
def Row (w:World) (b o:Nat) (l:List Value):Prop:=∀i v,l[i]? =some v→w.cell? ⟨b,o+i,none⟩=some v
theorem Row.ext {w w':World} {b o:Nat} {l:List Value} (h:Row w b o l) (e:Ext w w'):Row w' b o l:=fun i v hv=>e.cell_some (h i v hv)
def u8s (l:List Nat):List Value:=l.map fun (n:Nat)=>Value.int .u8 (n:Int)
theorem u8s_get {l:List Nat} {k:Nat} (h:k<l.length):(u8s l)[k]? =some (.int .u8 ((l.getD k 0:Nat):Int)):=by
 simp [u8s,List.getElem?_map,List.getElem?_eq_getElem h,List.getD_eq_getElem?_getD]
theorem take_snoc {l:List Nat} {k:Nat} (h:k<l.length):l.take (k+1)=l.take k++ [l.getD k 0]:=by
 rw [List.take_succ_eq_append_getElem h];simp [List.getD_eq_getElem?_getD,List.getElem?_eq_getElem h]
theorem c_possible (line:Int) (w:World) (K:K1):callS prog 97 #[.int .i64 line] w K=K (.bool (decide (0≤line)&&decide (line≤4064))) w:=by
 refine callS_det (by kernel_rfl) (f97_call _ _ _ ?_) K
 unfold f97_t
 by_cases h0:0≤line
 ·by_cases h1:line≤4064
  ·simp (disch:=first|omega|simp only [RO]|(simp only [RZ]<;>omega)|fail) only [↓RA,↓reduceIte,Nat.reduceAdd,Nat.reduceMul,Nat.reduceEqDiff,RB]
  ·simp (disch:=first|omega|simp only [RO]|(simp only [RZ]<;>omega)|fail) only [↓RA,↓reduceIte,Nat.reduceAdd,Nat.reduceMul,Nat.reduceEqDiff,RB]
 ·simp (disch:=first|omega|simp only [RO]|(simp only [RZ]<;>omega)|fail) only [↓RA,↓reduceIte,Nat.reduceAdd,Nat.reduceMul,Nat.reduceEqDiff,RB]
theorem c_line (line:Int) (w:World) (K:K1) (h0:0≤line) (h1:line<144115188075855872):callS prog 86 #[.int .i64 line] w K=K (.int .u64 ((line.toNat*64:Nat):Int)) w:=by
 refine callS_det (by kernel_rfl) (f86_call _ _ _ ?_) K
 unfold f86_t
 simp (disch:=first|omega|simp only [RO]|(simp only [RZ]<;>omega)|fail) only [↓RA,↓reduceIte,Nat.reduceAdd,Nat.reduceMul,Nat.reduceEqDiff,RB]
def offS (c i:Int):Int:=8+i*(wordsS c+1)
theorem perS_in {c:Int} (h0:0≤c) (h1:c<5):perS c=248/(wordsS c+1)∧4≤perS c∧perS c≤62:=by
 have hw:=wordsS_in h0 h1
 have e:perS c=248/(wordsS c+1):=by unfold perS;rw [if_neg (by omega)]
 refine ⟨e,?_⟩
 have:c=0∨c=1∨c=2∨c=3∨c=4:=by omega
 rcases this with rfl|rfl|rfl|rfl|rfl<;>(rw [e,hw.1];decide)
theorem offS_bd {c i:Int} (h0:0≤c) (h1:c<5) (hi:0≤i) (hi':i<perS c):8≤offS c i∧offS c i+wordsS c<256:=by
 have hp:=perS_in h0 h1
 have hw:=wordsS_in h0 h1
 unfold offS
 have:c=0∨c=1∨c=2∨c=3∨c=4:=by omega
 rcases this with rfl|rfl|rfl|rfl|rfl<;>(rw [hp.1,hw.1] at hi';rw [hw.1];simp [payN] at hi' ⊢;omega)
theorem c_Offset (c i:Int) (w:World) (K:K1) (hG:Glob w) (h0:0≤c) (h1:c<5) (hi:0≤i) (hi':i<perS c):callS prog 100 #[.int .i64 c,.int .i64 i] w K=K (.tuple #[.int .i64 (offS c i),.int .i64 0]) w:=by
 refine callS_det (by kernel_rfl) (f100_call _ _ _ _ ?_) K
 unfold f100_t
 have hp:=perS_in h0 h1
 have hw:=wordsS_in h0 h1
 have hb:=offS_bd h0 h1 hi hi'
 have hm:0≤i*(wordsS c+1)∧i*(wordsS c+1)≤256:=by unfold offS at hb;omega
 unfold offS
 simp (disch:=first|omega|simp only [RO]|(simp only [RZ]<;>omega)|fail) only [↓RA,↓reduceIte,Nat.reduceAdd,Nat.reduceMul,Nat.reduceEqDiff,RB,c_PerChunk c w _ hG,hG.pay,←hw.1]
theorem c_step (r b:Nat) (w:World) (K:K1) (hG:Glob w) (hr:r<4294967296) (hb:b<256):callS prog 142 #[.int .u32 r,.int .u8 b] w K=K (.int .u32 ((stepN r b:Nat):Int)) w:=by
 refine callS_det (by kernel_rfl) (f142_call _ _ _ _ ?_) K
 unfold f142_t
 have h1:r^^^b<4294967296:=Nat.xor_lt_two_pow (n:=32) hr (by omega)
 have hm:∀x:Nat,x&&&15=x%16:=fun x=>Nat.and_two_pow_sub_one_eq_mod x 4
 have h2:nb (r^^^b)<4294967296:=nb_lt _ h1
 have e2:(r^^^b)/2^4^^^nibN ((r^^^b)%16)=nb (r^^^b):=rfl
 have e3:nb (r^^^b)/2^4^^^nibN (nb (r^^^b)%16)=stepN r b:=rfl
 have n1:=nibN_lt ((r^^^b)%16)
 have n2:=nibN_lt (nb (r^^^b)%16)
 simp (disch:=first|omega|simp only [RO]|(simp only [RZ]<;>omega)|fail) only [↓RA,↓reduceIte,Nat.reduceAdd,Nat.reduceMul,Nat.reduceEqDiff,RB,hm,hG.nib,e2,e3]
theorem foldl_lt:∀(l:List Nat) (r:Nat),r<4294967296→(∀x∈l,x<256)→l.foldl stepN r<4294967296:=by
 intro l
 induction l with
 |nil=>intro r h _;exact h
 |cons x l ih=>intro r h hl;exact ih _ (stepN_lt r x h (hl x List.mem_cons_self)) (fun y hy=>hl y (List.mem_cons_of_mem _ hy))
theorem c_Update (l:List Nat) (b o cap:Nat) (w:World) (K:K1) (hG:Glob w) (hl:∀x∈l,x<256) (hn:l.length<1000) (hr:Row w b o (u8s l)):callS prog 128 #[.int .u32 ((0:Nat):Int),.slice (some ⟨b,o,none⟩) l.length cap] w K=K (.int .u32 ((sumL l:Nat):Int)) w:=by
 refine callS_det (by kernel_rfl) (f128_call _ _ _ _ ?_) K
 unfold f128_t
 simp (disch:=first|omega|simp only [RO]|(simp only [RZ]<;>omega)|fail) only [↓RA,↓reduceIte,Nat.reduceAdd,Nat.reduceMul,Nat.reduceEqDiff,RB]
 apply f128_l1_rule (I:=fun x5 x12 w'=>∃k:Nat,k≤l.length∧w'=w∧x12= .int .i64 (k:Int)∧x5= .int .u32 (((l.take k).foldl stepN (4294967295^^^0):Nat):Int)) (μ:=fun _ x12 _=>l.length-(intOf x12).toNat)
 ·exact ⟨0,by omega,rfl,rfl,rfl⟩
 ·rintro x5 x12 w' ⟨k,hk,rfl,rfl,rfl⟩ E1 hE
  unfold f128_l1_t
  have hf:(l.take k).foldl stepN (4294967295^^^0)<4294967296:=foldl_lt _ _ (by decide) (fun x hx=>hl x (List.mem_of_mem_take hx))
  by_cases h:k<l.length
  ·have hc:=hr k _ (u8s_get h)
   have hx:l.getD k 0<256:=by
    have:l.getD k 0=l[k]:=by simp [List.getD_eq_getElem?_getD,List.getElem?_eq_getElem h]
    rw [this];exact hl _ (List.getElem_mem h)
   have ht:=take_snoc h
   simp (disch:=first|omega|simp only [RO]|(simp only [RZ]<;>omega)|fail) only [↓RA,↓reduceIte,Nat.reduceAdd,Nat.reduceMul,Nat.reduceEqDiff,RB,hc,c_step _ _ _ _ hG hf hx]
   refine hE _ _ _ ⟨k+1,by omega,rfl,by simp,?_⟩ ?_
   ·rw [ht,List.foldl_append];rfl
   ·simp [intOf];omega
  ·have hk':k=l.length:=by omega
   subst hk'
   simp (disch:=first|omega|simp only [RO]|(simp only [RZ]<;>omega)|fail) only [↓RA,↓reduceIte,Nat.reduceAdd,Nat.reduceMul,Nat.reduceEqDiff,RB,f128_k1_eq]
   unfold f128_k1_t
   rw [List.take_length] at hf ⊢
   simp (disch:=first|omega|simp only [RO]|(simp only [RZ]<;>omega)|fail) only [↓RA,↓reduceIte,Nat.reduceAdd,Nat.reduceMul,Nat.reduceEqDiff,RB,sumL]
theorem Glob.alloc {w:World} (h:Glob w) (o:Obj):Glob (w.alloc o):=h.ext (Ext.alloc_self w o)
theorem Glob.drew {w:World} (h:Glob w):Glob w.drew:=h.ext (Ext.refl w).drew
theorem row_new (w:World) (l:List Value) (t:TypeId):Row (w.alloc (.cells l.toArray t)) w.heap.size 0 l:=by
 intro i v hv
 rw [Nat.zero_add,cell_new _ _ _ _ _ rfl]
 simpa using hv
theorem c_Sum (l:List Nat) (b o cap:Nat) (w:World) (K:K1) (hG:Glob w) (hl:∀x∈l,x<256) (hn:l.length<1000) (hr:Row w b o (u8s l)):callS prog 122 #[.slice (some ⟨b,o,none⟩) l.length cap] w K=K (.int .u32 ((sumL l:Nat):Int)) w:=by
 refine callS_det (by kernel_rfl) (f122_call _ _ _ ?_) K
 unfold f122_t
 simp (disch:=first|omega|simp only [RO]|(simp only [RZ]<;>omega)|fail) only [↓RA,↓reduceIte,Nat.reduceAdd,Nat.reduceMul,Nat.reduceEqDiff,RB,c_Update l b o cap w _ hG hl hn hr]
def bytes4 (x:Nat):List Nat:= [x%256,x/256%256,x/65536%256,x/16777216%256]
theorem or_add {a b k:Nat} (hb:b<2^k):(2^k*a)|||b=2^k*a+b:=(Nat.two_pow_add_eq_or_of_lt hb a).symm
theorem sealN_lt (x:Nat) (h:x<4294967296):sealN x<18446744073709551616:=by have:=sumN_lt x h;unfold sealN;omega
def sealO (x:Nat):Obj:= .cells (u8s (bytes4 x)).toArray 5
theorem c_seal (x:Nat) (w:World) (K:K1) (hG:Glob w) (hx:x<4294967296):callS prog 112 #[.int .u32 x] w K=K (.int .u64 ((sealN x:Nat):Int)) (w.alloc (sealO x)):=by
 refine callS_det (by kernel_rfl) (f112_call _ _ _ ?_) K
 unfold f112_t
 have hs:=sumN_lt x hx
 have e0:x%256<256:=by omega
 have hrow:=row_new w (u8s (bytes4 x)) 5
 have hc:=fun K=>c_Sum (bytes4 x) w.heap.size 0 4 (w.alloc (sealO x)) K (hG.alloc _) (by simp [bytes4];omega) (by simp [bytes4]) hrow
 have e1:sumL (bytes4 x)=sumN x:=sumL_bytes x hx
 have e2:(sumN x*2^32%18446744073709551616|||x)=sealN x:=by
  have:sumN x*2^32%18446744073709551616=2^32*sumN x:=by omega
  rw [this,or_add (by omega)];unfold sealN;omega
 rw [e1] at hc
 have eo:w.alloc (.cells #[.int .u8 ((x%256:Nat):Int),.int .u8 ((x/2^8%256:Nat):Int),.int .u8 ((x/2^16%256:Nat):Int),.int .u8 ((x/2^24%256:Nat):Int)] 5)=w.alloc (sealO x):=rfl
 have el:(bytes4 x).length=4:=rfl
 rw [el] at hc
 simp (disch:=first|omega|simp only [RO]|(simp only [RZ]<;>omega)|fail) only [↓RA,↓reduceIte,Nat.reduceAdd,Nat.reduceMul,Nat.reduceEqDiff,RB,eo,hc,e2]
theorem or16 {g k:Nat} (hg:g<65536) (hk:k<65536):g|||(k*2^16%4294967296)=g+k*65536:=by
 have:k*2^16%4294967296=2^16*k:=by omega
 rw [this,Nat.or_comm,or_add (by omega)];omega
theorem or24 {x s:Nat} (hx:x<16777216) (hs:s<256):x|||(s*2^24%4294967296)=x+s*16777216:=by
 have:s*2^24%4294967296=2^24*s:=by omega
 rw [this,Nat.or_comm,or_add (by omega)];omega
theorem shl16_eq {c:Nat} (h:c<65536):c*2^16%4294967296=c*65536:=by omega
theorem shl20_eq {c:Nat} (h:c<4096):c*2^20%4294967296=c*1048576:=by omega
theorem hd1 {o:Nat} (ho:o<16):3305111552|||o*1048576=1048576*(3152+o):=by
 have:=or_add (a:=197) (b:=o*1048576) (k:=24) (by omega)
 simp only [Nat.reducePow,Nat.reduceMul] at this
 omega
theorem hd2 {o c:Nat} (hc:c<16):1048576*(3152+o)|||c*65536=65536*(50432+o*16+c):=by
 have:=or_add (a:=3152+o) (b:=c*65536) (k:=20) (by omega)
 simp only [Nat.reducePow] at this
 omega
theorem hd3 {x g:Nat} (hg:g<65536):65536*x|||g=65536*x+g:=by
 have:=or_add (a:=x) (b:=g) (k:=16) (by omega)
 simp only [Nat.reducePow] at this
 exact this
theorem hd4 {c o:Nat} (hc:c<16) (ho:o<16):c*65536|||o*1048576<4294967296:=Nat.or_lt_two_pow (n:=32) (by omega) (by omega)
theorem hd_or {g c o:Nat} (hg:g<65536) (hc:c<16) (ho:o<16):(g|||3305111552)|||(c*65536|||o*1048576)=g+c*65536+o*1048576+3305111552:=by
 rw [Nat.or_assoc,Nat.or_comm (c*65536),←Nat.or_assoc 3305111552,hd1 ho,hd2 hc,Nat.or_comm g,hd3 hg]
 omega
theorem hd0 {g:Nat} (hg:g<65536):g|||3305111552=g+3305111552:=by
 have:=or_add (a:=197) (b:=g) (k:=24) (by omega)
 simp only [Nat.reducePow,Nat.reduceMul] at this
 rw [Nat.or_comm,this];omega
theorem hd_or' {g c o:Nat} (hg:g<65536) (hc:c<16) (ho:o<16):(g+3305111552)|||(c*65536|||o*1048576)=g+c*65536+o*1048576+3305111552:=by rw [←hd0 hg];exact hd_or hg hc ho
def blkX (g k s:Nat):Nat:=g+k*65536+s*16777216
def hdX (c o:Int) (g:Nat):Nat:=if 0≤c then g+(c+1).toNat*65536+(o+1).toNat*1048576+3305111552 else g+3305111552
def blkO (g k s:Nat):Obj:= .cells #[.int .u16 (g:Int),.int .u8 (k:Int),.int .u8 (s:Int)] 137
def hdO (c o:Int) (g:Nat):Obj:= .cells #[.int .i64 c,.int .i64 o,.int .u16 (g:Int)] 67
theorem c_bword (g k s:Nat) (w:World) (K:K1) (hG:Glob w) (hg:g<65536) (hk:k<256) (hs:s<256):callS prog 99 #[.agg #[.int .u16 (g:Int),.int .u8 (k:Int),.int .u8 (s:Int)]] w K=K (.int .u64 ((sealN (blkX g k s):Nat):Int)) ((w.alloc (blkO g k s)).alloc (sealO (blkX g k s))):=by
 refine callS_det (by kernel_rfl) (f99_call _ _ _ ?_) K
 unfold f99_t
 simp (disch:=first|omega|simp only [RO]|(simp only [RZ]<;>omega)|fail) only [↓RA,↓reduceIte,Nat.reduceAdd,Nat.reduceMul,Nat.reduceEqDiff,RB,RW,or16 hg (show k<65536 by omega),or24 (show g+k*65536<16777216 by omega) hs,fun o x K=>c_seal x (w.alloc o) K (hG.alloc o),blkO,blkX]
theorem c_hword (c o:Int) (g:Nat) (w:World) (K:K1) (hG:Glob w) (hg:g<65536) (hc: -1≤c) (hc':c<5) (ho: -1≤o) (ho':o<8):callS prog 102 #[.agg #[.int .i64 c,.int .i64 o,.int .u16 (g:Int)]] w K=K (.int .u64 ((sealN (hdX c o g):Nat):Int)) ((w.alloc (hdO c o g)).alloc (sealO (hdX c o g))):=by
 refine callS_det (by kernel_rfl) (f102_call _ _ _ ?_) K
 unfold f102_t
 by_cases h:0≤c
 ·have hm3:=hd4 (show (c+1).toNat<16 by omega) (show (o+1).toNat<16 by omega)
  have e:hdX c o g=g+(c+1).toNat*65536+(o+1).toNat*1048576+3305111552:=by unfold hdX;rw [if_pos h]
  simp (disch:=first|omega|simp only [RO]|(simp only [RZ]<;>omega)|fail) only [↓RA,↓reduceIte,Nat.reduceAdd,Nat.reduceMul,Nat.reduceEqDiff,RB,RW,hd0 hg,shl16_eq (show (c+1).toNat<65536 by omega),shl20_eq (show (o+1).toNat<4096 by omega),hd_or' hg (show (c+1).toNat<16 by omega) (show (o+1).toNat<16 by omega),fun o x K=>c_seal x (w.alloc o) K (hG.alloc o),hdO,e,f102_k1_eq,f102_k1_t]
 ·have e:hdX c o g=g+3305111552:=by unfold hdX;rw [if_neg h]
  simp (disch:=first|omega|simp only [RO]|(simp only [RZ]<;>omega)|fail) only [↓RA,↓reduceIte,Nat.reduceAdd,Nat.reduceMul,Nat.reduceEqDiff,RB,RW,hd0 hg,fun o x K=>c_seal x (w.alloc o) K (hG.alloc o),hdO,e,f102_k1_eq,f102_k1_t]
end Go.Proofs.YtifpinhjpbgnoaaGreatDoor
