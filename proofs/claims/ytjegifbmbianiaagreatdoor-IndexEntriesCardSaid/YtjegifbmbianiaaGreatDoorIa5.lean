/-
  Part 5 of what the proofs of this seat share.
-/
import Derived.Test.YtjegifbmbianiaaGreatDoorIa1
import Derived.Test.YtjegifbmbianiaaGreatDoorIa4
set_option linter.unusedSimpArgs false
set_option linter.unusedVariables false
set_option maxHeartbeats 20000000
set_option maxRecDepth 100000
open Go.Proofs.Tryz (prog)
open Go.RowKit (intOf)
namespace Go.Proofs.YtjegifbmbianiaaGreatDoor
open Go Go.Sh
def f5_t (x0 x1 x2:Value) (K:K1) (w:World):Prop:=
 ev prog (Instr.box 39 x1) w fun t4 w=>
 callS prog 16 (pA #[]) w fun t14 w=>
 ev prog (Op.unary .not t14) w fun t15 w=>
 cndS t15 (
 K (.bool false) w) (
 ldS prog 39 t4 w fun t18 w=>
 callS prog 17 (pA #[x0,t18,x2]) w fun t20 w=>
 ev prog (Instr.extract t20 0) w fun t21 w=>
 ev prog (Instr.extract t20 1) w fun t22 w=>
 ldS prog 39 t4 w fun t25 w=>
 callS prog 19 (pA #[t25]) w fun t26 w=>
 callS prog 18 (pA #[x0,t26,x2]) w fun t28 w=>
 ev prog (Instr.extract t28 0) w fun t29 w=>
 ev prog (Instr.extract t28 1) w fun t30 w=>
 ev prog (binM .neq 3 (.tmp 31) (.tmp 32) t22 t30) w fun t33 w=>
 gd t33 false (fun k=>k t21 w) w fun t35 w=>
 gd t33 false (fun k=>k t29 w) w fun t36 w=>
 gd t33 false (fun k=>ev prog (binM .neq 41 (.tmp 35) (.tmp 36) t35 t36) w k) w fun t37 w=>
 pickS t33 (.bool true) t37 w fun t38 w=>
 cndS t38 (
 K (.bool false) w) (
 callS prog 20 (pA #[t21]) w fun t41 w=>
 ev prog (Instr.extract t41 0) w fun t42 w=>
 ev prog (Instr.extract t41 1) w fun t43 w=>
 ev prog (Instr.extract t41 2) w fun t44 w=>
 ev prog (binM .neq 3 (.tmp 45) (.const (.int .i64 0)) t30 (.int .i64 0)) w fun t46 w=>
 gd t46 false (fun k=>k t42 w) w fun t48 w=>
 gd t46 false (fun k=>k x0 w) w fun t49 w=>
 gd t46 false (fun k=>ev prog (binM .eql 3 (.tmp 48) (.tmp 49) t48 t49) w k) w fun t50 w=>
 gd t46 false (fun k=>k t50 w) w fun t51 w=>
 gd t51 true (fun k=>k t44 w) w fun t52 w=>
 gd t51 true (fun k=>k x2 w) w fun t53 w=>
 gd t51 true (fun k=>ev prog (binM .eql 40 (.tmp 52) (.tmp 53) t52 t53) w k) w fun t54 w=>
 gd t46 false (fun k=>pickS t51 t54 (.bool false) w k) w fun t55 w=>
 gd t46 false (fun k=>k t55 w) w fun t56 w=>
 gd t56 true (fun k=>k t43 w) w fun t57 w=>
 gd t56 true (fun k=>ev prog (convert 40 41 t57) w k) w fun t58 w=>
 gd t56 true (fun k=>ldS prog 39 t4 w k) w fun t59 w=>
 gd t56 true (fun k=>callS prog 19 (pA #[t59]) w k) w fun t60 w=>
 gd t56 true (fun k=>callS prog 21 (pA #[t60]) w k) w fun t61 w=>
 gd t56 true (fun k=>ev prog (binM .eql 41 (.tmp 58) (.tmp 61) t58 t61) w k) w fun t62 w=>
 gd t46 false (fun k=>pickS t56 t62 (.bool false) w k) w fun t63 w=>
 pickS t46 (.bool true) t63 w fun t64 w=>
 K t64 w))
theorem f5_call (x0 x1 x2:Value) (K:K1) (w:World) (h:f5_t x0 x1 x2 K w):callS prog 5 #[x0,x1,x2] w K:=
 call_of_txt (args:= [x0,x1,x2]) mixed Tryz.func5 .o kR (cast kR h)
def f17_t (x0 x1 x2:Value) (K:K1) (w:World):Prop:=
 ev prog (Instr.box 39 x1) w fun t4 w=>
 ev prog (binM .lss 3 (.tmp 10) (.const (.int .i64 0)) x0 (.int .i64 0)) w fun t11 w=>
 gd t11 false (fun k=>k x0 w) w fun t13 w=>
 gd t11 false (fun k=>ev prog (binM .gtr 3 (.tmp 13) (.const (.int .i64 15)) t13 (.int .i64 15)) w k) w fun t14 w=>
 pickS t11 (.bool true) t14 w fun t15 w=>
 gd t15 false (fun k=>ev prog (Instr.fieldAt 39 t4 1) w k) w fun t17 w=>
 gd t15 false (fun k=>ldS prog 4 t17 w k) w fun t18 w=>
 pickS t15 (.bool true) t18 w fun t19 w=>
 cndS t19 (
 K (.tuple #[(.int .u64 ((0:Nat):Int)),(.int .i64 1)]) w) (
 ldS prog 39 t4 w fun t21 w=>
 callS prog 46 (pA #[t21]) w fun t22 w=>
 ev prog (Instr.extract t22 0) w fun t23 w=>
 ev prog (Instr.extract t22 1) w fun t24 w=>
 ev prog (binM .neq 30 (.tmp 25) (.const (.int .i64 0)) t24 (.int .i64 0)) w fun t26 w=>
 cndS t26 (
 K (.tuple #[(.int .u64 ((0:Nat):Int)),t24]) w) (
 ev prog (binM .quo 40 (.tmp 29) (.const (.int .u32 ((16:Nat):Int))) t23 (.int .u32 ((16:Nat):Int))) w fun t30 w=>
 callS prog 47 (pA #[x0,t30,x2]) w fun t32 w=>
 K (.tuple #[t32,(.int .i64 0)]) w))
theorem f17_call (x0 x1 x2:Value) (K:K1) (w:World) (h:f17_t x0 x1 x2 K w):callS prog 17 #[x0,x1,x2] w K:=
 call_of_txt (args:= [x0,x1,x2]) mixed Tryz.func17 .o kR (cast kR h)
def f18_t (x0 x1 x2:Value) (K:K1) (w:World):Prop:=
 ev prog (Instr.box 47 x1) w fun t4 w=>
 ev prog (binM .lss 3 (.tmp 8) (.const (.int .i64 0)) x0 (.int .i64 0)) w fun t9 w=>
 gd t9 false (fun k=>k x0 w) w fun t11 w=>
 gd t9 false (fun k=>ev prog (binM .gtr 3 (.tmp 11) (.const (.int .i64 15)) t11 (.int .i64 15)) w k) w fun t12 w=>
 pickS t9 (.bool true) t12 w fun t13 w=>
 gd t13 false (fun k=>ev prog (Instr.fieldAt 47 t4 1) w k) w fun t15 w=>
 gd t13 false (fun k=>ldS prog 4 t15 w k) w fun t16 w=>
 pickS t13 (.bool true) t16 w fun t17 w=>
 cndS t17 (
 K (.tuple #[(.int .u64 ((0:Nat):Int)),(.int .i64 1)]) w) (
 ldS prog 47 t4 w fun t18 w=>
 callS prog 48 (pA #[t18]) w fun t19 w=>
 ev prog (binM .neq 3 (.tmp 19) (.const (.int .i64 0)) t19 (.int .i64 0)) w fun t20 w=>
 cndS t20 (
 K (.tuple #[(.int .u64 ((0:Nat):Int)),(.int .i64 16)]) w) (
 ldS prog 47 t4 w fun t22 w=>
 callS prog 21 (pA #[t22]) w fun t23 w=>
 ev prog (convert 40 41 x2) w fun t25 w=>
 callS prog 49 (pA #[x0,t23,t25]) w fun t26 w=>
 K (.tuple #[t26,(.int .i64 0)]) w))
theorem f18_call (x0 x1 x2:Value) (K:K1) (w:World) (h:f18_t x0 x1 x2 K w):callS prog 18 #[x0,x1,x2] w K:=
 call_of_txt (args:= [x0,x1,x2]) mixed Tryz.func18 .o kR (cast kR h)
def f19_t (x0:Value) (K:K1) (w:World):Prop:=
 ev prog (Instr.box 39 x0) w fun t1 w=>
 ev prog (Instr.alloc 47 true (.tuple #[])) w fun t2 w=>
 ev prog (Instr.fieldAt 39 t1 0) w fun t3 w=>
 ldS prog 37 t3 w fun t4 w=>
 ev prog (convert 37 3 t4) w fun t5 w=>
 ev prog (Instr.fieldAt 39 t1 1) w fun t6 w=>
 ldS prog 4 t6 w fun t7 w=>
 ev prog (Instr.fieldAt 39 t1 2) w fun t8 w=>
 ldS prog 2 t8 w fun t9 w=>
 ev prog (Instr.fieldAt 39 t1 3) w fun t10 w=>
 ldS prog 9 t10 w fun t11 w=>
 ev prog (Instr.fieldAt 39 t1 4) w fun t12 w=>
 ldS prog 4 t12 w fun t13 w=>
 ev prog (Instr.build 47 #[(0,t5),(1,t7),(2,t9),(3,t11),(4,t13)]) w fun t14 w=>
 stS prog 47 t2 t14 w fun w=>
 ldR prog 47 t2 w fun r=>
 K r w
theorem f19_call (x0:Value) (K:K1) (w:World) (h:f19_t x0 K w):callS prog 19 #[x0] w K:=
 call_of_txt (args:= [x0]) mixed Tryz.func19 .o kR (cast kR h)
def f20_t (x0:Value) (K:K1) (w:World):Prop:=
 ev prog (binM .shr 41 (.tmp 5) (.const (.int .u64 ((60:Nat):Int))) x0 (.int .u64 ((60:Nat):Int))) w fun t6 w=>
 ev prog (convert 41 3 t6) w fun t7 w=>
 ev prog (binM .shr 41 (.tmp 8) (.const (.int .u64 ((32:Nat):Int))) x0 (.int .u64 ((32:Nat):Int))) w fun t9 w=>
 ev prog (binM .and 41 (.tmp 9) (.const (.int .u64 ((268435455:Nat):Int))) t9 (.int .u64 ((268435455:Nat):Int))) w fun t10 w=>
 ev prog (convert 41 40 t10) w fun t11 w=>
 ev prog (convert 41 40 x0) w fun t13 w=>
 K (.tuple #[t7,t11,t13]) w
theorem f20_call (x0:Value) (K:K1) (w:World) (h:f20_t x0 K w):callS prog 20 #[x0] w K:=
 call_of_txt (args:= [x0]) mixed Tryz.func20 .o kR (cast kR h)
def f21_t (x0:Value) (K:K1) (w:World):Prop:=
 ev prog (Instr.box 47 x0) w fun t1 w=>
 ldS prog 47 t1 w fun t6 w=>
 callS prog 50 (pA #[t6]) w fun t7 w=>
 ev prog (Instr.extract t7 0) w fun t8 w=>
 ev prog (Instr.extract t7 1) w fun t9 w=>
 ev prog (convert 40 41 t8) w fun t11 w=>
 ev prog (binM .quo 41 (.tmp 11) (.const (.int .u64 ((16:Nat):Int))) t11 (.int .u64 ((16:Nat):Int))) w fun t12 w=>
 K t12 w
theorem f21_call (x0:Value) (K:K1) (w:World) (h:f21_t x0 K w):callS prog 21 #[x0] w K:=
 call_of_txt (args:= [x0]) mixed Tryz.func21 .o kR (cast kR h)
def f46_t (x0:Value) (K:K1) (w:World):Prop:=
 ev prog (Instr.box 39 x0) w fun t1 w=>
 ldS prog 39 t1 w fun t5 w=>
 callS prog 52 (pA #[t5]) w fun t6 w=>
 ev prog (Op.unary .not t6) w fun t7 w=>
 cndS t7 (
 K (.tuple #[(.int .u32 ((0:Nat):Int)),(.int .i64 16)]) w) (
 ev prog (Instr.fieldAt 39 t1 1) w fun t9 w=>
 ldS prog 4 t9 w fun t10 w=>
 cndS t10 (
 K (.tuple #[(.int .u32 ((0:Nat):Int)),(.int .i64 0)]) w) (
 ev prog (Instr.fieldAt 39 t1 0) w fun t12 w=>
 ldS prog 37 t12 w fun t13 w=>
 ev prog (binM .eql 37 (.tmp 13) (.const (.int .u8 ((1:Nat):Int))) t13 (.int .u8 ((1:Nat):Int))) w fun t14 w=>
 cndS t14 (
 ev prog (Instr.fieldAt 39 t1 2) w fun t15 w=>
 ldS prog 2 t15 w fun t16 w=>
 ev prog (binM .sub 2 (.tmp 16) (.const (.int .i64 (-2147483648))) t16 (.int .i64 (-2147483648))) w fun t17 w=>
 ev prog (convert 2 40 t17) w fun t18 w=>
 K (.tuple #[t18,(.int .i64 0)]) w) (
 ev prog (Instr.fieldAt 39 t1 0) w fun t20 w=>
 ldS prog 37 t20 w fun t21 w=>
 ev prog (binM .eql 37 (.tmp 21) (.const (.int .u8 ((2:Nat):Int))) t21 (.int .u8 ((2:Nat):Int))) w fun t22 w=>
 cndS t22 (
 ev prog (Instr.fieldAt 39 t1 3) w fun t23 w=>
 ldS prog 9 t23 w fun t24 w=>
 ev prog (convert 9 203 t24) w fun t25 w=>
 callS prog 102 (pA #[t25]) w fun t26 w=>
 ev prog (convert 41 40 t26) w fun t27 w=>
 K (.tuple #[t27,(.int .i64 0)]) w) (
 ev prog (Instr.fieldAt 39 t1 4) w fun t28 w=>
 ldS prog 4 t28 w fun t29 w=>
 callS prog 55 (pA #[t29]) w fun t30 w=>
 ev prog (binM .add 3 (.const (.int .i64 1)) (.tmp 30) (.int .i64 1) t30) w fun t31 w=>
 ev prog (convert 3 40 t31) w fun t32 w=>
 K (.tuple #[t32,(.int .i64 0)]) w))))
theorem f46_call (x0:Value) (K:K1) (w:World) (h:f46_t x0 K w):callS prog 46 #[x0] w K:=
 call_of_txt (args:= [x0]) mixed Tryz.func46 .o kR (cast kR h)
def f47_t (x0 x1 x2:Value) (K:K1) (w:World):Prop:=
 ev prog (convert 3 41 x0) w fun t8 w=>
 ev prog (binM .shl 41 (.tmp 8) (.const (.int .u64 ((60:Nat):Int))) t8 (.int .u64 ((60:Nat):Int))) w fun t9 w=>
 ev prog (convert 40 41 x1) w fun t11 w=>
 ev prog (binM .shl 41 (.tmp 11) (.const (.int .u64 ((32:Nat):Int))) t11 (.int .u64 ((32:Nat):Int))) w fun t12 w=>
 ev prog (binM .or 41 (.tmp 9) (.tmp 12) t9 t12) w fun t13 w=>
 ev prog (convert 40 41 x2) w fun t15 w=>
 ev prog (binM .or 41 (.tmp 13) (.tmp 15) t13 t15) w fun t16 w=>
 K t16 w
theorem f47_call (x0 x1 x2:Value) (K:K1) (w:World) (h:f47_t x0 x1 x2 K w):callS prog 47 #[x0,x1,x2] w K:=
 call_of_txt (args:= [x0,x1,x2]) mixed Tryz.func47 .o kR (cast kR h)
def f48_t (x0:Value) (K:K1) (w:World):Prop:=
 ev prog (Instr.box 47 x0) w fun t1 w=>
 ev prog (Instr.fieldAt 47 t1 0) w fun t3 w=>
 ldS prog 3 t3 w fun t4 w=>
 ev prog (binM .lss 3 (.tmp 4) (.const (.int .i64 1)) t4 (.int .i64 1)) w fun t5 w=>
 gd t5 false (fun k=>ev prog (Instr.fieldAt 47 t1 0) w k) w fun t7 w=>
 gd t5 false (fun k=>ldS prog 3 t7 w k) w fun t8 w=>
 gd t5 false (fun k=>ev prog (binM .gtr 3 (.tmp 8) (.const (.int .i64 3)) t8 (.int .i64 3)) w k) w fun t9 w=>
 pickS t5 (.bool true) t9 w fun t10 w=>
 gd t10 false (fun k=>ev prog (Instr.fieldAt 47 t1 2) w k) w fun t12 w=>
 gd t10 false (fun k=>ldS prog 2 t12 w k) w fun t13 w=>
 gd t10 false (fun k=>ev prog (binM .neq 2 (.tmp 13) (.const (.int .i64 0)) t13 (.int .i64 0)) w k) w fun t14 w=>
 gd t10 false (fun k=>k t14 w) w fun t15 w=>
 gd t15 true (fun k=>ev prog (Instr.fieldAt 47 t1 1) w k) w fun t16 w=>
 gd t15 true (fun k=>ldS prog 4 t16 w k) w fun t17 w=>
 gd t15 true (fun k=>k t17 w) w fun t18 w=>
 gd t18 false (fun k=>ev prog (Instr.fieldAt 47 t1 0) w k) w fun t19 w=>
 gd t18 false (fun k=>ldS prog 3 t19 w k) w fun t20 w=>
 gd t18 false (fun k=>ev prog (binM .neq 3 (.tmp 20) (.const (.int .i64 1)) t20 (.int .i64 1)) w k) w fun t21 w=>
 gd t15 true (fun k=>pickS t18 (.bool true) t21 w k) w fun t22 w=>
 gd t10 false (fun k=>pickS t15 t22 (.bool false) w k) w fun t23 w=>
 pickS t10 (.bool true) t23 w fun t24 w=>
 gd t24 false (fun k=>ev prog (Instr.fieldAt 47 t1 3) w k) w fun t26 w=>
 gd t24 false (fun k=>ldS prog 9 t26 w k) w fun t27 w=>
 gd t24 false (fun k=>ev prog (binM .neq 9 (.tmp 27) (.const (.string {data:= #[]})) t27 (.string {data:= #[]})) w k) w fun t28 w=>
 gd t24 false (fun k=>k t28 w) w fun t29 w=>
 gd t29 true (fun k=>ev prog (Instr.fieldAt 47 t1 1) w k) w fun t30 w=>
 gd t29 true (fun k=>ldS prog 4 t30 w k) w fun t31 w=>
 gd t29 true (fun k=>k t31 w) w fun t32 w=>
 gd t32 false (fun k=>ev prog (Instr.fieldAt 47 t1 0) w k) w fun t33 w=>
 gd t32 false (fun k=>ldS prog 3 t33 w k) w fun t34 w=>
 gd t32 false (fun k=>ev prog (binM .neq 3 (.tmp 34) (.const (.int .i64 2)) t34 (.int .i64 2)) w k) w fun t35 w=>
 gd t29 true (fun k=>pickS t32 (.bool true) t35 w k) w fun t36 w=>
 gd t24 false (fun k=>pickS t29 t36 (.bool false) w k) w fun t37 w=>
 pickS t24 (.bool true) t37 w fun t38 w=>
 gd t38 false (fun k=>ev prog (Instr.fieldAt 47 t1 4) w k) w fun t40 w=>
 gd t38 false (fun k=>ldS prog 4 t40 w k) w fun t41 w=>
 gd t38 false (fun k=>k t41 w) w fun t42 w=>
 gd t42 true (fun k=>ev prog (Instr.fieldAt 47 t1 1) w k) w fun t43 w=>
 gd t42 true (fun k=>ldS prog 4 t43 w k) w fun t44 w=>
 gd t42 true (fun k=>k t44 w) w fun t45 w=>
 gd t45 false (fun k=>ev prog (Instr.fieldAt 47 t1 0) w k) w fun t46 w=>
 gd t45 false (fun k=>ldS prog 3 t46 w k) w fun t47 w=>
 gd t45 false (fun k=>ev prog (binM .neq 3 (.tmp 47) (.const (.int .i64 3)) t47 (.int .i64 3)) w k) w fun t48 w=>
 gd t42 true (fun k=>pickS t45 (.bool true) t48 w k) w fun t49 w=>
 gd t38 false (fun k=>pickS t42 t49 (.bool false) w k) w fun t50 w=>
 pickS t38 (.bool true) t50 w fun t51 w=>
 cndS t51 (
 K (.int .i64 16) w) (
 ev prog (Instr.fieldAt 47 t1 2) w fun t52 w=>
 ldS prog 2 t52 w fun t53 w=>
 ev prog (binM .lss 2 (.tmp 53) (.const (.int .i64 (-2147483648))) t53 (.int .i64 (-2147483648))) w fun t54 w=>
 gd t54 false (fun k=>ev prog (Instr.fieldAt 47 t1 2) w k) w fun t56 w=>
 gd t54 false (fun k=>ldS prog 2 t56 w k) w fun t57 w=>
 gd t54 false (fun k=>ev prog (binM .geq 2 (.tmp 57) (.const (.int .i64 2147483648)) t57 (.int .i64 2147483648)) w k) w fun t58 w=>
 pickS t54 (.bool true) t58 w fun t59 w=>
 gd t59 false (fun k=>ev prog (Instr.fieldAt 47 t1 3) w k) w fun t61 w=>
 gd t59 false (fun k=>ldS prog 9 t61 w k) w fun t62 w=>
 gd t59 false (fun k=>callS prog 103 (pA #[t62]) w k) w fun t63 w=>
 gd t59 false (fun k=>ev prog (Op.unary .not t63) w k) w fun t64 w=>
 pickS t59 (.bool true) t64 w fun t65 w=>
 cndS t65 (
 K (.int .i64 16) w) (
 ev prog (Instr.fieldAt 47 t1 3) w fun t66 w=>
 ldS prog 9 t66 w fun t67 w=>
 bltS prog .len #[9] 3 #[false] #[t67] w fun t68 w=>
 ev prog (binM .gtr 3 (.tmp 68) (.const (.int .i64 200)) t68 (.int .i64 200)) w fun t69 w=>
 cndS t69 (
 K (.int .i64 9) w) (
 K (.int .i64 0) w)))
theorem f48_call (x0:Value) (K:K1) (w:World) (h:f48_t x0 K w):callS prog 48 #[x0] w K:=
 call_of_txt (args:= [x0]) mixed Tryz.func48 .o kR (cast kR h)
def f49_t (x0 x1 x2:Value) (K:K1) (w:World):Prop:=
 ev prog (convert 3 41 x0) w fun t8 w=>
 ev prog (binM .mul 41 (.tmp 8) (.const (.int .u64 ((1152921504606846976:Nat):Int))) t8 (.int .u64 ((1152921504606846976:Nat):Int))) w fun t9 w=>
 ev prog (binM .mul 41 (.tmp 10) (.const (.int .u64 ((4294967296:Nat):Int))) x1 (.int .u64 ((4294967296:Nat):Int))) w fun t11 w=>
 ev prog (binM .add 41 (.tmp 9) (.tmp 11) t9 t11) w fun t12 w=>
 ev prog (binM .add 41 (.tmp 12) (.tmp 13) t12 x2) w fun t14 w=>
 K t14 w
theorem f49_call (x0 x1 x2:Value) (K:K1) (w:World) (h:f49_t x0 x1 x2 K w):callS prog 49 #[x0,x1,x2] w K:=
 call_of_txt (args:= [x0,x1,x2]) mixed Tryz.func49 .o kR (cast kR h)
noncomputable def f50_u:Code×Dec:=((Tryz.f50.body).getD .skip,(.s .o (.s .o (.s .o (.x 16 (.s .o (.b (.l [4,5] 2 281466386776112 .o))) .o)))))
abbrev f50_e (K:K1):KF:=endK prog Tryz.f50.results.toList K
def f50_k1_o (K:K1):KF:=fun fr w=>∀σ,cP (pr (pr (pr (pr f50_u)))) (f50_e K) (f50_e K) nX (mixF 16 σ 0 fr) w
def f50_k1 (K:K1) (x4:Value) (w:World):Prop:=f50_k1_o K (fz 50 0 [(4,x4)]) w
def f50_l1 (K:K1) (x1 x4 x5:Value) (w:World):Prop:=loopT [4,5] 2 (fun E=>cP (pl (pl (pr (pl (pr (pr (pr f50_u))))))) E (f50_e K) (exB 1 (f50_k1_o K) nX)) (fz 50 0 [(1,x1),(4,x4),(5,x5)]) w
def f50_k1_t (x4:Value) (K:K1) (w:World):Prop:=
 ev prog (convert 41 40 x4) w fun t49 w=>
 K (.tuple #[t49,(.int .i64 0)]) w
theorem f50_k1_eq (K:K1) (x4:Value) (w:World):f50_k1 K x4 w=f50_k1_t x4 K w:=cutE fun σ=>by kernel_rfl
def f50_l1_t (x1 x4 x5:Value) (K:K1) (E1:VP2) (w:World):Prop:=
 ev prog (Instr.fieldAt 47 x1 3) w fun t34 w=>
 ldS prog 9 t34 w fun t35 w=>
 bltS prog .len #[9] 3 #[false] #[t35] w fun t36 w=>
 ev prog (binM .lss 3 (.tmp 33) (.tmp 36) x5 t36) w fun t37 w=>
 cndS t37 (
 ev prog (Instr.fieldAt 47 x1 3) w fun t41 w=>
 ldS prog 9 t41 w fun t42 w=>
 ev prog (Instr.index 9 t42 x5) w fun t44 w=>
 ev prog (convert 5 41 t44) w fun t45 w=>
 ev prog (binM .xor 41 (.tmp 40) (.tmp 45) x4 t45) w fun t46 w=>
 ev prog (binM .mul 41 (.tmp 46) (.const (.int .u64 ((1099511628211:Nat):Int))) t46 (.int .u64 ((1099511628211:Nat):Int))) w fun t47 w=>
 ev prog (binM .add 3 (.tmp 38) (.const (.int .i64 1)) x5 (.int .i64 1)) w fun t39 w=>
 E1 t47 t39 w) (
 f50_k1 K x4 w)
theorem f50_l1_rule (x1 x4 x5:Value) (K:K1) (w:World) (I:VP2) (μ:Value→Value→World→Nat) (h0:I x4 x5 w)
  (hr:∀(x4 x5:Value) (w:World),I x4 x5 w→∀E1:VP2,(∀(y4 y5:Value) (w':World),I y4 y5 w'→μ y4 y5 w'<μ x4 x5 w→E1 y4 y5 w')→f50_l1_t x1 x4 x5 K E1 w):f50_l1 K x1 x4 x5 w:=
 ⟨I,μ,h0,fun σ w hI E hE=>cast kR (hr (σ 4) (σ 5) w hI E hE)⟩
def f50_t (x0:Value) (K:K1) (w:World):Prop:=
 ev prog (Instr.box 47 x0) w fun t1 w=>
 ldS prog 47 t1 w fun t7 w=>
 callS prog 48 (pA #[t7]) w fun t8 w=>
 ev prog (binM .neq 3 (.tmp 8) (.const (.int .i64 0)) t8 (.int .i64 0)) w fun t9 w=>
 cndS t9 (
 K (.tuple #[(.int .u32 ((0:Nat):Int)),(.int .i64 16)]) w) (
 ev prog (Instr.fieldAt 47 t1 1) w fun t11 w=>
 ldS prog 4 t11 w fun t12 w=>
 cndS t12 (
 K (.tuple #[(.int .u32 ((0:Nat):Int)),(.int .i64 0)]) w) (
 ev prog (Instr.fieldAt 47 t1 0) w fun t14 w=>
 ldS prog 3 t14 w fun t15 w=>
 ev prog (binM .eql 3 (.tmp 15) (.const (.int .i64 1)) t15 (.int .i64 1)) w fun t16 w=>
 cndS t16 (
 ev prog (Instr.fieldAt 47 t1 2) w fun t17 w=>
 ldS prog 2 t17 w fun t18 w=>
 ev prog (binM .add 2 (.tmp 18) (.const (.int .i64 2147483648)) t18 (.int .i64 2147483648)) w fun t19 w=>
 ev prog (convert 2 40 t19) w fun t20 w=>
 K (.tuple #[t20,(.int .i64 0)]) w) (
 ev prog (Instr.fieldAt 47 t1 0) w fun t22 w=>
 ldS prog 3 t22 w fun t23 w=>
 ev prog (binM .eql 3 (.tmp 23) (.const (.int .i64 3)) t23 (.int .i64 3)) w fun t24 w=>
 gd t24 true (fun k=>ev prog (Instr.fieldAt 47 t1 4) w k) w fun t26 w=>
 gd t24 true (fun k=>ldS prog 4 t26 w k) w fun t27 w=>
 pickS t24 t27 (.bool false) w fun t28 w=>
 cndS t28 (
 K (.tuple #[(.int .u32 ((2:Nat):Int)),(.int .i64 0)]) w) (
 ev prog (Instr.fieldAt 47 t1 0) w fun t30 w=>
 ldS prog 3 t30 w fun t31 w=>
 ev prog (binM .eql 3 (.tmp 31) (.const (.int .i64 3)) t31 (.int .i64 3)) w fun t32 w=>
 cndS t32 (
 K (.tuple #[(.int .u32 ((1:Nat):Int)),(.int .i64 0)]) w) (
 f50_l1 K t1 (.int .u64 ((14695981039346656037:Nat):Int)) (.int .i64 0) w)))))
theorem f50_call (x0:Value) (K:K1) (w:World) (h:f50_t x0 K w):callS prog 50 #[x0] w K:=
 call_of_txt (args:= [x0]) mixed Tryz.func50 f50_u.2 kR (cast kR h)
def f52_t (x0:Value) (K:K1) (w:World):Prop:=
 ev prog (Instr.box 39 x0) w fun t1 w=>
 ev prog (Instr.fieldAt 39 t1 0) w fun t3 w=>
 ldS prog 37 t3 w fun t4 w=>
 ev prog (Instr.build 207 #[(1,t4),(2,(.bool true))]) w fun t5 w=>
 ldS prog 39 t1 w fun t6 w=>
 callS prog 105 (pA #[t5,t6]) w fun t7 w=>
 ev prog (binM .eql 30 (.tmp 7) (.const (.int .i64 0)) t7 (.int .i64 0)) w fun t8 w=>
 K t8 w
theorem f52_call (x0:Value) (K:K1) (w:World) (h:f52_t x0 K w):callS prog 52 #[x0] w K:=
 call_of_txt (args:= [x0]) mixed Tryz.func52 .o kR (cast kR h)
def f55_t (x0:Value) (K:K1) (w:World):Prop:=
 cndS x0 (
 K (.int .i64 1) w) (
 K (.int .i64 0) w)
theorem f55_call (x0:Value) (K:K1) (w:World) (h:f55_t x0 K w):callS prog 55 #[x0] w K:=
 call_of_txt (args:= [x0]) mixed Tryz.func55 .o kR (cast kR h)
noncomputable def f102_u:Code×Dec:=((Tryz.f102.body).getD .skip,(.s .o (.s .o (.x 8 (.s .o (.b (.l [3,8] 192 261928 .o))) .o))))
abbrev f102_e (K:K1):KF:=endK prog Tryz.f102.results.toList K
def f102_k1_o (K:K1):KF:=fun fr w=>∀σ,cP (pr (pr (pr f102_u))) (f102_e K) (f102_e K) nX (mixF 8 σ 0 fr) w
def f102_k1 (K:K1) (x3:Value) (w:World):Prop:=f102_k1_o K (fz 19 0 [(3,x3)]) w
def f102_l1 (K:K1) (x3 x6 x7 x8:Value) (w:World):Prop:=loopT [3,8] 192 (fun E=>cP (pl (pl (pr (pl (pr (pr f102_u)))))) E (f102_e K) (exB 0 (f102_k1_o K) nX)) (fz 19 0 [(3,x3),(6,x6),(7,x7),(8,x8)]) w
def f102_k1_t (x3:Value) (K:K1) (w:World):Prop:=
 K x3 w
theorem f102_k1_eq (K:K1) (x3:Value) (w:World):f102_k1 K x3 w=f102_k1_t x3 K w:=cutE fun σ=>by kernel_rfl
def f102_l1_t (x3 x6 x7 x8:Value) (K:K1) (E1:VP2) (w:World):Prop:=
 ev prog (binM .lss 3 (.tmp 8) (.tmp 7) x8 x7) w fun t9 w=>
 cndS t9 (
 ev prog (Instr.indexAt 203 x6 x8) w fun t10 w=>
 ldS prog 5 t10 w fun t11 w=>
 ev prog (convert 5 41 t11) w fun t14 w=>
 ev prog (binM .xor 41 (.tmp 12) (.tmp 14) x3 t14) w fun t15 w=>
 ev prog (binM .mul 41 (.tmp 15) (.const (.int .u64 ((1099511628211:Nat):Int))) t15 (.int .u64 ((1099511628211:Nat):Int))) w fun t16 w=>
 ev prog (binM .add 3 (.tmp 8) (.const (.int .i64 1)) x8 (.int .i64 1)) w fun t17 w=>
 E1 t16 t17 w) (
 f102_k1 K x3 w)
theorem f102_l1_rule (x3 x6 x7 x8:Value) (K:K1) (w:World) (I:VP2) (μ:Value→Value→World→Nat) (h0:I x3 x8 w)
  (hr:∀(x3 x8:Value) (w:World),I x3 x8 w→∀E1:VP2,(∀(y3 y8:Value) (w':World),I y3 y8 w'→μ y3 y8 w'<μ x3 x8 w→E1 y3 y8 w')→f102_l1_t x3 x6 x7 x8 K E1 w):f102_l1 K x3 x6 x7 x8 w:=
 ⟨I,μ,h0,fun σ w hI E hE=>cast kR (hr (σ 3) (σ 8) w hI E hE)⟩
def f102_t (x0:Value) (K:K1) (w:World):Prop:=
 bltS prog .len #[203] 3 #[false] #[x0] w fun t7 w=>
 f102_l1 K (.int .u64 ((14695981039346656037:Nat):Int)) x0 t7 (.int .i64 0) w
theorem f102_call (x0:Value) (K:K1) (w:World) (h:f102_t x0 K w):callS prog 102 #[x0] w K:=
 call_of_txt (args:= [x0]) mixed Tryz.func102 f102_u.2 kR (cast kR h)
noncomputable def f103_u:Code×Dec:=((Tryz.f103.body).getD .skip,(.s .o (.x 0 (.b (.l [0] 0 1237940039285380274899124221 (.s .o (.b (.s .o (.s .o (.x 113 .o (.s .o (.x 113 (.s .o (.b (.l [6,7] 49 4722365919919691792580 .o))) .o))))))))) .o)))
abbrev f103_e (K:K1):KF:=endK prog Tryz.f103.results.toList K
def f103_k1_o (K:K1):KF:=fun fr w=>∀σ,cP (pr (pr f103_u)) (f103_e K) (f103_e K) nX (mixF 0 σ 0 fr) w
def f103_k1 (K:K1) (w:World):Prop:=f103_k1_o K (fz 90 0 []) w
def f103_l1 (K:K1) (x0:Value) (w:World):Prop:=loopT [0] 0 (fun E=>cP (pl (pl (pl (pr f103_u)))) E (f103_e K) (exB 0 (f103_k1_o K) nX)) (fz 90 0 [(0,x0)]) w
def f103_k2_o (K:K1) (E1:VP1):KF:=fun fr w=>∀σ,cP (pr (pr (pr (pl (pr (pl (pl (pl (pr f103_u))))))))) (fun fr w=>E1 (sv fr 0) w) (f103_e K) (exB 1 (fun fr w=>E1 (sv fr 0) w) (exB 0 (f103_k1_o K) nX)) (mixF 113 σ 0 fr) w
def f103_k2 (K:K1) (E1:VP1) (x0 x4 x5 x6:Value) (w:World):Prop:=f103_k2_o K E1 (fz 90 0 [(0,x0),(4,x4),(5,x5),(6,x6)]) w
def f103_k3_o (K:K1) (E1:VP1):KF:=fun fr w=>∀σ,cP (pr (pr (pr (pr (pr (pl (pr (pl (pl (pl (pr f103_u))))))))))) (fun fr w=>E1 (sv fr 0) w) (f103_e K) (exB 1 (fun fr w=>E1 (sv fr 0) w) (exB 0 (f103_k1_o K) nX)) (mixF 113 σ 0 fr) w
def f103_k3 (K:K1) (E1:VP1) (x0 x4 x5 x6:Value) (w:World):Prop:=f103_k3_o K E1 (fz 90 0 [(0,x0),(4,x4),(5,x5),(6,x6)]) w
def f103_l2 (K:K1) (E1:VP1) (x0 x4 x5 x6 x7:Value) (w:World):Prop:=loopT [6,7] 49 (fun E=>cP (pl (pl (pr (pl (pr (pr (pr (pr (pl (pr (pl (pl (pl (pr f103_u)))))))))))))) E (f103_e K) (exB 3 (f103_k3_o K E1) (exB 1 (fun fr w=>E1 (sv fr 0) w) (exB 0 (f103_k1_o K) nX)))) (fz 90 0 [(0,x0),(4,x4),(5,x5),(6,x6),(7,x7)]) w
def f103_k1_t (K:K1) (w:World):Prop:=
 K (.bool true) w
theorem f103_k1_eq (K:K1) (w:World):f103_k1 K w=f103_k1_t K w:=cutE fun σ=>by kernel_rfl
def f103_l1_t (x0:Value) (K:K1) (E1:VP1) (w:World):Prop:=
 bltS prog .len #[9] 3 #[false] #[x0] w fun t9 w=>
 ev prog (binM .gtr 3 (.tmp 9) (.const (.int .i64 0)) t9 (.int .i64 0)) w fun t10 w=>
 cndS t10 (
 ev prog (Instr.index 9 x0 (.int .i64 0)) w fun t12 w=>
 ev prog (convert 5 3 t12) w fun t13 w=>
 ev prog (binM .lss 3 (.tmp 15) (.const (.int .i64 128)) t13 (.int .i64 128)) w fun t16 w=>
 cndS t16 (
 f103_k2 K E1 x0 (.int .i64 1) (.int .i64 0) t13 w) (
 ev prog (binM .geq 3 (.tmp 19) (.const (.int .i64 192)) t13 (.int .i64 192)) w fun t20 w=>
 gd t20 true (fun k=>k t13 w) w fun t22 w=>
 gd t20 true (fun k=>ev prog (binM .lss 3 (.tmp 22) (.const (.int .i64 224)) t22 (.int .i64 224)) w k) w fun t23 w=>
 pickS t20 t23 (.bool false) w fun t24 w=>
 cndS t24 (
 ev prog (binM .sub 3 (.tmp 25) (.const (.int .i64 192)) t13 (.int .i64 192)) w fun t26 w=>
 f103_k2 K E1 x0 (.int .i64 2) (.int .i64 128) t26 w) (
 ev prog (binM .geq 3 (.tmp 28) (.const (.int .i64 224)) t13 (.int .i64 224)) w fun t29 w=>
 gd t29 true (fun k=>k t13 w) w fun t31 w=>
 gd t29 true (fun k=>ev prog (binM .lss 3 (.tmp 31) (.const (.int .i64 240)) t31 (.int .i64 240)) w k) w fun t32 w=>
 pickS t29 t32 (.bool false) w fun t33 w=>
 cndS t33 (
 ev prog (binM .sub 3 (.tmp 34) (.const (.int .i64 224)) t13 (.int .i64 224)) w fun t35 w=>
 f103_k2 K E1 x0 (.int .i64 3) (.int .i64 2048) t35 w) (
 ev prog (binM .geq 3 (.tmp 37) (.const (.int .i64 240)) t13 (.int .i64 240)) w fun t38 w=>
 gd t38 true (fun k=>k t13 w) w fun t40 w=>
 gd t38 true (fun k=>ev prog (binM .lss 3 (.tmp 40) (.const (.int .i64 248)) t40 (.int .i64 248)) w k) w fun t41 w=>
 pickS t38 t41 (.bool false) w fun t42 w=>
 cndS t42 (
 ev prog (binM .sub 3 (.tmp 43) (.const (.int .i64 240)) t13 (.int .i64 240)) w fun t44 w=>
 f103_k2 K E1 x0 (.int .i64 4) (.int .i64 65536) t44 w) (
 K (.bool false) w))))) (
 f103_k1 K w)
theorem f103_l1_rule (x0:Value) (K:K1) (w:World) (I:VP1) (μ:Value→World→Nat) (h0:I x0 w)
  (hr:∀(x0:Value) (w:World),I x0 w→∀E1:VP1,(∀(y0:Value) (w':World),I y0 w'→μ y0 w'<μ x0 w→E1 y0 w')→f103_l1_t x0 K E1 w):f103_l1 K x0 w:=
 ⟨I,μ,h0,fun σ w hI E hE=>cast kR (hr (σ 0) w hI E hE)⟩
def f103_k2_t (x0 x4 x5 x6:Value) (K:K1) (E1:VP1) (w:World):Prop:=
 bltS prog .len #[9] 3 #[false] #[x0] w fun t46 w=>
 ev prog (binM .lss 3 (.tmp 46) (.tmp 47) t46 x4) w fun t48 w=>
 cndS t48 (
 K (.bool false) w) (
 f103_l2 K E1 x0 x4 x5 x6 (.int .i64 1) w)
theorem f103_k2_eq (K:K1) (E1:VP1) (x0 x4 x5 x6:Value) (w:World):f103_k2 K E1 x0 x4 x5 x6 w=f103_k2_t x0 x4 x5 x6 K E1 w:=cutE fun σ=>by kernel_rfl
def f103_k3_t (x0 x4 x5 x6:Value) (K:K1) (E1:VP1) (w:World):Prop:=
 ev prog (binM .lss 3 (.tmp 72) (.tmp 73) x6 x5) w fun t74 w=>
 gd t74 false (fun k=>k x6 w) w fun t76 w=>
 gd t74 false (fun k=>ev prog (binM .gtr 3 (.tmp 76) (.const (.int .i64 1114111)) t76 (.int .i64 1114111)) w k) w fun t77 w=>
 pickS t74 (.bool true) t77 w fun t78 w=>
 gd t78 false (fun k=>k x6 w) w fun t80 w=>
 gd t78 false (fun k=>ev prog (binM .geq 3 (.tmp 80) (.const (.int .i64 55296)) t80 (.int .i64 55296)) w k) w fun t81 w=>
 gd t78 false (fun k=>k t81 w) w fun t82 w=>
 gd t82 true (fun k=>k x6 w) w fun t83 w=>
 gd t82 true (fun k=>ev prog (binM .lss 3 (.tmp 83) (.const (.int .i64 57344)) t83 (.int .i64 57344)) w k) w fun t84 w=>
 gd t78 false (fun k=>pickS t82 t84 (.bool false) w k) w fun t85 w=>
 pickS t78 (.bool true) t85 w fun t86 w=>
 cndS t86 (
 K (.bool false) w) (
 ev prog (Instr.sliceAt 9 x0 (some x4) none none) w fun t89 w=>
 E1 t89 w)
theorem f103_k3_eq (K:K1) (E1:VP1) (x0 x4 x5 x6:Value) (w:World):f103_k3 K E1 x0 x4 x5 x6 w=f103_k3_t x0 x4 x5 x6 K E1 w:=cutE fun σ=>by kernel_rfl
def f103_l2_t (x0 x4 x5 x6 x7:Value) (K:K1) (E1:VP1) (E2:VP2) (w:World):Prop:=
 ev prog (binM .lss 3 (.tmp 49) (.tmp 50) x7 x4) w fun t51 w=>
 cndS t51 (
 ev prog (Instr.index 9 x0 x7) w fun t56 w=>
 ev prog (binM .lss 5 (.tmp 56) (.const (.int .u8 ((128:Nat):Int))) t56 (.int .u8 ((128:Nat):Int))) w fun t57 w=>
 gd t57 false (fun k=>k x0 w) w fun t59 w=>
 gd t57 false (fun k=>k x7 w) w fun t60 w=>
 gd t57 false (fun k=>ev prog (Instr.index 9 t59 t60) w k) w fun t61 w=>
 gd t57 false (fun k=>ev prog (binM .geq 5 (.tmp 61) (.const (.int .u8 ((192:Nat):Int))) t61 (.int .u8 ((192:Nat):Int))) w k) w fun t62 w=>
 pickS t57 (.bool true) t62 w fun t63 w=>
 cndS t63 (
 K (.bool false) w) (
 ev prog (binM .mul 3 (.tmp 64) (.const (.int .i64 64)) x6 (.int .i64 64)) w fun t65 w=>
 ev prog (Instr.index 9 x0 x7) w fun t68 w=>
 ev prog (convert 5 3 t68) w fun t69 w=>
 ev prog (binM .add 3 (.tmp 65) (.tmp 69) t65 t69) w fun t70 w=>
 ev prog (binM .sub 3 (.tmp 70) (.const (.int .i64 128)) t70 (.int .i64 128)) w fun t71 w=>
 ev prog (binM .add 3 (.tmp 52) (.const (.int .i64 1)) x7 (.int .i64 1)) w fun t53 w=>
 E2 t71 t53 w)) (
 f103_k3 K E1 x0 x4 x5 x6 w)
theorem f103_l2_rule (x0 x4 x5 x6 x7:Value) (K:K1) (E1:VP1) (w:World) (I:VP2) (μ:Value→Value→World→Nat) (h0:I x6 x7 w)
  (hr:∀(x6 x7:Value) (w:World),I x6 x7 w→∀E2:VP2,(∀(y6 y7:Value) (w':World),I y6 y7 w'→μ y6 y7 w'<μ x6 x7 w→E2 y6 y7 w')→f103_l2_t x0 x4 x5 x6 x7 K E1 E2 w):f103_l2 K E1 x0 x4 x5 x6 x7 w:=
 ⟨I,μ,h0,fun σ w hI E hE=>cast kR (hr (σ 6) (σ 7) w hI E hE)⟩
def f103_t (x0:Value) (K:K1) (w:World):Prop:=
 f103_l1 K x0 w
theorem f103_call (x0:Value) (K:K1) (w:World) (h:f103_t x0 K w):callS prog 103 #[x0] w K:=
 call_of_txt (args:= [x0]) mixed Tryz.func103 f103_u.2 kR (cast kR h)
def f105_t (x0 x1:Value) (K:K1) (w:World):Prop:=
 ev prog (Instr.box 207 x0) w fun t2 w=>
 ev prog (Instr.box 39 x1) w fun t3 w=>
 ev prog (Instr.fieldAt 207 t2 1) w fun t5 w=>
 ldS prog 37 t5 w fun t6 w=>
 callS prog 168 (pA #[t6]) w fun t7 w=>
 ev prog (Op.unary .not t7) w fun t8 w=>
 gd t8 false (fun k=>ev prog (Instr.fieldAt 39 t3 0) w k) w fun t10 w=>
 gd t8 false (fun k=>ldS prog 37 t10 w k) w fun t11 w=>
 gd t8 false (fun k=>ev prog (Instr.fieldAt 207 t2 1) w k) w fun t12 w=>
 gd t8 false (fun k=>ldS prog 37 t12 w k) w fun t13 w=>
 gd t8 false (fun k=>ev prog (binM .neq 37 (.tmp 11) (.tmp 13) t11 t13) w k) w fun t14 w=>
 pickS t8 (.bool true) t14 w fun t15 w=>
 gd t15 false (fun k=>ev prog (Instr.fieldAt 39 t3 1) w k) w fun t17 w=>
 gd t15 false (fun k=>ldS prog 4 t17 w k) w fun t18 w=>
 gd t15 false (fun k=>k t18 w) w fun t19 w=>
 gd t19 true (fun k=>ev prog (Instr.fieldAt 207 t2 2) w k) w fun t20 w=>
 gd t19 true (fun k=>ldS prog 4 t20 w k) w fun t21 w=>
 gd t19 true (fun k=>ev prog (Op.unary .not t21) w k) w fun t22 w=>
 gd t15 false (fun k=>pickS t19 t22 (.bool false) w k) w fun t23 w=>
 pickS t15 (.bool true) t23 w fun t24 w=>
 cndS t24 (
 K (.int .i64 16) w) (
 ev prog (Instr.fieldAt 39 t3 1) w fun t25 w=>
 ldS prog 4 t25 w fun t26 w=>
 gd t26 false (fun k=>ev prog (Instr.fieldAt 39 t3 0) w k) w fun t28 w=>
 gd t26 false (fun k=>ldS prog 37 t28 w k) w fun t29 w=>
 gd t26 false (fun k=>ev prog (binM .neq 37 (.tmp 29) (.const (.int .u8 ((1:Nat):Int))) t29 (.int .u8 ((1:Nat):Int))) w k) w fun t30 w=>
 pickS t26 (.bool true) t30 w fun t31 w=>
 gd t31 true (fun k=>ev prog (Instr.fieldAt 39 t3 2) w k) w fun t33 w=>
 gd t31 true (fun k=>ldS prog 2 t33 w k) w fun t34 w=>
 gd t31 true (fun k=>ev prog (binM .neq 2 (.tmp 34) (.const (.int .i64 0)) t34 (.int .i64 0)) w k) w fun t35 w=>
 pickS t31 t35 (.bool false) w fun t36 w=>
 gd t36 false (fun k=>ev prog (Instr.fieldAt 39 t3 1) w k) w fun t38 w=>
 gd t36 false (fun k=>ldS prog 4 t38 w k) w fun t39 w=>
 gd t36 false (fun k=>k t39 w) w fun t40 w=>
 gd t40 false (fun k=>ev prog (Instr.fieldAt 39 t3 0) w k) w fun t41 w=>
 gd t40 false (fun k=>ldS prog 37 t41 w k) w fun t42 w=>
 gd t40 false (fun k=>ev prog (binM .neq 37 (.tmp 42) (.const (.int .u8 ((2:Nat):Int))) t42 (.int .u8 ((2:Nat):Int))) w k) w fun t43 w=>
 gd t36 false (fun k=>pickS t40 (.bool true) t43 w k) w fun t44 w=>
 gd t36 false (fun k=>k t44 w) w fun t45 w=>
 gd t45 true (fun k=>ev prog (Instr.fieldAt 39 t3 3) w k) w fun t46 w=>
 gd t45 true (fun k=>ldS prog 9 t46 w k) w fun t47 w=>
 gd t45 true (fun k=>ev prog (binM .neq 9 (.tmp 47) (.const (.string {data:= #[]})) t47 (.string {data:= #[]})) w k) w fun t48 w=>
 gd t36 false (fun k=>pickS t45 t48 (.bool false) w k) w fun t49 w=>
 pickS t36 (.bool true) t49 w fun t50 w=>
 gd t50 false (fun k=>ev prog (Instr.fieldAt 39 t3 1) w k) w fun t52 w=>
 gd t50 false (fun k=>ldS prog 4 t52 w k) w fun t53 w=>
 gd t50 false (fun k=>k t53 w) w fun t54 w=>
 gd t54 false (fun k=>ev prog (Instr.fieldAt 39 t3 0) w k) w fun t55 w=>
 gd t54 false (fun k=>ldS prog 37 t55 w k) w fun t56 w=>
 gd t54 false (fun k=>ev prog (binM .neq 37 (.tmp 56) (.const (.int .u8 ((3:Nat):Int))) t56 (.int .u8 ((3:Nat):Int))) w k) w fun t57 w=>
 gd t50 false (fun k=>pickS t54 (.bool true) t57 w k) w fun t58 w=>
 gd t50 false (fun k=>k t58 w) w fun t59 w=>
 gd t59 true (fun k=>ev prog (Instr.fieldAt 39 t3 4) w k) w fun t60 w=>
 gd t59 true (fun k=>ldS prog 4 t60 w k) w fun t61 w=>
 gd t50 false (fun k=>pickS t59 t61 (.bool false) w k) w fun t62 w=>
 pickS t50 (.bool true) t62 w fun t63 w=>
 cndS t63 (
 K (.int .i64 16) w) (
 ev prog (Instr.fieldAt 39 t3 2) w fun t64 w=>
 ldS prog 2 t64 w fun t65 w=>
 ev prog (binM .lss 2 (.tmp 65) (.const (.int .i64 (-2147483648))) t65 (.int .i64 (-2147483648))) w fun t66 w=>
 gd t66 false (fun k=>ev prog (Instr.fieldAt 39 t3 2) w k) w fun t68 w=>
 gd t66 false (fun k=>ldS prog 2 t68 w k) w fun t69 w=>
 gd t66 false (fun k=>ev prog (binM .gtr 2 (.tmp 69) (.const (.int .i64 2147483647)) t69 (.int .i64 2147483647)) w k) w fun t70 w=>
 pickS t66 (.bool true) t70 w fun t71 w=>
 gd t71 false (fun k=>ev prog (Instr.fieldAt 39 t3 3) w k) w fun t73 w=>
 gd t71 false (fun k=>ldS prog 9 t73 w k) w fun t74 w=>
 gd t71 false (fun k=>callS prog 169 (pA #[t74]) w k) w fun t75 w=>
 gd t71 false (fun k=>ev prog (Op.unary .not t75) w k) w fun t76 w=>
 pickS t71 (.bool true) t76 w fun t77 w=>
 cndS t77 (
 K (.int .i64 16) w) (
 ev prog (Instr.fieldAt 39 t3 3) w fun t78 w=>
 ldS prog 9 t78 w fun t79 w=>
 bltS prog .len #[9] 3 #[false] #[t79] w fun t80 w=>
 ev prog (binM .gtr 3 (.tmp 80) (.const (.int .i64 200)) t80 (.int .i64 200)) w fun t81 w=>
 cndS t81 (
 K (.int .i64 9) w) (
 K (.int .i64 0) w))))
theorem f105_call (x0 x1:Value) (K:K1) (w:World) (h:f105_t x0 x1 K w):callS prog 105 #[x0,x1] w K:=
 call_of_txt (args:= [x0,x1]) mixed Tryz.func105 .o kR (cast kR h)
def f168_t (x0:Value) (K:K1) (w:World):Prop:=
 ev prog (binM .eql 37 (.tmp 3) (.const (.int .u8 ((1:Nat):Int))) x0 (.int .u8 ((1:Nat):Int))) w fun t4 w=>
 gd t4 false (fun k=>k x0 w) w fun t6 w=>
 gd t4 false (fun k=>ev prog (binM .eql 37 (.tmp 6) (.const (.int .u8 ((2:Nat):Int))) t6 (.int .u8 ((2:Nat):Int))) w k) w fun t7 w=>
 pickS t4 (.bool true) t7 w fun t8 w=>
 gd t8 false (fun k=>k x0 w) w fun t10 w=>
 gd t8 false (fun k=>ev prog (binM .eql 37 (.tmp 10) (.const (.int .u8 ((3:Nat):Int))) t10 (.int .u8 ((3:Nat):Int))) w k) w fun t11 w=>
 pickS t8 (.bool true) t11 w fun t12 w=>
 K t12 w
theorem f168_call (x0:Value) (K:K1) (w:World) (h:f168_t x0 K w):callS prog 168 #[x0] w K:=
 call_of_txt (args:= [x0]) mixed Tryz.func168 .o kR (cast kR h)
end Go.Proofs.YtjegifbmbianiaaGreatDoor
namespace Go.Proofs.YtjegifbmbianiaaGreatDoor
open Go Go.Sh Go.Utp
theorem hS:sxT prog 9=true:=by kernel_rfl
abbrev UT (w:World):Prop:=Lib.Utf8Tabs 2 3 w
def Bx (w:World) (b:Nat) (l:List Value):Prop:=b<w.heap.size∧∀j u,l[j]? =some u→w.cell? ⟨b,j,none⟩=some u
theorem Bx.ext {w w':World} {b:Nat} {l:List Value} (h:Bx w b l) (e:Ext w w'):Bx w' b l:=⟨Nat.lt_of_lt_of_le h.1 e.size,fun j u hj=>e.cell_some (h.2 j u hj)⟩
theorem Bx.frm {G:Nat→Prop} {w w':World} {b:Nat} {l:List Value} (h:Bx w b l) (g:Frm G w w') (hb:¬G b):Bx w' b l:=⟨Nat.lt_of_lt_of_le h.1 g.size,fun j u hj=>by rw [g.cell b _ h.1 hb];exact h.2 j u hj⟩
theorem Bx.new (w:World) (a:Array Value) (t:TypeId):Bx (w.alloc (.cells a t)) w.heap.size a.toList:=by
 refine ⟨by simp,fun j u hj=> ?_⟩
 rw [cell_of_blk (heap_alloc_eq w _)]
 simpa using hj
theorem kbox {P:Program} {t:TypeId} {v:Value} {w:World} {k:K1} (h:∀w1 b,Ext w w1→b=w.heap.size→w1.heap.size=w.heap.size+1→Bx w1 b v.cells.toList→k (.pointer (some ⟨b,0,none⟩)) w1):ev P (Instr.box t v) w k:=by
 rw [ev_box]
 exact h _ _ (Ext.alloc_self w _) rfl (size_alloc _ _) (Bx.new w _ _)
theorem UT.ext {w w':World} (h:UT w) (e:Ext w w'):UT w':=Go.Proofs.Utf8Tabs_below h e
theorem sx_ne0 {P:Program} (t:TypeId) (x y:Operand) (s:ByteArray) (w:World) (kk:K1):ev P (binM .neq t x y (.string s) (.string ⟨#[]⟩)) w kk=kk (.bool (decide (s.data.toList≠ []))) w:=by
 rw [sx_neq]
 congr 2
 by_cases h:s.data.toList= []
 ·rw [h,decide_eq_false (by simp)];rfl
 ·rw [decide_eq_true h]
  have:(s.data.toList==(ByteArray.mk #[]).data.toList)=false:=by simpa using h
  rw [this];rfl
theorem c_known (t:Nat) (w:World) (K:K1):callS prog 168 #[.int .u8 (t:Int)] w K=K (.bool (decide (1≤t∧t≤3))) w:=by
 refine callS_det (by kernel_rfl) (f168_call _ _ _ ?_) K
 unfold f168_t
 by_cases h1:t=1
 ·subst h1;simp (disch:=try exact dZ) only [↓RBp,↓RA,↓reduceIte,Nat.reduceAdd,Nat.reduceMul,Nat.reduceEqDiff,RB,RX,RA2]
 by_cases h2:t=2
 ·subst h2;simp (disch:=try exact dZ) only [↓RBp,↓RA,↓reduceIte,Nat.reduceAdd,Nat.reduceMul,Nat.reduceEqDiff,RB,RX,RA2]
 by_cases h3:t=3
 ·subst h3;simp (disch:=try exact dZ) only [↓RBp,↓RA,↓reduceIte,Nat.reduceAdd,Nat.reduceMul,Nat.reduceEqDiff,RB,RX,RA2]
 have z1:¬(t:Int)=1:=oM
 have z2:¬(t:Int)=2:=oM
 have z3:¬(t:Int)=3:=oM
 have e:decide (1≤t∧t≤3)=false:=decide_eq_false oM
 rw [e]
 simp (disch:=try exact dZ) only [↓RBp,↓RA,↓reduceIte,Nat.reduceAdd,Nat.reduceMul,Nat.reduceEqDiff,RB,RX,RA2,z1,z2,z3]
theorem k_Fits {w:World} (v:Vl) (hv:v.ok) (hT:UT w) (K:K1) (hK:∀w' (e:Int),Ext w w'→e=((fitN v:Nat):Int)→K (.int .i64 e) w'):
  callS prog 105 #[.agg #[.string ⟨#[]⟩,.int .u8 (v.t:Int),.bool true,.int .i64 0,.int .u8 0,.bool false,.int .i64 0,.string ⟨#[]⟩,.bool false],vV v] w K:=by
 obtain ⟨t,n,i,s,b⟩:=v
 obtain ⟨ht,hi,hs⟩:=hv
 simp only at ht hi hs hK
 refine f105_call _ _ _ _ ?_
 unfold f105_t vV
 refine kbox (fun w1 b1 e1 _ _ x1=>kbox (fun w2 b2 e2 _ _ x2=> ?_))
 have x1:=x1.ext e2
 have hT2:=(hT.ext e1).ext e2
 have hE:=e1.trans e2
 have d1:w2.cell? ⟨b1,1,none⟩=some (.int .u8 (t:Int)):=x1.2 1 _ rfl
 have d2:w2.cell? ⟨b1,2,none⟩=some (.bool true):=x1.2 2 _ rfl
 have c0:w2.cell? ⟨b2,0,none⟩=some (.int .u8 (t:Int)):=x2.2 0 _ rfl
 have c1:w2.cell? ⟨b2,1,none⟩=some (.bool n):=x2.2 1 _ rfl
 have c2:w2.cell? ⟨b2,2,none⟩=some (.int .i64 i):=x2.2 2 _ rfl
 have c3:w2.cell? ⟨b2,3,none⟩=some (.string s):=x2.2 3 _ rfl
 have c4:w2.cell? ⟨b2,4,none⟩=some (.bool b):=x2.2 4 _ rfl
 have hs':s.size≤9223372036854775807:=Nat.le_trans hs (by decide)
 by_cases h1:1≤t∧t≤3
 ·have e1:decide (1≤t∧t≤3)=true:=decide_eq_true h1
  cases n with
  |false=>
   have hcases:t=1∨t=2∨t=3:=oM
   rcases hcases with rfl|rfl|rfl
   ·by_cases es:s.data.toList= []
    ·have z0:decide (s.data.toList≠ [])=false:=decide_eq_false (by simp [es])
     cases b with
     |false=>
      by_cases i0:i< -2147483648
      ·simp (disch:=try exact dZ) only [↓RBp,↓RA,↓reduceIte,Nat.reduceAdd,Nat.reduceMul,Nat.reduceEqDiff,RB,RX,RA2,↓R6.RT,↓c_known,e1,d1,d2,c0,c1,c2,c3,c4,sx_ne0,z0,i0]
       exact hK _ _ hE (by simp [fitN,es,i0])
      ·by_cases i1:2147483647<i
       ·simp (disch:=try exact dZ) only [↓RBp,↓RA,↓reduceIte,Nat.reduceAdd,Nat.reduceMul,Nat.reduceEqDiff,RB,RX,RA2,↓R6.RT,↓c_known,e1,d1,d2,c0,c1,c2,c3,c4,sx_ne0,z0,i0,i1]
        exact hK _ _ hE (by simp [fitN,es,i0,i1])
       ·simp (disch:=try exact dZ) only [↓RBp,↓RA,↓reduceIte,Nat.reduceAdd,Nat.reduceMul,Nat.reduceEqDiff,RB,RX,RA2,↓R6.RT,↓c_known,e1,d1,d2,c0,c1,c2,c3,c4,sx_ne0,z0,i0,i1]
        refine k_ValidS s hs' hT2 _ (fun w3 e3=> ?_)
        have c3':=e3.cell_some c3
        cases hV:Lib.validD s.data.toList
        ·simp (disch:=try exact dZ) only [↓RBp,↓RA,↓reduceIte,Nat.reduceAdd,Nat.reduceMul,Nat.reduceEqDiff,RB,RX,RA2,↓R6.RT,hV,z0,i0,i1]
         exact hK _ _ (hE.trans e3) (by simp [fitN,hV,(es▸hV),es,i0,i1])
        ·by_cases hz:200<s.size
         ·have z:(200:Int)<(s.size:Int):=oM
          simp (disch:=try exact dZ) only [↓RBp,↓RA,↓reduceIte,Nat.reduceAdd,Nat.reduceMul,Nat.reduceEqDiff,RB,RX,RA2,↓R6.RT,hV,c3',sx_len hS,z,z0,i0,i1]
          exact hK _ _ (hE.trans e3) (by simp [fitN,hV,(es▸hV),hz,es,i0,i1])
         ·have z:¬(200:Int)<(s.size:Int):=oM
          simp (disch:=try exact dZ) only [↓RBp,↓RA,↓reduceIte,Nat.reduceAdd,Nat.reduceMul,Nat.reduceEqDiff,RB,RX,RA2,↓R6.RT,hV,c3',sx_len hS,z,z0,i0,i1]
          exact hK _ _ (hE.trans e3) (by simp [fitN,hV,(es▸hV),hz,es,i0,i1])
     |true=>
      simp (disch:=try exact dZ) only [↓RBp,↓RA,↓reduceIte,Nat.reduceAdd,Nat.reduceMul,Nat.reduceEqDiff,RB,RX,RA2,↓R6.RT,↓c_known,e1,d1,d2,c0,c1,c2,c3,c4,sx_ne0,z0]
      exact hK _ _ hE (by simp [fitN,es])
    ·have z0:decide (s.data.toList≠ [])=true:=decide_eq_true es
     simp (disch:=try exact dZ) only [↓RBp,↓RA,↓reduceIte,Nat.reduceAdd,Nat.reduceMul,Nat.reduceEqDiff,RB,RX,RA2,↓R6.RT,↓c_known,e1,d1,d2,c0,c1,c2,c3,c4,sx_ne0,z0]
     exact hK _ _ hE (by simp [fitN,es])
   ·by_cases iz:i=0
    ·subst iz
     cases b with
     |false=>
      simp (disch:=try exact dZ) only [↓RBp,↓RA,↓reduceIte,Nat.reduceAdd,Nat.reduceMul,Nat.reduceEqDiff,RB,RX,RA2,↓R6.RT,↓c_known,e1,d1,d2,c0,c1,c2,c3,c4,sx_ne0,]
      refine k_ValidS s hs' hT2 _ (fun w3 e3=> ?_)
      have c3':=e3.cell_some c3
      cases hV:Lib.validD s.data.toList
      ·simp (disch:=try exact dZ) only [↓RBp,↓RA,↓reduceIte,Nat.reduceAdd,Nat.reduceMul,Nat.reduceEqDiff,RB,RX,RA2,↓R6.RT,hV,]
       exact hK _ _ (hE.trans e3) (by simp [fitN,hV,])
      ·by_cases hz:200<s.size
       ·have z:(200:Int)<(s.size:Int):=oM
        simp (disch:=try exact dZ) only [↓RBp,↓RA,↓reduceIte,Nat.reduceAdd,Nat.reduceMul,Nat.reduceEqDiff,RB,RX,RA2,↓R6.RT,hV,c3',sx_len hS,z,]
        exact hK _ _ (hE.trans e3) (by simp [fitN,hV,hz,])
       ·have z:¬(200:Int)<(s.size:Int):=oM
        simp (disch:=try exact dZ) only [↓RBp,↓RA,↓reduceIte,Nat.reduceAdd,Nat.reduceMul,Nat.reduceEqDiff,RB,RX,RA2,↓R6.RT,hV,c3',sx_len hS,z,]
        exact hK _ _ (hE.trans e3) (by simp [fitN,hV,hz,])
     |true=>
      simp (disch:=try exact dZ) only [↓RBp,↓RA,↓reduceIte,Nat.reduceAdd,Nat.reduceMul,Nat.reduceEqDiff,RB,RX,RA2,↓R6.RT,↓c_known,e1,d1,d2,c0,c1,c2,c3,c4,sx_ne0,]
      exact hK _ _ hE (by simp [fitN,])
    ·skip
     simp (disch:=try exact dZ) only [↓RBp,↓RA,↓reduceIte,Nat.reduceAdd,Nat.reduceMul,Nat.reduceEqDiff,RB,RX,RA2,↓R6.RT,↓c_known,e1,d1,d2,c0,c1,c2,c3,c4,sx_ne0,iz]
     exact hK _ _ hE (by simp [fitN,iz])
   ·by_cases iz:i=0
    ·subst iz
     by_cases es:s.data.toList= []
     ·have z0:decide (s.data.toList≠ [])=false:=decide_eq_false (by simp [es])
      simp (disch:=try exact dZ) only [↓RBp,↓RA,↓reduceIte,Nat.reduceAdd,Nat.reduceMul,Nat.reduceEqDiff,RB,RX,RA2,↓R6.RT,↓c_known,e1,d1,d2,c0,c1,c2,c3,c4,sx_ne0,z0]
      refine k_ValidS s hs' hT2 _ (fun w3 e3=> ?_)
      have c3':=e3.cell_some c3
      cases hV:Lib.validD s.data.toList
      ·simp (disch:=try exact dZ) only [↓RBp,↓RA,↓reduceIte,Nat.reduceAdd,Nat.reduceMul,Nat.reduceEqDiff,RB,RX,RA2,↓R6.RT,hV,z0]
       exact hK _ _ (hE.trans e3) (by simp [fitN,hV,(es▸hV),es])
      ·by_cases hz:200<s.size
       ·have z:(200:Int)<(s.size:Int):=oM
        simp (disch:=try exact dZ) only [↓RBp,↓RA,↓reduceIte,Nat.reduceAdd,Nat.reduceMul,Nat.reduceEqDiff,RB,RX,RA2,↓R6.RT,hV,c3',sx_len hS,z,z0]
        exact hK _ _ (hE.trans e3) (by simp [fitN,hV,(es▸hV),hz,es])
       ·have z:¬(200:Int)<(s.size:Int):=oM
        simp (disch:=try exact dZ) only [↓RBp,↓RA,↓reduceIte,Nat.reduceAdd,Nat.reduceMul,Nat.reduceEqDiff,RB,RX,RA2,↓R6.RT,hV,c3',sx_len hS,z,z0]
        exact hK _ _ (hE.trans e3) (by simp [fitN,hV,(es▸hV),hz,es])
     ·have z0:decide (s.data.toList≠ [])=true:=decide_eq_true es
      simp (disch:=try exact dZ) only [↓RBp,↓RA,↓reduceIte,Nat.reduceAdd,Nat.reduceMul,Nat.reduceEqDiff,RB,RX,RA2,↓R6.RT,↓c_known,e1,d1,d2,c0,c1,c2,c3,c4,sx_ne0,z0]
      exact hK _ _ hE (by simp [fitN,es])
    ·skip
     simp (disch:=try exact dZ) only [↓RBp,↓RA,↓reduceIte,Nat.reduceAdd,Nat.reduceMul,Nat.reduceEqDiff,RB,RX,RA2,↓R6.RT,↓c_known,e1,d1,d2,c0,c1,c2,c3,c4,sx_ne0,iz]
     exact hK _ _ hE (by simp [fitN,iz])
  |true=>
   by_cases iz:i=0
   ·subst iz
    by_cases es:s.data.toList= []
    ·have z0:decide (s.data.toList≠ [])=false:=decide_eq_false (by simp [es])
     cases b with
     |false=>
      simp (disch:=try exact dZ) only [↓RBp,↓RA,↓reduceIte,Nat.reduceAdd,Nat.reduceMul,Nat.reduceEqDiff,RB,RX,RA2,↓R6.RT,↓c_known,e1,d1,d2,c0,c1,c2,c3,c4,sx_ne0,z0]
      refine k_ValidS s hs' hT2 _ (fun w3 e3=> ?_)
      have c3':=e3.cell_some c3
      cases hV:Lib.validD s.data.toList
      ·simp (disch:=try exact dZ) only [↓RBp,↓RA,↓reduceIte,Nat.reduceAdd,Nat.reduceMul,Nat.reduceEqDiff,RB,RX,RA2,↓R6.RT,hV,z0]
       exact hK _ _ (hE.trans e3) (by simp [fitN,hV,(es▸hV),es,h1])
      ·by_cases hz:200<s.size
       ·have z:(200:Int)<(s.size:Int):=oM
        simp (disch:=try exact dZ) only [↓RBp,↓RA,↓reduceIte,Nat.reduceAdd,Nat.reduceMul,Nat.reduceEqDiff,RB,RX,RA2,↓R6.RT,hV,c3',sx_len hS,z,z0]
        exact hK _ _ (hE.trans e3) (by simp [fitN,hV,(es▸hV),hz,es,h1])
       ·have z:¬(200:Int)<(s.size:Int):=oM
        simp (disch:=try exact dZ) only [↓RBp,↓RA,↓reduceIte,Nat.reduceAdd,Nat.reduceMul,Nat.reduceEqDiff,RB,RX,RA2,↓R6.RT,hV,c3',sx_len hS,z,z0]
        exact hK _ _ (hE.trans e3) (by simp [fitN,hV,(es▸hV),hz,es,h1])
     |true=>
      simp (disch:=try exact dZ) only [↓RBp,↓RA,↓reduceIte,Nat.reduceAdd,Nat.reduceMul,Nat.reduceEqDiff,RB,RX,RA2,↓R6.RT,↓c_known,e1,d1,d2,c0,c1,c2,c3,c4,sx_ne0,z0]
      exact hK _ _ hE (by simp [fitN,es,h1])
    ·have z0:decide (s.data.toList≠ [])=true:=decide_eq_true es
     simp (disch:=try exact dZ) only [↓RBp,↓RA,↓reduceIte,Nat.reduceAdd,Nat.reduceMul,Nat.reduceEqDiff,RB,RX,RA2,↓R6.RT,↓c_known,e1,d1,d2,c0,c1,c2,c3,c4,sx_ne0,z0]
     exact hK _ _ hE (by simp [fitN,es,h1])
   ·skip
    simp (disch:=try exact dZ) only [↓RBp,↓RA,↓reduceIte,Nat.reduceAdd,Nat.reduceMul,Nat.reduceEqDiff,RB,RX,RA2,↓R6.RT,↓c_known,e1,d1,d2,c0,c1,c2,c3,c4,sx_ne0,iz]
    exact hK _ _ hE (by simp [fitN,iz,h1])
 ·have e1:decide (1≤t∧t≤3)=false:=decide_eq_false h1
  simp (disch:=try exact dZ) only [↓RBp,↓RA,↓reduceIte,Nat.reduceAdd,Nat.reduceMul,Nat.reduceEqDiff,RB,RX,RA2,↓R6.RT,↓c_known,e1,d1]
  exact hK _ _ hE (by simp [fitN,h1])
structure VB (w:World) (b:Nat) (v:Vl):Prop where
 c0:w.cell? ⟨b,0,none⟩=some (.int .u8 (v.t:Int))
 c1:w.cell? ⟨b,1,none⟩=some (.bool v.n)
 c2:w.cell? ⟨b,2,none⟩=some (.int .i64 v.i)
 c3:w.cell? ⟨b,3,none⟩=some (.string v.s)
 c4:w.cell? ⟨b,4,none⟩=some (.bool v.b)
structure RV (w:World) (b:Nat) (v:Vl):Prop where
 c0:w.cell? ⟨b,0,none⟩=some (.int .i64 (v.t:Int))
 c1:w.cell? ⟨b,1,none⟩=some (.bool v.n)
 c2:w.cell? ⟨b,2,none⟩=some (.int .i64 v.i)
 c3:w.cell? ⟨b,3,none⟩=some (.string v.s)
 c4:w.cell? ⟨b,4,none⟩=some (.bool v.b)
theorem VB.of {w:World} {b:Nat} {v:Vl} (h:Bx w b (vV v).cells.toList):VB w b v:=⟨h.2 0 _ rfl,h.2 1 _ rfl,h.2 2 _ rfl,h.2 3 _ rfl,h.2 4 _ rfl⟩
theorem RV.of {w:World} {b:Nat} {v:Vl} (h:Bx w b (rV v).cells.toList):RV w b v:=⟨h.2 0 _ rfl,h.2 1 _ rfl,h.2 2 _ rfl,h.2 3 _ rfl,h.2 4 _ rfl⟩
theorem VB.ext {w w':World} {b:Nat} {v:Vl} (h:VB w b v) (e:Ext w w'):VB w' b v:=⟨e.cell_some h.c0,e.cell_some h.c1,e.cell_some h.c2,e.cell_some h.c3,e.cell_some h.c4⟩
theorem RV.ext {w w':World} {b:Nat} {v:Vl} (h:RV w b v) (e:Ext w w'):RV w' b v:=⟨e.cell_some h.c0,e.cell_some h.c1,e.cell_some h.c2,e.cell_some h.c3,e.cell_some h.c4⟩
theorem k_rvalid {w:World} (v:Vl) (hv:v.ok) (hT:UT w) (K:K1) (hK:∀w',Ext w w'→K (.bool (decide (fitN v=0))) w'):callS prog 52 #[vV v] w K:=by
 refine f52_call _ _ _ ?_
 unfold f52_t
 refine kbox (fun w1 b e1 _ _ x=> ?_)
 obtain ⟨c0,c1,c2,c3,c4⟩:=VB.of x
 simp (disch:=try exact dZ) only [↓RBp,↓RA,↓reduceIte,Nat.reduceAdd,Nat.reduceMul,Nat.reduceEqDiff,RB,RX,RA2,↓R6.RT,c0,c1,c2,c3,c4]
 refine k_Fits v hv (hT.ext e1) _ (fun w2 e e2 he=> ?_)
 subst he
 by_cases h0:fitN v=0
 ·have z:((fitN v:Nat):Int)=0:=oM
  rw [decide_eq_true h0] at hK
  simp (disch:=try exact dZ) only [↓RBp,↓RA,↓reduceIte,Nat.reduceAdd,Nat.reduceMul,Nat.reduceEqDiff,RB,RX,RA2,z]
  exact hK _ (e1.trans e2)
 ·have z:¬((fitN v:Nat):Int)=0:=oM
  rw [decide_eq_false h0] at hK
  simp (disch:=try exact dZ) only [↓RBp,↓RA,↓reduceIte,Nat.reduceAdd,Nat.reduceMul,Nat.reduceEqDiff,RB,RX,RA2,z]
  exact hK _ (e1.trans e2)
theorem c_number (b:Bool) (w:World) (K:K1):callS prog 55 #[.bool b] w K=K (.int .i64 (b2n b)) w:=by
 refine callS_det (by kernel_rfl) (f55_call _ _ _ ?_) K
 unfold f55_t
 cases b<;>simp (disch:=try exact dZ) only [↓RBp,↓RA,↓reduceIte,Nat.reduceAdd,Nat.reduceMul,Nat.reduceEqDiff,RB,RX,RA2]<;>exact ⟨rfl,trivial⟩
theorem hashN_snoc:∀(l:List UInt8) (h:Nat) (b:UInt8),hashN h (l++ [b])=((hashN h l)^^^b.toNat)*1099511628211%18446744073709551616
 | [],h,b=>rfl
 |a::l,h,b=>hashN_snoc l _ b
theorem take_gb {l:List UInt8} {k:Nat} (h:k<l.length):∃b:UInt8,l.take (k+1)=l.take k++ [b]∧b.toNat=gb l k:=by
 refine ⟨l[k],?_,?_⟩
 ·rw [List.take_add_one,List.getElem?_eq_getElem h];rfl
 ·unfold gb;rw [List.getD_eq_getElem?_getD,List.getElem?_eq_getElem h];rfl
theorem sx_mul64 {P:Program} (t:TypeId) (x y:Operand) (a b:Nat) (w:World) (kk:K1):ev P (binM .mul t x y (.int .u64 (a:Int)) (.int .u64 (b:Int))) w kk=kk (.int .u64 ((a*b%18446744073709551616:Nat):Int)) w:=by
 refine ev_of_run ?_ kk
 rw [run_mul,wrap_u64_mod,←Int.natCast_mul]
 generalize a*b=m
 have:(m:Int)%18446744073709551616=((m%18446744073709551616:Nat):Int):=oM
 rw [this]
theorem k_Hash {w:World} {s:ByteArray} {b c:Nat} (hc:∀j,j<s.size→w.cell? ⟨b,j,none⟩=some (.int .u8 ((gb s.data.toList j:Nat):Int))) (hs:s.size<9223372036854775807) (K:K1) (hK:K (.int .u64 ((hash0 s.data.toList:Nat):Int)) w):
  callS prog 102 #[.slice (some ⟨b,0,none⟩) s.size c] w K:=by
 have hsz:=Lib.size_eq s
 refine f102_call _ _ _ ?_
 unfold f102_t
 simp (disch:=try exact dZ) only [↓RBp,↓RA,↓reduceIte,Nat.reduceAdd,Nat.reduceMul,Nat.reduceEqDiff,RB,RX,RA2,↓R6.RT]
 apply f102_l1_rule (I:=fun y z w'=>∃k:Nat,k≤s.size∧z= .int .i64 (k:Int)∧y= .int .u64 ((hashN 14695981039346656037 (s.data.toList.take k):Nat):Int)∧w'=w) (μ:=fun _ z _=>s.size-(intOf z).toNat)
 ·exact ⟨0,Nat.zero_le _,rfl,rfl,rfl⟩
 ·intros;rename_i w2 hI E1 hE
  obtain ⟨k,hk,rfl,rfl,rfl⟩:=hI
  unfold f102_l1_t
  by_cases hkl:k<s.size
  ·have z:(k:Int)<(s.size:Int):=oM
   have ck:=hc k hkl
   obtain ⟨x,e1,e2⟩:=take_gb (l:=s.data.toList) (k:=k) oM
   have hh:=hashN_lt (s.data.toList.take k) 14695981039346656037 (by decide)
   have hg:=gb_lt s.data.toList k
   have e0:(k:Int)+1=((k+1:Nat):Int):=by push_cast;rfl
   simp (disch:=try exact dZ) only [↓RBp,↓RA,↓reduceIte,Nat.reduceAdd,Nat.reduceMul,Nat.reduceEqDiff,RB,RX,RA2,↓R6.RT,z,ck,e0,sx_mul64]
   refine hE _ _ _ ⟨k+1,by omega,rfl,?_,rfl⟩ ?_
   ·rw [e1,hashN_snoc,e2]
   ·simp only [intOf];omega
  ·have z:¬(k:Int)<(s.size:Int):=oM
   have e:k=s.size:=oM
   simp (disch:=try exact dZ) only [↓RBp,↓RA,↓reduceIte,Nat.reduceAdd,Nat.reduceMul,Nat.reduceEqDiff,RB,RX,RA2,↓R6.RT,z]
   rw [f102_k1_eq]
   unfold f102_k1_t
   rw [e,hsz,List.take_length]
   exact hK
theorem k_Key {w:World} (v:Vl) (hv:v.ok) (hT:UT w) (K:K1) (hbad:fitN v≠0→∀w',Ext w w'→K (.tuple #[.int .u32 0,.int .i64 16]) w') (hok:fitN v=0→∀w',Ext w w'→K (.tuple #[.int .u32 ((keyN v:Nat):Int),.int .i64 0]) w'):
  callS prog 46 #[vV v] w K:=by
 refine f46_call _ _ _ ?_
 unfold f46_t
 refine kbox (fun w1 b e1 _ _ x=> ?_)
 obtain ⟨c0,c1,c2,c3,c4⟩:=VB.of x
 simp (disch:=try exact dZ) only [↓RBp,↓RA,↓reduceIte,Nat.reduceAdd,Nat.reduceMul,Nat.reduceEqDiff,RB,RX,RA2,↓R6.RT,c0,c1,c2,c3,c4]
 refine k_rvalid v hv (hT.ext e1) _ (fun w2 e2=> ?_)
 have e:=e1.trans e2
 by_cases h0:fitN v=0
 ·rw [decide_eq_true h0]
  obtain ⟨c0,c1,c2,c3,c4⟩:=(VB.of x).ext e2
  have hok:=hok h0
  obtain ⟨r1,r2⟩:=(fit0 h0).2.2.2.2.1
  have r0:=(fit0 h0).1
  cases hn:v.n
  ·rw [hn] at c1
   by_cases t1:v.t=1
   ·rw [t1] at c0
    have ek:v.i- -2147483648=((keyN v:Nat):Int):=by simp only [keyN,hn,t1,Bool.false_eq_true,if_false,if_true];omega
    have lk:keyN v<4294967296:=keyN_lt h0
    simp (disch:=try exact dZ) only [↓RBp,↓RA,↓reduceIte,Nat.reduceAdd,Nat.reduceMul,Nat.reduceEqDiff,RB,RX,RA2,↓R6.RT,c0,c1,c2,c3,c4,ek]
    exact hok _ e
   ·have z1:¬(v.t:Int)=1:=oM
    by_cases t2:v.t=2
    ·rw [t2] at c0
     have ek:hash0 v.s.data.toList%4294967296=keyN v:=by simp [keyN,hn,t2]
     simp (disch:=try exact dZ) only [↓RBp,↓RA,↓reduceIte,Nat.reduceAdd,Nat.reduceMul,Nat.reduceEqDiff,RB,RX,RA2,↓R6.RT,c0,c1,c2,c3,c4]
     refine sx_bytes (e:=5) (by kernel_rfl) (by kernel_rfl) (by kernel_rfl) v.s _ _ (fun w3 c e3 _ hc=> ?_)
     refine k_Hash hc (by have:=(fit0 h0).2.2.2.2.2.2;omega) _ ?_
     have hl:hash0 v.s.data.toList<18446744073709551616:=hashN_lt _ _ (by decide)
     simp (disch:=try exact dZ) only [↓RBp,↓RA,↓reduceIte,Nat.reduceAdd,Nat.reduceMul,Nat.reduceEqDiff,RB,RX,RA2,↓R6.RT,ek]
     exact hok _ (e.trans e3)
    ·have z2:¬(v.t:Int)=2:=oM
     have ek:(1:Int)+b2n v.b=((keyN v:Nat):Int):=by cases hb:v.b<;>simp [keyN,hn,t1,t2,hb,b2n]
     have lk:keyN v<4294967296:=keyN_lt h0
     simp (disch:=try exact dZ) only [↓RBp,↓RA,↓reduceIte,Nat.reduceAdd,Nat.reduceMul,Nat.reduceEqDiff,RB,RX,RA2,↓R6.RT,c0,c1,c2,c3,c4,z1,z2,c_number,ek]
     exact hok _ e
  ·rw [hn] at c1
   have ek:keyN v=0:=by simp [keyN,hn]
   rw [ek] at hok
   simp (disch:=try exact dZ) only [↓RBp,↓RA,↓reduceIte,Nat.reduceAdd,Nat.reduceMul,Nat.reduceEqDiff,RB,RX,RA2,↓R6.RT,c0,c1,c2,c3,c4]
   exact hok _ e
 ·rw [decide_eq_false h0]
  simp (disch:=try exact dZ) only [↓RBp,↓RA,↓reduceIte,Nat.reduceAdd,Nat.reduceMul,Nat.reduceEqDiff,RB,RX,RA2,↓R6.RT]
  exact hbad h0 _ e
theorem orAdd {a b k:Nat} (hb:b<2^k):a*2^k|||b=a*2^k+b:=by
 rw [Nat.mul_comm,←Nat.two_pow_add_eq_or_of_lt hb]
theorem pack_or1 {c k:Nat} (hc:c<16) (hk:k<268435456):c*2^60%18446744073709551616|||k*2^32%18446744073709551616=packN c k 0:=by
 have e60:(2:Nat)^60=1152921504606846976:=by decide
 have e32:(2:Nat)^32=4294967296:=by decide
 rw [Nat.mod_eq_of_lt oM,Nat.mod_eq_of_lt oM,orAdd oM]
 unfold packN
 omega
theorem pack_or2 {c k i:Nat} (hi:i<4294967296):packN c k 0|||i=packN c k i:=by
 have e32:(2:Nat)^32=4294967296:=by decide
 have h2:packN c k 0=(c*268435456+k)*2^32:=by unfold packN;omega
 rw [h2,orAdd oM]
 unfold packN;omega
theorem packN_lt {c k i:Nat} (hc:c<16) (hk:k<268435456) (hi:i<4294967296):packN c k i<18446744073709551616:=by unfold packN;omega
theorem c_pack (c k i:Nat) (hc:c<16) (hk:k<268435456) (hi:i<4294967296) (w:World) (K:K1):callS prog 47 #[.int .i64 (c:Int),.int .u32 (k:Int),.int .u32 (i:Int)] w K=K (.int .u64 ((packN c k i:Nat):Int)) w:=by
 refine callS_det (by kernel_rfl) (f47_call _ _ _ _ _ ?_) K
 unfold f47_t
 have e1:=pack_or1 hc hk
 have e2:=pack_or2 (c:=c) (k:=k) hi
 have l1:=packN_lt hc hk (show 0<4294967296 by decide)
 simp (disch:=try exact dZ) only [↓RBp,↓RA,↓reduceIte,Nat.reduceAdd,Nat.reduceMul,Nat.reduceEqDiff,RB,RX,RA2,e1,e2]
theorem pkg1 (A B c:Nat):c*A+0*B+0=c*A:=by simp
theorem pkg2 (A B k:Nat):0*A+k*B+0=k*B:=by simp
theorem pkg3 (A B c k:Nat):(c*A+0*B+0)+(0*A+k*B+0)=c*A+k*B+0:=by simp
theorem pkg4 (A B c k i:Nat):(c*A+k*B+0)+i=c*A+k*B+i:=by simp
theorem pk1 {c:Nat} (hc:c<16):c*1152921504606846976%18446744073709551616=packN c 0 0:=by
 rw [Nat.mod_eq_of_lt (show c*1152921504606846976<18446744073709551616 by omega)]
 unfold packN
 exact (pkg1 1152921504606846976 4294967296 c).symm
theorem pk2 {k:Nat} (hk:k<268435456):k*4294967296%18446744073709551616=packN 0 k 0:=by
 rw [Nat.mod_eq_of_lt (show k*4294967296<18446744073709551616 by omega)]
 unfold packN
 exact (pkg2 1152921504606846976 4294967296 k).symm
theorem pk3 (c k:Nat):packN c 0 0+packN 0 k 0=packN c k 0:=by
 unfold packN
 exact pkg3 1152921504606846976 4294967296 c k
theorem pk4 (c k i:Nat):packN c k 0+i=packN c k i:=by
 unfold packN
 exact pkg4 1152921504606846976 4294967296 c k i
theorem pkz:packN 0 0 0=0:=by
 have:∀A B:Nat,0*A+0*B+0=0:=fun A B=>by simp
 unfold packN
 exact this 1152921504606846976 4294967296
theorem sx_add64 {P:Program} (t:TypeId) (x y:Operand) (a b:Nat) (w:World) (kk:K1):ev P (binM .add t x y (.int .u64 (a:Int)) (.int .u64 (b:Int))) w kk=kk (.int .u64 (((a+b)%18446744073709551616:Nat):Int)) w:=by
 refine ev_of_run ?_ kk
 rw [run_add,wrap_u64_mod,←Int.natCast_add]
 generalize a+b=m
 have:(m:Int)%18446744073709551616=((m%18446744073709551616:Nat):Int):=oM
 rw [this]
theorem pk5 {c k i:Nat} (hc:c<16) (hk:k<268435456) (hi:i<4294967296):packN c k i%18446744073709551616=packN c k i:=Nat.mod_eq_of_lt (packN_lt hc hk hi)
theorem c_refentry (c k i:Nat) (hc:c<16) (hk:k<268435456) (hi:i<4294967296) (w:World) (K:K1):callS prog 49 #[.int .i64 (c:Int),.int .u64 (k:Int),.int .u64 (i:Int)] w K=K (.int .u64 ((packN c k i:Nat):Int)) w:=by
 refine callS_det (by kernel_rfl) (f49_call _ _ _ _ _ ?_) K
 unfold f49_t
 have e1:(packN c 0 0+packN 0 k 0)%18446744073709551616=packN c k 0:=(congrArg (·%18446744073709551616) (pk3 c k)).trans (pk5 hc hk (by decide))
 have e2:(packN c k 0+i)%18446744073709551616=packN c k i:=(congrArg (·%18446744073709551616) (pk4 c k i)).trans (pk5 hc hk hi)
 have m1:=pk1 hc
 have m2:=pk2 hk
 have hcc:(c:Int)<18446744073709551616:=oM
 clear hk hi
 rw [ev_of_run (run_convert (j:= .i64) (k:= .u64) (by kernel_rfl) (by kernel_rfl) _ _ w),cast_wrap (k:= .u64) rfl (by show c<2^64;omega)]
 rw [sx_mul64,m1,sx_mul64,m2,sx_add64,e1,sx_add64,e2]
 exact ⟨rfl,rfl⟩
theorem c_Split (c k i:Nat) (hc:c<16) (hk:k<268435456) (hi:i<4294967296) (w:World) (K:K1):callS prog 20 #[.int .u64 ((packN c k i:Nat):Int)] w K=K (.tuple #[.int .i64 (c:Int),.int .u32 (k:Int),.int .u32 (i:Int)]) w:=by
 refine callS_det (by kernel_rfl) (f20_call _ _ _ ?_) K
 unfold f20_t
 have l1:=packN_lt hc hk hi
 have q1:packN c k i/2^60=c:=by rw [show (2:Nat)^60=1152921504606846976 by decide];unfold packN;omega
 have q2:packN c k i/2^32%268435456=k:=by rw [show (2:Nat)^32=4294967296 by decide];unfold packN;omega
 have q3:packN c k i%4294967296=i:=by unfold packN;omega
 have q4:(packN c k i/2^32&&&268435455)%4294967296=k:=by
  have:=Nat.and_two_pow_sub_one_eq_mod (packN c k i/2^32) 28
  rw [show (2:Nat)^28-1=268435455 by decide,show (2:Nat)^28=268435456 by decide] at this
  rw [this,q2];omega
 simp (disch:=try exact dZ) only [↓RBp,↓RA,↓reduceIte,Nat.reduceAdd,Nat.reduceMul,Nat.reduceEqDiff,RB,RX,RA2,q1,q4,q3]
theorem k_Entry {w:World} (c:Int) (v:Vl) (i:Nat) (hi:i<4294967296) (hv:v.ok) (hT:UT w) (K:K1) (hK:∀w',Ext w w'→K (.tuple #[.int .u64 (((entryN c v i).1:Nat):Int),.int .i64 (((entryN c v i).2:Nat):Int)]) w'):
  callS prog 17 #[.int .i64 c,vV v,.int .u32 (i:Int)] w K:=by
 refine f17_call _ _ _ _ _ ?_
 unfold f17_t
 refine kbox (fun w1 b e1 _ _ x=> ?_)
 obtain ⟨c0,c1,c2,c3,c4⟩:=VB.of x
 unfold entryN at hK
 by_cases h1:c<0
 ·simp (disch:=try exact dZ) only [↓RBp,↓RA,↓reduceIte,Nat.reduceAdd,Nat.reduceMul,Nat.reduceEqDiff,RB,RX,RA2,↓R6.RT,h1]
  rw [if_pos (.inl h1)] at hK
  exact hK _ e1
 ·by_cases h2:15<c
  ·simp (disch:=try exact dZ) only [↓RBp,↓RA,↓reduceIte,Nat.reduceAdd,Nat.reduceMul,Nat.reduceEqDiff,RB,RX,RA2,↓R6.RT,h1,h2]
   rw [if_pos (.inr (.inl h2))] at hK
   exact hK _ e1
  ·cases hn:v.n
   ·rw [hn] at c1
    rw [if_neg (by rw [hn];simp;omega)] at hK
    simp (disch:=try exact dZ) only [↓RBp,↓RA,↓reduceIte,Nat.reduceAdd,Nat.reduceMul,Nat.reduceEqDiff,RB,RX,RA2,↓R6.RT,h1,h2,c0,c1,c2,c3,c4]
    have ev:Value.agg #[.int .u8 (v.t:Int),.bool false,.int .i64 v.i,.string v.s,.bool v.b]=vV v:=by unfold vV;rw [hn]
    rw [ev]
    refine k_Key v hv (hT.ext e1) _ (fun hb w2 e2=> ?_) (fun h0 w2 e2=> ?_)
    ·rw [if_pos hb] at hK
     simp (disch:=try exact dZ) only [↓RBp,↓RA,↓reduceIte,Nat.reduceAdd,Nat.reduceMul,Nat.reduceEqDiff,RB,RX,RA2,↓R6.RT]
     exact hK _ (e1.trans e2)
    ·rw [if_neg oM] at hK
     have lk:=keyN_lt h0
     obtain ⟨n,rfl⟩:∃n:Nat,c=(n:Int):=⟨c.toNat,by omega⟩
     have lq:keyN v/16<268435456:=oM
     have r:=fun w K=>c_pack n (keyN v/16) i oM lq hi w K
     simp (disch:=try exact dZ) only [↓RBp,↓RA,↓reduceIte,Nat.reduceAdd,Nat.reduceMul,Nat.reduceEqDiff,RB,RX,RA2,↓R6.RT,r]
     exact hK _ (e1.trans e2)
   ·rw [hn] at c1
    rw [if_pos (.inr (.inr hn))] at hK
    simp (disch:=try exact dZ) only [↓RBp,↓RA,↓reduceIte,Nat.reduceAdd,Nat.reduceMul,Nat.reduceEqDiff,RB,RX,RA2,↓R6.RT,h1,h2,c1]
    exact hK _ e1
end Go.Proofs.YtjegifbmbianiaaGreatDoor
namespace Go.Utp
open Go Go.Lib Go.Sh
def aU (v:Nat) (l:List UInt8):Nat→Nat
 |0=>v
 |m+1=>aU v l m*64+(gb l (m+1)-128)
theorem aU_le (v:Nat) (l:List UInt8):∀m,aU v l m+3≤(v+3)*64^m
 |0=>by show v+3≤(v+3)*1;omega
 |m+1=>by
  have:=aU_le v l m
  have hg:=gb_lt l (m+1)
  rw [Nat.pow_succ,←Nat.mul_assoc]
  unfold aU
  omega
def allCt (l:List UInt8) (n:Nat):Prop:=∀i,1≤i→i<n→128≤gb l i∧gb l i<192
def RoundU (l:List UInt8) (n low v:Nat):Prop:=1≤n∧n≤4∧v<128∧(l.length<n→validD l=false)∧(n≤l.length→¬allCt l n→validD l=false)∧
 (n≤l.length→allCt l n→validD l=(vOK low (aU v l (n-1))&&validD (l.drop n)))
theorem ct_iff (b:Nat):ct b=true↔128≤b∧b<192:=by unfold ct;simp
theorem round1 (l:List UInt8) (h0:0<l.length) (h:gb l 0<128):RoundU l 1 0 (gb l 0):=by
 refine ⟨by omega,by omega,h,fun h=>by omega,fun _ hn=>(hn fun i h1 h2=>by omega).elim,fun _ _=> ?_⟩
 match l,h0,h with
 |b::t,_,h=>
  have h:b.toNat<128:=h
  rw [validD_cons b t h]
  have:vOK 0 (aU (gb (b::t) 0) (b::t) (1-1))=true:=by
   show vOK 0 b.toNat=true
   unfold vOK;simp;omega
  rw [this];rfl
theorem round2 (l:List UInt8) (h0:0<l.length) (h:192≤gb l 0∧gb l 0<224):RoundU l 2 128 (gb l 0-192):=by
 have hu:=u2 l (by intro e;subst e;simp at h0) h
 refine ⟨by omega,by omega,by omega,fun h=>by rw [hu,decide_eq_false oM];rfl,fun h hn=> ?_,fun h ha=> ?_⟩
 ·rw [hu,decide_eq_true h]
  cases e1:ct (gb l 1)
  ·rfl
  ·exact (hn fun i h1 h2=>by
    have e:i=1:=oM
    subst e
    exact (ct_iff _).1 e1).elim
 ·rw [hu,decide_eq_true h,(ct_iff _).2 (ha 1 oM oM)]
  have e:aU (gb l 0-192) l (2-1)=(gb l 0-192)*64+(gb l 1-128):=rfl
  rw [e]
  simp only [Bool.true_and]
theorem round3 (l:List UInt8) (h0:0<l.length) (h:224≤gb l 0∧gb l 0<240):RoundU l 3 2048 (gb l 0-224):=by
 have hu:=u3 l (by intro e;subst e;simp at h0) h
 refine ⟨by omega,by omega,by omega,fun h=>by rw [hu,decide_eq_false oM];rfl,fun h hn=> ?_,fun h ha=> ?_⟩
 ·rw [hu,decide_eq_true h]
  cases e1:ct (gb l 1)
  ·rfl
  ·cases e2:ct (gb l 2)
   ·rfl
   ·exact (hn fun i h1 h2=>by
     have:i=1∨i=2:=oM
     rcases this with rfl|rfl
     ·exact (ct_iff _).1 e1
     ·exact (ct_iff _).1 e2).elim
 ·rw [hu,decide_eq_true h,(ct_iff _).2 (ha 1 oM oM),(ct_iff _).2 (ha 2 oM oM)]
  have e:aU (gb l 0-224) l (3-1)=((gb l 0-224)*64+(gb l 1-128))*64+(gb l 2-128):=rfl
  rw [e]
  simp only [Bool.true_and]
theorem round4 (l:List UInt8) (h0:0<l.length) (h:240≤gb l 0∧gb l 0<248):RoundU l 4 65536 (gb l 0-240):=by
 have hu:=u4 l (by intro e;subst e;simp at h0) h
 refine ⟨by omega,by omega,by omega,fun h=>by rw [hu,decide_eq_false oM];rfl,fun h hn=> ?_,fun h ha=> ?_⟩
 ·rw [hu,decide_eq_true h]
  cases e1:ct (gb l 1)
  ·rfl
  ·cases e2:ct (gb l 2)
   ·rfl
   ·cases e3:ct (gb l 3)
    ·rfl
    ·exact (hn fun i h1 h2=>by
      have:i=1∨i=2∨i=3:=oM
      rcases this with rfl|rfl|rfl
      ·exact (ct_iff _).1 e1
      ·exact (ct_iff _).1 e2
      ·exact (ct_iff _).1 e3).elim
 ·rw [hu,decide_eq_true h,(ct_iff _).2 (ha 1 oM oM),(ct_iff _).2 (ha 2 oM oM),(ct_iff _).2 (ha 3 oM oM)]
  have e:aU (gb l 0-240) l (4-1)=(((gb l 0-240)*64+(gb l 1-128))*64+(gb l 2-128))*64+(gb l 3-128):=rfl
  rw [e]
  simp only [Bool.true_and]
end Go.Utp
namespace Go.Proofs.YtjegifbmbianiaaGreatDoor
open Go Go.Sh Go.Utp
theorem k_told {w:World} (v:Vl) (hv:v.ok) (K:K1) (hK:∀w',Ext w w'→K (rV v) w'):callS prog 19 #[vV v] w K:=by
 refine f19_call _ _ _ ?_
 unfold f19_t
 refine kbox (fun w1 b e1 hb hs x=> ?_)
 obtain ⟨c0,c1,c2,c3,c4⟩:=VB.of x
 have lb:=x.1
 have ht:=hv.1
 simp (disch:=first|omega|simp only [RO]|exact isOne_s _|(simp only [RZ]<;>omega)|fail) only [↓RBp,↓RA,↓reduceIte,Nat.reduceAdd,Nat.reduceMul,Nat.reduceEqDiff,RB,RX,RA2,↓R6.RT,c0,c1,c2,c3,c4]
 exact hK _ (e1.trans xZ)
section
variable {w:World} {s:ByteArray} {n low v:Nat} {K:K1} {E1:VP1}
theorem u_k3 (hn:n≤s.size) (hlow:low<100000) (hv:v<100000000) (hbad:vOK low v=false→K (.bool false) w) (hgo:vOK low v=true→E1 (.string (s.extract n s.size)) w):f103_k3 K E1 (.string s) (.int .i64 (n:Int)) (.int .i64 (low:Int)) (.int .i64 (v:Int)) w:=by
 rw [f103_k3_eq]
 unfold f103_k3_t
 have hz:(n:Int)≤(s.size:Int):=oM
 by_cases h1:v<low
 ·have z1:(v:Int)<(low:Int):=oM
  simp (disch:=first|omega|simp only [RO]|exact isOne_s _|(simp only [RZ]<;>omega)|fail) only [↓RBp,↓RA,↓reduceIte,Nat.reduceAdd,Nat.reduceMul,Nat.reduceEqDiff,RB,RX,RA2,↓R6.RT,z1]
  exact hbad (by unfold vOK;simp;omega)
 ·have z1:¬(v:Int)<(low:Int):=oM
  by_cases h2:1114111<v
  ·have z2:(1114111:Int)<(v:Int):=oM
   simp (disch:=first|omega|simp only [RO]|exact isOne_s _|(simp only [RZ]<;>omega)|fail) only [↓RBp,↓RA,↓reduceIte,Nat.reduceAdd,Nat.reduceMul,Nat.reduceEqDiff,RB,RX,RA2,↓R6.RT,z1,z2]
   exact hbad (by unfold vOK;simp;omega)
  ·have z2:¬(1114111:Int)<(v:Int):=oM
   by_cases h3:55296≤v
   ·have z3:(55296:Int)≤(v:Int):=oM
    by_cases h4:v<57344
    ·have z4:(v:Int)<57344:=oM
     simp (disch:=first|omega|simp only [RO]|exact isOne_s _|(simp only [RZ]<;>omega)|fail) only [↓RBp,↓RA,↓reduceIte,Nat.reduceAdd,Nat.reduceMul,Nat.reduceEqDiff,RB,RX,RA2,↓R6.RT,z1,z2,z3,z4]
     exact hbad (by unfold vOK;simp;omega)
    ·have z4:¬(v:Int)<57344:=oM
     simp (disch:=first|omega|simp only [RO]|exact isOne_s _|(simp only [RZ]<;>omega)|fail) only [↓RBp,↓RA,↓reduceIte,Nat.reduceAdd,Nat.reduceMul,Nat.reduceEqDiff,RB,RX,RA2,↓R6.RT,z1,z2,z3,z4,sx_lo hS,Int.toNat_natCast]
     exact hgo (by unfold vOK;simp;omega)
   ·have z3:¬(55296:Int)≤(v:Int):=oM
    simp (disch:=first|omega|simp only [RO]|exact isOne_s _|(simp only [RZ]<;>omega)|fail) only [↓RBp,↓RA,↓reduceIte,Nat.reduceAdd,Nat.reduceMul,Nat.reduceEqDiff,RB,RX,RA2,↓R6.RT,z1,z2,z3,sx_lo hS,Int.toNat_natCast]
    exact hgo (by unfold vOK;simp;omega)
theorem u_k2 (hr:RoundU s.data.toList n low v) (hlow:low<100000) (hbad:Lib.validD s.data.toList=false→K (.bool false) w) (hgo:Lib.validD s.data.toList=Lib.validD (s.extract n s.size).data.toList→n≤s.size→E1 (.string (s.extract n s.size)) w):
  f103_k2 K E1 (.string s) (.int .i64 (n:Int)) (.int .i64 (low:Int)) (.int .i64 (v:Int)) w:=by
 obtain ⟨n1,n4,hv,r1,r2,r3⟩:=hr
 have hsz:=Lib.size_eq s
 rw [f103_k2_eq]
 unfold f103_k2_t
 by_cases hn:s.size<n
 ·have z:(s.size:Int)<(n:Int):=oM
  simp (disch:=first|omega|simp only [RO]|exact isOne_s _|(simp only [RZ]<;>omega)|fail) only [↓RBp,↓RA,↓reduceIte,Nat.reduceAdd,Nat.reduceMul,Nat.reduceEqDiff,RB,RX,RA2,↓R6.RT,sx_len hS,z]
  exact hbad (r1 oM)
 ·have z:¬(s.size:Int)<(n:Int):=oM
  simp (disch:=first|omega|simp only [RO]|exact isOne_s _|(simp only [RZ]<;>omega)|fail) only [↓RBp,↓RA,↓reduceIte,Nat.reduceAdd,Nat.reduceMul,Nat.reduceEqDiff,RB,RX,RA2,↓R6.RT,sx_len hS,z]
  apply f103_l2_rule (I:=fun y z w'=>∃m:Nat,m+1≤n∧z= .int .i64 ((m+1:Nat):Int)∧y= .int .i64 ((aU v s.data.toList m:Nat):Int)∧allCt s.data.toList (m+1)∧w'=w) (μ:=fun _ z _=>n-(intOf z).toNat)
  ·exact ⟨0,by omega,rfl,rfl,fun i h1 h2=>by omega,rfl⟩
  ·intros;rename_i w2 hI E2 hE
   obtain ⟨m,hm,rfl,rfl,ha,rfl⟩:=hI
   have hal:=aU_le v s.data.toList m
   have hp:64^m≤262144:=Nat.le_trans (Nat.pow_le_pow_right oM (show m≤3 by omega)) (by decide)
   have hb:aU v s.data.toList m<100000000:=by
    have:(v+3)*64^m≤131*262144:=Nat.mul_le_mul oM hp
    omega
   unfold f103_l2_t
   by_cases hmn:m+1<n
   ·have z1:((m+1:Nat):Int)<(n:Int):=oM
    have q0:(0:Int)≤((m+1:Nat):Int):=oM
    have q1:((m+1:Nat):Int)<(s.size:Int):=oM
    have hg:=gb_lt s.data.toList (m+1)
    by_cases g1:gb s.data.toList (m+1)<128
    ·have y1:((gb s.data.toList (m+1):Nat):Int)<128:=oM
     simp (disch:=first|omega|simp only [RO]|exact isOne_s _|(simp only [RZ]<;>omega)|fail) only [↓RBp,↓RA,↓reduceIte,Nat.reduceAdd,Nat.reduceMul,Nat.reduceEqDiff,RB,RX,RA2,↓R6.RT,z1,sx_idx hS,Int.toNat_natCast,y1]
     exact hbad (r2 oM fun h=>by have:=h (m+1) oM hmn;omega)
    ·have y1:¬((gb s.data.toList (m+1):Nat):Int)<128:=oM
     by_cases g2:192≤gb s.data.toList (m+1)
     ·have y2:(192:Int)≤((gb s.data.toList (m+1):Nat):Int):=oM
      simp (disch:=first|omega|simp only [RO]|exact isOne_s _|(simp only [RZ]<;>omega)|fail) only [↓RBp,↓RA,↓reduceIte,Nat.reduceAdd,Nat.reduceMul,Nat.reduceEqDiff,RB,RX,RA2,↓R6.RT,z1,sx_idx hS,Int.toNat_natCast,y1,y2]
      exact hbad (r2 oM fun h=>by have:=h (m+1) oM hmn;omega)
     ·have y2:¬(192:Int)≤((gb s.data.toList (m+1):Nat):Int):=oM
      have e0:((m+1:Nat):Int)+1=((m+1+1:Nat):Int):=by push_cast;rfl
      simp (disch:=first|omega|simp only [RO]|exact isOne_s _|(simp only [RZ]<;>omega)|fail) only [↓RBp,↓RA,↓reduceIte,Nat.reduceAdd,Nat.reduceMul,Nat.reduceEqDiff,RB,RX,RA2,↓R6.RT,z1,sx_idx hS,Int.toNat_natCast,y1,y2]
      refine hE _ _ _ ⟨m+1,by omega,by first|rfl|(push_cast;rfl),?_,fun i h1 h2=> ?_,rfl⟩ ?_
      ·have ea:aU v s.data.toList (m+1)=aU v s.data.toList m*64+(gb s.data.toList (m+1)-128):=rfl
       rw [ea]
       congr 1
       omega
      ·by_cases hi:i<m+1
       ·exact ha i h1 hi
       ·obtain rfl:i=m+1:=oM
        omega
      ·simp only [intOf];omega
   ·have z1:¬((m+1:Nat):Int)<(n:Int):=oM
    obtain rfl:n=m+1:=oM
    simp (disch:=first|omega|simp only [RO]|exact isOne_s _|(simp only [RZ]<;>omega)|fail) only [↓RBp,↓RA,↓reduceIte,Nat.reduceAdd,Nat.reduceMul,Nat.reduceEqDiff,RB,RX,RA2,↓R6.RT,z1]
    have hx:=Lib.ext_list s (m+1)
    refine u_k3 oM hlow hb (fun h=>hbad ?_) (fun h=>hgo ?_ oM)
    ·rw [r3 oM ha];show (vOK low (aU v s.data.toList m)&&_)=false;rw [h];rfl
    ·rw [r3 oM ha,hx];show (vOK low (aU v s.data.toList m)&&_)=_;rw [h];rfl
end
theorem k_utf8 {w:World} (s:ByteArray) (hs:s.size≤9223372036854775807) (K:K1) (hK:K (.bool (Lib.validD s.data.toList)) w):callS prog 103 #[.string s] w K:=by
 refine f103_call _ _ _ ?_
 unfold f103_t
 obtain ⟨V,hV⟩:∃V,Lib.validD s.data.toList=V:=⟨_,rfl⟩
 rw [hV] at hK
 apply f103_l1_rule (I:=fun y w'=>∃t:ByteArray,y= .string t∧t.size≤9223372036854775807∧Lib.validD t.data.toList=V∧w'=w) (μ:=fun y _=>match y with
  | .string t=>t.size
  |_=>0)
 ·exact ⟨s,rfl,hs,hV,rfl⟩
 ·intros;rename_i w2 hI E1 hE
  obtain ⟨t,rfl,ht,hv,rfl⟩:=hI
  have hsz:=Lib.size_eq t
  unfold f103_l1_t
  by_cases h0:0<t.size
  ·have z0:(0:Int)<(t.size:Int):=oM
   have hg:=gb_lt t.data.toList 0
   have bad:Lib.validD t.data.toList=false→K (.bool false) w2:=fun h=>by rw [←hv,h] at hK;exact hK
   have go:∀n,1≤n→Lib.validD t.data.toList=Lib.validD (t.extract n t.size).data.toList→n≤t.size→E1 (.string (t.extract n t.size)) w2:=fun n h1 hn hl=>by
    have hx:=Lib.ext_size t n
    refine hE _ _ ⟨_,rfl,by omega,by rw [←hn,hv],rfl⟩ ?_
    show (t.extract n t.size).size<t.size
    omega
   by_cases g1:gb t.data.toList 0<128
   ·have y1:((gb t.data.toList 0:Nat):Int)<128:=oM
    simp (disch:=first|omega|simp only [RO]|exact isOne_s _|(simp only [RZ]<;>omega)|fail) only [↓RBp,↓RA,↓reduceIte,Nat.reduceAdd,Nat.reduceMul,Nat.reduceEqDiff,RB,RX,RA2,↓R6.RT,sx_len hS,z0,sx_idx hS,Int.toNat_zero,y1]
    exact u_k2 (n:=1) (low:=0) (round1 _ oM g1) oM bad (go 1 oM)
   ·have y1:¬((gb t.data.toList 0:Nat):Int)<128:=oM
    by_cases g2:gb t.data.toList 0<192
    ·have y2:¬(192:Int)≤((gb t.data.toList 0:Nat):Int):=oM
     have y3:¬(224:Int)≤((gb t.data.toList 0:Nat):Int):=oM
     have y4:¬(240:Int)≤((gb t.data.toList 0:Nat):Int):=oM
     simp (disch:=first|omega|simp only [RO]|exact isOne_s _|(simp only [RZ]<;>omega)|fail) only [↓RBp,↓RA,↓reduceIte,Nat.reduceAdd,Nat.reduceMul,Nat.reduceEqDiff,RB,RX,RA2,↓R6.RT,sx_len hS,z0,sx_idx hS,Int.toNat_zero,y1,y2,y3,y4]
     exact bad (ub _ (fun e=>by rw [e,List.length_nil] at hsz;omega) (.inl ⟨by omega,g2⟩))
    ·have y2:(192:Int)≤((gb t.data.toList 0:Nat):Int):=oM
     by_cases g3:gb t.data.toList 0<224
     ·have y3:((gb t.data.toList 0:Nat):Int)<224:=oM
      have e0:((gb t.data.toList 0:Nat):Int)-192=((gb t.data.toList 0-192:Nat):Int):=oM
      simp (disch:=first|omega|simp only [RO]|exact isOne_s _|(simp only [RZ]<;>omega)|fail) only [↓RBp,↓RA,↓reduceIte,Nat.reduceAdd,Nat.reduceMul,Nat.reduceEqDiff,RB,RX,RA2,↓R6.RT,sx_len hS,z0,sx_idx hS,Int.toNat_zero,y1,y2,y3,e0]
      exact u_k2 (n:=2) (low:=128) (round2 _ oM ⟨by omega,g3⟩) oM bad (go 2 oM)
     ·have y3:¬((gb t.data.toList 0:Nat):Int)<224:=oM
      have y4:(224:Int)≤((gb t.data.toList 0:Nat):Int):=oM
      by_cases g4:gb t.data.toList 0<240
      ·have y5:((gb t.data.toList 0:Nat):Int)<240:=oM
       have e0:((gb t.data.toList 0:Nat):Int)-224=((gb t.data.toList 0-224:Nat):Int):=oM
       simp (disch:=first|omega|simp only [RO]|exact isOne_s _|(simp only [RZ]<;>omega)|fail) only [↓RBp,↓RA,↓reduceIte,Nat.reduceAdd,Nat.reduceMul,Nat.reduceEqDiff,RB,RX,RA2,↓R6.RT,sx_len hS,z0,sx_idx hS,Int.toNat_zero,y1,y2,y3,y4,y5,e0]
       exact u_k2 (n:=3) (low:=2048) (round3 _ oM ⟨by omega,g4⟩) oM bad (go 3 oM)
      ·have y5:¬((gb t.data.toList 0:Nat):Int)<240:=oM
       have y6:(240:Int)≤((gb t.data.toList 0:Nat):Int):=oM
       by_cases g5:gb t.data.toList 0<248
       ·have y7:((gb t.data.toList 0:Nat):Int)<248:=oM
        have e0:((gb t.data.toList 0:Nat):Int)-240=((gb t.data.toList 0-240:Nat):Int):=oM
        simp (disch:=first|omega|simp only [RO]|exact isOne_s _|(simp only [RZ]<;>omega)|fail) only [↓RBp,↓RA,↓reduceIte,Nat.reduceAdd,Nat.reduceMul,Nat.reduceEqDiff,RB,RX,RA2,↓R6.RT,sx_len hS,z0,sx_idx hS,Int.toNat_zero,y1,y2,y3,y4,y5,y6,y7,e0]
        exact u_k2 (n:=4) (low:=65536) (round4 _ oM ⟨by omega,g5⟩) oM bad (go 4 oM)
       ·have y7:¬((gb t.data.toList 0:Nat):Int)<248:=oM
        simp (disch:=first|omega|simp only [RO]|exact isOne_s _|(simp only [RZ]<;>omega)|fail) only [↓RBp,↓RA,↓reduceIte,Nat.reduceAdd,Nat.reduceMul,Nat.reduceEqDiff,RB,RX,RA2,↓R6.RT,sx_len hS,z0,sx_idx hS,Int.toNat_zero,y1,y2,y3,y4,y5,y6,y7]
        exact bad (ub _ (fun e=>by rw [e,List.length_nil] at hsz;omega) (.inr oM))
  ·have z0:¬(0:Int)<(t.size:Int):=oM
   simp (disch:=first|omega|simp only [RO]|exact isOne_s _|(simp only [RZ]<;>omega)|fail) only [↓RBp,↓RA,↓reduceIte,Nat.reduceAdd,Nat.reduceMul,Nat.reduceEqDiff,RB,RX,RA2,↓R6.RT,sx_len hS,z0]
   rw [f103_k1_eq]
   unfold f103_k1_t
   have:t.data.toList= []:=List.eq_nil_of_length_eq_zero oM
   rw [this,Lib.validD_nil] at hv
   rw [hv];exact hK
theorem k_Form {w:World} (v:Vl) (hv:v.ok) (K:K1) (hK:∀w' (e:Int),Ext w w'→e=((fitN v:Nat):Int)→K (.int .i64 e) w'):callS prog 48 #[rV v] w K:=by
 obtain ⟨t,n,i,s,b⟩:=v
 obtain ⟨ht,hi,hs⟩:=hv
 simp only at ht hi hs hK
 refine f48_call _ _ _ ?_
 unfold f48_t rV
 refine kbox (fun w1 b1 hE _ _ x=> ?_)
 have c0:w1.cell? ⟨b1,0,none⟩=some (.int .i64 (t:Int)):=x.2 0 _ rfl
 have c1:w1.cell? ⟨b1,1,none⟩=some (.bool n):=x.2 1 _ rfl
 have c2:w1.cell? ⟨b1,2,none⟩=some (.int .i64 i):=x.2 2 _ rfl
 have c3:w1.cell? ⟨b1,3,none⟩=some (.string s):=x.2 3 _ rfl
 have c4:w1.cell? ⟨b1,4,none⟩=some (.bool b):=x.2 4 _ rfl
 have hs':s.size≤9223372036854775807:=Nat.le_trans hs (by decide)
 by_cases h1:t<1
 ·have z1:(t:Int)<1:=oM
  simp (disch:=first|omega|simp only [RO]|exact isOne_s _|(simp only [RZ]<;>omega)|fail) only [↓RBp,↓RA,↓reduceIte,Nat.reduceAdd,Nat.reduceMul,Nat.reduceEqDiff,RB,RX,RA2,↓R6.RT,c0,z1]
  have ht0:t=0:=oM
  exact hK _ _ hE (by simp [fitN,ht0])
 by_cases h3:3<t
 ·have z1:¬(t:Int)<1:=oM
  have z3:(3:Int)<(t:Int):=oM
  simp (disch:=first|omega|simp only [RO]|exact isOne_s _|(simp only [RZ]<;>omega)|fail) only [↓RBp,↓RA,↓reduceIte,Nat.reduceAdd,Nat.reduceMul,Nat.reduceEqDiff,RB,RX,RA2,↓R6.RT,c0,z1,z3]
  have ht0:¬(1≤t∧t≤3):=oM
  exact hK _ _ hE (by simp [fitN,ht0])
 have hcases:t=1∨t=2∨t=3:=oM
 cases n with
 |false=>
  rcases hcases with rfl|rfl|rfl
  ·by_cases iz:i=0
   ·subst iz
    by_cases es:s.data.toList= []
    ·have z0:decide (s.data.toList≠ [])=false:=decide_eq_false (by simp [es])
     cases b with
     |false=>
      simp (disch:=first|omega|simp only [RO]|exact isOne_s _|(simp only [RZ]<;>omega)|fail) only [↓RBp,↓RA,↓reduceIte,Nat.reduceAdd,Nat.reduceMul,Nat.reduceEqDiff,RB,RX,RA2,↓R6.RT,c0,c1,c2,c3,c4,sx_ne0,z0]
      refine k_utf8 s hs' _ ?_
      cases hV:Lib.validD s.data.toList
      ·simp (disch:=first|omega|simp only [RO]|exact isOne_s _|(simp only [RZ]<;>omega)|fail) only [↓RBp,↓RA,↓reduceIte,Nat.reduceAdd,Nat.reduceMul,Nat.reduceEqDiff,RB,RX,RA2,↓R6.RT,hV,z0]
       exact hK _ _ hE (by simp [fitN,hV,(es▸hV),es])
      ·by_cases hz:200<s.size
       ·have z:(200:Int)<(s.size:Int):=oM
        simp (disch:=first|omega|simp only [RO]|exact isOne_s _|(simp only [RZ]<;>omega)|fail) only [↓RBp,↓RA,↓reduceIte,Nat.reduceAdd,Nat.reduceMul,Nat.reduceEqDiff,RB,RX,RA2,↓R6.RT,hV,c3,sx_len hS,z,z0]
        exact hK _ _ hE (by simp [fitN,hV,(es▸hV),hz,es])
       ·have z:¬(200:Int)<(s.size:Int):=oM
        simp (disch:=first|omega|simp only [RO]|exact isOne_s _|(simp only [RZ]<;>omega)|fail) only [↓RBp,↓RA,↓reduceIte,Nat.reduceAdd,Nat.reduceMul,Nat.reduceEqDiff,RB,RX,RA2,↓R6.RT,hV,c3,sx_len hS,z,z0]
        exact hK _ _ hE (by simp [fitN,hV,(es▸hV),hz,es])
     |true=>
      simp (disch:=first|omega|simp only [RO]|exact isOne_s _|(simp only [RZ]<;>omega)|fail) only [↓RBp,↓RA,↓reduceIte,Nat.reduceAdd,Nat.reduceMul,Nat.reduceEqDiff,RB,RX,RA2,↓R6.RT,c0,c1,c2,c3,c4,sx_ne0,z0]
      exact hK _ _ hE (by simp [fitN,es])
    ·have z0:decide (s.data.toList≠ [])=true:=decide_eq_true es
     simp (disch:=first|omega|simp only [RO]|exact isOne_s _|(simp only [RZ]<;>omega)|fail) only [↓RBp,↓RA,↓reduceIte,Nat.reduceAdd,Nat.reduceMul,Nat.reduceEqDiff,RB,RX,RA2,↓R6.RT,c0,c1,c2,c3,c4,sx_ne0,z0]
     exact hK _ _ hE (by simp [fitN,es])
   ·by_cases es:s.data.toList= []
    ·have z0:decide (s.data.toList≠ [])=false:=decide_eq_false (by simp [es])
     cases b with
     |false=>
      by_cases i0:i< -2147483648
      ·simp (disch:=first|omega|simp only [RO]|exact isOne_s _|(simp only [RZ]<;>omega)|fail) only [↓RBp,↓RA,↓reduceIte,Nat.reduceAdd,Nat.reduceMul,Nat.reduceEqDiff,RB,RX,RA2,↓R6.RT,c0,c1,c2,c3,c4,sx_ne0,iz,z0,i0]
       exact hK _ _ hE (by simp [fitN,iz,es,i0])
      ·by_cases i1:2147483648≤i
       ·have i2:2147483647<i:=oM
        simp (disch:=first|omega|simp only [RO]|exact isOne_s _|(simp only [RZ]<;>omega)|fail) only [↓RBp,↓RA,↓reduceIte,Nat.reduceAdd,Nat.reduceMul,Nat.reduceEqDiff,RB,RX,RA2,↓R6.RT,c0,c1,c2,c3,c4,sx_ne0,iz,z0,i0,i1]
        exact hK _ _ hE (by simp [fitN,iz,es,i0,i2])
       ·have i2:¬2147483647<i:=oM
        simp (disch:=first|omega|simp only [RO]|exact isOne_s _|(simp only [RZ]<;>omega)|fail) only [↓RBp,↓RA,↓reduceIte,Nat.reduceAdd,Nat.reduceMul,Nat.reduceEqDiff,RB,RX,RA2,↓R6.RT,c0,c1,c2,c3,c4,sx_ne0,iz,z0,i0,i1]
        refine k_utf8 s hs' _ ?_
        cases hV:Lib.validD s.data.toList
        ·simp (disch:=first|omega|simp only [RO]|exact isOne_s _|(simp only [RZ]<;>omega)|fail) only [↓RBp,↓RA,↓reduceIte,Nat.reduceAdd,Nat.reduceMul,Nat.reduceEqDiff,RB,RX,RA2,↓R6.RT,hV,iz,z0,i0,i1]
         exact hK _ _ hE (by simp [fitN,hV,(es▸hV),iz,es,i0,i2])
        ·by_cases hz:200<s.size
         ·have z:(200:Int)<(s.size:Int):=oM
          simp (disch:=first|omega|simp only [RO]|exact isOne_s _|(simp only [RZ]<;>omega)|fail) only [↓RBp,↓RA,↓reduceIte,Nat.reduceAdd,Nat.reduceMul,Nat.reduceEqDiff,RB,RX,RA2,↓R6.RT,hV,c3,sx_len hS,z,iz,z0,i0,i1]
          exact hK _ _ hE (by simp [fitN,hV,(es▸hV),hz,iz,es,i0,i2])
         ·have z:¬(200:Int)<(s.size:Int):=oM
          simp (disch:=first|omega|simp only [RO]|exact isOne_s _|(simp only [RZ]<;>omega)|fail) only [↓RBp,↓RA,↓reduceIte,Nat.reduceAdd,Nat.reduceMul,Nat.reduceEqDiff,RB,RX,RA2,↓R6.RT,hV,c3,sx_len hS,z,iz,z0,i0,i1]
          exact hK _ _ hE (by simp [fitN,hV,(es▸hV),hz,iz,es,i0,i2])
     |true=>
      simp (disch:=first|omega|simp only [RO]|exact isOne_s _|(simp only [RZ]<;>omega)|fail) only [↓RBp,↓RA,↓reduceIte,Nat.reduceAdd,Nat.reduceMul,Nat.reduceEqDiff,RB,RX,RA2,↓R6.RT,c0,c1,c2,c3,c4,sx_ne0,iz,z0]
      exact hK _ _ hE (by simp [fitN,iz,es])
    ·have z0:decide (s.data.toList≠ [])=true:=decide_eq_true es
     simp (disch:=first|omega|simp only [RO]|exact isOne_s _|(simp only [RZ]<;>omega)|fail) only [↓RBp,↓RA,↓reduceIte,Nat.reduceAdd,Nat.reduceMul,Nat.reduceEqDiff,RB,RX,RA2,↓R6.RT,c0,c1,c2,c3,c4,sx_ne0,iz,z0]
     exact hK _ _ hE (by simp [fitN,iz,es])
  ·by_cases iz:i=0
   ·subst iz
    by_cases es:s.data.toList= []
    ·have z0:decide (s.data.toList≠ [])=false:=decide_eq_false (by simp [es])
     cases b with
     |false=>
      simp (disch:=first|omega|simp only [RO]|exact isOne_s _|(simp only [RZ]<;>omega)|fail) only [↓RBp,↓RA,↓reduceIte,Nat.reduceAdd,Nat.reduceMul,Nat.reduceEqDiff,RB,RX,RA2,↓R6.RT,c0,c1,c2,c3,c4,sx_ne0,z0]
      refine k_utf8 s hs' _ ?_
      cases hV:Lib.validD s.data.toList
      ·simp (disch:=first|omega|simp only [RO]|exact isOne_s _|(simp only [RZ]<;>omega)|fail) only [↓RBp,↓RA,↓reduceIte,Nat.reduceAdd,Nat.reduceMul,Nat.reduceEqDiff,RB,RX,RA2,↓R6.RT,hV,z0]
       exact hK _ _ hE (by simp [fitN,hV,(es▸hV),es])
      ·by_cases hz:200<s.size
       ·have z:(200:Int)<(s.size:Int):=oM
        simp (disch:=first|omega|simp only [RO]|exact isOne_s _|(simp only [RZ]<;>omega)|fail) only [↓RBp,↓RA,↓reduceIte,Nat.reduceAdd,Nat.reduceMul,Nat.reduceEqDiff,RB,RX,RA2,↓R6.RT,hV,c3,sx_len hS,z,z0]
        exact hK _ _ hE (by simp [fitN,hV,(es▸hV),hz,es])
       ·have z:¬(200:Int)<(s.size:Int):=oM
        simp (disch:=first|omega|simp only [RO]|exact isOne_s _|(simp only [RZ]<;>omega)|fail) only [↓RBp,↓RA,↓reduceIte,Nat.reduceAdd,Nat.reduceMul,Nat.reduceEqDiff,RB,RX,RA2,↓R6.RT,hV,c3,sx_len hS,z,z0]
        exact hK _ _ hE (by simp [fitN,hV,(es▸hV),hz,es])
     |true=>
      simp (disch:=first|omega|simp only [RO]|exact isOne_s _|(simp only [RZ]<;>omega)|fail) only [↓RBp,↓RA,↓reduceIte,Nat.reduceAdd,Nat.reduceMul,Nat.reduceEqDiff,RB,RX,RA2,↓R6.RT,c0,c1,c2,c3,c4,sx_ne0,z0]
      exact hK _ _ hE (by simp [fitN,es])
    ·have z0:decide (s.data.toList≠ [])=true:=decide_eq_true es
     cases b with
     |false=>
      simp (disch:=first|omega|simp only [RO]|exact isOne_s _|(simp only [RZ]<;>omega)|fail) only [↓RBp,↓RA,↓reduceIte,Nat.reduceAdd,Nat.reduceMul,Nat.reduceEqDiff,RB,RX,RA2,↓R6.RT,c0,c1,c2,c3,c4,sx_ne0,z0]
      refine k_utf8 s hs' _ ?_
      cases hV:Lib.validD s.data.toList
      ·simp (disch:=first|omega|simp only [RO]|exact isOne_s _|(simp only [RZ]<;>omega)|fail) only [↓RBp,↓RA,↓reduceIte,Nat.reduceAdd,Nat.reduceMul,Nat.reduceEqDiff,RB,RX,RA2,↓R6.RT,hV,z0]
       exact hK _ _ hE (by simp [fitN,hV,es])
      ·by_cases hz:200<s.size
       ·have z:(200:Int)<(s.size:Int):=oM
        simp (disch:=first|omega|simp only [RO]|exact isOne_s _|(simp only [RZ]<;>omega)|fail) only [↓RBp,↓RA,↓reduceIte,Nat.reduceAdd,Nat.reduceMul,Nat.reduceEqDiff,RB,RX,RA2,↓R6.RT,hV,c3,sx_len hS,z,z0]
        exact hK _ _ hE (by simp [fitN,hV,hz,es])
       ·have z:¬(200:Int)<(s.size:Int):=oM
        simp (disch:=first|omega|simp only [RO]|exact isOne_s _|(simp only [RZ]<;>omega)|fail) only [↓RBp,↓RA,↓reduceIte,Nat.reduceAdd,Nat.reduceMul,Nat.reduceEqDiff,RB,RX,RA2,↓R6.RT,hV,c3,sx_len hS,z,z0]
        exact hK _ _ hE (by simp [fitN,hV,hz,es])
     |true=>
      simp (disch:=first|omega|simp only [RO]|exact isOne_s _|(simp only [RZ]<;>omega)|fail) only [↓RBp,↓RA,↓reduceIte,Nat.reduceAdd,Nat.reduceMul,Nat.reduceEqDiff,RB,RX,RA2,↓R6.RT,c0,c1,c2,c3,c4,sx_ne0,z0]
      exact hK _ _ hE (by simp [fitN,es])
   ·simp (disch:=first|omega|simp only [RO]|exact isOne_s _|(simp only [RZ]<;>omega)|fail) only [↓RBp,↓RA,↓reduceIte,Nat.reduceAdd,Nat.reduceMul,Nat.reduceEqDiff,RB,RX,RA2,↓R6.RT,c0,c1,c2,c3,c4,sx_ne0,iz]
    exact hK _ _ hE (by simp [fitN,iz])
  ·by_cases iz:i=0
   ·subst iz
    by_cases es:s.data.toList= []
    ·have z0:decide (s.data.toList≠ [])=false:=decide_eq_false (by simp [es])
     cases b with
     |false=>
      simp (disch:=first|omega|simp only [RO]|exact isOne_s _|(simp only [RZ]<;>omega)|fail) only [↓RBp,↓RA,↓reduceIte,Nat.reduceAdd,Nat.reduceMul,Nat.reduceEqDiff,RB,RX,RA2,↓R6.RT,c0,c1,c2,c3,c4,sx_ne0,z0]
      refine k_utf8 s hs' _ ?_
      cases hV:Lib.validD s.data.toList
      ·simp (disch:=first|omega|simp only [RO]|exact isOne_s _|(simp only [RZ]<;>omega)|fail) only [↓RBp,↓RA,↓reduceIte,Nat.reduceAdd,Nat.reduceMul,Nat.reduceEqDiff,RB,RX,RA2,↓R6.RT,hV,z0]
       exact hK _ _ hE (by simp [fitN,hV,(es▸hV),es])
      ·by_cases hz:200<s.size
       ·have z:(200:Int)<(s.size:Int):=oM
        simp (disch:=first|omega|simp only [RO]|exact isOne_s _|(simp only [RZ]<;>omega)|fail) only [↓RBp,↓RA,↓reduceIte,Nat.reduceAdd,Nat.reduceMul,Nat.reduceEqDiff,RB,RX,RA2,↓R6.RT,hV,c3,sx_len hS,z,z0]
        exact hK _ _ hE (by simp [fitN,hV,(es▸hV),hz,es])
       ·have z:¬(200:Int)<(s.size:Int):=oM
        simp (disch:=first|omega|simp only [RO]|exact isOne_s _|(simp only [RZ]<;>omega)|fail) only [↓RBp,↓RA,↓reduceIte,Nat.reduceAdd,Nat.reduceMul,Nat.reduceEqDiff,RB,RX,RA2,↓R6.RT,hV,c3,sx_len hS,z,z0]
        exact hK _ _ hE (by simp [fitN,hV,(es▸hV),hz,es])
     |true=>
      simp (disch:=first|omega|simp only [RO]|exact isOne_s _|(simp only [RZ]<;>omega)|fail) only [↓RBp,↓RA,↓reduceIte,Nat.reduceAdd,Nat.reduceMul,Nat.reduceEqDiff,RB,RX,RA2,↓R6.RT,c0,c1,c2,c3,c4,sx_ne0,z0]
      refine k_utf8 s hs' _ ?_
      cases hV:Lib.validD s.data.toList
      ·simp (disch:=first|omega|simp only [RO]|exact isOne_s _|(simp only [RZ]<;>omega)|fail) only [↓RBp,↓RA,↓reduceIte,Nat.reduceAdd,Nat.reduceMul,Nat.reduceEqDiff,RB,RX,RA2,↓R6.RT,hV,z0]
       exact hK _ _ hE (by simp [fitN,hV,(es▸hV),es])
      ·by_cases hz:200<s.size
       ·have z:(200:Int)<(s.size:Int):=oM
        simp (disch:=first|omega|simp only [RO]|exact isOne_s _|(simp only [RZ]<;>omega)|fail) only [↓RBp,↓RA,↓reduceIte,Nat.reduceAdd,Nat.reduceMul,Nat.reduceEqDiff,RB,RX,RA2,↓R6.RT,hV,c3,sx_len hS,z,z0]
        exact hK _ _ hE (by simp [fitN,hV,(es▸hV),hz,es])
       ·have z:¬(200:Int)<(s.size:Int):=oM
        simp (disch:=first|omega|simp only [RO]|exact isOne_s _|(simp only [RZ]<;>omega)|fail) only [↓RBp,↓RA,↓reduceIte,Nat.reduceAdd,Nat.reduceMul,Nat.reduceEqDiff,RB,RX,RA2,↓R6.RT,hV,c3,sx_len hS,z,z0]
        exact hK _ _ hE (by simp [fitN,hV,(es▸hV),hz,es])
    ·have z0:decide (s.data.toList≠ [])=true:=decide_eq_true es
     simp (disch:=first|omega|simp only [RO]|exact isOne_s _|(simp only [RZ]<;>omega)|fail) only [↓RBp,↓RA,↓reduceIte,Nat.reduceAdd,Nat.reduceMul,Nat.reduceEqDiff,RB,RX,RA2,↓R6.RT,c0,c1,c2,c3,c4,sx_ne0,z0]
     exact hK _ _ hE (by simp [fitN,es])
   ·simp (disch:=first|omega|simp only [RO]|exact isOne_s _|(simp only [RZ]<;>omega)|fail) only [↓RBp,↓RA,↓reduceIte,Nat.reduceAdd,Nat.reduceMul,Nat.reduceEqDiff,RB,RX,RA2,↓R6.RT,c0,c1,c2,c3,c4,sx_ne0,iz]
    exact hK _ _ hE (by simp [fitN,iz])
 |true=>
  rcases hcases with rfl|rfl|rfl
  ·by_cases iz:i=0
   ·subst iz
    by_cases es:s.data.toList= []
    ·have z0:decide (s.data.toList≠ [])=false:=decide_eq_false (by simp [es])
     cases b with
     |false=>
      simp (disch:=first|omega|simp only [RO]|exact isOne_s _|(simp only [RZ]<;>omega)|fail) only [↓RBp,↓RA,↓reduceIte,Nat.reduceAdd,Nat.reduceMul,Nat.reduceEqDiff,RB,RX,RA2,↓R6.RT,c0,c1,c2,c3,c4,sx_ne0,z0]
      refine k_utf8 s hs' _ ?_
      cases hV:Lib.validD s.data.toList
      ·simp (disch:=first|omega|simp only [RO]|exact isOne_s _|(simp only [RZ]<;>omega)|fail) only [↓RBp,↓RA,↓reduceIte,Nat.reduceAdd,Nat.reduceMul,Nat.reduceEqDiff,RB,RX,RA2,↓R6.RT,hV,z0]
       exact hK _ _ hE (by simp [fitN,hV,(es▸hV),es])
      ·by_cases hz:200<s.size
       ·have z:(200:Int)<(s.size:Int):=oM
        simp (disch:=first|omega|simp only [RO]|exact isOne_s _|(simp only [RZ]<;>omega)|fail) only [↓RBp,↓RA,↓reduceIte,Nat.reduceAdd,Nat.reduceMul,Nat.reduceEqDiff,RB,RX,RA2,↓R6.RT,hV,c3,sx_len hS,z,z0]
        exact hK _ _ hE (by simp [fitN,hV,(es▸hV),hz,es])
       ·have z:¬(200:Int)<(s.size:Int):=oM
        simp (disch:=first|omega|simp only [RO]|exact isOne_s _|(simp only [RZ]<;>omega)|fail) only [↓RBp,↓RA,↓reduceIte,Nat.reduceAdd,Nat.reduceMul,Nat.reduceEqDiff,RB,RX,RA2,↓R6.RT,hV,c3,sx_len hS,z,z0]
        exact hK _ _ hE (by simp [fitN,hV,(es▸hV),hz,es])
     |true=>
      simp (disch:=first|omega|simp only [RO]|exact isOne_s _|(simp only [RZ]<;>omega)|fail) only [↓RBp,↓RA,↓reduceIte,Nat.reduceAdd,Nat.reduceMul,Nat.reduceEqDiff,RB,RX,RA2,↓R6.RT,c0,c1,c2,c3,c4,sx_ne0,z0]
      exact hK _ _ hE (by simp [fitN,es])
    ·have z0:decide (s.data.toList≠ [])=true:=decide_eq_true es
     simp (disch:=first|omega|simp only [RO]|exact isOne_s _|(simp only [RZ]<;>omega)|fail) only [↓RBp,↓RA,↓reduceIte,Nat.reduceAdd,Nat.reduceMul,Nat.reduceEqDiff,RB,RX,RA2,↓R6.RT,c0,c1,c2,c3,c4,sx_ne0,z0]
     exact hK _ _ hE (by simp [fitN,es])
   ·simp (disch:=first|omega|simp only [RO]|exact isOne_s _|(simp only [RZ]<;>omega)|fail) only [↓RBp,↓RA,↓reduceIte,Nat.reduceAdd,Nat.reduceMul,Nat.reduceEqDiff,RB,RX,RA2,↓R6.RT,c0,c1,c2,c3,c4,sx_ne0,iz]
    exact hK _ _ hE (by simp [fitN,iz])
  ·by_cases iz:i=0
   ·subst iz
    by_cases es:s.data.toList= []
    ·have z0:decide (s.data.toList≠ [])=false:=decide_eq_false (by simp [es])
     cases b with
     |false=>
      simp (disch:=first|omega|simp only [RO]|exact isOne_s _|(simp only [RZ]<;>omega)|fail) only [↓RBp,↓RA,↓reduceIte,Nat.reduceAdd,Nat.reduceMul,Nat.reduceEqDiff,RB,RX,RA2,↓R6.RT,c0,c1,c2,c3,c4,sx_ne0,z0]
      refine k_utf8 s hs' _ ?_
      cases hV:Lib.validD s.data.toList
      ·simp (disch:=first|omega|simp only [RO]|exact isOne_s _|(simp only [RZ]<;>omega)|fail) only [↓RBp,↓RA,↓reduceIte,Nat.reduceAdd,Nat.reduceMul,Nat.reduceEqDiff,RB,RX,RA2,↓R6.RT,hV,z0]
       exact hK _ _ hE (by simp [fitN,hV,(es▸hV),es])
      ·by_cases hz:200<s.size
       ·have z:(200:Int)<(s.size:Int):=oM
        simp (disch:=first|omega|simp only [RO]|exact isOne_s _|(simp only [RZ]<;>omega)|fail) only [↓RBp,↓RA,↓reduceIte,Nat.reduceAdd,Nat.reduceMul,Nat.reduceEqDiff,RB,RX,RA2,↓R6.RT,hV,c3,sx_len hS,z,z0]
        exact hK _ _ hE (by simp [fitN,hV,(es▸hV),hz,es])
       ·have z:¬(200:Int)<(s.size:Int):=oM
        simp (disch:=first|omega|simp only [RO]|exact isOne_s _|(simp only [RZ]<;>omega)|fail) only [↓RBp,↓RA,↓reduceIte,Nat.reduceAdd,Nat.reduceMul,Nat.reduceEqDiff,RB,RX,RA2,↓R6.RT,hV,c3,sx_len hS,z,z0]
        exact hK _ _ hE (by simp [fitN,hV,(es▸hV),hz,es])
     |true=>
      simp (disch:=first|omega|simp only [RO]|exact isOne_s _|(simp only [RZ]<;>omega)|fail) only [↓RBp,↓RA,↓reduceIte,Nat.reduceAdd,Nat.reduceMul,Nat.reduceEqDiff,RB,RX,RA2,↓R6.RT,c0,c1,c2,c3,c4,sx_ne0,z0]
      exact hK _ _ hE (by simp [fitN,es])
    ·have z0:decide (s.data.toList≠ [])=true:=decide_eq_true es
     simp (disch:=first|omega|simp only [RO]|exact isOne_s _|(simp only [RZ]<;>omega)|fail) only [↓RBp,↓RA,↓reduceIte,Nat.reduceAdd,Nat.reduceMul,Nat.reduceEqDiff,RB,RX,RA2,↓R6.RT,c0,c1,c2,c3,c4,sx_ne0,z0]
     exact hK _ _ hE (by simp [fitN,es])
   ·simp (disch:=first|omega|simp only [RO]|exact isOne_s _|(simp only [RZ]<;>omega)|fail) only [↓RBp,↓RA,↓reduceIte,Nat.reduceAdd,Nat.reduceMul,Nat.reduceEqDiff,RB,RX,RA2,↓R6.RT,c0,c1,c2,c3,c4,sx_ne0,iz]
    exact hK _ _ hE (by simp [fitN,iz])
  ·by_cases iz:i=0
   ·subst iz
    by_cases es:s.data.toList= []
    ·have z0:decide (s.data.toList≠ [])=false:=decide_eq_false (by simp [es])
     cases b with
     |false=>
      simp (disch:=first|omega|simp only [RO]|exact isOne_s _|(simp only [RZ]<;>omega)|fail) only [↓RBp,↓RA,↓reduceIte,Nat.reduceAdd,Nat.reduceMul,Nat.reduceEqDiff,RB,RX,RA2,↓R6.RT,c0,c1,c2,c3,c4,sx_ne0,z0]
      refine k_utf8 s hs' _ ?_
      cases hV:Lib.validD s.data.toList
      ·simp (disch:=first|omega|simp only [RO]|exact isOne_s _|(simp only [RZ]<;>omega)|fail) only [↓RBp,↓RA,↓reduceIte,Nat.reduceAdd,Nat.reduceMul,Nat.reduceEqDiff,RB,RX,RA2,↓R6.RT,hV,z0]
       exact hK _ _ hE (by simp [fitN,hV,(es▸hV),es])
      ·by_cases hz:200<s.size
       ·have z:(200:Int)<(s.size:Int):=oM
        simp (disch:=first|omega|simp only [RO]|exact isOne_s _|(simp only [RZ]<;>omega)|fail) only [↓RBp,↓RA,↓reduceIte,Nat.reduceAdd,Nat.reduceMul,Nat.reduceEqDiff,RB,RX,RA2,↓R6.RT,hV,c3,sx_len hS,z,z0]
        exact hK _ _ hE (by simp [fitN,hV,(es▸hV),hz,es])
       ·have z:¬(200:Int)<(s.size:Int):=oM
        simp (disch:=first|omega|simp only [RO]|exact isOne_s _|(simp only [RZ]<;>omega)|fail) only [↓RBp,↓RA,↓reduceIte,Nat.reduceAdd,Nat.reduceMul,Nat.reduceEqDiff,RB,RX,RA2,↓R6.RT,hV,c3,sx_len hS,z,z0]
        exact hK _ _ hE (by simp [fitN,hV,(es▸hV),hz,es])
     |true=>
      simp (disch:=first|omega|simp only [RO]|exact isOne_s _|(simp only [RZ]<;>omega)|fail) only [↓RBp,↓RA,↓reduceIte,Nat.reduceAdd,Nat.reduceMul,Nat.reduceEqDiff,RB,RX,RA2,↓R6.RT,c0,c1,c2,c3,c4,sx_ne0,z0]
      exact hK _ _ hE (by simp [fitN,es])
    ·have z0:decide (s.data.toList≠ [])=true:=decide_eq_true es
     simp (disch:=first|omega|simp only [RO]|exact isOne_s _|(simp only [RZ]<;>omega)|fail) only [↓RBp,↓RA,↓reduceIte,Nat.reduceAdd,Nat.reduceMul,Nat.reduceEqDiff,RB,RX,RA2,↓R6.RT,c0,c1,c2,c3,c4,sx_ne0,z0]
     exact hK _ _ hE (by simp [fitN,es])
   ·simp (disch:=first|omega|simp only [RO]|exact isOne_s _|(simp only [RZ]<;>omega)|fail) only [↓RBp,↓RA,↓reduceIte,Nat.reduceAdd,Nat.reduceMul,Nat.reduceEqDiff,RB,RX,RA2,↓R6.RT,c0,c1,c2,c3,c4,sx_ne0,iz]
    exact hK _ _ hE (by simp [fitN,iz])
theorem k_RKey {w:World} (v:Vl) (hv:v.ok) (K:K1) (hbad:fitN v≠0→∀w',Ext w w'→K (.tuple #[.int .u32 0,.int .i64 16]) w') (hok:fitN v=0→∀w',Ext w w'→K (.tuple #[.int .u32 ((keyN v:Nat):Int),.int .i64 0]) w'):
  callS prog 50 #[rV v] w K:=by
 refine f50_call _ _ _ ?_
 unfold f50_t
 refine kbox (fun w1 b e1 _ _ x=> ?_)
 obtain ⟨c0,c1,c2,c3,c4⟩:=RV.of x
 simp (disch:=first|omega|simp only [RO]|exact isOne_s _|(simp only [RZ]<;>omega)|fail) only [↓RBp,↓RA,↓reduceIte,Nat.reduceAdd,Nat.reduceMul,Nat.reduceEqDiff,RB,RX,RA2,↓R6.RT,c0,c1,c2,c3,c4]
 refine k_Form v hv _ (fun w2 e e2 he=> ?_)
 subst he
 have ee:=e1.trans e2
 by_cases h0:fitN v=0
 ·have z:((fitN v:Nat):Int)=0:=oM
  obtain ⟨c0,c1,c2,c3,c4⟩:=(RV.of x).ext e2
  have hok:=hok h0
  obtain ⟨r1,r2⟩:=(fit0 h0).2.2.2.2.1
  have r0:=(fit0 h0).1
  have rs:=(fit0 h0).2.2.2.2.2.2
  cases hn:v.n
  ·rw [hn] at c1
   by_cases t1:v.t=1
   ·rw [t1] at c0
    have ek:v.i+2147483648=((keyN v:Nat):Int):=by simp only [keyN,hn,t1,Bool.false_eq_true,if_false,if_true];omega
    have lk:keyN v<4294967296:=keyN_lt h0
    simp (disch:=first|omega|simp only [RO]|exact isOne_s _|(simp only [RZ]<;>omega)|fail) only [↓RBp,↓RA,↓reduceIte,Nat.reduceAdd,Nat.reduceMul,Nat.reduceEqDiff,RB,RX,RA2,↓R6.RT,z,c0,c1,c2,c3,c4,ek]
    exact hok _ ee
   ·have z1:¬(v.t:Int)=1:=oM
    by_cases t2:v.t=2
    ·rw [t2] at c0
     have ek:hash0 v.s.data.toList%4294967296=keyN v:=by simp [keyN,hn,t2]
     have hsz:=Lib.size_eq v.s
     simp (disch:=first|omega|simp only [RO]|exact isOne_s _|(simp only [RZ]<;>omega)|fail) only [↓RBp,↓RA,↓reduceIte,Nat.reduceAdd,Nat.reduceMul,Nat.reduceEqDiff,RB,RX,RA2,↓R6.RT,z,c0,c1,c2,c3,c4]
     apply f50_l1_rule (I:=fun y z w'=>∃k:Nat,k≤v.s.size∧z= .int .i64 (k:Int)∧y= .int .u64 ((hashN 14695981039346656037 (v.s.data.toList.take k):Nat):Int)∧w'=w2) (μ:=fun _ z _=>v.s.size-(intOf z).toNat)
     ·exact ⟨0,Nat.zero_le _,rfl,rfl,rfl⟩
     ·intros;rename_i w3 hI E1 hE
      obtain ⟨k,hk,rfl,rfl,rfl⟩:=hI
      unfold f50_l1_t
      by_cases hkl:k<v.s.size
      ·have z:(k:Int)<(v.s.size:Int):=oM
       obtain ⟨x,e1,e2⟩:=take_gb (l:=v.s.data.toList) (k:=k) oM
       have hh:=hashN_lt (v.s.data.toList.take k) 14695981039346656037 (by decide)
       have hg:=gb_lt v.s.data.toList k
       have e0:(k:Int)+1=((k+1:Nat):Int):=by push_cast;rfl
       simp (disch:=first|omega|simp only [RO]|exact isOne_s _|(simp only [RZ]<;>omega)|fail) only [↓RBp,↓RA,↓reduceIte,Nat.reduceAdd,Nat.reduceMul,Nat.reduceEqDiff,RB,RX,RA2,↓R6.RT,c3,sx_len hS,z,sx_idx hS,Int.toNat_natCast,e0,sx_mul64]
       refine hE _ _ _ ⟨k+1,by omega,rfl,?_,rfl⟩ ?_
       ·rw [e1,hashN_snoc,e2]
       ·simp only [intOf];omega
      ·have z:¬(k:Int)<(v.s.size:Int):=oM
       have e:k=v.s.size:=oM
       simp (disch:=first|omega|simp only [RO]|exact isOne_s _|(simp only [RZ]<;>omega)|fail) only [↓RBp,↓RA,↓reduceIte,Nat.reduceAdd,Nat.reduceMul,Nat.reduceEqDiff,RB,RX,RA2,↓R6.RT,c3,sx_len hS,z]
       rw [f50_k1_eq]
       unfold f50_k1_t
       rw [e,hsz,List.take_length]
       have hl:hash0 v.s.data.toList<18446744073709551616:=hashN_lt _ _ (by decide)
       show ev prog (convert 41 40 (.int .u64 ((hash0 v.s.data.toList:Nat):Int))) w3 _
       simp (disch:=first|omega|simp only [RO]|exact isOne_s _|(simp only [RZ]<;>omega)|fail) only [↓RBp,↓RA,↓reduceIte,Nat.reduceAdd,Nat.reduceMul,Nat.reduceEqDiff,RB,RX,RA2,↓R6.RT,ek]
       exact hok _ ee
    ·have t3:v.t=3:=oM
     rw [t3] at c0
     cases hb:v.b
     ·rw [hb] at c4
      have ek:keyN v=1:=by simp [keyN,hn,t1,t2,hb]
      rw [ek] at hok
      simp (disch:=first|omega|simp only [RO]|exact isOne_s _|(simp only [RZ]<;>omega)|fail) only [↓RBp,↓RA,↓reduceIte,Nat.reduceAdd,Nat.reduceMul,Nat.reduceEqDiff,RB,RX,RA2,↓R6.RT,z,c0,c1,c2,c3,c4]
      exact hok _ ee
     ·rw [hb] at c4
      have ek:keyN v=2:=by simp [keyN,hn,t1,t2,hb]
      rw [ek] at hok
      simp (disch:=first|omega|simp only [RO]|exact isOne_s _|(simp only [RZ]<;>omega)|fail) only [↓RBp,↓RA,↓reduceIte,Nat.reduceAdd,Nat.reduceMul,Nat.reduceEqDiff,RB,RX,RA2,↓R6.RT,z,c0,c1,c2,c3,c4]
      exact hok _ ee
  ·rw [hn] at c1
   have ek:keyN v=0:=by simp [keyN,hn]
   rw [ek] at hok
   simp (disch:=first|omega|simp only [RO]|exact isOne_s _|(simp only [RZ]<;>omega)|fail) only [↓RBp,↓RA,↓reduceIte,Nat.reduceAdd,Nat.reduceMul,Nat.reduceEqDiff,RB,RX,RA2,↓R6.RT,z,c0,c1,c2,c3,c4]
   exact hok _ ee
 ·have z:¬((fitN v:Nat):Int)=0:=oM
  simp (disch:=first|omega|simp only [RO]|exact isOne_s _|(simp only [RZ]<;>omega)|fail) only [↓RBp,↓RA,↓reduceIte,Nat.reduceAdd,Nat.reduceMul,Nat.reduceEqDiff,RB,RX,RA2,↓R6.RT,z]
  exact hbad h0 _ ee
theorem k_Short {w:World} (v:Vl) (hv:v.ok) (h0:fitN v=0) (K:K1) (hK:∀w',Ext w w'→K (.int .u64 ((keyN v/16:Nat):Int)) w'):callS prog 21 #[rV v] w K:=by
 refine f21_call _ _ _ ?_
 unfold f21_t
 refine kbox (fun w1 b e1 _ _ x=> ?_)
 obtain ⟨c0,c1,c2,c3,c4⟩:=RV.of x
 simp (disch:=first|omega|simp only [RO]|exact isOne_s _|(simp only [RZ]<;>omega)|fail) only [↓RBp,↓RA,↓reduceIte,Nat.reduceAdd,Nat.reduceMul,Nat.reduceEqDiff,RB,RX,RA2,↓R6.RT,c0,c1,c2,c3,c4]
 refine k_RKey v hv _ (fun h=>(h h0).elim) (fun _ w2 e2=> ?_)
 have lk:=keyN_lt h0
 simp (disch:=first|omega|simp only [RO]|exact isOne_s _|(simp only [RZ]<;>omega)|fail) only [↓RBp,↓RA,↓reduceIte,Nat.reduceAdd,Nat.reduceMul,Nat.reduceEqDiff,RB,RX,RA2,↓R6.RT]
 exact hK _ (e1.trans e2)
theorem k_REntry {w:World} (c:Int) (v:Vl) (i:Nat) (hi:i<4294967296) (hv:v.ok) (K:K1) (hK:∀w',Ext w w'→K (.tuple #[.int .u64 (((entryN c v i).1:Nat):Int),.int .i64 (((entryN c v i).2:Nat):Int)]) w'):
  callS prog 18 #[.int .i64 c,rV v,.int .u32 (i:Int)] w K:=by
 refine f18_call _ _ _ _ _ ?_
 unfold f18_t
 refine kbox (fun w1 b e1 _ _ x=> ?_)
 obtain ⟨c0,c1,c2,c3,c4⟩:=RV.of x
 unfold entryN at hK
 by_cases h1:c<0
 ·simp (disch:=first|omega|simp only [RO]|exact isOne_s _|(simp only [RZ]<;>omega)|fail) only [↓RBp,↓RA,↓reduceIte,Nat.reduceAdd,Nat.reduceMul,Nat.reduceEqDiff,RB,RX,RA2,↓R6.RT,h1]
  rw [if_pos (.inl h1)] at hK
  exact hK _ e1
 ·by_cases h2:15<c
  ·simp (disch:=first|omega|simp only [RO]|exact isOne_s _|(simp only [RZ]<;>omega)|fail) only [↓RBp,↓RA,↓reduceIte,Nat.reduceAdd,Nat.reduceMul,Nat.reduceEqDiff,RB,RX,RA2,↓R6.RT,h1,h2]
   rw [if_pos (.inr (.inl h2))] at hK
   exact hK _ e1
  ·cases hn:v.n
   ·rw [hn] at c1
    rw [if_neg (by rw [hn];simp;omega)] at hK
    have ev:Value.agg #[.int .i64 (v.t:Int),.bool false,.int .i64 v.i,.string v.s,.bool v.b]=rV v:=by unfold rV;rw [hn]
    simp (disch:=first|omega|simp only [RO]|exact isOne_s _|(simp only [RZ]<;>omega)|fail) only [↓RBp,↓RA,↓reduceIte,Nat.reduceAdd,Nat.reduceMul,Nat.reduceEqDiff,RB,RX,RA2,↓R6.RT,h1,h2,c0,c1,c2,c3,c4,ev]
    refine k_Form v hv _ (fun w2 e e2 he=> ?_)
    subst he
    obtain ⟨c0,c1,c2,c3,c4⟩:=(RV.of x).ext e2
    rw [hn] at c1
    by_cases h0:fitN v=0
    ·have z:((fitN v:Nat):Int)=0:=oM
     rw [if_neg oM] at hK
     have lk:=keyN_lt h0
     obtain ⟨n,rfl⟩:∃n:Nat,c=(n:Int):=⟨c.toNat,by omega⟩
     have lq:keyN v/16<268435456:=oM
     simp (disch:=first|omega|simp only [RO]|exact isOne_s _|(simp only [RZ]<;>omega)|fail) only [↓RBp,↓RA,↓reduceIte,Nat.reduceAdd,Nat.reduceMul,Nat.reduceEqDiff,RB,RX,RA2,↓R6.RT,z,c0,c1,c2,c3,c4,ev]
     refine k_Short v hv h0 _ (fun w3 e3=> ?_)
     have r:=fun w K=>c_refentry n (keyN v/16) i oM lq hi w K
     simp (disch:=first|omega|simp only [RO]|exact isOne_s _|(simp only [RZ]<;>omega)|fail) only [↓RBp,↓RA,↓reduceIte,Nat.reduceAdd,Nat.reduceMul,Nat.reduceEqDiff,RB,RX,RA2,↓R6.RT,r]
     exact hK _ (e1.trans (e2.trans e3))
    ·have z:¬((fitN v:Nat):Int)=0:=oM
     rw [if_pos h0] at hK
     simp (disch:=first|omega|simp only [RO]|exact isOne_s _|(simp only [RZ]<;>omega)|fail) only [↓RBp,↓RA,↓reduceIte,Nat.reduceAdd,Nat.reduceMul,Nat.reduceEqDiff,RB,RX,RA2,↓R6.RT,z]
     exact hK _ (e1.trans e2)
   ·rw [hn] at c1
    rw [if_pos (.inr (.inr hn))] at hK
    simp (disch:=first|omega|simp only [RO]|exact isOne_s _|(simp only [RZ]<;>omega)|fail) only [↓RBp,↓RA,↓reduceIte,Nat.reduceAdd,Nat.reduceMul,Nat.reduceEqDiff,RB,RX,RA2,↓R6.RT,h1,h2,c1]
    exact hK _ e1
end Go.Proofs.YtjegifbmbianiaaGreatDoor
