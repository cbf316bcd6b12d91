/-
  Part 2 of what the proofs of this seat share.
-/
import Derived.Test.YtjegifbmbianiaaGreatDoorIa1
import Derived.Sort.AssemblyPlain
import Derived.Sort.LotD4
import Derived.Sort.LotD5
set_option linter.defProp false
set_option linter.unusedSimpArgs false
set_option linter.unusedVariables false
set_option maxHeartbeats 20000000
set_option maxRecDepth 100000
open Go.Proofs.Tryz (prog)
open Go.RowKit (intOf)
namespace Go.Proofs.YtjegifbmbianiaaGreatDoor
open Go Go.Sh
def f148_t (x0:Value) (K:K1) (w:World):Prop:=
 ev prog (binM .neq 41 (.tmp 3) (.tmp 4) x0 x0) w fun t5 w=>
 K t5 w
theorem f148_call (x0:Value) (K:K1) (w:World) (h:f148_t x0 K w):callS prog 148 #[x0] w K:=
 call_of_txt (args:= [x0]) mixed Tryz.func148 .o kR (cast kR h)
def f150_t (x0:Value) (K:K1) (w:World):Prop:=
 cndS (.bool false) (
 ev prog (convert 64 40 x0) w fun t4 w=>
 callS prog 224 (pA #[t4]) w fun t5 w=>
 K t5 w) (
 callS prog 225 (pA #[x0]) w fun t7 w=>
 K t7 w)
theorem f150_call (x0:Value) (K:K1) (w:World) (h:f150_t x0 K w):callS prog 150 #[x0] w K:=
 call_of_txt (args:= [x0]) mixed Tryz.func150 .o kR (cast kR h)
noncomputable def f225_u:Code×Dec:=((Tryz.f225.body).getD .skip,(.s .o (.x 5 .o (.x 5 .o (.x 5 .o .o)))))
abbrev f225_e (K:K1):KF:=endK prog Tryz.f225.results.toList K
def f225_k1_o (K:K1):KF:=fun fr w=>∀σ,cP (pr (pr f225_u)) (f225_e K) (f225_e K) nX (mixF 5 σ 0 fr) w
def f225_k1 (K:K1) (x0 x2:Value) (w:World):Prop:=f225_k1_o K (fz 25 0 [(0,x0),(2,x2)]) w
def f225_k2_o (K:K1):KF:=fun fr w=>∀σ,cP (pr (pr (pr f225_u))) (f225_e K) (f225_e K) nX (mixF 5 σ 0 fr) w
def f225_k2 (K:K1) (x0 x2:Value) (w:World):Prop:=f225_k2_o K (fz 25 0 [(0,x0),(2,x2)]) w
def f225_k3_o (K:K1):KF:=fun fr w=>∀σ,cP (pr (pr (pr (pr f225_u)))) (f225_e K) (f225_e K) nX (mixF 5 σ 0 fr) w
def f225_k3 (K:K1) (x0 x2:Value) (w:World):Prop:=f225_k3_o K (fz 25 0 [(0,x0),(2,x2)]) w
def f225_k1_t (x0 x2:Value) (K:K1) (w:World):Prop:=
 ev prog (binM .geq 41 (.tmp 7) (.const (.int .u64 ((65536:Nat):Int))) x0 (.int .u64 ((65536:Nat):Int))) w fun t8 w=>
 cndS t8 (
 ev prog (binM .shr 41 (.tmp 9) (.const (.int .u64 ((16:Nat):Int))) x0 (.int .u64 ((16:Nat):Int))) w fun t10 w=>
 ev prog (binM .add 3 (.tmp 11) (.const (.int .i64 16)) x2 (.int .i64 16)) w fun t12 w=>
 f225_k2 K t10 t12 w) (
 f225_k2 K x0 x2 w)
theorem f225_k1_eq (K:K1) (x0 x2:Value) (w:World):f225_k1 K x0 x2 w=f225_k1_t x0 x2 K w:=cutE fun σ=>by kernel_rfl
def f225_k2_t (x0 x2:Value) (K:K1) (w:World):Prop:=
 ev prog (binM .geq 41 (.tmp 13) (.const (.int .u64 ((256:Nat):Int))) x0 (.int .u64 ((256:Nat):Int))) w fun t14 w=>
 cndS t14 (
 ev prog (binM .shr 41 (.tmp 15) (.const (.int .u64 ((8:Nat):Int))) x0 (.int .u64 ((8:Nat):Int))) w fun t16 w=>
 ev prog (binM .add 3 (.tmp 17) (.const (.int .i64 8)) x2 (.int .i64 8)) w fun t18 w=>
 f225_k3 K t16 t18 w) (
 f225_k3 K x0 x2 w)
theorem f225_k2_eq (K:K1) (x0 x2:Value) (w:World):f225_k2 K x0 x2 w=f225_k2_t x0 x2 K w:=cutE fun σ=>by kernel_rfl
def f225_k3_t (x0 x2:Value) (K:K1) (w:World):Prop:=
 ev prog (convert 41 5 x0) w fun t21 w=>
 ev prog (Instr.index 9 (.string {data:= #[0,1,2,2,3,3,3,3,4,4,4,4,4,4,4,4,5,5,5,5,5,5,5,5,5,5,5,5,5,5,5,5,6,6,6,6,6,6,6,6,6,6,6,6,6,6,6,6,6,6,6,6,6,6,6,6,6,6,6,6,6,6,6,6,7,7,7,7,7,7,7,7,7,7,7,7,7,7,7,7,7,7,7,7,7,7,7,7,7,7,7,7,7,7,7,7,7,7,7,7,7,7,7,7,7,7,7,7,7,7,7,7,7,7,7,7,7,7,7,7,7,7,7,7,7,7,7,7,8,8,8,8,8,8,8,8,8,8,8,8,8,8,8,8,8,8,8,8,8,8,8,8,8,8,8,8,8,8,8,8,8,8,8,8,8,8,8,8,8,8,8,8,8,8,8,8,8,8,8,8,8,8,8,8,8,8,8,8,8,8,8,8,8,8,8,8,8,8,8,8,8,8,8,8,8,8,8,8,8,8,8,8,8,8,8,8,8,8,8,8,8,8,8,8,8,8,8,8,8,8,8,8,8,8,8,8,8,8,8,8,8,8,8,8,8,8,8,8,8,8,8,8,8,8,8,8]}) t21) w fun t22 w=>
 ev prog (convert 5 3 t22) w fun t23 w=>
 ev prog (binM .add 3 (.tmp 19) (.tmp 23) x2 t23) w fun t24 w=>
 K t24 w
theorem f225_k3_eq (K:K1) (x0 x2:Value) (w:World):f225_k3 K x0 x2 w=f225_k3_t x0 x2 K w:=cutE fun σ=>by kernel_rfl
def f225_t (x0:Value) (K:K1) (w:World):Prop:=
 ev prog (binM .geq 41 (.tmp 3) (.const (.int .u64 ((4294967296:Nat):Int))) x0 (.int .u64 ((4294967296:Nat):Int))) w fun t4 w=>
 cndS t4 (
 ev prog (binM .shr 41 (.tmp 5) (.const (.int .u64 ((32:Nat):Int))) x0 (.int .u64 ((32:Nat):Int))) w fun t6 w=>
 f225_k1 K t6 (.int .i64 32) w) (
 f225_k1 K x0 (.int .i64 0) w)
theorem f225_call (x0:Value) (K:K1) (w:World) (h:f225_t x0 K w):callS prog 225 #[x0] w K:=
 call_of_txt (args:= [x0]) mixed Tryz.func225 f225_u.2 kR (cast kR h)
def f232_t (x0:Value) (K:K1) (w:World):Prop:=
 bltS prog .len #[34] 3 #[false] #[x0] w fun t4 w=>
 ev prog (convert 3 64 t4) w fun t8 w=>
 callS prog 150 (pA #[t8]) w fun t9 w=>
 callS prog 302 (pA #[x0,(.int .i64 0),t4,t9]) w fun t10 w=>
 K (.tuple #[]) w
theorem f232_call (x0:Value) (K:K1) (w:World) (h:f232_t x0 K w):callS prog 232 #[x0] w K:=
 call_of_txt (args:= [x0]) mixed Tryz.func232 .o kR (cast kR h)
def f288_t (x0:Value) (K:K1) (w:World):Prop:=
 ev prog (convert 3 64 x0) w fun t4 w=>
 callS prog 150 (pA #[t4]) w fun t5 w=>
 ev prog (binM .shl 64 (.const (.int .u64 ((1:Nat):Int))) (.tmp 5) (.int .u64 ((1:Nat):Int)) t5) w fun t6 w=>
 K t6 w
theorem f288_call (x0:Value) (K:K1) (w:World) (h:f288_t x0 K w):callS prog 288 #[x0] w K:=
 call_of_txt (args:= [x0]) mixed Tryz.func288 .o kR (cast kR h)
def f289_t (x0:Value) (K:K1) (w:World):Prop:=
 nilR prog x0 w.drew fun t4=>
 ldR prog 439 t4 w.drew fun t5=>
 nilR prog x0 w.drew fun t7=>
 ldR prog 439 t7 w.drew fun t8=>
 rd prog (binM .shl 439 (.tmp 8) (.const (.int .u64 ((13:Nat):Int))) t8 (.int .u64 ((13:Nat):Int))) w.drew fun t9=>
 rd prog (binM .xor 439 (.tmp 5) (.tmp 9) t5 t9) w.drew fun t10=>
 nilR prog x0 w.drew fun t11=>
 stS prog 439 t11 t10 w.drew fun w=>
 nilR prog x0 w.drew fun t13=>
 ldR prog 439 t13 w.drew fun t14=>
 nilR prog x0 w.drew fun t16=>
 ldR prog 439 t16 w.drew fun t17=>
 rd prog (binM .shr 439 (.tmp 17) (.const (.int .u64 ((7:Nat):Int))) t17 (.int .u64 ((7:Nat):Int))) w.drew fun t18=>
 rd prog (binM .xor 439 (.tmp 14) (.tmp 18) t14 t18) w.drew fun t19=>
 nilR prog x0 w.drew fun t20=>
 stS prog 439 t20 t19 w.drew fun w=>
 nilR prog x0 w.drew fun t22=>
 ldR prog 439 t22 w.drew fun t23=>
 nilR prog x0 w.drew fun t25=>
 ldR prog 439 t25 w.drew fun t26=>
 rd prog (binM .shl 439 (.tmp 26) (.const (.int .u64 ((17:Nat):Int))) t26 (.int .u64 ((17:Nat):Int))) w.drew fun t27=>
 rd prog (binM .xor 439 (.tmp 23) (.tmp 27) t23 t27) w.drew fun t28=>
 nilR prog x0 w.drew fun t29=>
 stS prog 439 t29 t28 w.drew fun w=>
 nilS prog x0 w fun t31 w=>
 ldS prog 439 t31 w fun t32 w=>
 K t32 w
theorem f289_call (x0:Value) (K:K1) (w:World) (h:f289_t x0 K w):callS prog 289 #[x0] w K:=
 call_of_txt (args:= [x0]) mixed Tryz.func289 .o kR (cast kR h)
noncomputable def f302_u:Code×Dec:=((Tryz.f302.body).getD .skip,(.s .o (.s .o (.b (.l [1,2,3,8,9] 1 21778071482940061661655974875633165532942 (.b (.s .o (.s .o (.s .o (.x 1807 .o (.s .o (.x 7951 .o (.x 3855 .o .o)))))))))))))
abbrev f302_e (K:K1):KF:=endK prog Tryz.f302.results.toList K
def f302_l1 (K:K1) (x0 x1 x2 x3 x8 x9:Value) (w:World):Prop:=loopT [1,2,3,8,9] 1 (fun E=>cP (pl (pl (pr (pr f302_u)))) E (f302_e K) (exB 0 (f302_e K) nX)) (fz 134 0 [(0,x0),(1,x1),(2,x2),(3,x3),(8,x8),(9,x9)]) w
def f302_k1_o (K:K1) (E1:VP5):KF:=fun fr w=>∀σ,cP (pr (pr (pr (pr (pl (pl (pl (pr (pr f302_u))))))))) (fun fr w=>E1 (sv fr 1) (sv fr 2) (sv fr 3) (sv fr 8) (sv fr 9) w) (f302_e K) (exB 1 (fun fr w=>E1 (sv fr 1) (sv fr 2) (sv fr 3) (sv fr 8) (sv fr 9) w) (exB 0 (f302_e K) nX)) (mixF 1807 σ 0 fr) w
def f302_k1 (K:K1) (E1:VP5) (x0 x1 x2 x3 x8 x9 x10:Value) (w:World):Prop:=f302_k1_o K E1 (fz 134 0 [(0,x0),(1,x1),(2,x2),(3,x3),(8,x8),(9,x9),(10,x10)]) w
def f302_k2_o (K:K1) (E1:VP5):KF:=fun fr w=>∀σ,cP (pr (pr (pr (pr (pr (pr (pl (pl (pl (pr (pr f302_u))))))))))) (fun fr w=>E1 (sv fr 1) (sv fr 2) (sv fr 3) (sv fr 8) (sv fr 9) w) (f302_e K) (exB 1 (fun fr w=>E1 (sv fr 1) (sv fr 2) (sv fr 3) (sv fr 8) (sv fr 9) w) (exB 0 (f302_e K) nX)) (mixF 7951 σ 0 fr) w
def f302_k2 (K:K1) (E1:VP5) (x0 x1 x2 x3 x8 x9 x10 x11 x12:Value) (w:World):Prop:=f302_k2_o K E1 (fz 134 0 [(0,x0),(1,x1),(2,x2),(3,x3),(8,x8),(9,x9),(10,x10),(11,x11),(12,x12)]) w
def f302_k3_o (K:K1) (E1:VP5):KF:=fun fr w=>∀σ,cP (pr (pr (pr (pr (pr (pr (pr (pl (pl (pl (pr (pr f302_u)))))))))))) (fun fr w=>E1 (sv fr 1) (sv fr 2) (sv fr 3) (sv fr 8) (sv fr 9) w) (f302_e K) (exB 1 (fun fr w=>E1 (sv fr 1) (sv fr 2) (sv fr 3) (sv fr 8) (sv fr 9) w) (exB 0 (f302_e K) nX)) (mixF 3855 σ 0 fr) w
def f302_k3 (K:K1) (E1:VP5) (x0 x1 x2 x3 x8 x9 x10 x11:Value) (w:World):Prop:=f302_k3_o K E1 (fz 134 0 [(0,x0),(1,x1),(2,x2),(3,x3),(8,x8),(9,x9),(10,x10),(11,x11)]) w
def f302_l1_t (x0 x1 x2 x3 x8 x9:Value) (K:K1) (E1:VP5) (w:World):Prop:=
 ev prog (binM .sub 3 (.tmp 19) (.tmp 20) x2 x1) w fun t21 w=>
 ev prog (binM .leq 3 (.tmp 22) (.const (.int .i64 12)) t21 (.int .i64 12)) w fun t23 w=>
 cndS t23 (
 callS prog 341 (pA #[x0,x1,x2]) w fun t27 w=>
 K (.tuple #[]) w) (
 ev prog (binM .eql 3 (.tmp 28) (.const (.int .i64 0)) x3 (.int .i64 0)) w fun t29 w=>
 cndS t29 (
 callS prog 342 (pA #[x0,x1,x2]) w fun t33 w=>
 K (.tuple #[]) w) (
 ev prog (Op.unary .not x8) w fun t35 w=>
 cndS t35 (
 callS prog 343 (pA #[x0,x1,x2]) w fun t39 w=>
 ev prog (binM .sub 3 (.tmp 40) (.const (.int .i64 1)) x3 (.int .i64 1)) w fun t41 w=>
 f302_k1 K E1 x0 x1 x2 t41 x8 x9 t21 w) (
 f302_k1 K E1 x0 x1 x2 x3 x8 x9 t21 w)))
theorem f302_l1_rule (x0 x1 x2 x3 x8 x9:Value) (K:K1) (w:World) (I:VP5) (μ:Value→Value→Value→Value→Value→World→Nat) (h0:I x1 x2 x3 x8 x9 w)
  (hr:∀(x1 x2 x3 x8 x9:Value) (w:World),I x1 x2 x3 x8 x9 w→∀E1:VP5,(∀(y1 y2 y3 y8 y9:Value) (w':World),I y1 y2 y3 y8 y9 w'→μ y1 y2 y3 y8 y9 w'<μ x1 x2 x3 x8 x9 w→E1 y1 y2 y3 y8 y9 w')→f302_l1_t x0 x1 x2 x3 x8 x9 K E1 w):f302_l1 K x0 x1 x2 x3 x8 x9 w:=
 ⟨I,μ,h0,fun σ w hI E hE=>cast kR (hr (σ 1) (σ 2) (σ 3) (σ 8) (σ 9) w hI E hE)⟩
def f302_k1_t (x0 x1 x2 x3 x8 x9 x10:Value) (K:K1) (E1:VP5) (w:World):Prop:=
 callS prog 344 (pA #[x0,x1,x2]) w fun t46 w=>
 ev prog (Instr.extract t46 0) w fun t47 w=>
 ev prog (Instr.extract t46 1) w fun t48 w=>
 ev prog (binM .eql 364 (.tmp 49) (.const (.int .i64 2)) t48 (.int .i64 2)) w fun t50 w=>
 cndS t50 (
 callS prog 345 (pA #[x0,x1,x2]) w fun t54 w=>
 ev prog (binM .sub 3 (.tmp 55) (.const (.int .i64 1)) x2 (.int .i64 1)) w fun t56 w=>
 ev prog (binM .sub 3 (.tmp 57) (.tmp 58) t47 x1) w fun t59 w=>
 ev prog (binM .sub 3 (.tmp 56) (.tmp 59) t56 t59) w fun t60 w=>
 f302_k2 K E1 x0 x1 x2 x3 x8 x9 x10 t60 (.int .i64 1) w) (
 f302_k2 K E1 x0 x1 x2 x3 x8 x9 x10 t47 t48 w)
theorem f302_k1_eq (K:K1) (E1:VP5) (x0 x1 x2 x3 x8 x9 x10:Value) (w:World):f302_k1 K E1 x0 x1 x2 x3 x8 x9 x10 w=f302_k1_t x0 x1 x2 x3 x8 x9 x10 K E1 w:=cutE fun σ=>by kernel_rfl
def f302_k2_t (x0 x1 x2 x3 x8 x9 x10 x11 x12:Value) (K:K1) (E1:VP5) (w:World):Prop:=
 gd x8 true (fun k=>k x9 w) w fun t63 w=>
 pickS x8 t63 (.bool false) w fun t64 w=>
 gd t64 true (fun k=>k x12 w) w fun t66 w=>
 gd t64 true (fun k=>ev prog (binM .eql 364 (.tmp 66) (.const (.int .i64 1)) t66 (.int .i64 1)) w k) w fun t67 w=>
 pickS t64 t67 (.bool false) w fun t68 w=>
 cndS t68 (
 callS prog 346 (pA #[x0,x1,x2]) w fun t72 w=>
 cndS t72 (
 K (.tuple #[]) w) (
 f302_k3 K E1 x0 x1 x2 x3 x8 x9 x10 x11 w)) (
 f302_k3 K E1 x0 x1 x2 x3 x8 x9 x10 x11 w)
theorem f302_k2_eq (K:K1) (E1:VP5) (x0 x1 x2 x3 x8 x9 x10 x11 x12:Value) (w:World):f302_k2 K E1 x0 x1 x2 x3 x8 x9 x10 x11 x12 w=f302_k2_t x0 x1 x2 x3 x8 x9 x10 x11 x12 K E1 w:=cutE fun σ=>by kernel_rfl
def f302_k3_t (x0 x1 x2 x3 x8 x9 x10 x11:Value) (K:K1) (E1:VP5) (w:World):Prop:=
 rd prog (binM .gtr 3 (.tmp 73) (.const (.int .i64 0)) x1 (.int .i64 0)) w.drew fun t74=>
 gdR t74 true (fun k=>k x0) fun t76=>
 gdR t74 true (fun k=>k x1) fun t77=>
 gdR t74 true (fun k=>rd prog (binM .sub 3 (.tmp 77) (.const (.int .i64 1)) t77 (.int .i64 1)) w.drew k) fun t78=>
 gdR t74 true (fun k=>rd prog (Instr.indexAt 34 t76 t78) w.drew k) fun t79=>
 gdR t74 true (fun k=>ldR prog 41 t79 w.drew k) fun t80=>
 gdR t74 true (fun k=>k x0) fun t81=>
 gdR t74 true (fun k=>k x11) fun t82=>
 gdR t74 true (fun k=>rd prog (Instr.indexAt 34 t81 t82) w.drew k) fun t83=>
 gdR t74 true (fun k=>ldR prog 41 t83 w.drew k) fun t84=>
 gd t74 true (fun k=>callS prog 347 (pA #[t80,t84]) w.drew k) w.drew fun t85 w=>
 gdR t74 true (fun k=>rd prog (Op.unary .not t85) w k) fun t86=>
 pickV t74 t86 (.bool false) fun t87=>
 cndS t87 (
 callS prog 348 (pA #[x0,x1,x2,x11]) w fun t92 w=>
 E1 t92 x2 x3 x8 x9 w) (
 callS prog 349 (pA #[x0,x1,x2,x11]) w fun t99 w=>
 ev prog (Instr.extract t99 0) w fun t100 w=>
 ev prog (Instr.extract t99 1) w fun t101 w=>
 ev prog (binM .sub 3 (.tmp 103) (.tmp 104) t100 x1) w fun t105 w=>
 ev prog (binM .sub 3 (.tmp 106) (.tmp 107) x2 t100) w fun t108 w=>
 ev prog (binM .quo 3 (.tmp 109) (.const (.int .i64 8)) x10 (.int .i64 8)) w fun t110 w=>
 ev prog (binM .lss 3 (.tmp 111) (.tmp 112) t105 t108) w fun t113 w=>
 cndS t113 (
 ev prog (binM .geq 3 (.tmp 114) (.tmp 115) t105 t110) w fun t116 w=>
 callS prog 302 (pA #[x0,x1,t100,x3]) w fun t121 w=>
 ev prog (binM .add 3 (.tmp 122) (.const (.int .i64 1)) t100 (.int .i64 1)) w fun t123 w=>
 E1 t123 x2 x3 t116 t101 w) (
 ev prog (binM .geq 3 (.tmp 124) (.tmp 125) t108 t110) w fun t126 w=>
 ev prog (binM .add 3 (.tmp 128) (.const (.int .i64 1)) t100 (.int .i64 1)) w fun t129 w=>
 callS prog 302 (pA #[x0,t129,x2,x3]) w fun t132 w=>
 E1 x1 t100 x3 t126 t101 w))
theorem f302_k3_eq (K:K1) (E1:VP5) (x0 x1 x2 x3 x8 x9 x10 x11:Value) (w:World):f302_k3 K E1 x0 x1 x2 x3 x8 x9 x10 x11 w=f302_k3_t x0 x1 x2 x3 x8 x9 x10 x11 K E1 w:=cutE fun σ=>by kernel_rfl
def f302_t (x0 x1 x2 x3:Value) (K:K1) (w:World):Prop:=
 f302_l1 K x0 x1 x2 x3 (.bool true) (.bool true) w
theorem f302_call (x0 x1 x2 x3:Value) (K:K1) (w:World) (h:f302_t x0 x1 x2 x3 K w):callS prog 302 #[x0,x1,x2,x3] w K:=
 call_of_txt (args:= [x0,x1,x2,x3]) mixed Tryz.func302 f302_u.2 kR (cast kR h)
noncomputable def f341_u:Code×Dec:=((Tryz.f341.body).getD .skip,(.s .o (.b (.l [6] 7 562949953420480 (.s .o (.x 71 (.b (.s .o (.b (.l [7] 71 562949953355904 .o)))) .o))))))
abbrev f341_e (K:K1):KF:=endK prog Tryz.f341.results.toList K
def f341_l1 (K:K1) (x0 x1 x2 x6:Value) (w:World):Prop:=loopT [6] 7 (fun E=>cP (pl (pl (pr f341_u))) E (f341_e K) (exB 0 (f341_e K) nX)) (fz 49 0 [(0,x0),(1,x1),(2,x2),(6,x6)]) w
def f341_k1_o (K:K1) (E1:VP1):KF:=fun fr w=>∀σ,cP (pr (pr (pl (pl (pr f341_u))))) (fun fr w=>E1 (sv fr 6) w) (f341_e K) (exB 0 (f341_e K) nX) (mixF 71 σ 0 fr) w
def f341_k1 (K:K1) (E1:VP1) (x0 x1 x2 x6:Value) (w:World):Prop:=f341_k1_o K E1 (fz 49 0 [(0,x0),(1,x1),(2,x2),(6,x6)]) w
def f341_l2 (K:K1) (E1:VP1) (x0 x1 x2 x6 x7:Value) (w:World):Prop:=loopT [7] 71 (fun E=>cP (pl (pl (pr (pl (pl (pr (pl (pl (pr f341_u))))))))) E (f341_e K) (exB 2 (f341_k1_o K E1) (exB 1 (f341_k1_o K E1) (exB 0 (f341_e K) nX)))) (fz 49 0 [(0,x0),(1,x1),(2,x2),(6,x6),(7,x7)]) w
def f341_l1_t (x0 x1 x2 x6:Value) (K:K1) (E1:VP1) (w:World):Prop:=
 ev prog (binM .lss 3 (.tmp 10) (.tmp 11) x6 x2) w fun t12 w=>
 cndS t12 (
 f341_l2 K E1 x0 x1 x2 x6 x6 w) (
 K (.tuple #[]) w)
theorem f341_l1_rule (x0 x1 x2 x6:Value) (K:K1) (w:World) (I:VP1) (μ:Value→World→Nat) (h0:I x6 w)
  (hr:∀(x6:Value) (w:World),I x6 w→∀E1:VP1,(∀(y6:Value) (w':World),I y6 w'→μ y6 w'<μ x6 w→E1 y6 w')→f341_l1_t x0 x1 x2 x6 K E1 w):f341_l1 K x0 x1 x2 x6 w:=
 ⟨I,μ,h0,fun σ w hI E hE=>cast kR (hr (σ 6) w hI E hE)⟩
def f341_k1_t (x0 x1 x2 x6:Value) (K:K1) (E1:VP1) (w:World):Prop:=
 ev prog (binM .add 3 (.tmp 13) (.const (.int .i64 1)) x6 (.int .i64 1)) w fun t14 w=>
 E1 t14 w
theorem f341_k1_eq (K:K1) (E1:VP1) (x0 x1 x2 x6:Value) (w:World):f341_k1 K E1 x0 x1 x2 x6 w=f341_k1_t x0 x1 x2 x6 K E1 w:=cutE fun σ=>by kernel_rfl
def f341_l2_t (x0 x1 x2 x6 x7:Value) (K:K1) (E1:VP1) (E2:VP1) (w:World):Prop:=
 rd prog (binM .gtr 3 (.tmp 16) (.tmp 17) x7 x1) w.drew fun t18=>
 gdR t18 true (fun k=>k x0) fun t20=>
 gdR t18 true (fun k=>k x7) fun t21=>
 gdR t18 true (fun k=>rd prog (Instr.indexAt 34 t20 t21) w.drew k) fun t22=>
 gdR t18 true (fun k=>ldR prog 41 t22 w.drew k) fun t23=>
 gdR t18 true (fun k=>k x0) fun t24=>
 gdR t18 true (fun k=>k x7) fun t25=>
 gdR t18 true (fun k=>rd prog (binM .sub 3 (.tmp 25) (.const (.int .i64 1)) t25 (.int .i64 1)) w.drew k) fun t26=>
 gdR t18 true (fun k=>rd prog (Instr.indexAt 34 t24 t26) w.drew k) fun t27=>
 gdR t18 true (fun k=>ldR prog 41 t27 w.drew k) fun t28=>
 gd t18 true (fun k=>callS prog 347 (pA #[t23,t28]) w.drew k) w.drew fun t29 w=>
 pickV t18 t29 (.bool false) fun t30=>
 cndS t30 (
 rd prog (binM .sub 3 (.tmp 36) (.const (.int .i64 1)) x7 (.int .i64 1)) w.drew fun t37=>
 rd prog (binM .sub 3 (.tmp 39) (.const (.int .i64 1)) x7 (.int .i64 1)) w.drew fun t40=>
 rd prog (Instr.indexAt 34 x0 t40) w.drew fun t41=>
 ldR prog 41 t41 w.drew fun t42=>
 rd prog (Instr.indexAt 34 x0 x7) w.drew fun t45=>
 ldR prog 41 t45 w.drew fun t46=>
 rd prog (Instr.indexAt 34 x0 x7) w.drew fun t47=>
 stS prog 41 t47 t42 w.drew fun w=>
 (ag prog (binM .sub 3 (.tmp 36) (.const (.int .i64 1)) x7 (.int .i64 1)) w t37)∧
 rd prog (Instr.indexAt 34 x0 t37) w fun t48=>
 stS prog 41 t48 t46 w fun w=>
 ev prog (binM .sub 3 (.tmp 31) (.const (.int .i64 1)) x7 (.int .i64 1)) w fun t32 w=>
 E2 t32 w) (
 f341_k1 K E1 x0 x1 x2 x6 w)
theorem f341_l2_rule (x0 x1 x2 x6 x7:Value) (K:K1) (E1:VP1) (w:World) (I:VP1) (μ:Value→World→Nat) (h0:I x7 w)
  (hr:∀(x7:Value) (w:World),I x7 w→∀E2:VP1,(∀(y7:Value) (w':World),I y7 w'→μ y7 w'<μ x7 w→E2 y7 w')→f341_l2_t x0 x1 x2 x6 x7 K E1 E2 w):f341_l2 K E1 x0 x1 x2 x6 x7 w:=
 ⟨I,μ,h0,fun σ w hI E hE=>cast kR (hr (σ 7) w hI E hE)⟩
def f341_t (x0 x1 x2:Value) (K:K1) (w:World):Prop:=
 ev prog (binM .add 3 (.tmp 8) (.const (.int .i64 1)) x1 (.int .i64 1)) w fun t9 w=>
 f341_l1 K x0 x1 x2 t9 w
theorem f341_call (x0 x1 x2:Value) (K:K1) (w:World) (h:f341_t x0 x1 x2 K w):callS prog 341 #[x0,x1,x2] w K:=
 call_of_txt (args:= [x0,x1,x2]) mixed Tryz.func341 f341_u.2 kR (cast kR h)
noncomputable def f342_u:Code×Dec:=((Tryz.f342.body).getD .skip,(.s .o (.s .o (.s .o (.x 449 (.s .o (.b (.l [9] 449 133956096 .o))) (.s .o (.b (.l [10] 193 72057593501058048 .o))))))))
abbrev f342_e (K:K1):KF:=endK prog Tryz.f342.results.toList K
def f342_k1_o (K:K1):KF:=fun fr w=>∀σ,cP (pr (pr (pr (pr f342_u)))) (f342_e K) (f342_e K) nX (mixF 449 σ 0 fr) w
def f342_k1 (K:K1) (x0 x6 x7 x8:Value) (w:World):Prop:=f342_k1_o K (fz 56 0 [(0,x0),(6,x6),(7,x7),(8,x8)]) w
def f342_l1 (K:K1) (x0 x6 x7 x8 x9:Value) (w:World):Prop:=loopT [9] 449 (fun E=>cP (pl (pl (pr (pl (pr (pr (pr f342_u))))))) E (f342_e K) (exB 0 (f342_k1_o K) nX)) (fz 56 0 [(0,x0),(6,x6),(7,x7),(8,x8),(9,x9)]) w
def f342_l2 (K:K1) (x0 x6 x7 x10:Value) (w:World):Prop:=loopT [10] 193 (fun E=>cP (pl (pl (pr (pr (pr (pr (pr f342_u))))))) E (f342_e K) (exB 2 (f342_e K) nX)) (fz 56 0 [(0,x0),(6,x6),(7,x7),(10,x10)]) w
def f342_k1_t (x0 x6 x7 x8:Value) (K:K1) (w:World):Prop:=
 ev prog (binM .sub 3 (.tmp 27) (.const (.int .i64 1)) x8 (.int .i64 1)) w fun t28 w=>
 f342_l2 K x0 x6 x7 t28 w
theorem f342_k1_eq (K:K1) (x0 x6 x7 x8:Value) (w:World):f342_k1 K x0 x6 x7 x8 w=f342_k1_t x0 x6 x7 x8 K w:=cutE fun σ=>by kernel_rfl
def f342_l1_t (x0 x6 x7 x8 x9:Value) (K:K1) (E1:VP1) (w:World):Prop:=
 ev prog (binM .geq 3 (.tmp 18) (.const (.int .i64 0)) x9 (.int .i64 0)) w fun t19 w=>
 cndS t19 (
 callS prog 381 (pA #[x0,x9,x8,x6]) w fun t26 w=>
 ev prog (binM .sub 3 (.tmp 20) (.const (.int .i64 1)) x9 (.int .i64 1)) w fun t21 w=>
 E1 t21 w) (
 f342_k1 K x0 x6 x7 x8 w)
theorem f342_l1_rule (x0 x6 x7 x8 x9:Value) (K:K1) (w:World) (I:VP1) (μ:Value→World→Nat) (h0:I x9 w)
  (hr:∀(x9:Value) (w:World),I x9 w→∀E1:VP1,(∀(y9:Value) (w':World),I y9 w'→μ y9 w'<μ x9 w→E1 y9 w')→f342_l1_t x0 x6 x7 x8 x9 K E1 w):f342_l1 K x0 x6 x7 x8 x9 w:=
 ⟨I,μ,h0,fun σ w hI E hE=>cast kR (hr (σ 9) w hI E hE)⟩
def f342_l2_t (x0 x6 x7 x10:Value) (K:K1) (E1:VP1) (w:World):Prop:=
 ev prog (binM .geq 3 (.tmp 29) (.const (.int .i64 0)) x10 (.int .i64 0)) w fun t30 w=>
 cndS t30 (
 rd prog (binM .add 3 (.tmp 36) (.tmp 37) x6 x10) w.drew fun t38=>
 rd prog (binM .add 3 (.tmp 40) (.tmp 41) x6 x10) w.drew fun t42=>
 rd prog (Instr.indexAt 34 x0 t42) w.drew fun t43=>
 ldR prog 41 t43 w.drew fun t44=>
 rd prog (Instr.indexAt 34 x0 x6) w.drew fun t47=>
 ldR prog 41 t47 w.drew fun t48=>
 rd prog (Instr.indexAt 34 x0 x6) w.drew fun t49=>
 stS prog 41 t49 t44 w.drew fun w=>
 (ag prog (binM .add 3 (.tmp 36) (.tmp 37) x6 x10) w t38)∧
 rd prog (Instr.indexAt 34 x0 t38) w fun t50=>
 stS prog 41 t50 t48 w fun w=>
 callS prog 381 (pA #[x0,x7,x10,x6]) w fun t55 w=>
 ev prog (binM .sub 3 (.tmp 31) (.const (.int .i64 1)) x10 (.int .i64 1)) w fun t32 w=>
 E1 t32 w) (
 K (.tuple #[]) w)
theorem f342_l2_rule (x0 x6 x7 x10:Value) (K:K1) (w:World) (I:VP1) (μ:Value→World→Nat) (h0:I x10 w)
  (hr:∀(x10:Value) (w:World),I x10 w→∀E1:VP1,(∀(y10:Value) (w':World),I y10 w'→μ y10 w'<μ x10 w→E1 y10 w')→f342_l2_t x0 x6 x7 x10 K E1 w):f342_l2 K x0 x6 x7 x10 w:=
 ⟨I,μ,h0,fun σ w hI E hE=>cast kR (hr (σ 10) w hI E hE)⟩
def f342_t (x0 x1 x2:Value) (K:K1) (w:World):Prop:=
 ev prog (binM .sub 3 (.tmp 12) (.tmp 13) x2 x1) w fun t14 w=>
 ev prog (binM .sub 3 (.tmp 15) (.const (.int .i64 1)) t14 (.int .i64 1)) w fun t16 w=>
 ev prog (binM .quo 3 (.tmp 16) (.const (.int .i64 2)) t16 (.int .i64 2)) w fun t17 w=>
 f342_l1 K x0 x1 (.int .i64 0) t14 t17 w
theorem f342_call (x0 x1 x2:Value) (K:K1) (w:World) (h:f342_t x0 x1 x2 K w):callS prog 342 #[x0,x1,x2] w K:=
 call_of_txt (args:= [x0,x1,x2]) mixed Tryz.func342 f342_u.2 kR (cast kR h)
noncomputable def f343_u:Code×Dec:=((Tryz.f343.body).getD .skip,(.s .o (.s .o (.s (.s .o (.s .o (.s .o (.b (.l [9] 451 36893488147351995904 (.s .o (.s (.b (.s .o (.x 1987 .o .o))) .o))))))) .o))))
abbrev f343_e (K:K1):KF:=endK prog Tryz.f343.results.toList K
def f343_l1 (K:K1) (x0 x1 x6 x7 x8 x9:Value) (w:World):Prop:=loopT [9] 451 (fun E=>cP (pl (pl (pr (pr (pr (pl (pr (pr f343_u)))))))) E (f343_e K) (exB 0 (f343_e K) nX)) (fz 65 0 [(0,x0),(1,x1),(6,x6),(7,x7),(8,x8),(9,x9)]) w
def f343_k1_o (K:K1) (E1:VP1):KF:=fun fr w=>∀σ,cP (pr (pr (pl (pl (pr (pl (pl (pr (pr (pr (pl (pr (pr f343_u))))))))))))) (cP (pr (pr (pl (pl (pr (pr (pr (pl (pr (pr f343_u)))))))))) (fun fr w=>E1 (sv fr 9) w) (f343_e K) (exB 0 (f343_e K) nX)) (f343_e K) (exB 1 (cP (pr (pr (pl (pl (pr (pr (pr (pl (pr (pr f343_u)))))))))) (fun fr w=>E1 (sv fr 9) w) (f343_e K) (exB 0 (f343_e K) nX)) (exB 0 (f343_e K) nX)) (mixF 1987 σ 0 fr) w
def f343_k1 (K:K1) (E1:VP1) (x0 x1 x6 x7 x8 x9 x10:Value) (w:World):Prop:=f343_k1_o K E1 (fz 65 0 [(0,x0),(1,x1),(6,x6),(7,x7),(8,x8),(9,x9),(10,x10)]) w
def f343_l1_t (x0 x1 x6 x7 x8 x9:Value) (K:K1) (E1:VP1) (w:World):Prop:=
 ev prog (binM .quo 3 (.tmp 28) (.const (.int .i64 4)) x6 (.int .i64 4)) w fun t29 w=>
 ev prog (binM .mul 3 (.tmp 29) (.const (.int .i64 2)) t29 (.int .i64 2)) w fun t30 w=>
 ev prog (binM .add 3 (.tmp 27) (.tmp 30) x1 t30) w fun t31 w=>
 ev prog (binM .add 3 (.tmp 31) (.const (.int .i64 1)) t31 (.int .i64 1)) w fun t32 w=>
 ev prog (binM .leq 3 (.tmp 26) (.tmp 32) x9 t32) w fun t33 w=>
 cndS t33 (
 callS prog 289 (pA #[x7]) w fun t36 w=>
 ev prog (binM .sub 64 (.tmp 37) (.const (.int .u64 ((1:Nat):Int))) x8 (.int .u64 ((1:Nat):Int))) w fun t38 w=>
 ev prog (binM .and 64 (.tmp 36) (.tmp 38) t36 t38) w fun t39 w=>
 ev prog (convert 64 3 t39) w fun t40 w=>
 ev prog (binM .geq 3 (.tmp 41) (.tmp 42) t40 x6) w fun t43 w=>
 cndS t43 (
 ev prog (binM .sub 3 (.tmp 44) (.tmp 45) t40 x6) w fun t46 w=>
 f343_k1 K E1 x0 x1 x6 x7 x8 x9 t46 w) (
 f343_k1 K E1 x0 x1 x6 x7 x8 x9 t40 w)) (
 K (.tuple #[]) w)
theorem f343_l1_rule (x0 x1 x6 x7 x8 x9:Value) (K:K1) (w:World) (I:VP1) (μ:Value→World→Nat) (h0:I x9 w)
  (hr:∀(x9:Value) (w:World),I x9 w→∀E1:VP1,(∀(y9:Value) (w':World),I y9 w'→μ y9 w'<μ x9 w→E1 y9 w')→f343_l1_t x0 x1 x6 x7 x8 x9 K E1 w):f343_l1 K x0 x1 x6 x7 x8 x9 w:=
 ⟨I,μ,h0,fun σ w hI E hE=>cast kR (hr (σ 9) w hI E hE)⟩
def f343_k1_t (x0 x1 x6 x7 x8 x9 x10:Value) (K:K1) (E1:VP1) (w:World):Prop:=
 rd prog (binM .add 3 (.tmp 50) (.tmp 51) x1 x10) w.drew fun t52=>
 rd prog (binM .add 3 (.tmp 54) (.tmp 55) x1 x10) w.drew fun t56=>
 rd prog (Instr.indexAt 34 x0 t56) w.drew fun t57=>
 ldR prog 41 t57 w.drew fun t58=>
 rd prog (Instr.indexAt 34 x0 x9) w.drew fun t61=>
 ldR prog 41 t61 w.drew fun t62=>
 rd prog (Instr.indexAt 34 x0 x9) w.drew fun t63=>
 stS prog 41 t63 t58 w.drew fun w=>
 (ag prog (binM .add 3 (.tmp 50) (.tmp 51) x1 x10) w t52)∧
 rd prog (Instr.indexAt 34 x0 t52) w fun t64=>
 stS prog 41 t64 t62 w fun w=>
 ev prog (binM .add 3 (.tmp 34) (.const (.int .i64 1)) x9 (.int .i64 1)) w fun t35 w=>
 E1 t35 w
theorem f343_k1_eq (K:K1) (E1:VP1) (x0 x1 x6 x7 x8 x9 x10:Value) (w:World):f343_k1 K E1 x0 x1 x6 x7 x8 x9 x10 w=f343_k1_t x0 x1 x6 x7 x8 x9 x10 K E1 w:=cutE fun σ=>by kernel_rfl
def f343_t (x0 x1 x2:Value) (K:K1) (w:World):Prop:=
 ev prog (binM .sub 3 (.tmp 11) (.tmp 12) x2 x1) w fun t13 w=>
 ev prog (binM .geq 3 (.tmp 14) (.const (.int .i64 8)) t13 (.int .i64 8)) w fun t15 w=>
 cndS t15 (
 ev prog (convert 3 439 t13) w fun t17 w=>
 ev prog (Instr.alloc 439 true (.tuple #[])) w fun t7 w=>
 stS prog 439 t7 t17 w fun w=>
 callS prog 288 (pA #[t13]) w fun t19 w=>
 ev prog (binM .quo 3 (.tmp 21) (.const (.int .i64 4)) t13 (.int .i64 4)) w fun t22 w=>
 ev prog (binM .mul 3 (.tmp 22) (.const (.int .i64 2)) t22 (.int .i64 2)) w fun t23 w=>
 ev prog (binM .add 3 (.tmp 20) (.tmp 23) x1 t23) w fun t24 w=>
 ev prog (binM .sub 3 (.tmp 24) (.const (.int .i64 1)) t24 (.int .i64 1)) w fun t25 w=>
 f343_l1 K x0 x1 t13 t7 t19 t25 w) (
 K (.tuple #[]) w)
theorem f343_call (x0 x1 x2:Value) (K:K1) (w:World) (h:f343_t x0 x1 x2 K w):callS prog 343 #[x0,x1,x2] w K:=
 call_of_txt (args:= [x0,x1,x2]) mixed Tryz.func343 f343_u.2 kR (cast kR h)
noncomputable def f344_u:Code×Dec:=((Tryz.f344.body).getD .skip,(.s .o (.s .o (.s .o (.s .o (.s .o (.s .o (.x 2560 (.s .o (.s (.x 7681 .o .o) .o)) .o))))))))
abbrev f344_e (K:K1):KF:=endK prog Tryz.f344.results.toList K
def f344_k1_o (K:K1):KF:=fun fr w=>∀σ,cP (pr (pr (pr (pr (pr (pr (pr f344_u))))))) (f344_e K) (f344_e K) nX (mixF 2560 σ 0 fr) w
def f344_k1 (K:K1) (x9 x11:Value) (w:World):Prop:=f344_k1_o K (fz 57 0 [(9,x9),(11,x11)]) w
def f344_k2_o (K:K1):KF:=fun fr w=>∀σ,cP (pr (pl (pr (pl (pr (pr (pr (pr (pr (pr f344_u)))))))))) (f344_k1_o K) (f344_e K) nX (mixF 7681 σ 0 fr) w
def f344_k2 (K:K1) (x0 x9 x10 x11 x12:Value) (w:World):Prop:=f344_k2_o K (fz 57 0 [(0,x0),(9,x9),(10,x10),(11,x11),(12,x12)]) w
def f344_k1_t (x9 x11:Value) (K:K1) (w:World):Prop:=
 ldS prog 3 x9 w fun t49 w=>
 ev prog (binM .eql 3 (.tmp 49) (.const (.int .i64 0)) t49 (.int .i64 0)) w fun t52 w=>
 cndS t52 (
 K (.tuple #[x11,(.int .i64 1)]) w) (
 ev prog (binM .eql 3 (.tmp 49) (.const (.int .i64 12)) t49 (.int .i64 12)) w fun t55 w=>
 cndS t55 (
 K (.tuple #[x11,(.int .i64 2)]) w) (
 K (.tuple #[x11,(.int .i64 0)]) w))
theorem f344_k1_eq (K:K1) (x9 x11:Value) (w:World):f344_k1 K x9 x11 w=f344_k1_t x9 x11 K w:=cutE fun σ=>by kernel_rfl
def f344_k2_t (x0 x9 x10 x11 x12:Value) (K:K1) (w:World):Prop:=
 callS prog 383 (pA #[x0,x10,x11,x12,x9]) w fun t48 w=>
 f344_k1 K x9 t48 w
theorem f344_k2_eq (K:K1) (x0 x9 x10 x11 x12:Value) (w:World):f344_k2 K x0 x9 x10 x11 x12 w=f344_k2_t x0 x9 x10 x11 x12 K w:=cutE fun σ=>by kernel_rfl
def f344_t (x0 x1 x2:Value) (K:K1) (w:World):Prop:=
 ev prog (binM .sub 3 (.tmp 13) (.tmp 14) x2 x1) w fun t15 w=>
 ev prog (Instr.alloc 3 true (.tuple #[])) w fun t9 w=>
 ev prog (binM .quo 3 (.tmp 17) (.const (.int .i64 4)) t15 (.int .i64 4)) w fun t18 w=>
 ev prog (binM .mul 3 (.tmp 18) (.const (.int .i64 1)) t18 (.int .i64 1)) w fun t19 w=>
 ev prog (binM .add 3 (.tmp 16) (.tmp 19) x1 t19) w fun t20 w=>
 ev prog (binM .quo 3 (.tmp 22) (.const (.int .i64 4)) t15 (.int .i64 4)) w fun t23 w=>
 ev prog (binM .mul 3 (.tmp 23) (.const (.int .i64 2)) t23 (.int .i64 2)) w fun t24 w=>
 ev prog (binM .add 3 (.tmp 21) (.tmp 24) x1 t24) w fun t25 w=>
 ev prog (binM .quo 3 (.tmp 27) (.const (.int .i64 4)) t15 (.int .i64 4)) w fun t28 w=>
 ev prog (binM .mul 3 (.tmp 28) (.const (.int .i64 3)) t28 (.int .i64 3)) w fun t29 w=>
 ev prog (binM .add 3 (.tmp 26) (.tmp 29) x1 t29) w fun t30 w=>
 ev prog (binM .geq 3 (.tmp 31) (.const (.int .i64 8)) t15 (.int .i64 8)) w fun t32 w=>
 cndS t32 (
 ev prog (binM .geq 3 (.tmp 33) (.const (.int .i64 50)) t15 (.int .i64 50)) w fun t34 w=>
 cndS t34 (
 callS prog 382 (pA #[x0,t20,t9]) w fun t37 w=>
 callS prog 382 (pA #[x0,t25,t9]) w fun t40 w=>
 callS prog 382 (pA #[x0,t30,t9]) w fun t43 w=>
 f344_k2 K x0 t9 t37 t40 t43 w) (
 f344_k2 K x0 t9 t20 t25 t30 w)) (
 f344_k1 K t9 t25 w)
theorem f344_call (x0 x1 x2:Value) (K:K1) (w:World) (h:f344_t x0 x1 x2 K w):callS prog 344 #[x0,x1,x2] w K:=
 call_of_txt (args:= [x0,x1,x2]) mixed Tryz.func344 f344_u.2 kR (cast kR h)
noncomputable def f345_u:Code×Dec:=((Tryz.f345.body).getD .skip,(.s .o (.s .o (.b (.l [6,7] 1 4294965440 .o)))))
abbrev f345_e (K:K1):KF:=endK prog Tryz.f345.results.toList K
def f345_l1 (K:K1) (x0 x6 x7:Value) (w:World):Prop:=loopT [6,7] 1 (fun E=>cP (pl (pl (pr (pr f345_u)))) E (f345_e K) (exB 0 (f345_e K) nX)) (fz 32 0 [(0,x0),(6,x6),(7,x7)]) w
def f345_l1_t (x0 x6 x7:Value) (K:K1) (E1:VP2) (w:World):Prop:=
 ev prog (binM .lss 3 (.tmp 11) (.tmp 12) x6 x7) w fun t13 w=>
 cndS t13 (
 rd prog (Instr.indexAt 34 x0 x7) w.drew fun t20=>
 ldR prog 41 t20 w.drew fun t21=>
 rd prog (Instr.indexAt 34 x0 x6) w.drew fun t24=>
 ldR prog 41 t24 w.drew fun t25=>
 rd prog (Instr.indexAt 34 x0 x6) w.drew fun t26=>
 stS prog 41 t26 t21 w.drew fun w=>
 rd prog (Instr.indexAt 34 x0 x7) w fun t27=>
 stS prog 41 t27 t25 w fun w=>
 ev prog (binM .add 3 (.tmp 28) (.const (.int .i64 1)) x6 (.int .i64 1)) w fun t29 w=>
 ev prog (binM .sub 3 (.tmp 30) (.const (.int .i64 1)) x7 (.int .i64 1)) w fun t31 w=>
 E1 t29 t31 w) (
 K (.tuple #[]) w)
theorem f345_l1_rule (x0 x6 x7:Value) (K:K1) (w:World) (I:VP2) (μ:Value→Value→World→Nat) (h0:I x6 x7 w)
  (hr:∀(x6 x7:Value) (w:World),I x6 x7 w→∀E1:VP2,(∀(y6 y7:Value) (w':World),I y6 y7 w'→μ y6 y7 w'<μ x6 x7 w→E1 y6 y7 w')→f345_l1_t x0 x6 x7 K E1 w):f345_l1 K x0 x6 x7 w:=
 ⟨I,μ,h0,fun σ w hI E hE=>cast kR (hr (σ 6) (σ 7) w hI E hE)⟩
def f345_t (x0 x1 x2:Value) (K:K1) (w:World):Prop:=
 ev prog (binM .sub 3 (.tmp 9) (.const (.int .i64 1)) x2 (.int .i64 1)) w fun t10 w=>
 f345_l1 K x0 x1 t10 w
theorem f345_call (x0 x1 x2:Value) (K:K1) (w:World) (h:f345_t x0 x1 x2 K w):callS prog 345 #[x0,x1,x2] w K:=
 call_of_txt (args:= [x0,x1,x2]) mixed Tryz.func345 f345_u.2 kR (cast kR h)
noncomputable def f346_u:Code×Dec:=((Tryz.f346.body).getD .skip,(.s .o (.s .o (.x 0 (.s .o (.b (.l [7,8] 7 10889035741470030830827987437816582760384 (.s .o (.x 391 (.b (.x 391 (.b (.l [7] 263 34359607424 .o)) (.s .o (.s .o (.s .o (.x 391 (.s .o (.s (.s .o (.b (.l [9] 391 39614081238685424723062424064 .o))) .o)) (.s .o (.s (.s .o (.b (.l [10] 391 10889035738934729630371528634823176356864 .o))) .o)))))))) .o))))) .o))))
abbrev f346_e (K:K1):KF:=endK prog Tryz.f346.results.toList K
def f346_k1_o (K:K1):KF:=fun fr w=>∀σ,cP (pr (pr (pr f346_u))) (f346_e K) (f346_e K) nX (mixF 0 σ 0 fr) w
def f346_k1 (K:K1) (w:World):Prop:=f346_k1_o K (fz 133 0 []) w
def f346_l1 (K:K1) (x0 x1 x2 x7 x8:Value) (w:World):Prop:=loopT [7,8] 7 (fun E=>cP (pl (pl (pr (pl (pr (pr f346_u)))))) E (f346_e K) (exB 0 (f346_k1_o K) nX)) (fz 133 0 [(0,x0),(1,x1),(2,x2),(7,x7),(8,x8)]) w
def f346_k2_o (K:K1) (E1:VP2):KF:=fun fr w=>∀σ,cP (pr (pr (pl (pl (pr (pl (pr (pr f346_u)))))))) (fun fr w=>E1 (sv fr 7) (sv fr 8) w) (f346_e K) (exB 0 (f346_k1_o K) nX) (mixF 391 σ 0 fr) w
def f346_k2 (K:K1) (E1:VP2) (x0 x1 x2 x7 x8:Value) (w:World):Prop:=f346_k2_o K E1 (fz 133 0 [(0,x0),(1,x1),(2,x2),(7,x7),(8,x8)]) w
def f346_k3_o (K:K1) (E1:VP2):KF:=fun fr w=>∀σ,cP (pr (pl (pl (pr (pl (pl (pr (pl (pr (pr f346_u)))))))))) (f346_k2_o K E1) (f346_e K) (exB 1 (f346_k2_o K E1) (exB 0 (f346_k1_o K) nX)) (mixF 391 σ 0 fr) w
def f346_k3 (K:K1) (E1:VP2) (x0 x1 x2 x7 x8:Value) (w:World):Prop:=f346_k3_o K E1 (fz 133 0 [(0,x0),(1,x1),(2,x2),(7,x7),(8,x8)]) w
def f346_l2 (K:K1) (E1:VP2) (x0 x1 x2 x7 x8:Value) (w:World):Prop:=loopT [7] 263 (fun E=>cP (pl (pl (pl (pl (pl (pr (pl (pl (pr (pl (pr (pr f346_u)))))))))))) E (f346_e K) (exB 2 (f346_k3_o K E1) (exB 1 (f346_k2_o K E1) (exB 0 (f346_k1_o K) nX)))) (fz 133 0 [(0,x0),(1,x1),(2,x2),(7,x7),(8,x8)]) w
def f346_k4_o (K:K1) (E1:VP2):KF:=fun fr w=>∀σ,cP (pr (pr (pr (pr (pr (pl (pl (pr (pl (pl (pr (pl (pr (pr f346_u)))))))))))))) (f346_k2_o K E1) (f346_e K) (exB 1 (f346_k2_o K E1) (exB 0 (f346_k1_o K) nX)) (mixF 391 σ 0 fr) w
def f346_k4 (K:K1) (E1:VP2) (x0 x1 x2 x7 x8:Value) (w:World):Prop:=f346_k4_o K E1 (fz 133 0 [(0,x0),(1,x1),(2,x2),(7,x7),(8,x8)]) w
def f346_l3 (K:K1) (E1:VP2) (x0 x1 x2 x7 x8 x9:Value) (w:World):Prop:=loopT [9] 391 (fun E=>cP (pl (pl (pr (pl (pr (pl (pr (pr (pr (pr (pl (pl (pr (pl (pl (pr (pl (pr (pr f346_u))))))))))))))))))) E (f346_e K) (exB 4 (f346_k4_o K E1) (exB 1 (f346_k2_o K E1) (exB 0 (f346_k1_o K) nX)))) (fz 133 0 [(0,x0),(1,x1),(2,x2),(7,x7),(8,x8),(9,x9)]) w
def f346_l4 (K:K1) (E1:VP2) (x0 x1 x2 x7 x8 x10:Value) (w:World):Prop:=loopT [10] 391 (fun E=>cP (pl (pl (pr (pl (pr (pr (pr (pr (pr (pr (pl (pl (pr (pl (pl (pr (pl (pr (pr f346_u))))))))))))))))))) E (f346_e K) (exB 6 (f346_k2_o K E1) (exB 1 (f346_k2_o K E1) (exB 0 (f346_k1_o K) nX)))) (fz 133 0 [(0,x0),(1,x1),(2,x2),(7,x7),(8,x8),(10,x10)]) w
def f346_k1_t (K:K1) (w:World):Prop:=
 K (.bool false) w
theorem f346_k1_eq (K:K1) (w:World):f346_k1 K w=f346_k1_t K w:=cutE fun σ=>by kernel_rfl
def f346_l1_t (x0 x1 x2 x7 x8:Value) (K:K1) (E1:VP2) (w:World):Prop:=
 ev prog (binM .lss 3 (.tmp 13) (.const (.int .i64 5)) x8 (.int .i64 5)) w fun t14 w=>
 cndS t14 (
 f346_l2 K E1 x0 x1 x2 x7 x8 w) (
 f346_k1 K w)
theorem f346_l1_rule (x0 x1 x2 x7 x8:Value) (K:K1) (w:World) (I:VP2) (μ:Value→Value→World→Nat) (h0:I x7 x8 w)
  (hr:∀(x7 x8:Value) (w:World),I x7 x8 w→∀E1:VP2,(∀(y7 y8:Value) (w':World),I y7 y8 w'→μ y7 y8 w'<μ x7 x8 w→E1 y7 y8 w')→f346_l1_t x0 x1 x2 x7 x8 K E1 w):f346_l1 K x0 x1 x2 x7 x8 w:=
 ⟨I,μ,h0,fun σ w hI E hE=>cast kR (hr (σ 7) (σ 8) w hI E hE)⟩
def f346_k2_t (x0 x1 x2 x7 x8:Value) (K:K1) (E1:VP2) (w:World):Prop:=
 ev prog (binM .add 3 (.tmp 15) (.const (.int .i64 1)) x8 (.int .i64 1)) w fun t16 w=>
 E1 x7 t16 w
theorem f346_k2_eq (K:K1) (E1:VP2) (x0 x1 x2 x7 x8:Value) (w:World):f346_k2 K E1 x0 x1 x2 x7 x8 w=f346_k2_t x0 x1 x2 x7 x8 K E1 w:=cutE fun σ=>by kernel_rfl
def f346_k3_t (x0 x1 x2 x7 x8:Value) (K:K1) (E1:VP2) (w:World):Prop:=
 ev prog (binM .eql 3 (.tmp 35) (.tmp 36) x7 x2) w fun t37 w=>
 cndS t37 (
 K (.bool true) w) (
 ev prog (binM .sub 3 (.tmp 38) (.tmp 39) x2 x1) w fun t40 w=>
 ev prog (binM .lss 3 (.tmp 40) (.const (.int .i64 50)) t40 (.int .i64 50)) w fun t41 w=>
 cndS t41 (
 K (.bool false) w) (
 rd prog (binM .sub 3 (.tmp 45) (.const (.int .i64 1)) x7 (.int .i64 1)) w.drew fun t46=>
 rd prog (binM .sub 3 (.tmp 48) (.const (.int .i64 1)) x7 (.int .i64 1)) w.drew fun t49=>
 rd prog (Instr.indexAt 34 x0 t49) w.drew fun t50=>
 ldR prog 41 t50 w.drew fun t51=>
 rd prog (Instr.indexAt 34 x0 x7) w.drew fun t54=>
 ldR prog 41 t54 w.drew fun t55=>
 rd prog (Instr.indexAt 34 x0 x7) w.drew fun t56=>
 stS prog 41 t56 t51 w.drew fun w=>
 (ag prog (binM .sub 3 (.tmp 45) (.const (.int .i64 1)) x7 (.int .i64 1)) w t46)∧
 rd prog (Instr.indexAt 34 x0 t46) w fun t57=>
 stS prog 41 t57 t55 w fun w=>
 ev prog (binM .sub 3 (.tmp 58) (.tmp 59) x7 x1) w fun t60 w=>
 ev prog (binM .geq 3 (.tmp 60) (.const (.int .i64 2)) t60 (.int .i64 2)) w fun t61 w=>
 cndS t61 (
 ev prog (binM .sub 3 (.tmp 62) (.const (.int .i64 1)) x7 (.int .i64 1)) w fun t63 w=>
 f346_l3 K E1 x0 x1 x2 x7 x8 t63 w) (
 f346_k4 K E1 x0 x1 x2 x7 x8 w)))
theorem f346_k3_eq (K:K1) (E1:VP2) (x0 x1 x2 x7 x8:Value) (w:World):f346_k3 K E1 x0 x1 x2 x7 x8 w=f346_k3_t x0 x1 x2 x7 x8 K E1 w:=cutE fun σ=>by kernel_rfl
def f346_l2_t (x0 x1 x2 x7 x8:Value) (K:K1) (E1:VP2) (E2:VP1) (w:World):Prop:=
 rd prog (binM .lss 3 (.tmp 17) (.tmp 18) x7 x2) w.drew fun t19=>
 gdR t19 true (fun k=>k x0) fun t21=>
 gdR t19 true (fun k=>k x7) fun t22=>
 gdR t19 true (fun k=>rd prog (Instr.indexAt 34 t21 t22) w.drew k) fun t23=>
 gdR t19 true (fun k=>ldR prog 41 t23 w.drew k) fun t24=>
 gdR t19 true (fun k=>k x0) fun t25=>
 gdR t19 true (fun k=>k x7) fun t26=>
 gdR t19 true (fun k=>rd prog (binM .sub 3 (.tmp 26) (.const (.int .i64 1)) t26 (.int .i64 1)) w.drew k) fun t27=>
 gdR t19 true (fun k=>rd prog (Instr.indexAt 34 t25 t27) w.drew k) fun t28=>
 gdR t19 true (fun k=>ldR prog 41 t28 w.drew k) fun t29=>
 gd t19 true (fun k=>callS prog 347 (pA #[t24,t29]) w.drew k) w.drew fun t30 w=>
 gdR t19 true (fun k=>rd prog (Op.unary .not t30) w k) fun t31=>
 pickV t19 t31 (.bool false) fun t32=>
 cndS t32 (
 ev prog (binM .add 3 (.tmp 33) (.const (.int .i64 1)) x7 (.int .i64 1)) w fun t34 w=>
 E2 t34 w) (
 f346_k3 K E1 x0 x1 x2 x7 x8 w)
theorem f346_l2_rule (x0 x1 x2 x7 x8:Value) (K:K1) (E1:VP2) (w:World) (I:VP1) (μ:Value→World→Nat) (h0:I x7 w)
  (hr:∀(x7:Value) (w:World),I x7 w→∀E2:VP1,(∀(y7:Value) (w':World),I y7 w'→μ y7 w'<μ x7 w→E2 y7 w')→f346_l2_t x0 x1 x2 x7 x8 K E1 E2 w):f346_l2 K E1 x0 x1 x2 x7 x8 w:=
 ⟨I,μ,h0,fun σ w hI E hE=>cast kR (hr (σ 7) w hI E hE)⟩
def f346_k4_t (x0 x1 x2 x7 x8:Value) (K:K1) (E1:VP2) (w:World):Prop:=
 ev prog (binM .sub 3 (.tmp 95) (.tmp 96) x2 x7) w fun t97 w=>
 ev prog (binM .geq 3 (.tmp 97) (.const (.int .i64 2)) t97 (.int .i64 2)) w fun t98 w=>
 cndS t98 (
 ev prog (binM .add 3 (.tmp 99) (.const (.int .i64 1)) x7 (.int .i64 1)) w fun t100 w=>
 f346_l4 K E1 x0 x1 x2 x7 x8 t100 w) (
 f346_k2 K E1 x0 x1 x2 x7 x8 w)
theorem f346_k4_eq (K:K1) (E1:VP2) (x0 x1 x2 x7 x8:Value) (w:World):f346_k4 K E1 x0 x1 x2 x7 x8 w=f346_k4_t x0 x1 x2 x7 x8 K E1 w:=cutE fun σ=>by kernel_rfl
def f346_l3_t (x0 x1 x2 x7 x8 x9:Value) (K:K1) (E1:VP2) (E2:VP1) (w:World):Prop:=
 ev prog (binM .geq 3 (.tmp 64) (.const (.int .i64 1)) x9 (.int .i64 1)) w fun t65 w=>
 cndS t65 (
 rd prog (Instr.indexAt 34 x0 x9) w.drew fun t70=>
 ldR prog 41 t70 w.drew fun t71=>
 rd prog (binM .sub 3 (.tmp 73) (.const (.int .i64 1)) x9 (.int .i64 1)) w.drew fun t74=>
 rd prog (Instr.indexAt 34 x0 t74) w.drew fun t75=>
 ldR prog 41 t75 w.drew fun t76=>
 callS prog 347 (pA #[t71,t76]) w.drew fun t77 w=>
 rd prog (Op.unary .not t77) w fun t78=>
 cndS t78 (
 f346_k4 K E1 x0 x1 x2 x7 x8 w) (
 rd prog (binM .sub 3 (.tmp 82) (.const (.int .i64 1)) x9 (.int .i64 1)) w.drew fun t83=>
 rd prog (binM .sub 3 (.tmp 85) (.const (.int .i64 1)) x9 (.int .i64 1)) w.drew fun t86=>
 rd prog (Instr.indexAt 34 x0 t86) w.drew fun t87=>
 ldR prog 41 t87 w.drew fun t88=>
 rd prog (Instr.indexAt 34 x0 x9) w.drew fun t91=>
 ldR prog 41 t91 w.drew fun t92=>
 rd prog (Instr.indexAt 34 x0 x9) w.drew fun t93=>
 stS prog 41 t93 t88 w.drew fun w=>
 (ag prog (binM .sub 3 (.tmp 82) (.const (.int .i64 1)) x9 (.int .i64 1)) w t83)∧
 rd prog (Instr.indexAt 34 x0 t83) w fun t94=>
 stS prog 41 t94 t92 w fun w=>
 ev prog (binM .sub 3 (.tmp 66) (.const (.int .i64 1)) x9 (.int .i64 1)) w fun t67 w=>
 E2 t67 w)) (
 f346_k4 K E1 x0 x1 x2 x7 x8 w)
theorem f346_l3_rule (x0 x1 x2 x7 x8 x9:Value) (K:K1) (E1:VP2) (w:World) (I:VP1) (μ:Value→World→Nat) (h0:I x9 w)
  (hr:∀(x9:Value) (w:World),I x9 w→∀E2:VP1,(∀(y9:Value) (w':World),I y9 w'→μ y9 w'<μ x9 w→E2 y9 w')→f346_l3_t x0 x1 x2 x7 x8 x9 K E1 E2 w):f346_l3 K E1 x0 x1 x2 x7 x8 x9 w:=
 ⟨I,μ,h0,fun σ w hI E hE=>cast kR (hr (σ 9) w hI E hE)⟩
def f346_l4_t (x0 x1 x2 x7 x8 x10:Value) (K:K1) (E1:VP2) (E2:VP1) (w:World):Prop:=
 ev prog (binM .lss 3 (.tmp 101) (.tmp 102) x10 x2) w fun t103 w=>
 cndS t103 (
 rd prog (Instr.indexAt 34 x0 x10) w.drew fun t108=>
 ldR prog 41 t108 w.drew fun t109=>
 rd prog (binM .sub 3 (.tmp 111) (.const (.int .i64 1)) x10 (.int .i64 1)) w.drew fun t112=>
 rd prog (Instr.indexAt 34 x0 t112) w.drew fun t113=>
 ldR prog 41 t113 w.drew fun t114=>
 callS prog 347 (pA #[t109,t114]) w.drew fun t115 w=>
 rd prog (Op.unary .not t115) w fun t116=>
 cndS t116 (
 f346_k2 K E1 x0 x1 x2 x7 x8 w) (
 rd prog (binM .sub 3 (.tmp 120) (.const (.int .i64 1)) x10 (.int .i64 1)) w.drew fun t121=>
 rd prog (binM .sub 3 (.tmp 123) (.const (.int .i64 1)) x10 (.int .i64 1)) w.drew fun t124=>
 rd prog (Instr.indexAt 34 x0 t124) w.drew fun t125=>
 ldR prog 41 t125 w.drew fun t126=>
 rd prog (Instr.indexAt 34 x0 x10) w.drew fun t129=>
 ldR prog 41 t129 w.drew fun t130=>
 rd prog (Instr.indexAt 34 x0 x10) w.drew fun t131=>
 stS prog 41 t131 t126 w.drew fun w=>
 (ag prog (binM .sub 3 (.tmp 120) (.const (.int .i64 1)) x10 (.int .i64 1)) w t121)∧
 rd prog (Instr.indexAt 34 x0 t121) w fun t132=>
 stS prog 41 t132 t130 w fun w=>
 ev prog (binM .add 3 (.tmp 104) (.const (.int .i64 1)) x10 (.int .i64 1)) w fun t105 w=>
 E2 t105 w)) (
 f346_k2 K E1 x0 x1 x2 x7 x8 w)
theorem f346_l4_rule (x0 x1 x2 x7 x8 x10:Value) (K:K1) (E1:VP2) (w:World) (I:VP1) (μ:Value→World→Nat) (h0:I x10 w)
  (hr:∀(x10:Value) (w:World),I x10 w→∀E2:VP1,(∀(y10:Value) (w':World),I y10 w'→μ y10 w'<μ x10 w→E2 y10 w')→f346_l4_t x0 x1 x2 x7 x8 x10 K E1 E2 w):f346_l4 K E1 x0 x1 x2 x7 x8 x10 w:=
 ⟨I,μ,h0,fun σ w hI E hE=>cast kR (hr (σ 10) w hI E hE)⟩
def f346_t (x0 x1 x2:Value) (K:K1) (w:World):Prop:=
 ev prog (binM .add 3 (.tmp 11) (.const (.int .i64 1)) x1 (.int .i64 1)) w fun t12 w=>
 f346_l1 K x0 x1 x2 t12 (.int .i64 0) w
theorem f346_call (x0 x1 x2:Value) (K:K1) (w:World) (h:f346_t x0 x1 x2 K w):callS prog 346 #[x0,x1,x2] w K:=
 call_of_txt (args:= [x0,x1,x2]) mixed Tryz.func346 f346_u.2 kR (cast kR h)
def f347_t (x0 x1:Value) (K:K1) (w:World):Prop:=
 callS prog 148 (pA #[x0]) w fun t6 w=>
 gd t6 true (fun k=>k x1 w) w fun t8 w=>
 gd t6 true (fun k=>callS prog 148 (pA #[t8]) w k) w fun t9 w=>
 gd t6 true (fun k=>ev prog (Op.unary .not t9) w k) w fun t10 w=>
 pickS t6 t10 (.bool false) w fun t11 w=>
 gd t11 false (fun k=>k x0 w) w fun t13 w=>
 gd t11 false (fun k=>k x1 w) w fun t14 w=>
 gd t11 false (fun k=>ev prog (binM .lss 41 (.tmp 13) (.tmp 14) t13 t14) w k) w fun t15 w=>
 pickS t11 (.bool true) t15 w fun t16 w=>
 K t16 w
theorem f347_call (x0 x1:Value) (K:K1) (w:World) (h:f347_t x0 x1 K w):callS prog 347 #[x0,x1] w K:=
 call_of_txt (args:= [x0,x1]) mixed Tryz.func347 .o kR (cast kR h)
noncomputable def f348_u:Code×Dec:=((Tryz.f348.body).getD .skip,(.s .o (.s .o (.s .o (.x 512 (.b (.l [9,10] 3 9671406556917032860780032 (.b (.x 1539 (.b (.l [9] 1027 70368207307264 .o)) (.x 1539 (.b (.l [10] 515 4611615649683211264 .o)) .o))))) .o)))))
abbrev f348_e (K:K1):KF:=endK prog Tryz.f348.results.toList K
def f348_k1_o (K:K1):KF:=fun fr w=>∀σ,cP (pr (pr (pr (pr f348_u)))) (f348_e K) (f348_e K) nX (mixF 512 σ 0 fr) w
def f348_k1 (K:K1) (x9:Value) (w:World):Prop:=f348_k1_o K (fz 84 0 [(9,x9)]) w
def f348_l1 (K:K1) (x0 x1 x9 x10:Value) (w:World):Prop:=loopT [9,10] 3 (fun E=>cP (pl (pl (pl (pr (pr (pr f348_u)))))) E (f348_e K) (exB 0 (f348_k1_o K) nX)) (fz 84 0 [(0,x0),(1,x1),(9,x9),(10,x10)]) w
def f348_k2_o (K:K1) (E1:VP2):KF:=fun fr w=>∀σ,cP (pr (pl (pl (pl (pl (pr (pr (pr f348_u)))))))) (fun fr w=>E1 (sv fr 9) (sv fr 10) w) (f348_e K) (exB 1 (fun fr w=>E1 (sv fr 9) (sv fr 10) w) (exB 0 (f348_k1_o K) nX)) (mixF 1539 σ 0 fr) w
def f348_k2 (K:K1) (E1:VP2) (x0 x1 x9 x10:Value) (w:World):Prop:=f348_k2_o K E1 (fz 84 0 [(0,x0),(1,x1),(9,x9),(10,x10)]) w
def f348_l2 (K:K1) (E1:VP2) (x0 x1 x9 x10:Value) (w:World):Prop:=loopT [9] 1027 (fun E=>cP (pl (pl (pl (pl (pl (pl (pl (pr (pr (pr f348_u)))))))))) E (f348_e K) (exB 2 (f348_k2_o K E1) (exB 1 (fun fr w=>E1 (sv fr 9) (sv fr 10) w) (exB 0 (f348_k1_o K) nX)))) (fz 84 0 [(0,x0),(1,x1),(9,x9),(10,x10)]) w
def f348_k3_o (K:K1) (E1:VP2):KF:=fun fr w=>∀σ,cP (pr (pr (pl (pl (pl (pl (pr (pr (pr f348_u))))))))) (fun fr w=>E1 (sv fr 9) (sv fr 10) w) (f348_e K) (exB 1 (fun fr w=>E1 (sv fr 9) (sv fr 10) w) (exB 0 (f348_k1_o K) nX)) (mixF 1539 σ 0 fr) w
def f348_k3 (K:K1) (E1:VP2) (x0 x1 x9 x10:Value) (w:World):Prop:=f348_k3_o K E1 (fz 84 0 [(0,x0),(1,x1),(9,x9),(10,x10)]) w
def f348_l3 (K:K1) (E1:VP2) (x0 x1 x9 x10:Value) (w:World):Prop:=loopT [10] 515 (fun E=>cP (pl (pl (pl (pr (pl (pl (pl (pl (pr (pr (pr f348_u))))))))))) E (f348_e K) (exB 4 (f348_k3_o K E1) (exB 1 (fun fr w=>E1 (sv fr 9) (sv fr 10) w) (exB 0 (f348_k1_o K) nX)))) (fz 84 0 [(0,x0),(1,x1),(9,x9),(10,x10)]) w
def f348_k1_t (x9:Value) (K:K1) (w:World):Prop:=
 K x9 w
theorem f348_k1_eq (K:K1) (x9:Value) (w:World):f348_k1 K x9 w=f348_k1_t x9 K w:=cutE fun σ=>by kernel_rfl
def f348_l1_t (x0 x1 x9 x10:Value) (K:K1) (E1:VP2) (w:World):Prop:=
 f348_l2 K E1 x0 x1 x9 x10 w
theorem f348_l1_rule (x0 x1 x9 x10:Value) (K:K1) (w:World) (I:VP2) (μ:Value→Value→World→Nat) (h0:I x9 x10 w)
  (hr:∀(x9 x10:Value) (w:World),I x9 x10 w→∀E1:VP2,(∀(y9 y10:Value) (w':World),I y9 y10 w'→μ y9 y10 w'<μ x9 x10 w→E1 y9 y10 w')→f348_l1_t x0 x1 x9 x10 K E1 w):f348_l1 K x0 x1 x9 x10 w:=
 ⟨I,μ,h0,fun σ w hI E hE=>cast kR (hr (σ 9) (σ 10) w hI E hE)⟩
def f348_k2_t (x0 x1 x9 x10:Value) (K:K1) (E1:VP2) (w:World):Prop:=
 f348_l3 K E1 x0 x1 x9 x10 w
theorem f348_k2_eq (K:K1) (E1:VP2) (x0 x1 x9 x10:Value) (w:World):f348_k2 K E1 x0 x1 x9 x10 w=f348_k2_t x0 x1 x9 x10 K E1 w:=cutE fun σ=>by kernel_rfl
def f348_l2_t (x0 x1 x9 x10:Value) (K:K1) (E1:VP2) (E2:VP1) (w:World):Prop:=
 rd prog (binM .leq 3 (.tmp 29) (.tmp 30) x9 x10) w.drew fun t31=>
 gdR t31 true (fun k=>k x0) fun t33=>
 gdR t31 true (fun k=>k x1) fun t34=>
 gdR t31 true (fun k=>rd prog (Instr.indexAt 34 t33 t34) w.drew k) fun t35=>
 gdR t31 true (fun k=>ldR prog 41 t35 w.drew k) fun t36=>
 gdR t31 true (fun k=>k x0) fun t37=>
 gdR t31 true (fun k=>k x9) fun t38=>
 gdR t31 true (fun k=>rd prog (Instr.indexAt 34 t37 t38) w.drew k) fun t39=>
 gdR t31 true (fun k=>ldR prog 41 t39 w.drew k) fun t40=>
 gd t31 true (fun k=>callS prog 347 (pA #[t36,t40]) w.drew k) w.drew fun t41 w=>
 gdR t31 true (fun k=>rd prog (Op.unary .not t41) w k) fun t42=>
 pickV t31 t42 (.bool false) fun t43=>
 cndS t43 (
 ev prog (binM .add 3 (.tmp 44) (.const (.int .i64 1)) x9 (.int .i64 1)) w fun t45 w=>
 E2 t45 w) (
 f348_k2 K E1 x0 x1 x9 x10 w)
theorem f348_l2_rule (x0 x1 x9 x10:Value) (K:K1) (E1:VP2) (w:World) (I:VP1) (μ:Value→World→Nat) (h0:I x9 w)
  (hr:∀(x9:Value) (w:World),I x9 w→∀E2:VP1,(∀(y9:Value) (w':World),I y9 w'→μ y9 w'<μ x9 w→E2 y9 w')→f348_l2_t x0 x1 x9 x10 K E1 E2 w):f348_l2 K E1 x0 x1 x9 x10 w:=
 ⟨I,μ,h0,fun σ w hI E hE=>cast kR (hr (σ 9) w hI E hE)⟩
def f348_k3_t (x0 x1 x9 x10:Value) (K:K1) (E1:VP2) (w:World):Prop:=
 ev prog (binM .gtr 3 (.tmp 62) (.tmp 63) x9 x10) w fun t64 w=>
 cndS t64 (
 f348_k1 K x9 w) (
 rd prog (Instr.indexAt 34 x0 x10) w.drew fun t71=>
 ldR prog 41 t71 w.drew fun t72=>
 rd prog (Instr.indexAt 34 x0 x9) w.drew fun t75=>
 ldR prog 41 t75 w.drew fun t76=>
 rd prog (Instr.indexAt 34 x0 x9) w.drew fun t77=>
 stS prog 41 t77 t72 w.drew fun w=>
 rd prog (Instr.indexAt 34 x0 x10) w fun t78=>
 stS prog 41 t78 t76 w fun w=>
 ev prog (binM .add 3 (.tmp 79) (.const (.int .i64 1)) x9 (.int .i64 1)) w fun t80 w=>
 ev prog (binM .sub 3 (.tmp 81) (.const (.int .i64 1)) x10 (.int .i64 1)) w fun t82 w=>
 E1 t80 t82 w)
theorem f348_k3_eq (K:K1) (E1:VP2) (x0 x1 x9 x10:Value) (w:World):f348_k3 K E1 x0 x1 x9 x10 w=f348_k3_t x0 x1 x9 x10 K E1 w:=cutE fun σ=>by kernel_rfl
def f348_l3_t (x0 x1 x9 x10:Value) (K:K1) (E1:VP2) (E2:VP1) (w:World):Prop:=
 rd prog (binM .leq 3 (.tmp 46) (.tmp 47) x9 x10) w.drew fun t48=>
 gdR t48 true (fun k=>k x0) fun t50=>
 gdR t48 true (fun k=>k x1) fun t51=>
 gdR t48 true (fun k=>rd prog (Instr.indexAt 34 t50 t51) w.drew k) fun t52=>
 gdR t48 true (fun k=>ldR prog 41 t52 w.drew k) fun t53=>
 gdR t48 true (fun k=>k x0) fun t54=>
 gdR t48 true (fun k=>k x10) fun t55=>
 gdR t48 true (fun k=>rd prog (Instr.indexAt 34 t54 t55) w.drew k) fun t56=>
 gdR t48 true (fun k=>ldR prog 41 t56 w.drew k) fun t57=>
 gd t48 true (fun k=>callS prog 347 (pA #[t53,t57]) w.drew k) w.drew fun t58 w=>
 pickV t48 t58 (.bool false) fun t59=>
 cndS t59 (
 ev prog (binM .sub 3 (.tmp 60) (.const (.int .i64 1)) x10 (.int .i64 1)) w fun t61 w=>
 E2 t61 w) (
 f348_k3 K E1 x0 x1 x9 x10 w)
theorem f348_l3_rule (x0 x1 x9 x10:Value) (K:K1) (E1:VP2) (w:World) (I:VP1) (μ:Value→World→Nat) (h0:I x10 w)
  (hr:∀(x10:Value) (w:World),I x10 w→∀E2:VP1,(∀(y10:Value) (w':World),I y10 w'→μ y10 w'<μ x10 w→E2 y10 w')→f348_l3_t x0 x1 x9 x10 K E1 E2 w):f348_l3 K E1 x0 x1 x9 x10 w:=
 ⟨I,μ,h0,fun σ w hI E hE=>cast kR (hr (σ 10) w hI E hE)⟩
def f348_t (x0 x1 x2 x3:Value) (K:K1) (w:World):Prop:=
 rd prog (Instr.indexAt 34 x0 x3) w.drew fun t17=>
 ldR prog 41 t17 w.drew fun t18=>
 rd prog (Instr.indexAt 34 x0 x1) w.drew fun t21=>
 ldR prog 41 t21 w.drew fun t22=>
 rd prog (Instr.indexAt 34 x0 x1) w.drew fun t23=>
 stS prog 41 t23 t18 w.drew fun w=>
 rd prog (Instr.indexAt 34 x0 x3) w fun t24=>
 stS prog 41 t24 t22 w fun w=>
 ev prog (binM .add 3 (.tmp 25) (.const (.int .i64 1)) x1 (.int .i64 1)) w fun t26 w=>
 ev prog (binM .sub 3 (.tmp 27) (.const (.int .i64 1)) x2 (.int .i64 1)) w fun t28 w=>
 f348_l1 K x0 x1 t26 t28 w
theorem f348_call (x0 x1 x2 x3:Value) (K:K1) (w:World) (h:f348_t x0 x1 x2 x3 K w):callS prog 348 #[x0,x1,x2,x3] w K:=
 call_of_txt (args:= [x0,x1,x2,x3]) mixed Tryz.func348 f348_u.2 kR (cast kR h)
noncomputable def f349_u:Code×Dec:=((Tryz.f349.body).getD .skip,(.s .o (.s .o (.s .o (.x 3075 (.b (.l [10] 2051 70367670436864 .o)) (.x 3075 (.b (.l [11] 1027 9223301668110600192 .o)) (.s .o (.s .o (.s .o (.s .o (.x 2051 (.b (.l [10,11] 3 11417981541647678414640987641481260342710373376 (.b (.x 3075 (.b (.l [10] 2051 41537741042978506913543222282159104 .o)) (.x 3075 (.b (.l [11] 1027 5444476332360147136792965474937657624576 .o)) .o))))) .o)))))))))))
abbrev f349_e (K:K1):KF:=endK prog Tryz.f349.results.toList K
def f349_k1_o (K:K1):KF:=fun fr w=>∀σ,cP (pr (pr (pr (pr f349_u)))) (f349_e K) (f349_e K) nX (mixF 3075 σ 0 fr) w
def f349_k1 (K:K1) (x0 x1 x10 x11:Value) (w:World):Prop:=f349_k1_o K (fz 168 0 [(0,x0),(1,x1),(10,x10),(11,x11)]) w
def f349_l1 (K:K1) (x0 x1 x10 x11:Value) (w:World):Prop:=loopT [10] 2051 (fun E=>cP (pl (pl (pl (pr (pr (pr f349_u)))))) E (f349_e K) (exB 0 (f349_k1_o K) nX)) (fz 168 0 [(0,x0),(1,x1),(10,x10),(11,x11)]) w
def f349_k2_o (K:K1):KF:=fun fr w=>∀σ,cP (pr (pr (pr (pr (pr f349_u))))) (f349_e K) (f349_e K) nX (mixF 3075 σ 0 fr) w
def f349_k2 (K:K1) (x0 x1 x10 x11:Value) (w:World):Prop:=f349_k2_o K (fz 168 0 [(0,x0),(1,x1),(10,x10),(11,x11)]) w
def f349_l2 (K:K1) (x0 x1 x10 x11:Value) (w:World):Prop:=loopT [11] 1027 (fun E=>cP (pl (pl (pl (pr (pr (pr (pr f349_u))))))) E (f349_e K) (exB 2 (f349_k2_o K) nX)) (fz 168 0 [(0,x0),(1,x1),(10,x10),(11,x11)]) w
def f349_k3_o (K:K1):KF:=fun fr w=>∀σ,cP (pr (pr (pr (pr (pr (pr (pr (pr (pr (pr f349_u)))))))))) (f349_e K) (f349_e K) nX (mixF 2051 σ 0 fr) w
def f349_k3 (K:K1) (x0 x1 x11:Value) (w:World):Prop:=f349_k3_o K (fz 168 0 [(0,x0),(1,x1),(11,x11)]) w
def f349_l3 (K:K1) (x0 x1 x10 x11:Value) (w:World):Prop:=loopT [10,11] 3 (fun E=>cP (pl (pl (pl (pr (pr (pr (pr (pr (pr (pr (pr (pr f349_u)))))))))))) E (f349_e K) (exB 4 (f349_k3_o K) nX)) (fz 168 0 [(0,x0),(1,x1),(10,x10),(11,x11)]) w
def f349_k4_o (K:K1) (E1:VP2):KF:=fun fr w=>∀σ,cP (pr (pl (pl (pl (pl (pr (pr (pr (pr (pr (pr (pr (pr (pr f349_u)))))))))))))) (fun fr w=>E1 (sv fr 10) (sv fr 11) w) (f349_e K) (exB 5 (fun fr w=>E1 (sv fr 10) (sv fr 11) w) (exB 4 (f349_k3_o K) nX)) (mixF 3075 σ 0 fr) w
def f349_k4 (K:K1) (E1:VP2) (x0 x1 x10 x11:Value) (w:World):Prop:=f349_k4_o K E1 (fz 168 0 [(0,x0),(1,x1),(10,x10),(11,x11)]) w
def f349_l4 (K:K1) (E1:VP2) (x0 x1 x10 x11:Value) (w:World):Prop:=loopT [10] 2051 (fun E=>cP (pl (pl (pl (pl (pl (pl (pl (pr (pr (pr (pr (pr (pr (pr (pr (pr f349_u)))))))))))))))) E (f349_e K) (exB 6 (f349_k4_o K E1) (exB 5 (fun fr w=>E1 (sv fr 10) (sv fr 11) w) (exB 4 (f349_k3_o K) nX)))) (fz 168 0 [(0,x0),(1,x1),(10,x10),(11,x11)]) w
def f349_k5_o (K:K1) (E1:VP2):KF:=fun fr w=>∀σ,cP (pr (pr (pl (pl (pl (pl (pr (pr (pr (pr (pr (pr (pr (pr (pr f349_u))))))))))))))) (fun fr w=>E1 (sv fr 10) (sv fr 11) w) (f349_e K) (exB 5 (fun fr w=>E1 (sv fr 10) (sv fr 11) w) (exB 4 (f349_k3_o K) nX)) (mixF 3075 σ 0 fr) w
def f349_k5 (K:K1) (E1:VP2) (x0 x1 x10 x11:Value) (w:World):Prop:=f349_k5_o K E1 (fz 168 0 [(0,x0),(1,x1),(10,x10),(11,x11)]) w
def f349_l5 (K:K1) (E1:VP2) (x0 x1 x10 x11:Value) (w:World):Prop:=loopT [11] 1027 (fun E=>cP (pl (pl (pl (pr (pl (pl (pl (pl (pr (pr (pr (pr (pr (pr (pr (pr (pr f349_u))))))))))))))))) E (f349_e K) (exB 8 (f349_k5_o K E1) (exB 5 (fun fr w=>E1 (sv fr 10) (sv fr 11) w) (exB 4 (f349_k3_o K) nX)))) (fz 168 0 [(0,x0),(1,x1),(10,x10),(11,x11)]) w
def f349_k1_t (x0 x1 x10 x11:Value) (K:K1) (w:World):Prop:=
 f349_l2 K x0 x1 x10 x11 w
theorem f349_k1_eq (K:K1) (x0 x1 x10 x11:Value) (w:World):f349_k1 K x0 x1 x10 x11 w=f349_k1_t x0 x1 x10 x11 K w:=cutE fun σ=>by kernel_rfl
def f349_l1_t (x0 x1 x10 x11:Value) (K:K1) (E1:VP1) (w:World):Prop:=
 rd prog (binM .leq 3 (.tmp 30) (.tmp 31) x10 x11) w.drew fun t32=>
 gdR t32 true (fun k=>k x0) fun t34=>
 gdR t32 true (fun k=>k x10) fun t35=>
 gdR t32 true (fun k=>rd prog (Instr.indexAt 34 t34 t35) w.drew k) fun t36=>
 gdR t32 true (fun k=>ldR prog 41 t36 w.drew k) fun t37=>
 gdR t32 true (fun k=>k x0) fun t38=>
 gdR t32 true (fun k=>k x1) fun t39=>
 gdR t32 true (fun k=>rd prog (Instr.indexAt 34 t38 t39) w.drew k) fun t40=>
 gdR t32 true (fun k=>ldR prog 41 t40 w.drew k) fun t41=>
 gd t32 true (fun k=>callS prog 347 (pA #[t37,t41]) w.drew k) w.drew fun t42 w=>
 pickV t32 t42 (.bool false) fun t43=>
 cndS t43 (
 ev prog (binM .add 3 (.tmp 44) (.const (.int .i64 1)) x10 (.int .i64 1)) w fun t45 w=>
 E1 t45 w) (
 f349_k1 K x0 x1 x10 x11 w)
theorem f349_l1_rule (x0 x1 x10 x11:Value) (K:K1) (w:World) (I:VP1) (μ:Value→World→Nat) (h0:I x10 w)
  (hr:∀(x10:Value) (w:World),I x10 w→∀E1:VP1,(∀(y10:Value) (w':World),I y10 w'→μ y10 w'<μ x10 w→E1 y10 w')→f349_l1_t x0 x1 x10 x11 K E1 w):f349_l1 K x0 x1 x10 x11 w:=
 ⟨I,μ,h0,fun σ w hI E hE=>cast kR (hr (σ 10) w hI E hE)⟩
def f349_k2_t (x0 x1 x10 x11:Value) (K:K1) (w:World):Prop:=
 ev prog (binM .gtr 3 (.tmp 63) (.tmp 64) x10 x11) w fun t65 w=>
 cndS t65 (
 rd prog (Instr.indexAt 34 x0 x1) w.drew fun t72=>
 ldR prog 41 t72 w.drew fun t73=>
 rd prog (Instr.indexAt 34 x0 x11) w.drew fun t76=>
 ldR prog 41 t76 w.drew fun t77=>
 rd prog (Instr.indexAt 34 x0 x11) w.drew fun t78=>
 stS prog 41 t78 t73 w.drew fun w=>
 rd prog (Instr.indexAt 34 x0 x1) w fun t79=>
 stS prog 41 t79 t77 w fun w=>
 K (.tuple #[x11,(.bool true)]) w) (
 rd prog (Instr.indexAt 34 x0 x11) w.drew fun t87=>
 ldR prog 41 t87 w.drew fun t88=>
 rd prog (Instr.indexAt 34 x0 x10) w.drew fun t91=>
 ldR prog 41 t91 w.drew fun t92=>
 rd prog (Instr.indexAt 34 x0 x10) w.drew fun t93=>
 stS prog 41 t93 t88 w.drew fun w=>
 rd prog (Instr.indexAt 34 x0 x11) w fun t94=>
 stS prog 41 t94 t92 w fun w=>
 ev prog (binM .add 3 (.tmp 95) (.const (.int .i64 1)) x10 (.int .i64 1)) w fun t96 w=>
 ev prog (binM .sub 3 (.tmp 97) (.const (.int .i64 1)) x11 (.int .i64 1)) w fun t98 w=>
 f349_l3 K x0 x1 t96 t98 w)
theorem f349_k2_eq (K:K1) (x0 x1 x10 x11:Value) (w:World):f349_k2 K x0 x1 x10 x11 w=f349_k2_t x0 x1 x10 x11 K w:=cutE fun σ=>by kernel_rfl
def f349_l2_t (x0 x1 x10 x11:Value) (K:K1) (E1:VP1) (w:World):Prop:=
 rd prog (binM .leq 3 (.tmp 46) (.tmp 47) x10 x11) w.drew fun t48=>
 gdR t48 true (fun k=>k x0) fun t50=>
 gdR t48 true (fun k=>k x11) fun t51=>
 gdR t48 true (fun k=>rd prog (Instr.indexAt 34 t50 t51) w.drew k) fun t52=>
 gdR t48 true (fun k=>ldR prog 41 t52 w.drew k) fun t53=>
 gdR t48 true (fun k=>k x0) fun t54=>
 gdR t48 true (fun k=>k x1) fun t55=>
 gdR t48 true (fun k=>rd prog (Instr.indexAt 34 t54 t55) w.drew k) fun t56=>
 gdR t48 true (fun k=>ldR prog 41 t56 w.drew k) fun t57=>
 gd t48 true (fun k=>callS prog 347 (pA #[t53,t57]) w.drew k) w.drew fun t58 w=>
 gdR t48 true (fun k=>rd prog (Op.unary .not t58) w k) fun t59=>
 pickV t48 t59 (.bool false) fun t60=>
 cndS t60 (
 ev prog (binM .sub 3 (.tmp 61) (.const (.int .i64 1)) x11 (.int .i64 1)) w fun t62 w=>
 E1 t62 w) (
 f349_k2 K x0 x1 x10 x11 w)
theorem f349_l2_rule (x0 x1 x10 x11:Value) (K:K1) (w:World) (I:VP1) (μ:Value→World→Nat) (h0:I x11 w)
  (hr:∀(x11:Value) (w:World),I x11 w→∀E1:VP1,(∀(y11:Value) (w':World),I y11 w'→μ y11 w'<μ x11 w→E1 y11 w')→f349_l2_t x0 x1 x10 x11 K E1 w):f349_l2 K x0 x1 x10 x11 w:=
 ⟨I,μ,h0,fun σ w hI E hE=>cast kR (hr (σ 11) w hI E hE)⟩
def f349_k3_t (x0 x1 x11:Value) (K:K1) (w:World):Prop:=
 rd prog (Instr.indexAt 34 x0 x1) w.drew fun t159=>
 ldR prog 41 t159 w.drew fun t160=>
 rd prog (Instr.indexAt 34 x0 x11) w.drew fun t163=>
 ldR prog 41 t163 w.drew fun t164=>
 rd prog (Instr.indexAt 34 x0 x11) w.drew fun t165=>
 stS prog 41 t165 t160 w.drew fun w=>
 rd prog (Instr.indexAt 34 x0 x1) w fun t166=>
 stS prog 41 t166 t164 w fun w=>
 K (.tuple #[x11,(.bool false)]) w
theorem f349_k3_eq (K:K1) (x0 x1 x11:Value) (w:World):f349_k3 K x0 x1 x11 w=f349_k3_t x0 x1 x11 K w:=cutE fun σ=>by kernel_rfl
def f349_l3_t (x0 x1 x10 x11:Value) (K:K1) (E1:VP2) (w:World):Prop:=
 f349_l4 K E1 x0 x1 x10 x11 w
theorem f349_l3_rule (x0 x1 x10 x11:Value) (K:K1) (w:World) (I:VP2) (μ:Value→Value→World→Nat) (h0:I x10 x11 w)
  (hr:∀(x10 x11:Value) (w:World),I x10 x11 w→∀E1:VP2,(∀(y10 y11:Value) (w':World),I y10 y11 w'→μ y10 y11 w'<μ x10 x11 w→E1 y10 y11 w')→f349_l3_t x0 x1 x10 x11 K E1 w):f349_l3 K x0 x1 x10 x11 w:=
 ⟨I,μ,h0,fun σ w hI E hE=>cast kR (hr (σ 10) (σ 11) w hI E hE)⟩
def f349_k4_t (x0 x1 x10 x11:Value) (K:K1) (E1:VP2) (w:World):Prop:=
 f349_l5 K E1 x0 x1 x10 x11 w
theorem f349_k4_eq (K:K1) (E1:VP2) (x0 x1 x10 x11:Value) (w:World):f349_k4 K E1 x0 x1 x10 x11 w=f349_k4_t x0 x1 x10 x11 K E1 w:=cutE fun σ=>by kernel_rfl
def f349_l4_t (x0 x1 x10 x11:Value) (K:K1) (E1:VP2) (E2:VP1) (w:World):Prop:=
 rd prog (binM .leq 3 (.tmp 99) (.tmp 100) x10 x11) w.drew fun t101=>
 gdR t101 true (fun k=>k x0) fun t103=>
 gdR t101 true (fun k=>k x10) fun t104=>
 gdR t101 true (fun k=>rd prog (Instr.indexAt 34 t103 t104) w.drew k) fun t105=>
 gdR t101 true (fun k=>ldR prog 41 t105 w.drew k) fun t106=>
 gdR t101 true (fun k=>k x0) fun t107=>
 gdR t101 true (fun k=>k x1) fun t108=>
 gdR t101 true (fun k=>rd prog (Instr.indexAt 34 t107 t108) w.drew k) fun t109=>
 gdR t101 true (fun k=>ldR prog 41 t109 w.drew k) fun t110=>
 gd t101 true (fun k=>callS prog 347 (pA #[t106,t110]) w.drew k) w.drew fun t111 w=>
 pickV t101 t111 (.bool false) fun t112=>
 cndS t112 (
 ev prog (binM .add 3 (.tmp 113) (.const (.int .i64 1)) x10 (.int .i64 1)) w fun t114 w=>
 E2 t114 w) (
 f349_k4 K E1 x0 x1 x10 x11 w)
theorem f349_l4_rule (x0 x1 x10 x11:Value) (K:K1) (E1:VP2) (w:World) (I:VP1) (μ:Value→World→Nat) (h0:I x10 w)
  (hr:∀(x10:Value) (w:World),I x10 w→∀E2:VP1,(∀(y10:Value) (w':World),I y10 w'→μ y10 w'<μ x10 w→E2 y10 w')→f349_l4_t x0 x1 x10 x11 K E1 E2 w):f349_l4 K E1 x0 x1 x10 x11 w:=
 ⟨I,μ,h0,fun σ w hI E hE=>cast kR (hr (σ 10) w hI E hE)⟩
def f349_k5_t (x0 x1 x10 x11:Value) (K:K1) (E1:VP2) (w:World):Prop:=
 ev prog (binM .gtr 3 (.tmp 132) (.tmp 133) x10 x11) w fun t134 w=>
 cndS t134 (
 f349_k3 K x0 x1 x11 w) (
 rd prog (Instr.indexAt 34 x0 x11) w.drew fun t141=>
 ldR prog 41 t141 w.drew fun t142=>
 rd prog (Instr.indexAt 34 x0 x10) w.drew fun t145=>
 ldR prog 41 t145 w.drew fun t146=>
 rd prog (Instr.indexAt 34 x0 x10) w.drew fun t147=>
 stS prog 41 t147 t142 w.drew fun w=>
 rd prog (Instr.indexAt 34 x0 x11) w fun t148=>
 stS prog 41 t148 t146 w fun w=>
 ev prog (binM .add 3 (.tmp 149) (.const (.int .i64 1)) x10 (.int .i64 1)) w fun t150 w=>
 ev prog (binM .sub 3 (.tmp 151) (.const (.int .i64 1)) x11 (.int .i64 1)) w fun t152 w=>
 E1 t150 t152 w)
theorem f349_k5_eq (K:K1) (E1:VP2) (x0 x1 x10 x11:Value) (w:World):f349_k5 K E1 x0 x1 x10 x11 w=f349_k5_t x0 x1 x10 x11 K E1 w:=cutE fun σ=>by kernel_rfl
def f349_l5_t (x0 x1 x10 x11:Value) (K:K1) (E1:VP2) (E2:VP1) (w:World):Prop:=
 rd prog (binM .leq 3 (.tmp 115) (.tmp 116) x10 x11) w.drew fun t117=>
 gdR t117 true (fun k=>k x0) fun t119=>
 gdR t117 true (fun k=>k x11) fun t120=>
 gdR t117 true (fun k=>rd prog (Instr.indexAt 34 t119 t120) w.drew k) fun t121=>
 gdR t117 true (fun k=>ldR prog 41 t121 w.drew k) fun t122=>
 gdR t117 true (fun k=>k x0) fun t123=>
 gdR t117 true (fun k=>k x1) fun t124=>
 gdR t117 true (fun k=>rd prog (Instr.indexAt 34 t123 t124) w.drew k) fun t125=>
 gdR t117 true (fun k=>ldR prog 41 t125 w.drew k) fun t126=>
 gd t117 true (fun k=>callS prog 347 (pA #[t122,t126]) w.drew k) w.drew fun t127 w=>
 gdR t117 true (fun k=>rd prog (Op.unary .not t127) w k) fun t128=>
 pickV t117 t128 (.bool false) fun t129=>
 cndS t129 (
 ev prog (binM .sub 3 (.tmp 130) (.const (.int .i64 1)) x11 (.int .i64 1)) w fun t131 w=>
 E2 t131 w) (
 f349_k5 K E1 x0 x1 x10 x11 w)
theorem f349_l5_rule (x0 x1 x10 x11:Value) (K:K1) (E1:VP2) (w:World) (I:VP1) (μ:Value→World→Nat) (h0:I x11 w)
  (hr:∀(x11:Value) (w:World),I x11 w→∀E2:VP1,(∀(y11:Value) (w':World),I y11 w'→μ y11 w'<μ x11 w→E2 y11 w')→f349_l5_t x0 x1 x10 x11 K E1 E2 w):f349_l5 K E1 x0 x1 x10 x11 w:=
 ⟨I,μ,h0,fun σ w hI E hE=>cast kR (hr (σ 11) w hI E hE)⟩
def f349_t (x0 x1 x2 x3:Value) (K:K1) (w:World):Prop:=
 rd prog (Instr.indexAt 34 x0 x3) w.drew fun t18=>
 ldR prog 41 t18 w.drew fun t19=>
 rd prog (Instr.indexAt 34 x0 x1) w.drew fun t22=>
 ldR prog 41 t22 w.drew fun t23=>
 rd prog (Instr.indexAt 34 x0 x1) w.drew fun t24=>
 stS prog 41 t24 t19 w.drew fun w=>
 rd prog (Instr.indexAt 34 x0 x3) w fun t25=>
 stS prog 41 t25 t23 w fun w=>
 ev prog (binM .add 3 (.tmp 26) (.const (.int .i64 1)) x1 (.int .i64 1)) w fun t27 w=>
 ev prog (binM .sub 3 (.tmp 28) (.const (.int .i64 1)) x2 (.int .i64 1)) w fun t29 w=>
 f349_l1 K x0 x1 t27 t29 w
theorem f349_call (x0 x1 x2 x3:Value) (K:K1) (w:World) (h:f349_t x0 x1 x2 x3 K w):callS prog 349 #[x0,x1,x2,x3] w K:=
 call_of_txt (args:= [x0,x1,x2,x3]) mixed Tryz.func349 f349_u.2 kR (cast kR h)
noncomputable def f381_u:Code×Dec:=((Tryz.f381.body).getD .skip,(.s .o (.b (.l [8] 13 75557863725914323417856 (.b (.s .o (.s .o (.x 781 .o .o))))))))
abbrev f381_e (K:K1):KF:=endK prog Tryz.f381.results.toList K
def f381_l1 (K:K1) (x0 x2 x3 x8:Value) (w:World):Prop:=loopT [8] 13 (fun E=>cP (pl (pl (pr f381_u))) E (f381_e K) (exB 0 (f381_e K) nX)) (fz 76 0 [(0,x0),(2,x2),(3,x3),(8,x8)]) w
def f381_k1_o (K:K1) (E1:VP1):KF:=fun fr w=>∀σ,cP (pr (pr (pr (pl (pl (pl (pr f381_u))))))) (fun fr w=>E1 (sv fr 8) w) (f381_e K) (exB 1 (fun fr w=>E1 (sv fr 8) w) (exB 0 (f381_e K) nX)) (mixF 781 σ 0 fr) w
def f381_k1 (K:K1) (E1:VP1) (x0 x2 x3 x8 x9:Value) (w:World):Prop:=f381_k1_o K E1 (fz 76 0 [(0,x0),(2,x2),(3,x3),(8,x8),(9,x9)]) w
def f381_l1_t (x0 x2 x3 x8:Value) (K:K1) (E1:VP1) (w:World):Prop:=
 ev prog (binM .mul 3 (.const (.int .i64 2)) (.tmp 11) (.int .i64 2) x8) w fun t12 w=>
 ev prog (binM .add 3 (.tmp 12) (.const (.int .i64 1)) t12 (.int .i64 1)) w fun t13 w=>
 ev prog (binM .geq 3 (.tmp 14) (.tmp 15) t13 x2) w fun t16 w=>
 cndS t16 (
 K (.tuple #[]) w) (
 rd prog (binM .add 3 (.tmp 17) (.const (.int .i64 1)) t13 (.int .i64 1)) w.drew fun t18=>
 rd prog (binM .lss 3 (.tmp 18) (.tmp 19) t18 x2) w.drew fun t20=>
 gdR t20 true (fun k=>k x0) fun t22=>
 gdR t20 true (fun k=>k x3) fun t23=>
 gdR t20 true (fun k=>k t13) fun t24=>
 gdR t20 true (fun k=>rd prog (binM .add 3 (.tmp 23) (.tmp 24) t23 t24) w.drew k) fun t25=>
 gdR t20 true (fun k=>rd prog (Instr.indexAt 34 t22 t25) w.drew k) fun t26=>
 gdR t20 true (fun k=>ldR prog 41 t26 w.drew k) fun t27=>
 gdR t20 true (fun k=>k x0) fun t28=>
 gdR t20 true (fun k=>k x3) fun t29=>
 gdR t20 true (fun k=>k t13) fun t30=>
 gdR t20 true (fun k=>rd prog (binM .add 3 (.tmp 29) (.tmp 30) t29 t30) w.drew k) fun t31=>
 gdR t20 true (fun k=>rd prog (binM .add 3 (.tmp 31) (.const (.int .i64 1)) t31 (.int .i64 1)) w.drew k) fun t32=>
 gdR t20 true (fun k=>rd prog (Instr.indexAt 34 t28 t32) w.drew k) fun t33=>
 gdR t20 true (fun k=>ldR prog 41 t33 w.drew k) fun t34=>
 gd t20 true (fun k=>callS prog 347 (pA #[t27,t34]) w.drew k) w.drew fun t35 w=>
 pickV t20 t35 (.bool false) fun t36=>
 cndS t36 (
 ev prog (binM .add 3 (.tmp 37) (.const (.int .i64 1)) t13 (.int .i64 1)) w fun t38 w=>
 f381_k1 K E1 x0 x2 x3 x8 t38 w) (
 f381_k1 K E1 x0 x2 x3 x8 t13 w))
theorem f381_l1_rule (x0 x2 x3 x8:Value) (K:K1) (w:World) (I:VP1) (μ:Value→World→Nat) (h0:I x8 w)
  (hr:∀(x8:Value) (w:World),I x8 w→∀E1:VP1,(∀(y8:Value) (w':World),I y8 w'→μ y8 w'<μ x8 w→E1 y8 w')→f381_l1_t x0 x2 x3 x8 K E1 w):f381_l1 K x0 x2 x3 x8 w:=
 ⟨I,μ,h0,fun σ w hI E hE=>cast kR (hr (σ 8) w hI E hE)⟩
def f381_k1_t (x0 x2 x3 x8 x9:Value) (K:K1) (E1:VP1) (w:World):Prop:=
 rd prog (binM .add 3 (.tmp 40) (.tmp 41) x3 x8) w.drew fun t42=>
 rd prog (Instr.indexAt 34 x0 t42) w.drew fun t43=>
 ldR prog 41 t43 w.drew fun t44=>
 rd prog (binM .add 3 (.tmp 46) (.tmp 47) x3 x9) w.drew fun t48=>
 rd prog (Instr.indexAt 34 x0 t48) w.drew fun t49=>
 ldR prog 41 t49 w.drew fun t50=>
 callS prog 347 (pA #[t44,t50]) w.drew fun t51 w=>
 rd prog (Op.unary .not t51) w fun t52=>
 cndS t52 (
 K (.tuple #[]) w) (
 rd prog (binM .add 3 (.tmp 54) (.tmp 55) x3 x8) w.drew fun t56=>
 rd prog (binM .add 3 (.tmp 58) (.tmp 59) x3 x9) w.drew fun t60=>
 rd prog (binM .add 3 (.tmp 62) (.tmp 63) x3 x9) w.drew fun t64=>
 rd prog (Instr.indexAt 34 x0 t64) w.drew fun t65=>
 ldR prog 41 t65 w.drew fun t66=>
 rd prog (binM .add 3 (.tmp 68) (.tmp 69) x3 x8) w.drew fun t70=>
 rd prog (Instr.indexAt 34 x0 t70) w.drew fun t71=>
 ldR prog 41 t71 w.drew fun t72=>
 rd prog (Instr.indexAt 34 x0 t56) w.drew fun t73=>
 stS prog 41 t73 t66 w.drew fun w=>
 (ag prog (binM .add 3 (.tmp 58) (.tmp 59) x3 x9) w t60)∧
 rd prog (Instr.indexAt 34 x0 t60) w fun t74=>
 stS prog 41 t74 t72 w fun w=>
 E1 x9 w)
theorem f381_k1_eq (K:K1) (E1:VP1) (x0 x2 x3 x8 x9:Value) (w:World):f381_k1 K E1 x0 x2 x3 x8 x9 w=f381_k1_t x0 x2 x3 x8 x9 K E1 w:=cutE fun σ=>by kernel_rfl
def f381_t (x0 x1 x2 x3:Value) (K:K1) (w:World):Prop:=
 f381_l1 K x0 x2 x3 x1 w
theorem f381_call (x0 x1 x2 x3:Value) (K:K1) (w:World) (h:f381_t x0 x1 x2 x3 K w):callS prog 381 #[x0,x1,x2,x3] w K:=
 call_of_txt (args:= [x0,x1,x2,x3]) mixed Tryz.func381 f381_u.2 kR (cast kR h)
def f382_t (x0 x1 x2:Value) (K:K1) (w:World):Prop:=
 ev prog (binM .sub 3 (.tmp 8) (.const (.int .i64 1)) x1 (.int .i64 1)) w fun t9 w=>
 ev prog (binM .add 3 (.tmp 11) (.const (.int .i64 1)) x1 (.int .i64 1)) w fun t12 w=>
 callS prog 383 (pA #[x0,t9,x1,t12,x2]) w fun t14 w=>
 K t14 w
theorem f382_call (x0 x1 x2:Value) (K:K1) (w:World) (h:f382_t x0 x1 x2 K w):callS prog 382 #[x0,x1,x2] w K:=
 call_of_txt (args:= [x0,x1,x2]) mixed Tryz.func382 .o kR (cast kR h)
def f383_t (x0 x1 x2 x3 x4:Value) (K:K1) (w:World):Prop:=
 callS prog 402 (pA #[x0,x1,x2,x4]) w fun t16 w=>
 ev prog (Instr.extract t16 0) w fun t17 w=>
 ev prog (Instr.extract t16 1) w fun t18 w=>
 callS prog 402 (pA #[x0,t18,x3,x4]) w fun t24 w=>
 ev prog (Instr.extract t24 0) w fun t25 w=>
 ev prog (Instr.extract t24 1) w fun t26 w=>
 callS prog 402 (pA #[x0,t17,t25,x4]) w fun t32 w=>
 ev prog (Instr.extract t32 0) w fun t33 w=>
 ev prog (Instr.extract t32 1) w fun t34 w=>
 K t34 w
theorem f383_call (x0 x1 x2 x3 x4:Value) (K:K1) (w:World) (h:f383_t x0 x1 x2 x3 x4 K w):callS prog 383 #[x0,x1,x2,x3,x4] w K:=
 call_of_txt (args:= [x0,x1,x2,x3,x4]) mixed Tryz.func383 .o kR (cast kR h)
def f402_t (x0 x1 x2 x3:Value) (K:K1) (w:World):Prop:=
 rd prog (Instr.indexAt 34 x0 x2) w.drew fun t12=>
 ldR prog 41 t12 w.drew fun t13=>
 rd prog (Instr.indexAt 34 x0 x1) w.drew fun t16=>
 ldR prog 41 t16 w.drew fun t17=>
 callS prog 347 (pA #[t13,t17]) w.drew fun t18 w=>
 cndS t18 (
 nilS prog x3 w fun t20 w=>
 ldS prog 3 t20 w fun t21 w=>
 ev prog (binM .add 3 (.tmp 21) (.const (.int .i64 1)) t21 (.int .i64 1)) w fun t22 w=>
 nilS prog x3 w fun t23 w=>
 stS prog 3 t23 t22 w fun w=>
 K (.tuple #[x2,x1]) w) (
 K (.tuple #[x1,x2]) w)
theorem f402_call (x0 x1 x2 x3:Value) (K:K1) (w:World) (h:f402_t x0 x1 x2 x3 K w):callS prog 402 #[x0,x1,x2,x3] w K:=
 call_of_txt (args:= [x0,x1,x2,x3]) mixed Tryz.func402 .o kR (cast kR h)
theorem el_34_34:ElT prog 34 34 41 1 8 (.int .u64 0):=⟨by kernel_rfl,by kernel_rfl,by kernel_rfl,by kernel_rfl,by decide⟩
theorem el_217_217:ElT prog 217 217 354 2 32 (.agg #[.int .u64 0,.slice none 0 0]):=⟨by kernel_rfl,by kernel_rfl,by kernel_rfl,by kernel_rfl,by decide⟩
theorem el_247_247:ElT prog 247 247 255 2 16 (.agg #[.int .u64 0,.int .u64 0]):=⟨by kernel_rfl,by kernel_rfl,by kernel_rfl,by kernel_rfl,by decide⟩
theorem el_222_222:ElT prog 222 222 315 3 24 (.agg #[.int .u8 0,.int .u64 0,.int .u64 0]):=⟨by kernel_rfl,by kernel_rfl,by kernel_rfl,by kernel_rfl,by decide⟩
def RQ0:=
 And.intro (@ev_make prog 34 _ _ _ _ el_34_34)<|
 And.intro (@ev_make prog 217 _ _ _ _ el_217_217)<|
 And.intro (@ev_bs0 prog 34 _ _ _ _ el_34_34)<|
 And.intro (fun x y p n c w k=>ev_of_run (@Go.Sh.run_eq_sl_nil prog 34 kR x y p n c w) k)<|
 And.intro (fun ty a n c w k=>rd_of_run (@Go.Sh.run_len prog 34 kR ty a n c w) k)<|
 And.intro (fun ty a n c w u=>ag_of_run (@Go.Sh.run_len prog 34 kR ty a n c w) u)<|
 And.intro (fun ty a n c w k=>rd_of_run (@Go.Sh.run_len prog 217 kR ty a n c w) k)<|
 And.intro (fun ty a n c w u=>ag_of_run (@Go.Sh.run_len prog 217 kR ty a n c w) u)<|
 And.intro (fun ty a n c w k=>rd_of_run (@Go.Sh.run_len prog 247 kR ty a n c w) k)<|
 And.intro (fun ty a n c w u=>ag_of_run (@Go.Sh.run_len prog 247 kR ty a n c w) u)<|
 And.intro (fun ty a n c w k=>rd_of_run (@Go.Sh.run_len prog 203 kR ty a n c w) k)<|
 (fun ty a n c w u=>ag_of_run (@Go.Sh.run_len prog 203 kR ty a n c w) u)
def RQ1:=
 And.intro (fun ty a n c w k=>rd_of_run (@Go.Sh.run_len prog 222 kR ty a n c w) k)<|
 And.intro (fun ty a n c w u=>ag_of_run (@Go.Sh.run_len prog 222 kR ty a n c w) u)<|
 And.intro (fun ty a n c w k=>rd_of_run (@Go.Sh.run_len prog 480 kR ty a n c w) k)<|
 And.intro (fun ty a n c w u=>ag_of_run (@Go.Sh.run_len prog 480 kR ty a n c w) u)<|
 And.intro (fun ty a n c w k=>rd_of_run (@Go.Sh.run_len prog 22 kR ty a n c w) k)<|
 And.intro (fun ty a n c w u=>ag_of_run (@Go.Sh.run_len prog 22 kR ty a n c w) u)<|
 And.intro (fun ty a n c w k=>rd_of_run (@Go.Sh.run_len prog 484 kR ty a n c w) k)<|
 And.intro (fun ty a n c w u=>ag_of_run (@Go.Sh.run_len prog 484 kR ty a n c w) u)<|
 And.intro (fun ty a n c w k=>rd_of_run (@Go.Sh.run_len prog 61 kR ty a n c w) k)<|
 And.intro (fun ty a n c w u=>ag_of_run (@Go.Sh.run_len prog 61 kR ty a n c w) u)<|
 And.intro (fun b o len cap kd n w (k:K1) h=>ev_of_run (run_hi el_247_247 b o len cap kd n w h) k)<|
 (fun b o len cap kd n w (k:K1) h=>ev_of_run (run_lo el_247_247 b o len cap kd n w h) k)
def RQ2:=
 And.intro (fun b o len cap kd n w (k:Value→Prop) h=>rd_of_run (run_hi el_247_247 b o len cap kd n w h) k)<|
 And.intro (fun b o len cap kd n w (k:Value→Prop) h=>rd_of_run (run_lo el_247_247 b o len cap kd n w h) k)<|
 And.intro (fun b o len cap kd n w (k:K1) h=>ev_of_run (run_hi el_34_34 b o len cap kd n w h) k)<|
 And.intro (fun b o len cap kd n w (k:K1) h=>ev_of_run (run_lo el_34_34 b o len cap kd n w h) k)<|
 And.intro (fun b o len cap kd n w (k:Value→Prop) h=>rd_of_run (run_hi el_34_34 b o len cap kd n w h) k)<|
 And.intro (fun b o len cap kd n w (k:Value→Prop) h=>rd_of_run (run_lo el_34_34 b o len cap kd n w h) k)<|
 And.intro (fun b o len cap kd n w (k:K1) h=>ev_of_run (run_hi el_222_222 b o len cap kd n w h) k)<|
 And.intro (fun b o len cap kd n w (k:K1) h=>ev_of_run (run_lo el_222_222 b o len cap kd n w h) k)<|
 And.intro (fun b o len cap kd n w (k:Value→Prop) h=>rd_of_run (run_hi el_222_222 b o len cap kd n w h) k)<|
 And.intro (fun b o len cap kd n w (k:Value→Prop) h=>rd_of_run (run_lo el_222_222 b o len cap kd n w h) k)<|
 And.intro (fun t x y (a:Nat) (n:Int) w (k:K1) (h0:0≤n) (hn:n≤8)=>ev_of_run (Go.Sh.run_shr_i (P:=prog) (k:= .u8) t x y a n w h0 hn) k)<|
 (fun t x y (a:Nat) (n:Int) w (k:K1) (h0:0≤n) (hn:n≤8)=>ev_of_run (show (binM .shl t x y (.int .u8 (a:Int)) (.int .i64 n)).run prog w= .ok (.int .u8 ((a*2^n.toNat%256:Nat):Int)) w from Go.Sh.run_shl_i (k:= .u8) rfl t x y a n w h0 hn) k)
def RQ3:=
 And.intro (fun t x y (a:Nat) (n:Int) w (k:Value→Prop) (h0:0≤n) (hn:n≤8)=>rd_of_run (Go.Sh.run_shr_i (P:=prog) (k:= .u8) t x y a n w h0 hn) k)<|
 And.intro (fun t x y (a:Nat) (n:Int) w (k:Value→Prop) (h0:0≤n) (hn:n≤8)=>rd_of_run (show (binM .shl t x y (.int .u8 (a:Int)) (.int .i64 n)).run prog w= .ok (.int .u8 ((a*2^n.toNat%256:Nat):Int)) w from Go.Sh.run_shl_i (k:= .u8) rfl t x y a n w h0 hn) k)<|
 And.intro (fun t x y (a:Nat) (n:Int) w (k:K1) (h0:0≤n) (hn:n≤16)=>ev_of_run (Go.Sh.run_shr_i (P:=prog) (k:= .u16) t x y a n w h0 hn) k)<|
 And.intro (fun t x y (a:Nat) (n:Int) w (k:K1) (h0:0≤n) (hn:n≤16)=>ev_of_run (show (binM .shl t x y (.int .u16 (a:Int)) (.int .i64 n)).run prog w= .ok (.int .u16 ((a*2^n.toNat%65536:Nat):Int)) w from Go.Sh.run_shl_i (k:= .u16) rfl t x y a n w h0 hn) k)<|
 And.intro (fun t x y (a:Nat) (n:Int) w (k:Value→Prop) (h0:0≤n) (hn:n≤16)=>rd_of_run (Go.Sh.run_shr_i (P:=prog) (k:= .u16) t x y a n w h0 hn) k)<|
 And.intro (fun t x y (a:Nat) (n:Int) w (k:Value→Prop) (h0:0≤n) (hn:n≤16)=>rd_of_run (show (binM .shl t x y (.int .u16 (a:Int)) (.int .i64 n)).run prog w= .ok (.int .u16 ((a*2^n.toNat%65536:Nat):Int)) w from Go.Sh.run_shl_i (k:= .u16) rfl t x y a n w h0 hn) k)<|
 And.intro (fun t x y (a:Nat) (n:Int) w (k:K1) (h0:0≤n) (hn:n≤32)=>ev_of_run (Go.Sh.run_shr_i (P:=prog) (k:= .u32) t x y a n w h0 hn) k)<|
 And.intro (fun t x y (a:Nat) (n:Int) w (k:K1) (h0:0≤n) (hn:n≤32)=>ev_of_run (show (binM .shl t x y (.int .u32 (a:Int)) (.int .i64 n)).run prog w= .ok (.int .u32 ((a*2^n.toNat%4294967296:Nat):Int)) w from Go.Sh.run_shl_i (k:= .u32) rfl t x y a n w h0 hn) k)<|
 And.intro (fun t x y (a:Nat) (n:Int) w (k:Value→Prop) (h0:0≤n) (hn:n≤32)=>rd_of_run (Go.Sh.run_shr_i (P:=prog) (k:= .u32) t x y a n w h0 hn) k)<|
 And.intro (fun t x y (a:Nat) (n:Int) w (k:Value→Prop) (h0:0≤n) (hn:n≤32)=>rd_of_run (show (binM .shl t x y (.int .u32 (a:Int)) (.int .i64 n)).run prog w= .ok (.int .u32 ((a*2^n.toNat%4294967296:Nat):Int)) w from Go.Sh.run_shl_i (k:= .u32) rfl t x y a n w h0 hn) k)<|
 And.intro (fun t x y (a:Nat) (n:Int) w (k:K1) (h0:0≤n) (hn:n≤64)=>ev_of_run (Go.Sh.run_shr_i (P:=prog) (k:= .u64) t x y a n w h0 hn) k)<|
 (fun t x y (a:Nat) (n:Int) w (k:K1) (h0:0≤n) (hn:n≤64)=>ev_of_run (show (binM .shl t x y (.int .u64 (a:Int)) (.int .i64 n)).run prog w= .ok (.int .u64 ((a*2^n.toNat%18446744073709551616:Nat):Int)) w from Go.Sh.run_shl_i (k:= .u64) rfl t x y a n w h0 hn) k)
def RQ4:=
 And.intro (fun t x y (a:Nat) (n:Int) w (k:Value→Prop) (h0:0≤n) (hn:n≤64)=>rd_of_run (Go.Sh.run_shr_i (P:=prog) (k:= .u64) t x y a n w h0 hn) k)<|
 And.intro (fun t x y (a:Nat) (n:Int) w (k:Value→Prop) (h0:0≤n) (hn:n≤64)=>rd_of_run (show (binM .shl t x y (.int .u64 (a:Int)) (.int .i64 n)).run prog w= .ok (.int .u64 ((a*2^n.toNat%18446744073709551616:Nat):Int)) w from Go.Sh.run_shl_i (k:= .u64) rfl t x y a n w h0 hn) k)<|
 And.intro (@ev_makeMap prog 260)<|
 And.intro (fun b o kd i w k h0 h1=>rd_of_run (@Go.Sh.run_indexArr prog 218 8 1 kR b o kd i w h0 h1) k)<|
 And.intro (fun b o kd i w k h0 h1=>rd_of_run (@Go.Sh.run_indexArr prog 350 5 1 kR b o kd i w h0 h1) k)<|
 (fun b o kd i w k h0 h1=>rd_of_run (@Go.Sh.run_indexArr prog 479 16 1 kR b o kd i w h0 h1) k)
def RA2:=And.intro RQ0<|And.intro RQ1<|And.intro RQ2<|And.intro RQ3<|RQ4
def ltN (x y:Nat):Bool:=decide (x<y)
theorem ltN_swo:Go.Sort.SWO ltN:=⟨fun x=>by simp [ltN],fun x y z=>by simp [ltN];omega,fun x y z=>by simp [ltN];omega⟩
def Ar (w:World) (b o:Nat) (d:Array Nat):Prop:=∃a:Array Value,w.heap[b]? =some (.cells a 41 (0,0))∧o+d.size≤a.size∧∀i,i<d.size→a[o+i]? =some (.int .u64 ((d[i]! :Nat):Int))
section
variable {w w':World} {b o:Nat} {d:Array Nat}
theorem Ar.lt (h:Ar w b o d):b<w.heap.size:=by obtain ⟨a,h,_⟩:=h;exact lt_of_heap h
theorem Ar.drew (h:Ar w b o d):Ar w.drew b o d:=h
theorem Ar.cell (h:Ar w b o d) (i:Nat) (hi:i<d.size):w.cell? ⟨b,o+i,none⟩=some (.int .u64 ((d[i]! :Nat):Int)):=by
 obtain ⟨a,h,_,h2⟩:=h
 rw [cell_of_blk h];exact h2 i hi
theorem Ar.frz (h:Ar w b o d) (i:Nat):w.frozen? ⟨b,i,none⟩=false:=by
 obtain ⟨a,h,_⟩:=h
 unfold World.frozen?;simp only [h];simp
theorem Ar.set (h:Ar w b o d) (i x:Nat) (hi:i<d.size):Ar (w.setCell ⟨b,o+i,none⟩ (.int .u64 (x:Int))) b o (d.setIfInBounds i x):=by
 obtain ⟨a,h,hs,hf⟩:=h
 refine ⟨a.setIfInBounds (o+i) (.int .u64 (x:Int)),?_,by simpa using hs,?_⟩
 ·simp only [World.setCell,Array.getElem?_modify,h];simp
 ·intro j hj
  rw [Array.size_setIfInBounds] at hj
  rw [Array.getElem?_setIfInBounds]
  by_cases e:i=j
  ·subst e
   have:o+i<a.size:=oM
   simp [this,hi]
  ·have e':¬o+i=o+j:=oM
   rw [if_neg e',hf j hj]
   simp [Array.getElem!_eq_getD,Array.getD_eq_getD_getElem?,Array.getElem?_setIfInBounds,e]
theorem Ar.set_ne (h:Ar w b o d) (b' i:Nat) (v:Value) (hb:b'≠b):Ar (w.setCell ⟨b',i,none⟩ v) b o d:=by
 obtain ⟨a,h,h2⟩:=h
 exact ⟨a,by rw [heap_set_ne v (Ne.symm hb)];exact h,h2⟩
theorem Ar.alloc (h:Ar w b o d) (x:Obj):Ar (w.alloc x) b o d:=by
 have hl:=h.lt
 obtain ⟨a,h,h2⟩:=h
 exact ⟨a,by rw [heap_alloc_lt _ hl];exact h,h2⟩
theorem Ar.frm {F:Nat→Prop} (h:Ar w b o d) (e:Frm F w w') (hF:¬F b):Ar w' b o d:=by
 have hl:=h.lt
 obtain ⟨a,h,h2⟩:=h
 exact ⟨a,by rw [e.block b hl hF];exact h,h2⟩
theorem swp_eq (d:Array Nat) (i j:Nat):Go.Sort.swp d i j=(d.setIfInBounds i d[j]!).setIfInBounds j d[i]! :=rfl
theorem swp_size (d:Array Nat) (i j:Nat):(Go.Sort.swp d i j).size=d.size:=by simp [swp_eq]
def Oth (w0 w:World) (b o n:Nat):Prop:=∀a e,w0.heap[b]? =some (.cells a e (0,0))→∃a',w.heap[b]? =some (.cells a' e (0,0))∧a'.size=a.size∧∀j,(j<o∨o+n≤j)→a'[j]? =a[j]?
theorem Oth.same {w0 w w':World} {b o n:Nat} (h:Oth w0 w b o n) (e:w'.heap[b]? =w.heap[b]?):Oth w0 w' b o n:=fun a t ha=>by rw [e];exact h a t ha
theorem Oth.set {w0 w:World} {b o n:Nat} (h:Oth w0 w b o n) (i:Nat) (hi:i<n) (v:Value):Oth w0 (w.setCell ⟨b,o+i,none⟩ v) b o n:=fun a t ha=>by
 obtain ⟨a',h1,h2,h3⟩:=h a t ha
 refine ⟨a'.setIfInBounds (o+i) v,?_,by simpa using h2,fun j hj=> ?_⟩
 ·simp only [World.setCell,Array.getElem?_modify,h1];simp
 ·rw [Array.getElem?_setIfInBounds_ne oM];exact h3 j hj
structure SW (w0 w:World) (b o:Nat) (d:Array Nat):Prop where
 ar:Ar w b o d
 frm:Frm (fun x=>x=b) w0 w
 oth:Oth w0 w b o d.size
theorem SW.refl (h:Ar w b o d):SW w w b o d:=⟨h,Frm.refl _ _,fun a e ha=>⟨a,ha,rfl,fun _ _=>rfl⟩⟩
theorem SW.drew {w0:World} (h:SW w0 w b o d):SW w0 w.drew b o d:=⟨h.ar,h.frm.drew,h.oth.same rfl⟩
theorem SW.trans {w0 w1 w2:World} {d1 d2:Array Nat} (h:SW w0 w1 b o d1) (k:SW w1 w2 b o d2) (hs:d2.size=d1.size:=by omega):SW w0 w2 b o d2:=⟨k.ar,h.frm.trans k.frm (fun _ _ h=>h),fun a e ha=>by
 obtain ⟨a',h1,h2,h3⟩:=h.oth a e ha
 obtain ⟨a2,g1,g2,g3⟩:=k.oth a' e h1
 exact ⟨a2,g1,g2.trans h2,fun j hj=>(g3 j hj).trans (h3 j (by rw [←hs];exact hj))⟩⟩
theorem SW.swp {w0:World} (h:SW w0 w b o d) (i j:Nat) (hi:i<d.size) (hj:j<d.size):SW w0 ((w.setCell ⟨b,o+i,none⟩ (.int .u64 ((d[j]! :Nat):Int))).setCell ⟨b,o+j,none⟩ (.int .u64 ((d[i]! :Nat):Int))) b o (Go.Sort.swp d i j):=by
 refine ⟨?_,(h.frm.set _ (fun _=>rfl)).set _ (fun _=>rfl),by rw [swp_size];exact (h.oth.set i hi _).set j hj _⟩
 have:=(h.ar.set i d[j]! hi).set j d[i]! (by simpa using hj)
 rw [swp_eq];exact this
end
theorem c_nan (x:Nat) (w:World) (K:K1):callS prog 148 #[.int .u64 (x:Int)] w K=K (.bool false) w:=by
 refine callS_det (by kernel_rfl) (f148_call _ _ _ ?_) K
 unfold f148_t
 (repeat' (first|(with_reducible first|refine brS_mk (fun _=> ?_) (fun _=> ?_)|refine And.intro ?_ ?_)|(simp (disch:=try exact dZ) only [↓RBp,↓RA,↓reduceIte,Nat.reduceAdd,Nat.reduceMul,Nat.reduceEqDiff,RB,RX,RA2])))
theorem c_Less (x y:Nat) (w:World) (K:K1):callS prog 347 #[.int .u64 (x:Int),.int .u64 (y:Int)] w K=K (.bool (ltN x y)) w:=by
 refine callS_det (by kernel_rfl) (f347_call _ _ _ _ ?_) K
 unfold f347_t ltN
 (repeat' (first|(with_reducible first|refine brS_mk (fun _=> ?_) (fun _=> ?_)|refine And.intro ?_ ?_)|(simp (disch:=try exact dZ) only [↓RBp,↓RA,↓reduceIte,Nat.reduceAdd,Nat.reduceMul,Nat.reduceEqDiff,RB,RX,RA2,c_nan])))
theorem insInner_zero (a:Nat) (d:Array Nat):Go.Sort.insInner ltN a 0 d=d:=rfl
theorem insInner_succ (a j:Nat) (d:Array Nat):Go.Sort.insInner ltN a (j+1) d=if (decide (j+1>a)&&ltN d[j+1]! d[j]!)=true then Go.Sort.insInner ltN a j (Go.Sort.swp d (j+1) j) else d:=rfl
theorem insOuter_eq (a b i:Nat) (d:Array Nat):Go.Sort.insOuter ltN a b i d=if i<b then Go.Sort.insOuter ltN a b (i+1) (Go.Sort.insInner ltN a i d) else d:=by rw [Go.Sort.insOuter]
section
variable {w w':World} {q o cap:Nat} {d:Array Nat}
theorem k_ins (h:Ar w q o d) (hd:d.size<1099511627776) (a b:Nat) (hab:a≤b) (hb:b≤d.size) (K:K1) (hK:∀w',SW w w' q o (Go.Sort.insertionSort ltN d a b)→(Go.Sort.insertionSort ltN d a b).size=d.size→K (.tuple #[]) w'):
  callS prog 341 #[.slice (some ⟨q,o,none⟩) d.size cap,.int .i64 (a:Int),.int .i64 (b:Int)] w K:=by
 refine f341_call _ _ _ _ _ ?_
 unfold f341_t
 simp (disch:=try exact dZ) only [↓RBp,↓RA,↓reduceIte,Nat.reduceAdd,Nat.reduceMul,Nat.reduceEqDiff,RB,RX,RA2]
 apply f341_l1_rule (I:=fun x w'=>∃(i:Nat) (d':Array Nat),x= .int .i64 (i:Int)∧a+1≤i∧i≤b+1∧d'.size=d.size∧SW w w' q o d'∧Go.Sort.insOuter ltN a b i d'=Go.Sort.insertionSort ltN d a b) (μ:=fun x _=>b+1-(intOf x).toNat)
 ·exact ⟨a+1,d,by simp,by omega,by omega,rfl,SW.refl h,rfl⟩
 ·intros;rename_i w1 hI E1 hE
  obtain ⟨i,d1,rfl,hi1,hi2,hs1,sw1,e1⟩:=hI
  unfold f341_l1_t
  rw [insOuter_eq] at e1
  by_cases hib:i<b
  ·rw [if_pos hib] at e1
   simp (disch:=try exact dZ) only [↓RBp,↓RA,↓reduceIte,Nat.reduceAdd,Nat.reduceMul,Nat.reduceEqDiff,RB,RX,RA2]
   apply f341_l2_rule (I:=fun x w'=>∃(j:Nat) (d':Array Nat),x= .int .i64 (j:Int)∧a≤j∧j≤i∧d'.size=d.size∧SW w w' q o d'∧Go.Sort.insInner ltN a j d'=Go.Sort.insInner ltN a i d1) (μ:=fun x _=>(intOf x).toNat)
   ·exact ⟨i,d1,rfl,by omega,by omega,hs1,sw1,rfl⟩
   ·intros;rename_i w2 hI2 E2 hE2
    obtain ⟨j,d2,rfl,hj1,hj2,hs2,sw2,e2⟩:=hI2
    unfold f341_l2_t
    have ar:=sw2.ar
    cases j with
    |zero=>
     rw [insInner_zero] at e2
     simp (disch:=try exact dZ) only [↓RBp,↓RA,↓reduceIte,Nat.reduceAdd,Nat.reduceMul,Nat.reduceEqDiff,RB,RX,RA2,f341_k1_eq,f341_k1_t]
     apply hE
     ·exact ⟨i+1,d2,by simp,by omega,by omega,hs2,sw2.drew,by rw [e2,e1]⟩
     ·simp [intOf];omega
    |succ j=>
     rw [insInner_succ] at e2
     have ej:((j+1:Nat):Int)-1=(j:Int):=oM
     by_cases hja:a<j+1
     ·have c1:=ar.cell (j+1) oM
      have c2:=ar.cell j oM
      by_cases hlt:ltN d2[j+1]! d2[j]! =true
      ·have ar2:=ar.set (j+1) d2[j]! oM
       have c3:=ar2.cell j (by simp;omega)
       have ssw:=sw2.swp (j+1) j oM oM
       (repeat' (first|(with_reducible first|refine brS_mk (fun _=> ?_) (fun _=> ?_)|refine And.intro ?_ ?_)|(simp (disch:=try exact dZ) only [↓RBp,↓RA,↓reduceIte,Nat.reduceAdd,Nat.reduceMul,Nat.reduceEqDiff,RB,RX,RA2,ej,c1,c2,ar.frz,c_Less,hlt,c3,ar2.frz])))
       apply hE2
       ·exact ⟨j,_,rfl,by omega,by omega,(swp_size _ _ _).trans hs2,ssw.drew.drew,by rw [if_pos (by simp [hlt];omega)] at e2;exact e2⟩
       ·simp [intOf]
      ·have hlt':ltN d2[j+1]! d2[j]! =false:=by simpa using hlt
       (repeat' (first|(with_reducible first|refine brS_mk (fun _=> ?_) (fun _=> ?_)|refine And.intro ?_ ?_)|(simp (disch:=try exact dZ) only [↓RBp,↓RA,↓reduceIte,Nat.reduceAdd,Nat.reduceMul,Nat.reduceEqDiff,RB,RX,RA2,ej,c1,c2,ar.frz,c_Less,hlt',f341_k1_eq,f341_k1_t])))
       apply hE
       ·exact ⟨i+1,d2,by simp,by omega,by omega,hs2,sw2.drew,by rw [if_neg (by simp [hlt'])] at e2;rw [e2,e1]⟩
       ·simp [intOf];omega
     ·simp (disch:=try exact dZ) only [↓RBp,↓RA,↓reduceIte,Nat.reduceAdd,Nat.reduceMul,Nat.reduceEqDiff,RB,RX,RA2,f341_k1_eq,f341_k1_t]
      apply hE
      ·exact ⟨i+1,d2,by simp,by omega,by omega,hs2,sw2.drew,by rw [if_neg (by simp;omega)] at e2;rw [e2,e1]⟩
      ·simp [intOf];omega
  ·rw [if_neg hib] at e1
   simp (disch:=try exact dZ) only [↓RBp,↓RA,↓reduceIte,Nat.reduceAdd,Nat.reduceMul,Nat.reduceEqDiff,RB,RX,RA2]
   rw [←e1] at hK
   exact hK _ sw1 hs1
end
section
variable {w w':World} {q o cap:Nat} {d:Array Nat}
def Sp (w:World) (s k:Nat):Prop:=Cells w s 3 1 (fun _=> .int .i64 (k:Int))
theorem Sp.cell {s k:Nat} (h:Sp w s k):w.cell? ⟨s,0,none⟩=some (.int .i64 (k:Int)):=Cells.cell h oM
theorem Sp.frz {s k:Nat} (h:Sp w s k):w.frozen? ⟨s,0,none⟩=false:=Cells.frz h 0
structure CW (w0 w:World) (q o s:Nat) (d:Array Nat) (k:Nat):Prop where
 ar:Ar w q o d
 sp:Sp w s k
 frm:Frm (fun x=>x=s) w0 w
theorem ne_sq {s k:Nat} (h:Ar w q o d) (hs:Sp w s k):s≠q:=by
 intro e;subst e
 obtain ⟨a,h,_⟩:=h
 obtain ⟨a',h',_⟩:=hs
 rw [h] at h';injection h' with h';injection h' with _ h';exact absurd h' (by decide)
theorem k_order2 {s k:Nat} (h:Ar w q o d) (hs:Sp w s k) (hd:d.size<1099511627776) (hk:k<1099511627776) (a b:Nat) (ha:a<d.size) (hb:b<d.size) (K:K1)
  (hK:∀w',CW w w' q o s d (Go.Sort.order2 ltN d a b k).2.2→K (.tuple #[.int .i64 (((Go.Sort.order2 ltN d a b k).1:Nat):Int),.int .i64 (((Go.Sort.order2 ltN d a b k).2.1:Nat):Int)]) w'):
  callS prog 402 #[.slice (some ⟨q,o,none⟩) d.size cap,.int .i64 (a:Int),.int .i64 (b:Int),.pointer (some ⟨s,0,none⟩)] w K:=by
 refine f402_call _ _ _ _ _ _ ?_
 unfold f402_t
 have c1:=h.cell a ha
 have c2:=h.cell b hb
 have ns:=ne_sq h hs
 unfold Go.Sort.order2 at hK
 by_cases hl:ltN d[b]! d[a]! =true
 ·rw [if_pos hl] at hK
  (repeat' (first|(with_reducible first|refine brS_mk (fun _=> ?_) (fun _=> ?_)|refine And.intro ?_ ?_)|(simp (disch:=try exact dZ) only [↓RBp,↓RA,↓reduceIte,Nat.reduceAdd,Nat.reduceMul,Nat.reduceEqDiff,RB,RX,RA2,c1,c2,c_Less,hl,hs.cell,hs.frz])))
  have hs2:Sp (w.setCell ⟨s,0,none⟩ (.int .i64 ((k:Int)+1))) s (k+1):=by
   refine (Cells.set hs (i:=0) (.int .i64 ((k:Int)+1)) oM).congr ?_
   intro i hi
   have e:i=0:=oM
   rw [if_pos e];simp
  exact hK _ ⟨(h.set_ne s 0 _ ns).drew,hs2,((Frm.refl (fun x=>x=s) w).set _ (fun _=>rfl)).drew⟩
 ·rw [if_neg hl] at hK
  have hl':ltN d[b]! d[a]! =false:=by simpa using hl
  (repeat' (first|(with_reducible first|refine brS_mk (fun _=> ?_) (fun _=> ?_)|refine And.intro ?_ ?_)|(simp (disch:=try exact dZ) only [↓RBp,↓RA,↓reduceIte,Nat.reduceAdd,Nat.reduceMul,Nat.reduceEqDiff,RB,RX,RA2,c1,c2,c_Less,hl'])))
  exact hK _ ⟨h.drew,hs,(Frm.refl _ w).drew⟩
theorem CW.trans {w0 w1 w2:World} {s k k':Nat} (h:CW w0 w1 q o s d k) (h':CW w1 w2 q o s d k'):CW w0 w2 q o s d k':=⟨h'.ar,h'.sp,h.frm.trans h'.frm (fun _ _ h=>h)⟩
theorem o2_lt (a b k n:Nat) (ha:a<n) (hb:b<n):(Go.Sort.order2 ltN d a b k).1<n∧(Go.Sort.order2 ltN d a b k).2.1<n∧(Go.Sort.order2 ltN d a b k).2.2≤k+1:=by
 unfold Go.Sort.order2;split<;>simp<;>omega
theorem k_median {s k:Nat} (h:Ar w q o d) (hs:Sp w s k) (hd:d.size<1099511627776) (hk:k<1099511627770) (a b c:Nat) (ha:a<d.size) (hb:b<d.size) (hc:c<d.size) (K:K1)
  (hK:∀w',CW w w' q o s d (Go.Sort.median ltN d a b c k).2→K (.int .i64 (((Go.Sort.median ltN d a b c k).1:Nat):Int)) w'):
  callS prog 383 #[.slice (some ⟨q,o,none⟩) d.size cap,.int .i64 (a:Int),.int .i64 (b:Int),.int .i64 (c:Int),.pointer (some ⟨s,0,none⟩)] w K:=by
 refine f383_call _ _ _ _ _ _ _ ?_
 unfold f383_t
 have l1:=o2_lt (d:=d) a b k _ ha hb
 have l2:=o2_lt (d:=d) (Go.Sort.order2 ltN d a b k).2.1 c (Go.Sort.order2 ltN d a b k).2.2 _ l1.2.1 hc
 have l3:=o2_lt (d:=d) (Go.Sort.order2 ltN d a b k).1 (Go.Sort.order2 ltN d (Go.Sort.order2 ltN d a b k).2.1 c (Go.Sort.order2 ltN d a b k).2.2).1 (Go.Sort.order2 ltN d (Go.Sort.order2 ltN d a b k).2.1 c (Go.Sort.order2 ltN d a b k).2.2).2.2 _ l1.1 l2.1
 simp (disch:=try exact dZ) only [↓RBp,↓RA,↓reduceIte,Nat.reduceAdd,Nat.reduceMul,Nat.reduceEqDiff,RB,RX,RA2]
 refine k_order2 h hs hd oM a b ha hb _ (fun w1 h1=> ?_)
 simp (disch:=try exact dZ) only [↓RBp,↓RA,↓reduceIte,Nat.reduceAdd,Nat.reduceMul,Nat.reduceEqDiff,RB,RX,RA2]
 refine k_order2 h1.ar h1.sp hd oM _ c l1.2.1 hc _ (fun w2 h2=> ?_)
 simp (disch:=try exact dZ) only [↓RBp,↓RA,↓reduceIte,Nat.reduceAdd,Nat.reduceMul,Nat.reduceEqDiff,RB,RX,RA2]
 refine k_order2 h2.ar h2.sp hd oM _ _ l1.1 l2.1 _ (fun w3 h3=> ?_)
 simp (disch:=try exact dZ) only [↓RBp,↓RA,↓reduceIte,Nat.reduceAdd,Nat.reduceMul,Nat.reduceEqDiff,RB,RX,RA2]
 exact hK _ ((h1.trans h2).trans h3)
theorem k_medadj {s k:Nat} (h:Ar w q o d) (hs:Sp w s k) (hd:d.size<1099511627776) (hk:k<1099511627770) (a:Nat) (h0:0<a) (ha:a+1<d.size) (K:K1)
  (hK:∀w',CW w w' q o s d (Go.Sort.medianAdjacent ltN d a k).2→K (.int .i64 (((Go.Sort.medianAdjacent ltN d a k).1:Nat):Int)) w'):
  callS prog 382 #[.slice (some ⟨q,o,none⟩) d.size cap,.int .i64 (a:Int),.pointer (some ⟨s,0,none⟩)] w K:=by
 refine f382_call _ _ _ _ _ ?_
 unfold f382_t
 have e1:(a:Int)-1=((a-1:Nat):Int):=oM
 have e2:(a:Int)+1=((a+1:Nat):Int):=oM
 simp (disch:=try exact dZ) only [↓RBp,↓RA,↓reduceIte,Nat.reduceAdd,Nat.reduceMul,Nat.reduceEqDiff,RB,RX,RA2,e1,e2]
 refine k_median h hs hd hk (a-1) a (a+1) oM oM ha _ (fun w1 h1=> ?_)
 exact hK _ h1
def hintN:Go.Sort.Hint→Int
 | .unknown=>0
 | .increasing=>1
 | .decreasing=>2
theorem k_reverse (h:Ar w q o d) (hd:d.size<1099511627776) (a b:Nat) (hab:a<b) (hb:b≤d.size) (K:K1) (hK:∀w',SW w w' q o (Go.Sort.reverseRange d a b)→(Go.Sort.reverseRange d a b).size=d.size→K (.tuple #[]) w'):
  callS prog 345 #[.slice (some ⟨q,o,none⟩) d.size cap,.int .i64 (a:Int),.int .i64 (b:Int)] w K:=by
 refine f345_call _ _ _ _ _ ?_
 unfold f345_t
 have e1:(b:Int)-1=((b-1:Nat):Int):=oM
 simp (disch:=try exact dZ) only [↓RBp,↓RA,↓reduceIte,Nat.reduceAdd,Nat.reduceMul,Nat.reduceEqDiff,RB,RX,RA2,e1]
 apply f345_l1_rule (I:=fun x y w'=>∃(i j:Nat) (d':Array Nat),x= .int .i64 (i:Int)∧y= .int .i64 (j:Int)∧j<d.size∧d'.size=d.size∧SW w w' q o d'∧Go.Sort.reverseLoop i j d'=Go.Sort.reverseRange d a b) (μ:=fun x y _=>(intOf y).toNat-(intOf x).toNat)
 ·exact ⟨a,b-1,d,rfl,rfl,by omega,rfl,SW.refl h,rfl⟩
 ·intros;rename_i w1 hI E1 hE
  obtain ⟨i,j,d1,rfl,rfl,hj,hs,sw,e⟩:=hI
  unfold f345_l1_t
  rw [Go.Sort.reverseLoop] at e
  by_cases hij:i<j
  ·rw [if_pos hij] at e
   have ar:=sw.ar
   have c1:=ar.cell i oM
   have c2:=ar.cell j oM
   have ar2:=ar.set i d1[j]! oM
   have c3:=ar2.cell j (by simp;omega)
   have ssw:=sw.swp i j oM oM
   have e2:(j:Int)-1=((j-1:Nat):Int):=oM
   have e3:(i:Int)+1=((i+1:Nat):Int):=oM
   (repeat' (first|(with_reducible first|refine brS_mk (fun _=> ?_) (fun _=> ?_)|refine And.intro ?_ ?_)|(simp (disch:=try exact dZ) only [↓RBp,↓RA,↓reduceIte,Nat.reduceAdd,Nat.reduceMul,Nat.reduceEqDiff,RB,RX,RA2,c1,c2,c3,ar.frz,ar2.frz,e2,e3])))
   apply hE
   ·exact ⟨i+1,j-1,_,rfl,rfl,by omega,(swp_size _ _ _).trans hs,ssw.drew,e⟩
   ·simp [intOf];omega
  ·rw [if_neg hij] at e
   simp (disch:=try exact dZ) only [↓RBp,↓RA,↓reduceIte,Nat.reduceAdd,Nat.reduceMul,Nat.reduceEqDiff,RB,RX,RA2]
   rw [←e] at hK
   exact hK _ sw hs
theorem med_k (d:Array Nat) (a b c k:Nat):(Go.Sort.median ltN d a b c k).2≤k+3:=Go.Sort.median_count ltN d a b c k
def pkH (r:Nat×Nat):Nat×Go.Sort.Hint:=(r.1,if r.2=0 then .increasing else if r.2=12 then .decreasing else .unknown)
theorem k_choose (h:Ar w q o d) (hd:d.size<1099511627776) (a b:Nat) (hab:a+12<b) (hb:b≤d.size) (K:K1)
  (hK:∀w',Ext w w'→K (.tuple #[.int .i64 (((Go.Sort.choosePivot ltN d a b).1:Nat):Int),.int .i64 (hintN (Go.Sort.choosePivot ltN d a b).2)]) w'):
  callS prog 344 #[.slice (some ⟨q,o,none⟩) d.size cap,.int .i64 (a:Int),.int .i64 (b:Int)] w K:=by
 have e0:(b:Int)-(a:Int)=((b-a:Nat):Int):=oM
 have e1:(a:Int)+((b-a:Nat):Int)/4*1=((a+(b-a)/4*1:Nat):Int):=oM
 have e2:(a:Int)+((b-a:Nat):Int)/4*2=((a+(b-a)/4*2:Nat):Int):=oM
 have e3:(a:Int)+((b-a:Nat):Int)/4*3=((a+(b-a)/4*3:Nat):Int):=oM
 have hsp:Sp (w.alloc (.cells #[.int .i64 0] 3)) w.heap.size 0:=(Cells.new w [.int .i64 0] 3).congr (fun i hi=>by have e:i=0:=(by simpa using hi);subst e;rfl)
 have h':=h.alloc (.cells #[.int .i64 0] 3)
 have fin:∀w1 p k,CW (w.alloc (.cells #[.int .i64 0] 3)) w1 q o w.heap.size d k→k<1099511627776→p=(Go.Sort.choosePivot ltN d a b).1→hintN (if k=0 then Go.Sort.Hint.increasing else if k=12 then Go.Sort.Hint.decreasing else Go.Sort.Hint.unknown)=hintN (Go.Sort.choosePivot ltN d a b).2→
   f344_k1_t (.pointer (some ⟨w.heap.size,0,none⟩)) (.int .i64 (p:Int)) K w1:=by
  intro w1 p k hc hk hp hh
  unfold f344_k1_t
  rw [←hh,←hp] at hK
  have he:Ext w w1:=Frm.to_ext (F:=fun x=>x=w.heap.size) ((Frm.of_ext (Ext.alloc_self w _)).trans hc.frm (fun _ _ h=>h)) (fun x hx=>by omega)
  by_cases hk0:k=0
  ·subst hk0
   simp (disch:=try exact dZ) only [↓RBp,↓RA,↓reduceIte,Nat.reduceAdd,Nat.reduceMul,Nat.reduceEqDiff,RB,RX,RA2,hc.sp.cell]
   exact hK _ he
  ·rw [if_neg hk0] at hK
   by_cases hk2:k=12
   ·subst hk2
    simp (disch:=try exact dZ) only [↓RBp,↓RA,↓reduceIte,Nat.reduceAdd,Nat.reduceMul,Nat.reduceEqDiff,RB,RX,RA2,hc.sp.cell]
    exact hK _ he
   ·rw [if_neg hk2] at hK
    simp (disch:=try exact dZ) only [↓RBp,↓RA,↓reduceIte,Nat.reduceAdd,Nat.reduceMul,Nat.reduceEqDiff,RB,RX,RA2,hc.sp.cell]
    exact hK _ he
 have hcp:Go.Sort.choosePivot ltN d a b=pkH (if b-a≥50 then Go.Sort.median ltN d (Go.Sort.medianAdjacent ltN d (a+(b-a)/4*1) 0).1 (Go.Sort.medianAdjacent ltN d (a+(b-a)/4*2) (Go.Sort.medianAdjacent ltN d (a+(b-a)/4*1) 0).2).1 (Go.Sort.medianAdjacent ltN d (a+(b-a)/4*3) (Go.Sort.medianAdjacent ltN d (a+(b-a)/4*2) (Go.Sort.medianAdjacent ltN d (a+(b-a)/4*1) 0).2).2).1 (Go.Sort.medianAdjacent ltN d (a+(b-a)/4*3) (Go.Sort.medianAdjacent ltN d (a+(b-a)/4*2) (Go.Sort.medianAdjacent ltN d (a+(b-a)/4*1) 0).2).2).2
   else Go.Sort.median ltN d (a+(b-a)/4*1) (a+(b-a)/4*2) (a+(b-a)/4*3) 0):=by
  unfold Go.Sort.choosePivot pkH;simp only [if_pos (show b-a≥8 by omega)]
 have bi1:0<a+(b-a)/4*1∧a+(b-a)/4*1+1<d.size:=oM
 have bi2:0<a+(b-a)/4*2∧a+(b-a)/4*2+1<d.size:=oM
 have bi3:0<a+(b-a)/4*3∧a+(b-a)/4*3+1<d.size:=oM
 generalize a+(b-a)/4*1=i1 at*
 generalize a+(b-a)/4*2=i2 at*
 generalize a+(b-a)/4*3=i3 at*
 by_cases h50:b-a≥50
 ·rw [if_pos h50] at hcp
  have m1:=Go.Sort.medianAdjacent_count ltN d i1 0
  have a1:=Go.Sort.medianAdjacent_mem ltN d i1 0
  have kk1:=fun K hK=>k_medadj (cap:=cap) (K:=K) h' hsp hd oM i1 bi1.1 bi1.2 hK
  generalize Go.Sort.medianAdjacent ltN d i1 0=r1 at*
  have m2:=Go.Sort.medianAdjacent_count ltN d i2 r1.2
  have a2:=Go.Sort.medianAdjacent_mem ltN d i2 r1.2
  have kk2:=fun w1 (h1:CW (w.alloc (.cells #[.int .i64 0] 3)) w1 q o w.heap.size d r1.2) K hK=>k_medadj (cap:=cap) (K:=K) h1.ar h1.sp hd oM i2 bi2.1 bi2.2 hK
  generalize Go.Sort.medianAdjacent ltN d i2 r1.2=r2 at*
  have m3:=Go.Sort.medianAdjacent_count ltN d i3 r2.2
  have a3:=Go.Sort.medianAdjacent_mem ltN d i3 r2.2
  have kk3:=fun w1 (h1:CW (w.alloc (.cells #[.int .i64 0] 3)) w1 q o w.heap.size d r2.2) K hK=>k_medadj (cap:=cap) (K:=K) h1.ar h1.sp hd oM i3 bi3.1 bi3.2 hK
  generalize Go.Sort.medianAdjacent ltN d i3 r2.2=r3 at*
  have m4:=med_k d r1.1 r2.1 r3.1 r3.2
  have kk4:=fun w1 (h1:CW (w.alloc (.cells #[.int .i64 0] 3)) w1 q o w.heap.size d r3.2) K hK=>k_median (cap:=cap) (K:=K) h1.ar h1.sp hd oM r1.1 r2.1 r3.1 oM oM oM hK
  generalize Go.Sort.median ltN d r1.1 r2.1 r3.1 r3.2=r4 at*
  refine f344_call _ _ _ _ _ ?_
  unfold f344_t
  simp (disch:=try exact dZ) only [↓RBp,↓RA,↓reduceIte,Nat.reduceAdd,Nat.reduceMul,Nat.reduceEqDiff,RB,RX,RA2,e0,e1,e2,e3]
  refine kk1 _ (fun w1 h1=> ?_)
  simp (disch:=try exact dZ) only [↓RBp,↓RA,↓reduceIte,Nat.reduceAdd,Nat.reduceMul,Nat.reduceEqDiff,RB,RX,RA2,e0,e1,e2,e3]
  refine kk2 _ h1 _ (fun w2 h2=> ?_)
  simp (disch:=try exact dZ) only [↓RBp,↓RA,↓reduceIte,Nat.reduceAdd,Nat.reduceMul,Nat.reduceEqDiff,RB,RX,RA2,e0,e1,e2,e3]
  refine kk3 _ (h1.trans h2) _ (fun w3 h3=> ?_)
  simp (disch:=try exact dZ) only [↓RBp,↓RA,↓reduceIte,Nat.reduceAdd,Nat.reduceMul,Nat.reduceEqDiff,RB,RX,RA2,e0,e1,e2,e3,f344_k2_eq,f344_k2_t]
  refine kk4 _ ((h1.trans h2).trans h3) _ (fun w4 h4=> ?_)
  simp (disch:=try exact dZ) only [↓RBp,↓RA,↓reduceIte,Nat.reduceAdd,Nat.reduceMul,Nat.reduceEqDiff,RB,RX,RA2,f344_k1_eq]
  exact fin _ _ _ (((h1.trans h2).trans h3).trans h4) oM (by rw [hcp];rfl) (by rw [hcp];rfl)
 ·rw [if_neg h50] at hcp
  have m4:=med_k d i1 i2 i3 0
  have kk4:=fun K hK=>k_median (cap:=cap) (K:=K) h' hsp hd oM i1 i2 i3 oM oM oM hK
  generalize Go.Sort.median ltN d i1 i2 i3 0=r4 at*
  refine f344_call _ _ _ _ _ ?_
  unfold f344_t
  simp (disch:=try exact dZ) only [↓RBp,↓RA,↓reduceIte,Nat.reduceAdd,Nat.reduceMul,Nat.reduceEqDiff,RB,RX,RA2,e0,e1,e2,e3,f344_k2_eq,f344_k2_t]
  refine kk4 _ (fun w4 h4=> ?_)
  simp (disch:=try exact dZ) only [↓RBp,↓RA,↓reduceIte,Nat.reduceAdd,Nat.reduceMul,Nat.reduceEqDiff,RB,RX,RA2,f344_k1_eq]
  exact fin _ _ _ h4 oM (by rw [hcp];rfl) (by rw [hcp];rfl)
end
theorem bitsLen_div (n k:Nat) (h:2^k≤n):Go.Sort.bitsLen n=k+Go.Sort.bitsLen (n/2^k):=by
 apply Nat.le_antisymm
 ·rw [Go.Sort.bitsLen_le_iff,Nat.pow_add]
  have:=Go.Sort.lt_two_pow_bitsLen (n/2^k)
  have h3:=(Nat.div_lt_iff_lt_mul (Nat.two_pow_pos k)).1 this
  rw [Nat.mul_comm];exact h3
 ·have h1:=Go.Sort.lt_two_pow_bitsLen n
  have hk:k≤Go.Sort.bitsLen n:=by
   rcases Nat.lt_or_ge (Go.Sort.bitsLen n) k with h2|h2
   ·have:=Nat.pow_le_pow_right (show 0<2 by omega) (Nat.le_of_lt h2)
    omega
   ·exact h2
  have h2:Go.Sort.bitsLen (n/2^k)≤Go.Sort.bitsLen n-k:=by
   rw [Go.Sort.bitsLen_le_iff,Nat.div_lt_iff_lt_mul (Nat.two_pow_pos k),←Nat.pow_add]
   rw [Nat.sub_add_cancel hk];exact h1
  omega
def strT (P:Program) (t:TypeId):Bool:=
 match P.underlying t with
 |some .string=>true
 |_=>false
theorem ev_strIdx {P:Program} {t:TypeId} (ht:strT P t=true) (s:ByteArray) (k:IntKind) (i:Nat) (b:UInt8) (w:World) (kk:K1) (h:s[i]? =some b):ev P (Instr.index t (.string s) (.int k (i:Int))) w kk=kk (.int .u8 ((b.toNat:Nat):Int)) w:=by
 unfold strT at ht
 split at ht
 ·rename_i hu
  refine ev_of_run ?_ kk
  simp [Instr.index,asIntOf,run_underlying_some hu,h]
 ·cases ht
def tab8:ByteArray:={data:= #[0,1,2,2,3,3,3,3,4,4,4,4,4,4,4,4,5,5,5,5,5,5,5,5,5,5,5,5,5,5,5,5,6,6,6,6,6,6,6,6,6,6,6,6,6,6,6,6,6,6,6,6,6,6,6,6,6,6,6,6,6,6,6,6,7,7,7,7,7,7,7,7,7,7,7,7,7,7,7,7,7,7,7,7,7,7,7,7,7,7,7,7,7,7,7,7,7,7,7,7,7,7,7,7,7,7,7,7,7,7,7,7,7,7,7,7,7,7,7,7,7,7,7,7,7,7,7,7,8,8,8,8,8,8,8,8,8,8,8,8,8,8,8,8,8,8,8,8,8,8,8,8,8,8,8,8,8,8,8,8,8,8,8,8,8,8,8,8,8,8,8,8,8,8,8,8,8,8,8,8,8,8,8,8,8,8,8,8,8,8,8,8,8,8,8,8,8,8,8,8,8,8,8,8,8,8,8,8,8,8,8,8,8,8,8,8,8,8,8,8,8,8,8,8,8,8,8,8,8,8,8,8,8,8,8,8,8,8,8,8,8,8,8,8,8,8,8,8,8,8,8,8,8,8,8,8]}
theorem tab8_get:∀i:Nat,i<256→tab8[i]? =some (UInt8.ofNat (Go.Sort.bitsLen i)):=by decide+kernel
theorem bitsLen_8 {i:Nat} (h:i<256):(UInt8.ofNat (Go.Sort.bitsLen i)).toNat=Go.Sort.bitsLen i:=by
 have:Go.Sort.bitsLen i≤8:=(Go.Sort.bitsLen_le_iff i 8).2 h
 rw [UInt8.toNat_ofNat'];omega
theorem strT_s:strT prog 9=true:=by kernel_rfl
theorem c_Len64 (n:Nat) (hn:n<18446744073709551616) (w:World) (K:K1):callS prog 225 #[.int .u64 (n:Int)] w K=K (.int .i64 ((Go.Sort.bitsLen n:Nat):Int)) w:=by
 refine callS_det (by kernel_rfl) (f225_call _ _ _ ?_) K
 unfold f225_t
 have fin:∀(m:Nat) (k:Int),m<256→0≤k→k<100→((Go.Sort.bitsLen n:Nat):Int)=k+((Go.Sort.bitsLen m:Nat):Int)→f225_k3_t (.int .u64 (m:Int)) (.int .i64 k) (fun v w'=>v= .int .i64 ((Go.Sort.bitsLen n:Nat):Int)∧w'=w) w:=by
  intro m k hm hk0 hk e
  unfold f225_k3_t
  have hb:=(Go.Sort.bitsLen_le_iff m 8).2 hm
  have e2:=bitsLen_8 hm
  have em:m%256=m:=oM
  have r1:=fun k w kk=>ev_strIdx strT_s tab8 k m _ w kk (tab8_get m hm)
  simp (disch:=try exact dZ) only [↓RBp,↓RA,↓reduceIte,Nat.reduceAdd,Nat.reduceMul,Nat.reduceEqDiff,RB,RX,RA2,em]
  refine (r1 .u8 w _).symm▸ ?_
  simp (disch:=try exact dZ) only [↓RBp,↓RA,↓reduceIte,Nat.reduceAdd,Nat.reduceMul,Nat.reduceEqDiff,RB,RX,RA2,e2,e]
 have b0:∀m k:Nat,2^k≤m→((Go.Sort.bitsLen m:Nat):Int)=(k:Int)+((Go.Sort.bitsLen (m/2^k):Nat):Int):=fun m k h=>by rw [bitsLen_div m k h];omega
 by_cases h1:4294967296≤n
 ·have q1:=b0 n 32 h1
  by_cases h2:65536≤n/2^32
  ·have q2:=b0 (n/2^32) 16 h2
   by_cases h3:256≤n/2^32/2^16
   ·have q3:=b0 (n/2^32/2^16) 8 h3
    simp (disch:=try exact dZ) only [↓RBp,↓RA,↓reduceIte,Nat.reduceAdd,Nat.reduceMul,Nat.reduceEqDiff,RB,RX,RA2,f225_k1_eq,f225_k1_t,f225_k2_eq,f225_k2_t,f225_k3_eq]
    exact fin _ _ oM oM oM oM
   ·simp (disch:=try exact dZ) only [↓RBp,↓RA,↓reduceIte,Nat.reduceAdd,Nat.reduceMul,Nat.reduceEqDiff,RB,RX,RA2,f225_k1_eq,f225_k1_t,f225_k2_eq,f225_k2_t,f225_k3_eq]
    exact fin _ _ oM oM oM oM
  ·by_cases h3:256≤n/2^32
   ·have q3:=b0 (n/2^32) 8 h3
    simp (disch:=try exact dZ) only [↓RBp,↓RA,↓reduceIte,Nat.reduceAdd,Nat.reduceMul,Nat.reduceEqDiff,RB,RX,RA2,f225_k1_eq,f225_k1_t,f225_k2_eq,f225_k2_t,f225_k3_eq]
    exact fin _ _ oM oM oM oM
   ·simp (disch:=try exact dZ) only [↓RBp,↓RA,↓reduceIte,Nat.reduceAdd,Nat.reduceMul,Nat.reduceEqDiff,RB,RX,RA2,f225_k1_eq,f225_k1_t,f225_k2_eq,f225_k2_t,f225_k3_eq]
    exact fin _ _ oM oM oM oM
 ·by_cases h2:65536≤n
  ·have q2:=b0 n 16 h2
   by_cases h3:256≤n/2^16
   ·have q3:=b0 (n/2^16) 8 h3
    simp (disch:=try exact dZ) only [↓RBp,↓RA,↓reduceIte,Nat.reduceAdd,Nat.reduceMul,Nat.reduceEqDiff,RB,RX,RA2,f225_k1_eq,f225_k1_t,f225_k2_eq,f225_k2_t,f225_k3_eq]
    exact fin _ _ oM oM oM oM
   ·simp (disch:=try exact dZ) only [↓RBp,↓RA,↓reduceIte,Nat.reduceAdd,Nat.reduceMul,Nat.reduceEqDiff,RB,RX,RA2,f225_k1_eq,f225_k1_t,f225_k2_eq,f225_k2_t,f225_k3_eq]
    exact fin _ _ oM oM oM oM
  ·by_cases h3:256≤n
   ·have q3:=b0 n 8 h3
    simp (disch:=try exact dZ) only [↓RBp,↓RA,↓reduceIte,Nat.reduceAdd,Nat.reduceMul,Nat.reduceEqDiff,RB,RX,RA2,f225_k1_eq,f225_k1_t,f225_k2_eq,f225_k2_t,f225_k3_eq]
    exact fin _ _ oM oM oM oM
   ·simp (disch:=try exact dZ) only [↓RBp,↓RA,↓reduceIte,Nat.reduceAdd,Nat.reduceMul,Nat.reduceEqDiff,RB,RX,RA2,f225_k1_eq,f225_k1_t,f225_k2_eq,f225_k2_t,f225_k3_eq]
    exact fin _ _ oM oM oM oM
theorem c_Len (n:Nat) (hn:n<18446744073709551616) (w:World) (K:K1):callS prog 150 #[.int .u64 (n:Int)] w K=K (.int .i64 ((Go.Sort.bitsLen n:Nat):Int)) w:=by
 refine callS_det (by kernel_rfl) (f150_call _ _ _ ?_) K
 unfold f150_t
 simp (disch:=try exact dZ) only [↓RBp,↓RA,↓reduceIte,Nat.reduceAdd,Nat.reduceMul,Nat.reduceEqDiff,RB,RX,RA2,c_Len64]
theorem c_npow (n:Nat) (hn:n<1099511627776) (w:World) (K:K1):callS prog 288 #[.int .i64 (n:Int)] w K=K (.int .u64 ((2^Go.Sort.bitsLen n:Nat):Int)) w:=by
 refine callS_det (by kernel_rfl) (f288_call _ _ _ ?_) K
 unfold f288_t
 have hb:Go.Sort.bitsLen n≤40:=(Go.Sort.bitsLen_le_iff n 40).2 oM
 have e:1*2^Go.Sort.bitsLen n%18446744073709551616=2^Go.Sort.bitsLen n:=by
  rw [Nat.one_mul]
  exact Nat.mod_eq_of_lt (Nat.lt_of_le_of_lt (Nat.pow_le_pow_right oM hb) (by decide))
 simp (disch:=try exact dZ) only [↓RBp,↓RA,↓reduceIte,Nat.reduceAdd,Nat.reduceMul,Nat.reduceEqDiff,RB,RX,RA2,c_Len,e]
section
variable {w w':World} {q o cap:Nat} {d:Array Nat}
def Rn (w:World) (s x:Nat):Prop:=Cells w s 439 1 (fun _=> .int .u64 (x:Int))
theorem Rn.cell {s k:Nat} (h:Rn w s k):w.cell? ⟨s,0,none⟩=some (.int .u64 (k:Int)):=Cells.cell h oM
theorem Rn.frz {s k:Nat} (h:Rn w s k):w.frozen? ⟨s,0,none⟩=false:=Cells.frz h 0
theorem Rn.set {s k:Nat} (h:Rn w s k) (x:Nat):Rn (w.setCell ⟨s,0,none⟩ (.int .u64 (x:Int))) s x:=by
 refine (Cells.set h (i:=0) (.int .u64 (x:Int)) oM).congr ?_
 intro i hi
 have e:i=0:=oM
 rw [if_pos e]
theorem k_xor {s x:Nat} (h:Rn w s x) (hx:x<18446744073709551616) (K:K1) (hK:∀w',Rn w' s (Go.Sort.xorNextN x)→Frm (fun b=>b=s) w w'→K (.int .u64 ((Go.Sort.xorNextN x:Nat):Int)) w'):callS prog 289 #[.pointer (some ⟨s,0,none⟩)] w K:=by
 refine f289_call _ _ _ ?_
 unfold f289_t
 have p:(18446744073709551616:Nat)=2^64:=by decide
 have g1:x^^^(x*2^13%18446744073709551616)<18446744073709551616:=Nat.xor_lt_two_pow (n:=64) oM oM
 have h1:=h.set (x^^^(x*2^13%18446744073709551616))
 have g2:(x^^^(x*2^13%18446744073709551616))^^^((x^^^(x*2^13%18446744073709551616))/2^7)<18446744073709551616:=Nat.xor_lt_two_pow (n:=64) g1 oM
 have h2:=h1.set ((x^^^(x*2^13%18446744073709551616))^^^((x^^^(x*2^13%18446744073709551616))/2^7))
 have h3:=h2.set (((x^^^(x*2^13%18446744073709551616))^^^((x^^^(x*2^13%18446744073709551616))/2^7))^^^(((x^^^(x*2^13%18446744073709551616))^^^((x^^^(x*2^13%18446744073709551616))/2^7))*2^17%18446744073709551616))
 have m1:∀y:Nat,y%18446744073709551616<18446744073709551616:=fun y=>Nat.mod_lt _ oM
 have m2:(x^^^(x*2^13%18446744073709551616))/2^7<18446744073709551616:=oM
 have m3:=m1 (x*2^13)
 have m4:=m1 (((x^^^(x*2^13%18446744073709551616))^^^((x^^^(x*2^13%18446744073709551616))/2^7))*2^17)
 have e:Go.Sort.xorNextN x=((x^^^(x*2^13%18446744073709551616))^^^((x^^^(x*2^13%18446744073709551616))/2^7))^^^(((x^^^(x*2^13%18446744073709551616))^^^((x^^^(x*2^13%18446744073709551616))/2^7))*2^17%18446744073709551616):=rfl
 rw [←e] at h3
 simp (disch:=first|assumption|decide|simp only [RO]|fail) only [↓RBp,↓RA,↓reduceIte,Nat.reduceAdd,Nat.reduceMul,Nat.reduceEqDiff,RB,RX,RA2,h.cell,h.frz,h1.cell,h1.frz,h2.cell,h2.frz,h3.cell,←e]
 refine hK _ h3 ?_
 exact (((((Frm.refl (fun b=>b=s) w).set _ (fun _=>rfl)).set _ (fun _=>rfl)).set _ (fun _=>rfl)).drew.drew).drew
def bst (a len m:Nat) (st:UInt64×Array Nat) (idx:Nat):Nat→UInt64×Array Nat
 |0=>st
 |k+1=>Go.Sort.breakStep a len m (bst a len m st idx k) (idx+k)
theorem bst_size (a len m:Nat) (st:UInt64×Array Nat) (idx:Nat):∀k,(bst a len m st idx k).2.size=st.2.size:=by
 intro k
 induction k with
 |zero=>rfl
 |succ k ih=>show (Go.Sort.swp _ _ _).size=_;rw [swp_size,ih]
theorem break_eq (d:Array Nat) (a b:Nat) (h:b-a≥8):Go.Sort.breakPatterns d a b=(bst a (b-a) (1<<<Go.Sort.bitsLen (b-a)) (UInt64.ofNat (b-a),d) (a+(b-a)/4*2-1) 3).2:=by
 unfold Go.Sort.breakPatterns;simp only [if_pos h];rfl
theorem k_break (h:Ar w q o d) (hd:d.size<1099511627776) (a b:Nat) (hab:a+12<b) (hb:b≤d.size) (K:K1) (hK:∀w',SW w w' q o (Go.Sort.breakPatterns d a b)→(Go.Sort.breakPatterns d a b).size=d.size→K (.tuple #[]) w'):
  callS prog 343 #[.slice (some ⟨q,o,none⟩) d.size cap,.int .i64 (a:Int),.int .i64 (b:Int)] w K:=by
 have h8:b-a≥8:=oM
 rw [break_eq d a b h8] at hK
 have e0:(b:Int)-(a:Int)=((b-a:Nat):Int):=oM
 have e1:(a:Int)+((b-a:Nat):Int)/4*2=((a+(b-a)/4*2:Nat):Int):=oM
 have e2:((a+(b-a)/4*2:Nat):Int)-1=((a+(b-a)/4*2-1:Nat):Int):=oM
 have e3:((a+(b-a)/4*2:Nat):Int)+1=((a+(b-a)/4*2+1:Nat):Int):=oM
 have hm:1<<<Go.Sort.bitsLen (b-a)=2^Go.Sort.bitsLen (b-a):=by rw [Nat.shiftLeft_eq,Nat.one_mul]
 have hm2:=Go.Sort.two_pow_bitsLen_le (n:=b-a) oM
 have hm0:=Nat.two_pow_pos (Go.Sort.bitsLen (b-a))
 have hlen:b-a<1099511627776:=oM
 have cn:=fun w K=>c_npow (b-a) hlen w K
 rw [hm] at hK
 generalize 2^Go.Sort.bitsLen (b-a)=m at*
 have hidx:a+(b-a)/4*2-1+2<b∧a≤a+(b-a)/4*2-1∧a+(b-a)/4*2+1=a+(b-a)/4*2-1+2:=oM
 rw [hidx.2.2] at e3
 generalize a+(b-a)/4*2-1=ix at*
 have hu:(UInt64.ofNat (b-a)).toNat=b-a:=by rw [UInt64.toNat_ofNat'];omega
 refine f343_call _ _ _ _ _ ?_
 unfold f343_t
 simp (disch:=try exact dZ) only [↓RBp,↓RA,↓reduceIte,Nat.reduceAdd,Nat.reduceMul,Nat.reduceEqDiff,RB,RX,RA2,e0,e1,e2,cn]
 have hrn:Rn (w.alloc (.cells #[.int .u64 ((b-a:Nat):Int)] 439)) w.heap.size (b-a):=(Cells.new w [.int .u64 ((b-a:Nat):Int)] 439).congr (fun i hi=>by have e:i=0:=(by simpa using hi);subst e;rfl)
 have h':=h.alloc (.cells #[.int .u64 ((b-a:Nat):Int)] 439)
 have hqs:=h.lt
 apply f343_l1_rule (I:=fun x w'=>∃k:Nat,x= .int .i64 ((ix+k:Nat):Int)∧k≤3∧Rn w' w.heap.size (bst a (b-a) m (UInt64.ofNat (b-a),d) ix k).1.toNat∧Ar w' q o (bst a (b-a) m (UInt64.ofNat (b-a),d) ix k).2∧Frm (fun x=>x=q∨x=w.heap.size) (w.alloc (.cells #[.int .u64 ((b-a:Nat):Int)] 439)) w'∧Oth w w' q o d.size) (μ:=fun x _=>ix+3-(intOf x).toNat)
 ·exact ⟨0,rfl,by omega,by rw [show (bst a (b-a) m (UInt64.ofNat (b-a),d) ix 0).1.toNat=b-a from hu];exact hrn,h',Frm.refl _ _,(SW.refl h).oth.same (heap_alloc_lt _ hqs)⟩
 ·intros;rename_i w1 hI E1 hE
  obtain ⟨k,rfl,hk,hr,ar,hf,hot0⟩:=hI
  have hsz:(bst a (b-a) m (UInt64.ofNat (b-a),d) ix k).2.size=d.size:=bst_size a (b-a) m (UInt64.ofNat (b-a),d) ix k
  by_cases hk3:k<3
  ·have hst:bst a (b-a) m (UInt64.ofNat (b-a),d) ix (k+1)=Go.Sort.breakStep a (b-a) m (bst a (b-a) m (UInt64.ofNat (b-a),d) ix k) (ix+k):=rfl
   generalize hB:bst a (b-a) m (UInt64.ofNat (b-a),d) ix k=B at*
   have hlt:B.1.toNat<18446744073709551616:=B.1.toNat_lt
   have hxl:=Go.Sort.xorNextN_lt _ hlt
   have hxe:=Go.Sort.xorNext_toNat B.1
   unfold f343_l1_t
   simp (disch:=try exact dZ) only [↓RBp,↓RA,↓reduceIte,Nat.reduceAdd,Nat.reduceMul,Nat.reduceEqDiff,RB,RX,RA2,e1,e3]
   refine k_xor hr hlt _ (fun w2 hr2 hf2=> ?_)
   have hand:Go.Sort.xorNextN B.1.toNat&&&(m-1)≤m-1:=Nat.and_le_right
   have ar2:Ar w2 q o B.2:=ar.frm hf2 oM
   generalize hy:Go.Sort.xorNextN B.1.toNat&&&(m-1)=y at*
   have hstep:∀ot,ot=(if y≥b-a then y-(b-a) else y)→bst a (b-a) m (UInt64.ofNat (b-a),d) ix (k+1)=(Go.Sort.xorNext B.1,Go.Sort.swp B.2 (ix+k) (a+ot)):=by
    intro ot ho
    rw [hst];unfold Go.Sort.breakStep;simp only [hxe,hy,←ho]
   have fin:∀ot,ot=(if y≥b-a then y-(b-a) else y)→a+ot<b→∀(w3:World),w3=((w2.setCell ⟨q,o+(ix+k),none⟩ (.int .u64 ((B.2[a+ot]! :Nat):Int))).setCell ⟨q,o+(a+ot),none⟩ (.int .u64 ((B.2[ix+k]! :Nat):Int))).drew→
     ∃k':Nat,Value.int .i64 (((ix+k:Nat):Int)+1)= .int .i64 ((ix+k':Nat):Int)∧k'≤3∧Rn w3 w.heap.size (bst a (b-a) m (UInt64.ofNat (b-a),d) ix k').1.toNat∧Ar w3 q o (bst a (b-a) m (UInt64.ofNat (b-a),d) ix k').2∧Frm (fun x=>x=q∨x=w.heap.size) (w.alloc (.cells #[.int .u64 ((b-a:Nat):Int)] 439)) w3∧Oth w w3 q o d.size:=by
    intro ot ho hob w3 hw3
    subst hw3
    refine ⟨k+1,by congr 1,by omega,?_,?_,?_,?_⟩
    ·rw [hstep ot ho]
     show Rn _ _ (Go.Sort.xorNext B.1).toNat
     rw [hxe]
     exact ((Cells.set_ne hr2 _ (by show w.heap.size≠q;omega)).set_ne _ (by show w.heap.size≠q;omega)).drew
    ·rw [hstep ot ho]
     exact ((SW.refl ar2).swp (ix+k) (a+ot) (by rw [hsz];omega) (by rw [hsz];omega)).drew.ar
    ·exact (((hf.trans (hf2.mono (fun x hx=>(.inr hx:x=q∨x=w.heap.size))) (fun _ _ h=>h)).set _ (fun _=> .inl rfl)).set _ (fun _=> .inl rfl)).drew
    ·exact ((((hot0.same (hf2.block q ar.lt oM)).set (ix+k) oM _).set (a+ot) oM _).same rfl)
   by_cases hyl:y≥b-a
   ·have hot:y-(b-a)=(if y≥b-a then y-(b-a) else y):=by rw [if_pos hyl]
    have e4:(y:Int)-((b-a:Nat):Int)=((y-(b-a):Nat):Int):=oM
    have e5:(a:Int)+((y-(b-a):Nat):Int)=((a+(y-(b-a)):Nat):Int):=oM
    have hob:a+(y-(b-a))<b:=oM
    have fin2:=fin _ hot hob _ rfl
    generalize y-(b-a)=ot at*
    have c1:=ar2.cell (a+ot) (by rw [hsz];omega)
    have c2:=ar2.cell (ix+k) (by rw [hsz];omega)
    have ar3:=ar2.set (ix+k) B.2[a+ot]! (by rw [hsz];omega)
    have c3:=ar3.cell (a+ot) (by simp;rw [hsz];omega)
    (repeat' (first|(with_reducible first|refine brS_mk (fun _=> ?_) (fun _=> ?_)|refine And.intro ?_ ?_)|(simp (disch:=try exact dZ) only [↓RBp,↓RA,↓reduceIte,Nat.reduceAdd,Nat.reduceMul,Nat.reduceEqDiff,RB,RX,RA2,hy,e4,e5,c1,c2,c3,ar2.frz,ar3.frz,f343_k1_eq,f343_k1_t])))
    apply hE
    ·exact fin2
    ·simp [intOf];omega
   ·have hot:y=(if y≥b-a then y-(b-a) else y):=by rw [if_neg hyl]
    have e5:(a:Int)+(y:Int)=((a+y:Nat):Int):=oM
    have hob:a+y<b:=oM
    have fin2:=fin _ hot hob _ rfl
    have c1:=ar2.cell (a+y) (by rw [hsz];omega)
    have c2:=ar2.cell (ix+k) (by rw [hsz];omega)
    have ar3:=ar2.set (ix+k) B.2[a+y]! (by rw [hsz];omega)
    have c3:=ar3.cell (a+y) (by simp;rw [hsz];omega)
    (repeat' (first|(with_reducible first|refine brS_mk (fun _=> ?_) (fun _=> ?_)|refine And.intro ?_ ?_)|(simp (disch:=try exact dZ) only [↓RBp,↓RA,↓reduceIte,Nat.reduceAdd,Nat.reduceMul,Nat.reduceEqDiff,RB,RX,RA2,hy,e5,c1,c2,c3,ar2.frz,ar3.frz,f343_k1_eq,f343_k1_t])))
    apply hE
    ·exact fin2
    ·simp [intOf];omega
  ·have:k=3:=oM
   subst this
   unfold f343_l1_t
   simp (disch:=try exact dZ) only [↓RBp,↓RA,↓reduceIte,Nat.reduceAdd,Nat.reduceMul,Nat.reduceEqDiff,RB,RX,RA2,e1,e3]
   refine hK _ ⟨ar,?_,by rw [hsz];exact hot0⟩ hsz
   have hf3:=(Frm.of_ext (F:=fun x=>x=q∨x=w.heap.size) (Ext.alloc_self w (.cells #[.int .u64 ((b-a:Nat):Int)] 439))).trans hf (fun _ _ h=>h)
   exact ⟨hf3.os,hf3.tape,hf3.output,hf3.size,fun x hx hn=>hf3.block x hx (by rintro (h|h);exact hn h;omega)⟩
end
section
variable {w w':World} {q o cap:Nat} {d:Array Nat}
theorem sift_eq (hi first root:Nat) (d:Array Nat):Go.Sort.siftDown ltN hi first root d=if 2*root+1≥hi then d else
  if (decide (2*root+1+1<hi)&&ltN d[first+(2*root+1)]! d[first+(2*root+1)+1]!)=true then
   (if ltN d[first+root]! d[first+(2*root+2)]! =true then Go.Sort.siftDown ltN hi first (2*root+2) (Go.Sort.swp d (first+root) (first+(2*root+2))) else d)
  else (if ltN d[first+root]! d[first+(2*root+1)]! =true then Go.Sort.siftDown ltN hi first (2*root+1) (Go.Sort.swp d (first+root) (first+(2*root+1))) else d):=by
 rw [Go.Sort.siftDown]
 by_cases h1:2*root+1≥hi
 ·rw [dif_pos h1,if_pos h1]
 ·rw [dif_neg h1,if_neg h1]
  by_cases h2:(decide (2*root+1+1<hi)&&ltN d[first+(2*root+1)]! d[first+(2*root+1)+1]!)=true
  ·rw [if_pos h2,if_pos h2]
   have h3:2*root+2<hi:=by simp at h2;omega
   cases h4:ltN d[first+root]! d[first+(2*root+2)]! with
   |true=>simp [h3]
   |false=>simp
  ·rw [if_neg h2,if_neg h2]
   cases h4:ltN d[first+root]! d[first+(2*root+1)]! with
   |true=>simp
   |false=>simp
theorem k_sift (h:Ar w q o d) (hd:d.size<1099511627776) (lo hi first:Nat) (hlo:lo≤hi+1) (hb:first+hi≤d.size) (K:K1) (hK:∀w',SW w w' q o (Go.Sort.siftDown ltN hi first lo d)→(Go.Sort.siftDown ltN hi first lo d).size=d.size→K (.tuple #[]) w'):
  callS prog 381 #[.slice (some ⟨q,o,none⟩) d.size cap,.int .i64 (lo:Int),.int .i64 (hi:Int),.int .i64 (first:Int)] w K:=by
 refine f381_call _ _ _ _ _ _ ?_
 unfold f381_t
 apply f381_l1_rule (I:=fun x w'=>∃(root:Nat) (d':Array Nat),x= .int .i64 (root:Int)∧root≤hi+1∧d'.size=d.size∧SW w w' q o d'∧Go.Sort.siftDown ltN hi first root d'=Go.Sort.siftDown ltN hi first lo d) (μ:=fun x _=>hi+1-(intOf x).toNat)
 ·exact ⟨lo,d,rfl,hlo,rfl,SW.refl h,rfl⟩
 ·intros;rename_i w1 hI E1 hE
  obtain ⟨root,d1,rfl,hr,hs,sw,e⟩:=hI
  rw [sift_eq] at e
  have ar:=sw.ar
  have g1:2*(root:Int)+1=((2*root+1:Nat):Int):=oM
  have g2:((2*root+1:Nat):Int)+1=((2*root+2:Nat):Int):=oM
  have g3:(first:Int)+((2*root+1:Nat):Int)=((first+(2*root+1):Nat):Int):=oM
  have g4:((first+(2*root+1):Nat):Int)+1=((first+(2*root+1)+1:Nat):Int):=oM
  have g5:(first:Int)+((2*root+2:Nat):Int)=((first+(2*root+2):Nat):Int):=oM
  have g6:(first:Int)+(root:Int)=((first+root:Nat):Int):=oM
  by_cases h1:2*root+1≥hi
  ·rw [if_pos h1] at e
   unfold f381_l1_t
   simp (disch:=try exact dZ) only [↓RBp,↓RA,↓reduceIte,Nat.reduceAdd,Nat.reduceMul,Nat.reduceEqDiff,RB,RX,RA2,g1]
   rw [←e] at hK
   exact hK _ sw hs
  ·rw [if_neg h1] at e
   have c1:=ar.cell (first+(2*root+1)) oM
   have c0:=ar.cell (first+root) oM
   have r12:first+(2*root+1)+1=first+(2*root+2):=oM
   by_cases h2:2*root+1+1<hi
   ·have c2:=ar.cell (first+(2*root+2)) oM
    rw [r12] at g4 e
    cases h3:ltN d1[first+(2*root+1)]! d1[first+(2*root+2)]! with
    |true=>
     rw [h3,if_pos (by simp;omega)] at e
     cases h4:ltN d1[first+root]! d1[first+(2*root+2)]! with
     |true=>
      rw [h4,if_pos rfl] at e
      have ar2:=ar.set (first+root) d1[first+(2*root+2)]! oM
      have c3:=ar2.cell (first+(2*root+2)) (by simp;omega)
      have ssw:=sw.swp (first+root) (first+(2*root+2)) oM oM
      unfold f381_l1_t
      (repeat' (first|(with_reducible first|refine brS_mk (fun _=> ?_) (fun _=> ?_)|refine And.intro ?_ ?_)|(simp (disch:=try exact dZ) only [↓RBp,↓RA,↓reduceIte,Nat.reduceAdd,Nat.reduceMul,Nat.reduceEqDiff,RB,RX,RA2,g1,g2,g3,g4,g5,g6,c0,c1,c2,c_Less,h3,h4,c3,ar.frz,ar2.frz,f381_k1_eq,f381_k1_t])))
      apply hE
      ·exact ⟨2*root+2,_,rfl,by omega,(swp_size _ _ _).trans hs,ssw.drew.drew.drew,e⟩
      ·simp [intOf];omega
     |false=>
      rw [h4,if_neg (by simp)] at e
      unfold f381_l1_t
      (repeat' (first|(with_reducible first|refine brS_mk (fun _=> ?_) (fun _=> ?_)|refine And.intro ?_ ?_)|(simp (disch:=try exact dZ) only [↓RBp,↓RA,↓reduceIte,Nat.reduceAdd,Nat.reduceMul,Nat.reduceEqDiff,RB,RX,RA2,g1,g2,g3,g4,g5,g6,c0,c1,c2,c_Less,h3,h4,f381_k1_eq,f381_k1_t])))
      rw [←e] at hK
      exact hK _ sw.drew.drew hs
    |false=>
     rw [h3,if_neg (by simp)] at e
     cases h4:ltN d1[first+root]! d1[first+(2*root+1)]! with
     |true=>
      rw [h4,if_pos rfl] at e
      have ar2:=ar.set (first+root) d1[first+(2*root+1)]! oM
      have c3:=ar2.cell (first+(2*root+1)) (by simp;omega)
      have ssw:=sw.swp (first+root) (first+(2*root+1)) oM oM
      unfold f381_l1_t
      (repeat' (first|(with_reducible first|refine brS_mk (fun _=> ?_) (fun _=> ?_)|refine And.intro ?_ ?_)|(simp (disch:=try exact dZ) only [↓RBp,↓RA,↓reduceIte,Nat.reduceAdd,Nat.reduceMul,Nat.reduceEqDiff,RB,RX,RA2,g1,g2,g3,g4,g5,g6,c0,c1,c2,c_Less,h3,h4,c3,ar.frz,ar2.frz,f381_k1_eq,f381_k1_t])))
      apply hE
      ·exact ⟨2*root+1,_,rfl,by omega,(swp_size _ _ _).trans hs,ssw.drew.drew.drew,e⟩
      ·simp [intOf];omega
     |false=>
      rw [h4,if_neg (by simp)] at e
      unfold f381_l1_t
      (repeat' (first|(with_reducible first|refine brS_mk (fun _=> ?_) (fun _=> ?_)|refine And.intro ?_ ?_)|(simp (disch:=try exact dZ) only [↓RBp,↓RA,↓reduceIte,Nat.reduceAdd,Nat.reduceMul,Nat.reduceEqDiff,RB,RX,RA2,g1,g2,g3,g4,g5,g6,c0,c1,c2,c_Less,h3,h4,f381_k1_eq,f381_k1_t])))
      rw [←e] at hK
      exact hK _ sw.drew.drew hs
   ·rw [if_neg (by simp;omega)] at e
    have h3:True:=trivial
    cases h4:ltN d1[first+root]! d1[first+(2*root+1)]! with
    |true=>
     rw [h4,if_pos rfl] at e
     have ar2:=ar.set (first+root) d1[first+(2*root+1)]! oM
     have c3:=ar2.cell (first+(2*root+1)) (by simp;omega)
     have ssw:=sw.swp (first+root) (first+(2*root+1)) oM oM
     unfold f381_l1_t
     (repeat' (first|(with_reducible first|refine brS_mk (fun _=> ?_) (fun _=> ?_)|refine And.intro ?_ ?_)|(simp (disch:=try exact dZ) only [↓RBp,↓RA,↓reduceIte,Nat.reduceAdd,Nat.reduceMul,Nat.reduceEqDiff,RB,RX,RA2,g1,g2,g3,g4,g5,g6,c0,c1,c_Less,h4,c3,ar.frz,ar2.frz,f381_k1_eq,f381_k1_t])))
     apply hE
     ·exact ⟨2*root+1,_,rfl,by omega,(swp_size _ _ _).trans hs,ssw.drew.drew.drew,e⟩
     ·simp [intOf];omega
    |false=>
     rw [h4,if_neg (by simp)] at e
     unfold f381_l1_t
     (repeat' (first|(with_reducible first|refine brS_mk (fun _=> ?_) (fun _=> ?_)|refine And.intro ?_ ?_)|(simp (disch:=try exact dZ) only [↓RBp,↓RA,↓reduceIte,Nat.reduceAdd,Nat.reduceMul,Nat.reduceEqDiff,RB,RX,RA2,g1,g2,g3,g4,g5,g6,c0,c1,c_Less,h4,f381_k1_eq,f381_k1_t])))
     rw [←e] at hK
     exact hK _ sw.drew.drew hs
theorem k_heap (h:Ar w q o d) (hd:d.size<1099511627776) (a b:Nat) (hab:a<b) (hb:b≤d.size) (K:K1) (hK:∀w',SW w w' q o (Go.Sort.heapSort ltN d a b)→(Go.Sort.heapSort ltN d a b).size=d.size→K (.tuple #[]) w'):
  callS prog 342 #[.slice (some ⟨q,o,none⟩) d.size cap,.int .i64 (a:Int),.int .i64 (b:Int)] w K:=by
 have e0:(b:Int)-(a:Int)=((b-a:Nat):Int):=oM
 have e1:(((b-a:Nat):Int)-1)/2=(((b-a-1)/2+1:Nat):Int)-1:=oM
 refine f342_call _ _ _ _ _ ?_
 unfold f342_t
 simp (disch:=try exact dZ) only [↓RBp,↓RA,↓reduceIte,Nat.reduceAdd,Nat.reduceMul,Nat.reduceEqDiff,RB,RX,RA2,e0,e1]
 apply f342_l1_rule (I:=fun x w'=>∃(k:Nat) (d':Array Nat),x= .int .i64 ((k:Int)-1)∧k≤(b-a-1)/2+1∧d'.size=d.size∧SW w w' q o d'∧Go.Sort.heapPop ltN a (b-a) (Go.Sort.heapBuild ltN (b-a) a k d')=Go.Sort.heapSort ltN d a b) (μ:=fun x _=>((intOf x)+1).toNat)
 ·exact ⟨(b-a-1)/2+1,d,rfl,by omega,rfl,SW.refl h,rfl⟩
 ·intros;rename_i w1 hI E1 hE
  obtain ⟨k,d1,rfl,hk,hs,sw,e⟩:=hI
  cases k with
  |zero=>
   unfold f342_l1_t
   have e2:((b-a:Nat):Int)-1=((b-a:Nat):Int)-1:=rfl
   simp (disch:=try exact dZ) only [↓RBp,↓RA,↓reduceIte,Nat.reduceAdd,Nat.reduceMul,Nat.reduceEqDiff,RB,RX,RA2,f342_k1_eq,f342_k1_t]
   apply f342_l2_rule (I:=fun x w'=>∃(k:Nat) (d':Array Nat),x= .int .i64 ((k:Int)-1)∧k≤b-a∧d'.size=d.size∧SW w w' q o d'∧Go.Sort.heapPop ltN a k d'=Go.Sort.heapSort ltN d a b) (μ:=fun x _=>((intOf x)+1).toNat)
   ·exact ⟨b-a,d1,rfl,by omega,hs,sw,e⟩
   ·intros;rename_i w2 hI2 E2 hE2
    obtain ⟨k,d2,rfl,hk2,hs2,sw2,e3⟩:=hI2
    cases k with
    |zero=>
     unfold f342_l2_t
     have e4:Go.Sort.heapPop ltN a 0 d2=d2:=rfl
     rw [e4] at e3
     simp (disch:=try exact dZ) only [↓RBp,↓RA,↓reduceIte,Nat.reduceAdd,Nat.reduceMul,Nat.reduceEqDiff,RB,RX,RA2]
     rw [←e3] at hK
     exact hK _ sw2 hs2
    |succ k=>
     have e4:Go.Sort.heapPop ltN a (k+1) d2=Go.Sort.heapPop ltN a k (Go.Sort.siftDown ltN k a 0 (Go.Sort.swp d2 a (a+k))):=rfl
     rw [e4] at e3
     have g1:((k+1:Nat):Int)-1=(k:Int):=oM
     have g2:(a:Int)+(k:Int)=((a+k:Nat):Int):=oM
     have ar:=sw2.ar
     have c0:=ar.cell a oM
     have c1:=ar.cell (a+k) oM
     have ar2:=ar.set a d2[a+k]! oM
     have c3:=ar2.cell (a+k) (by simp;omega)
     have ssw:=sw2.swp a (a+k) oM oM
     have hsz:=swp_size d2 a (a+k)
     unfold f342_l2_t
     (repeat' (first|(with_reducible first|refine brS_mk (fun _=> ?_) (fun _=> ?_)|refine And.intro ?_ ?_)|(simp (disch:=try exact dZ) only [↓RBp,↓RA,↓reduceIte,Nat.reduceAdd,Nat.reduceMul,Nat.reduceEqDiff,RB,RX,RA2,g1,g2,c0,c1,c3,ar.frz,ar2.frz])))
     have hb2:d.size=(Go.Sort.swp d2 a (a+k)).size:=by rw [hsz,hs2]
     rw [hb2]
     refine k_sift (cap:=cap) ssw.drew.ar oM 0 k a oM oM _ (fun w3 h3 hz3=> ?_)
     rw [←hb2] at hz3;try rw [←hb2]
     simp (disch:=try exact dZ) only [↓RBp,↓RA,↓reduceIte,Nat.reduceAdd,Nat.reduceMul,Nat.reduceEqDiff,RB,RX,RA2]
     apply hE2
     ·exact ⟨k,_,by rw [g1],by omega,hz3,ssw.drew.trans h3,e3⟩
     ·simp [intOf]
  |succ k=>
   have e4:Go.Sort.heapBuild ltN (b-a) a (k+1) d1=Go.Sort.heapBuild ltN (b-a) a k (Go.Sort.siftDown ltN (b-a) a k d1):=rfl
   rw [e4] at e
   have g1:((k+1:Nat):Int)-1=(k:Int):=oM
   unfold f342_l1_t
   simp (disch:=try exact dZ) only [↓RBp,↓RA,↓reduceIte,Nat.reduceAdd,Nat.reduceMul,Nat.reduceEqDiff,RB,RX,RA2,g1]
   rw [←hs]
   refine k_sift (cap:=cap) sw.ar oM k (b-a) a oM oM _ (fun w3 h3 hz3=> ?_)
   rw [hs] at hz3;try rw [hs]
   simp (disch:=try exact dZ) only [↓RBp,↓RA,↓reduceIte,Nat.reduceAdd,Nat.reduceMul,Nat.reduceEqDiff,RB,RX,RA2]
   apply hE
   ·exact ⟨k,_,by rw [g1],by omega,hz3,sw.trans h3,e⟩
   ·simp [intOf]
end
section
variable {w w':World} {q o cap:Nat} {d:Array Nat}
theorem scanUp_eq (p:Nat→Bool) (d:Array Nat) (j i:Nat):Go.Sort.scanUp p d j i=if (decide (i≤j)&&p d[i]!)=true then Go.Sort.scanUp p d j (i+1) else i:=by rw [Go.Sort.scanUp]
theorem scanDown_succ (p:Nat→Bool) (d:Array Nat) (i j:Nat):Go.Sort.scanDown p d i (j+1)=if (decide (i≤j+1)&&p d[j+1]!)=true then Go.Sort.scanDown p d i j else j+1:=rfl
theorem k_part (h:Ar w q o d) (hd:d.size<1099511627776) (a b pv:Nat) (hab:a+1<b) (hb:b≤d.size) (hp:a≤pv) (hp2:pv<b) (K:K1) (hK:∀w',SW w w' q o (Go.Sort.partition ltN d a b pv).2.2→(Go.Sort.partition ltN d a b pv).2.2.size=d.size→K (.tuple #[.int .i64 (((Go.Sort.partition ltN d a b pv).1:Nat):Int),.bool (Go.Sort.partition ltN d a b pv).2.1]) w'):
  callS prog 349 #[.slice (some ⟨q,o,none⟩) d.size cap,.int .i64 (a:Int),.int .i64 (b:Int),.int .i64 (pv:Int)] w K:=by
 have c0:=h.cell a oM
 have cp:=h.cell pv oM
 have ar0:=h.set a d[pv]! oM
 have cq:=ar0.cell pv (by simp;omega)
 have sw0:=(SW.refl h).swp a pv oM oM
 have hz0:=swp_size d a pv
 unfold Go.Sort.partition at hK
 simp only at hK
 generalize hD:Go.Sort.swp d a pv=D at*
 have e1:(a:Int)+1=((a+1:Nat):Int):=oM
 have e2:(b:Int)-1=((b-1:Nat):Int):=oM
 have t3:∀(i0 j0:Nat) (D0:Array Nat),D0.size=d.size→(∀w',SW w w' q o (Go.Sort.swp (Go.Sort.partLoop ltN a i0 j0 D0).2 (Go.Sort.partLoop ltN a i0 j0 D0).1 a)→(Go.Sort.swp (Go.Sort.partLoop ltN a i0 j0 D0).2 (Go.Sort.partLoop ltN a i0 j0 D0).1 a).size=d.size→K (.tuple #[.int .i64 (((Go.Sort.partLoop ltN a i0 j0 D0).1:Nat):Int),.bool false]) w')→a+1≤i0→i0≤b→i0≤j0+2→a≤j0→j0<b→∀w0,SW w w0 q o D0→
   f349_l3 K (.slice (some ⟨q,o,none⟩) d.size cap) (.int .i64 ((a:Nat):Int)) (.int .i64 ((i0:Nat):Int)) (.int .i64 ((j0:Nat):Int)) w0:=by
  intro i0 j0 D0 hz hK3 b1 b2 b0 b3 b4 w0 s0
  apply f349_l3_rule (I:=fun x y w'=>∃(i j:Nat) (D1:Array Nat),x= .int .i64 (i:Int)∧y= .int .i64 (j:Int)∧a+1≤i∧i≤b∧i≤j+2∧a≤j∧j<b∧D1.size=d.size∧SW w w' q o D1∧Go.Sort.partLoop ltN a i j D1=Go.Sort.partLoop ltN a i0 j0 D0) (μ:=fun x y _=>(intOf y).toNat+1-(intOf x).toNat)
  ·exact ⟨i0,j0,D0,rfl,rfl,b1,b2,b0,b3,b4,hz,s0,rfl⟩
  ·intros;rename_i w1 hI E1 hE
   obtain ⟨i1,j1,D1,rfl,rfl,b5,b6,b9,b7,b8,hz1,sw1,eP⟩:=hI
   rw [Go.Sort.partLoop] at eP
   have t5:∀(i j:Nat) wB,SW w wB q o D1→i1≤i→i≤b→j≤j1→a≤j→Go.Sort.scanUp (fun x=>ltN x D1[a]!) D1 j1 i1=i→Go.Sort.scanDown (fun x=> !ltN x D1[a]!) D1 i j1=j→f349_k5 K E1 (.slice (some ⟨q,o,none⟩) d.size cap) (.int .i64 ((a:Nat):Int)) (.int .i64 ((i:Nat):Int)) (.int .i64 ((j:Nat):Int)) wB:=by
    intro i j wB swB h1 h2 h3 h4 eu ed
    simp only [eu,ed] at eP
    by_cases hij:i>j
    ·rw [if_pos hij] at eP
     rw [←eP] at hK3
     have arB:=swB.ar
     have d1:=arB.cell a oM
     have d2:=arB.cell j oM
     have ar2:=arB.set j D1[a]! oM
     have d3:=ar2.cell a (by simp;omega)
     have ssw:=swB.swp j a oM oM
     (repeat' (first|(with_reducible first|refine brS_mk (fun _=> ?_) (fun _=> ?_)|refine And.intro ?_ ?_)|(simp (disch:=try exact dZ) only [↓RBp,↓RA,↓reduceIte,Nat.reduceAdd,Nat.reduceMul,Nat.reduceEqDiff,RB,RX,RA2,f349_k5_eq,f349_k5_t,f349_k3_eq,f349_k3_t,d1,d2,d3,arB.frz,ar2.frz])))
     exact hK3 _ ssw.drew ((swp_size _ _ _).trans hz1)
    ·rw [if_neg hij,dif_pos oM] at eP
     have arB:=swB.ar
     have d1:=arB.cell i oM
     have d2:=arB.cell j oM
     have ar2:=arB.set i D1[j]! oM
     have d3:=ar2.cell j (by simp;omega)
     have ssw:=swB.swp i j oM oM
     have g1:(i:Int)+1=((i+1:Nat):Int):=oM
     have g2:(j:Int)-1=((j-1:Nat):Int):=oM
     (repeat' (first|(with_reducible first|refine brS_mk (fun _=> ?_) (fun _=> ?_)|refine And.intro ?_ ?_)|(simp (disch:=try exact dZ) only [↓RBp,↓RA,↓reduceIte,Nat.reduceAdd,Nat.reduceMul,Nat.reduceEqDiff,RB,RX,RA2,f349_k5_eq,f349_k5_t,d1,d2,d3,arB.frz,ar2.frz,g1,g2])))
     apply hE
     ·exact ⟨i+1,j-1,_,rfl,rfl,by omega,by omega,by omega,by omega,by omega,(swp_size _ _ _).trans hz1,ssw.drew,eP⟩
     ·simp [intOf];omega
   have t4:∀(i:Nat) wB,SW w wB q o D1→i1≤i→i≤b→Go.Sort.scanUp (fun x=>ltN x D1[a]!) D1 j1 i1=i→f349_l5 K E1 (.slice (some ⟨q,o,none⟩) d.size cap) (.int .i64 ((a:Nat):Int)) (.int .i64 ((i:Nat):Int)) (.int .i64 ((j1:Nat):Int)) wB:=by
    intro i wB swB h1 h2 eu
    apply f349_l5_rule (I:=fun x w'=>∃j:Nat,x= .int .i64 (j:Int)∧j≤j1∧a≤j∧SW w w' q o D1∧Go.Sort.scanDown (fun x=> !ltN x D1[a]!) D1 i j=Go.Sort.scanDown (fun x=> !ltN x D1[a]!) D1 i j1) (μ:=fun x _=>(intOf x).toNat)
    ·exact ⟨j1,rfl,by omega,by omega,swB,rfl⟩
    ·intros;rename_i wA hIA EA hEA
     obtain ⟨j,rfl,hj1,hj2,swA,eA⟩:=hIA
     have arA:=swA.ar
     cases j with
     |zero=>
      have e0:Go.Sort.scanDown (fun x=> !ltN x D1[a]!) D1 i 0=0:=rfl
      rw [e0] at eA
      unfold f349_l5_t
      (repeat' (first|(with_reducible first|refine brS_mk (fun _=> ?_) (fun _=> ?_)|refine And.intro ?_ ?_)|(simp (disch:=try exact dZ) only [↓RBp,↓RA,↓reduceIte,Nat.reduceAdd,Nat.reduceMul,Nat.reduceEqDiff,RB,RX,RA2])))
      apply t5 i 0 _ swA.drew oM oM oM oM eu eA.symm
     |succ j=>
      rw [scanDown_succ] at eA
      have gj:((j+1:Nat):Int)-1=(j:Int):=oM
      by_cases hij:i≤j+1
      ·have c1:=arA.cell (j+1) oM
       have c2:=arA.cell a oM
       cases hl:ltN D1[j+1]! D1[a]! with
       |false=>
        rw [if_pos (by simp [hl];omega)] at eA
        unfold f349_l5_t
        (repeat' (first|(with_reducible first|refine brS_mk (fun _=> ?_) (fun _=> ?_)|refine And.intro ?_ ?_)|(simp (disch:=try exact dZ) only [↓RBp,↓RA,↓reduceIte,Nat.reduceAdd,Nat.reduceMul,Nat.reduceEqDiff,RB,RX,RA2,gj,c1,c2,c_Less,hl])))
        apply hEA
        ·exact ⟨j,rfl,by omega,by omega,swA.drew,eA⟩
        ·simp [intOf]
       |true=>
        rw [if_neg (by simp [hl])] at eA
        unfold f349_l5_t
        (repeat' (first|(with_reducible first|refine brS_mk (fun _=> ?_) (fun _=> ?_)|refine And.intro ?_ ?_)|(simp (disch:=try exact dZ) only [↓RBp,↓RA,↓reduceIte,Nat.reduceAdd,Nat.reduceMul,Nat.reduceEqDiff,RB,RX,RA2,gj,c1,c2,c_Less,hl])))
        apply t5 i (j+1) _ swA.drew oM oM oM oM eu eA.symm
      ·rw [if_neg (by simp;omega)] at eA
       unfold f349_l5_t
       (repeat' (first|(with_reducible first|refine brS_mk (fun _=> ?_) (fun _=> ?_)|refine And.intro ?_ ?_)|(simp (disch:=try exact dZ) only [↓RBp,↓RA,↓reduceIte,Nat.reduceAdd,Nat.reduceMul,Nat.reduceEqDiff,RB,RX,RA2])))
       apply t5 i (j+1) _ swA.drew oM oM oM oM eu eA.symm
   unfold f349_l3_t
   apply f349_l4_rule (I:=fun x w'=>∃i:Nat,x= .int .i64 (i:Int)∧i1≤i∧i≤j1+2∧i≤b∧SW w w' q o D1∧Go.Sort.scanUp (fun x=>ltN x D1[a]!) D1 j1 i=Go.Sort.scanUp (fun x=>ltN x D1[a]!) D1 j1 i1) (μ:=fun x _=>j1+3-(intOf x).toNat)
   ·exact ⟨i1,rfl,by omega,by omega,by omega,sw1,rfl⟩
   ·intros;rename_i wA hIA EA hEA
    obtain ⟨i,rfl,hi1,hi2,hi3,swA,eA⟩:=hIA
    rw [scanUp_eq] at eA
    have arA:=swA.ar
    have gi:(i:Int)+1=((i+1:Nat):Int):=oM
    by_cases hij:i≤j1
    ·have c1:=arA.cell i oM
     have c2:=arA.cell a oM
     cases hl:ltN D1[i]! D1[a]! with
     |true=>
      rw [if_pos (by simp [hl];omega)] at eA
      unfold f349_l4_t
      (repeat' (first|(with_reducible first|refine brS_mk (fun _=> ?_) (fun _=> ?_)|refine And.intro ?_ ?_)|(simp (disch:=try exact dZ) only [↓RBp,↓RA,↓reduceIte,Nat.reduceAdd,Nat.reduceMul,Nat.reduceEqDiff,RB,RX,RA2,gi,c1,c2,c_Less,hl])))
      apply hEA
      ·exact ⟨i+1,rfl,by omega,by omega,by omega,swA.drew,eA⟩
      ·simp [intOf];omega
     |false=>
      rw [if_neg (by simp [hl])] at eA
      unfold f349_l4_t
      (repeat' (first|(with_reducible first|refine brS_mk (fun _=> ?_) (fun _=> ?_)|refine And.intro ?_ ?_)|(simp (disch:=try exact dZ) only [↓RBp,↓RA,↓reduceIte,Nat.reduceAdd,Nat.reduceMul,Nat.reduceEqDiff,RB,RX,RA2,gi,c1,c2,c_Less,hl,f349_k4_eq,f349_k4_t])))
      apply t4 i _ swA.drew oM oM eA.symm
    ·rw [if_neg (by simp;omega)] at eA
     unfold f349_l4_t
     (repeat' (first|(with_reducible first|refine brS_mk (fun _=> ?_) (fun _=> ?_)|refine And.intro ?_ ?_)|(simp (disch:=try exact dZ) only [↓RBp,↓RA,↓reduceIte,Nat.reduceAdd,Nat.reduceMul,Nat.reduceEqDiff,RB,RX,RA2,gi,f349_k4_eq,f349_k4_t])))
     apply t4 i _ swA.drew oM oM eA.symm
 have t2:∀(i j:Nat) wB,SW w wB q o D→a+1≤i→i≤b→j≤b-1→a≤j→Go.Sort.scanUp (fun x=>ltN x D[a]!) D (b-1) (a+1)=i→Go.Sort.scanDown (fun x=> !ltN x D[a]!) D i (b-1)=j→f349_k2 K (.slice (some ⟨q,o,none⟩) d.size cap) (.int .i64 ((a:Nat):Int)) (.int .i64 ((i:Nat):Int)) (.int .i64 ((j:Nat):Int)) wB:=by
  intro i j wB swB h1 h2 h3 h4 eu ed
  simp only [eu,ed] at hK
  by_cases hij:i>j
  ·simp only [if_pos hij] at hK
   have arB:=swB.ar
   have d1:=arB.cell a oM
   have d2:=arB.cell j oM
   have ar2:=arB.set j D[a]! oM
   have d3:=ar2.cell a (by simp;omega)
   have ssw:=swB.swp j a oM oM
   (repeat' (first|(with_reducible first|refine brS_mk (fun _=> ?_) (fun _=> ?_)|refine And.intro ?_ ?_)|(simp (disch:=try exact dZ) only [↓RBp,↓RA,↓reduceIte,Nat.reduceAdd,Nat.reduceMul,Nat.reduceEqDiff,RB,RX,RA2,f349_k2_eq,f349_k2_t,d1,d2,d3,arB.frz,ar2.frz])))
   exact hK _ ssw.drew ((swp_size _ _ _).trans hz0)
  ·simp only [if_neg hij] at hK
   have arB:=swB.ar
   have d1:=arB.cell i oM
   have d2:=arB.cell j oM
   have ar2:=arB.set i D[j]! oM
   have d3:=ar2.cell j (by simp;omega)
   have ssw:=swB.swp i j oM oM
   have g1:(i:Int)+1=((i+1:Nat):Int):=oM
   have g2:(j:Int)-1=((j-1:Nat):Int):=oM
   (repeat' (first|(with_reducible first|refine brS_mk (fun _=> ?_) (fun _=> ?_)|refine And.intro ?_ ?_)|(simp (disch:=try exact dZ) only [↓RBp,↓RA,↓reduceIte,Nat.reduceAdd,Nat.reduceMul,Nat.reduceEqDiff,RB,RX,RA2,f349_k2_eq,f349_k2_t,d1,d2,d3,arB.frz,ar2.frz,g1,g2])))
   apply t3 (i+1) (j-1) _ ((swp_size _ _ _).trans hz0) hK oM oM oM oM oM _ ssw.drew
 have t1:∀(i:Nat) wB,SW w wB q o D→a+1≤i→i≤b→Go.Sort.scanUp (fun x=>ltN x D[a]!) D (b-1) (a+1)=i→f349_l2 K (.slice (some ⟨q,o,none⟩) d.size cap) (.int .i64 ((a:Nat):Int)) (.int .i64 ((i:Nat):Int)) (.int .i64 ((b-1:Nat):Int)) wB:=by
  intro i wB swB h1 h2 eu
  apply f349_l2_rule (I:=fun x w'=>∃j:Nat,x= .int .i64 (j:Int)∧j≤b-1∧a≤j∧SW w w' q o D∧Go.Sort.scanDown (fun x=> !ltN x D[a]!) D i j=Go.Sort.scanDown (fun x=> !ltN x D[a]!) D i (b-1)) (μ:=fun x _=>(intOf x).toNat)
  ·exact ⟨b-1,rfl,by omega,by omega,swB,rfl⟩
  ·intros;rename_i wA hIA EA hEA
   obtain ⟨j,rfl,hj1,hj2,swA,eA⟩:=hIA
   have arA:=swA.ar
   cases j with
   |zero=>
    have e0:Go.Sort.scanDown (fun x=> !ltN x D[a]!) D i 0=0:=rfl
    rw [e0] at eA
    unfold f349_l2_t
    (repeat' (first|(with_reducible first|refine brS_mk (fun _=> ?_) (fun _=> ?_)|refine And.intro ?_ ?_)|(simp (disch:=try exact dZ) only [↓RBp,↓RA,↓reduceIte,Nat.reduceAdd,Nat.reduceMul,Nat.reduceEqDiff,RB,RX,RA2])))
    apply t2 i 0 _ swA.drew oM oM oM oM eu eA.symm
   |succ j=>
    rw [scanDown_succ] at eA
    have gj:((j+1:Nat):Int)-1=(j:Int):=oM
    by_cases hij:i≤j+1
    ·have c1:=arA.cell (j+1) oM
     have c2:=arA.cell a oM
     cases hl:ltN D[j+1]! D[a]! with
     |false=>
      rw [if_pos (by simp [hl];omega)] at eA
      unfold f349_l2_t
      (repeat' (first|(with_reducible first|refine brS_mk (fun _=> ?_) (fun _=> ?_)|refine And.intro ?_ ?_)|(simp (disch:=try exact dZ) only [↓RBp,↓RA,↓reduceIte,Nat.reduceAdd,Nat.reduceMul,Nat.reduceEqDiff,RB,RX,RA2,gj,c1,c2,c_Less,hl])))
      apply hEA
      ·exact ⟨j,rfl,by omega,by omega,swA.drew,eA⟩
      ·simp [intOf]
     |true=>
      rw [if_neg (by simp [hl])] at eA
      unfold f349_l2_t
      (repeat' (first|(with_reducible first|refine brS_mk (fun _=> ?_) (fun _=> ?_)|refine And.intro ?_ ?_)|(simp (disch:=try exact dZ) only [↓RBp,↓RA,↓reduceIte,Nat.reduceAdd,Nat.reduceMul,Nat.reduceEqDiff,RB,RX,RA2,gj,c1,c2,c_Less,hl])))
      apply t2 i (j+1) _ swA.drew oM oM oM oM eu eA.symm
    ·rw [if_neg (by simp;omega)] at eA
     unfold f349_l2_t
     (repeat' (first|(with_reducible first|refine brS_mk (fun _=> ?_) (fun _=> ?_)|refine And.intro ?_ ?_)|(simp (disch:=try exact dZ) only [↓RBp,↓RA,↓reduceIte,Nat.reduceAdd,Nat.reduceMul,Nat.reduceEqDiff,RB,RX,RA2])))
     apply t2 i (j+1) _ swA.drew oM oM oM oM eu eA.symm
 refine f349_call _ _ _ _ _ _ ?_
 unfold f349_t
 (repeat' (first|(with_reducible first|refine brS_mk (fun _=> ?_) (fun _=> ?_)|refine And.intro ?_ ?_)|(simp (disch:=try exact dZ) only [↓RBp,↓RA,↓reduceIte,Nat.reduceAdd,Nat.reduceMul,Nat.reduceEqDiff,RB,RX,RA2,e1,e2,c0,cp,cq,h.frz,ar0.frz])))
 apply f349_l1_rule (I:=fun x w'=>∃i:Nat,x= .int .i64 (i:Int)∧(a+1)≤i∧i≤(b-1)+2∧i≤b∧SW w w' q o D∧Go.Sort.scanUp (fun x=>ltN x D[a]!) D (b-1) i=Go.Sort.scanUp (fun x=>ltN x D[a]!) D (b-1) (a+1)) (μ:=fun x _=>(b-1)+3-(intOf x).toNat)
 ·exact ⟨(a+1),rfl,by omega,by omega,by omega,sw0.drew,rfl⟩
 ·intros;rename_i wA hIA EA hEA
  obtain ⟨i,rfl,hi1,hi2,hi3,swA,eA⟩:=hIA
  rw [scanUp_eq] at eA
  have arA:=swA.ar
  have gi:(i:Int)+1=((i+1:Nat):Int):=oM
  by_cases hij:i≤(b-1)
  ·have c1:=arA.cell i oM
   have c2:=arA.cell a oM
   cases hl:ltN D[i]! D[a]! with
   |true=>
    rw [if_pos (by simp [hl];omega)] at eA
    unfold f349_l1_t
    (repeat' (first|(with_reducible first|refine brS_mk (fun _=> ?_) (fun _=> ?_)|refine And.intro ?_ ?_)|(simp (disch:=try exact dZ) only [↓RBp,↓RA,↓reduceIte,Nat.reduceAdd,Nat.reduceMul,Nat.reduceEqDiff,RB,RX,RA2,gi,c1,c2,c_Less,hl])))
    apply hEA
    ·exact ⟨i+1,rfl,by omega,by omega,by omega,swA.drew,eA⟩
    ·simp [intOf];omega
   |false=>
    rw [if_neg (by simp [hl])] at eA
    unfold f349_l1_t
    (repeat' (first|(with_reducible first|refine brS_mk (fun _=> ?_) (fun _=> ?_)|refine And.intro ?_ ?_)|(simp (disch:=try exact dZ) only [↓RBp,↓RA,↓reduceIte,Nat.reduceAdd,Nat.reduceMul,Nat.reduceEqDiff,RB,RX,RA2,gi,c1,c2,c_Less,hl,f349_k1_eq,f349_k1_t])))
    apply t1 i _ swA.drew oM oM eA.symm
  ·rw [if_neg (by simp;omega)] at eA
   unfold f349_l1_t
   (repeat' (first|(with_reducible first|refine brS_mk (fun _=> ?_) (fun _=> ?_)|refine And.intro ?_ ?_)|(simp (disch:=try exact dZ) only [↓RBp,↓RA,↓reduceIte,Nat.reduceAdd,Nat.reduceMul,Nat.reduceEqDiff,RB,RX,RA2,gi,f349_k1_eq,f349_k1_t])))
   apply t1 i _ swA.drew oM oM eA.symm
end
section
variable {w w':World} {q o cap:Nat} {d:Array Nat}
theorem k_partEq (h:Ar w q o d) (hd:d.size<1099511627776) (a b pv:Nat) (hab:a+1<b) (hb:b≤d.size) (hp:a≤pv) (hp2:pv<b) (K:K1) (hK:∀w',SW w w' q o (Go.Sort.partitionEqual ltN d a b pv).2→(Go.Sort.partitionEqual ltN d a b pv).2.size=d.size→a<(Go.Sort.partitionEqual ltN d a b pv).1∧(Go.Sort.partitionEqual ltN d a b pv).1≤b→K (.int .i64 (((Go.Sort.partitionEqual ltN d a b pv).1:Nat):Int)) w'):
  callS prog 348 #[.slice (some ⟨q,o,none⟩) d.size cap,.int .i64 (a:Int),.int .i64 (b:Int),.int .i64 (pv:Int)] w K:=by
 have c0:=h.cell a oM
 have cp:=h.cell pv oM
 have ar0:=h.set a d[pv]! oM
 have cq:=ar0.cell pv (by simp;omega)
 have sw0:=(SW.refl h).swp a pv oM oM
 have hz0:=swp_size d a pv
 unfold Go.Sort.partitionEqual at hK
 generalize hD:Go.Sort.swp d a pv=D at*
 have e1:(a:Int)+1=((a+1:Nat):Int):=oM
 have e2:(b:Int)-1=((b-1:Nat):Int):=oM
 have t3:∀(i0 j0:Nat) (D0:Array Nat),D0.size=d.size→(∀w',SW w w' q o (Go.Sort.partEqLoop ltN a i0 j0 D0).2→(Go.Sort.partEqLoop ltN a i0 j0 D0).2.size=d.size→a<(Go.Sort.partEqLoop ltN a i0 j0 D0).1∧(Go.Sort.partEqLoop ltN a i0 j0 D0).1≤b→K (.int .i64 (((Go.Sort.partEqLoop ltN a i0 j0 D0).1:Nat):Int)) w')→a+1≤i0→i0≤b→i0≤j0+2→a≤j0→j0<b→∀w0,SW w w0 q o D0→
   f348_l1 K (.slice (some ⟨q,o,none⟩) d.size cap) (.int .i64 ((a:Nat):Int)) (.int .i64 ((i0:Nat):Int)) (.int .i64 ((j0:Nat):Int)) w0:=by
  intro i0 j0 D0 hz hK3 b1 b2 b0 b3 b4 w0 s0
  apply f348_l1_rule (I:=fun x y w'=>∃(i j:Nat) (D1:Array Nat),x= .int .i64 (i:Int)∧y= .int .i64 (j:Int)∧a+1≤i∧i≤b∧i≤j+2∧a≤j∧j<b∧D1.size=d.size∧SW w w' q o D1∧Go.Sort.partEqLoop ltN a i j D1=Go.Sort.partEqLoop ltN a i0 j0 D0) (μ:=fun x y _=>(intOf y).toNat+1-(intOf x).toNat)
  ·exact ⟨i0,j0,D0,rfl,rfl,b1,b2,b0,b3,b4,hz,s0,rfl⟩
  ·intros;rename_i w1 hI E1 hE
   obtain ⟨i1,j1,D1,rfl,rfl,b5,b6,b9,b7,b8,hz1,sw1,eP⟩:=hI
   rw [Go.Sort.partEqLoop] at eP
   have t5:∀(i j:Nat) wB,SW w wB q o D1→i1≤i→i≤b→j≤j1→a≤j→Go.Sort.scanUp (fun x=> !ltN D1[a]! x) D1 j1 i1=i→Go.Sort.scanDown (fun x=>ltN D1[a]! x) D1 i j1=j→f348_k3 K E1 (.slice (some ⟨q,o,none⟩) d.size cap) (.int .i64 ((a:Nat):Int)) (.int .i64 ((i:Nat):Int)) (.int .i64 ((j:Nat):Int)) wB:=by
    intro i j wB swB h1 h2 h3 h4 eu ed
    simp only [eu,ed] at eP
    by_cases hij:i>j
    ·rw [if_pos hij] at eP
     rw [←eP] at hK3
     (repeat' (first|(with_reducible first|refine brS_mk (fun _=> ?_) (fun _=> ?_)|refine And.intro ?_ ?_)|(simp (disch:=try exact dZ) only [↓RBp,↓RA,↓reduceIte,Nat.reduceAdd,Nat.reduceMul,Nat.reduceEqDiff,RB,RX,RA2,f348_k3_eq,f348_k3_t,f348_k1_eq,f348_k1_t])))
     exact hK3 _ swB hz1 ⟨by show a<i;omega,h2⟩
    ·rw [if_neg hij,dif_pos oM] at eP
     have arB:=swB.ar
     have d1:=arB.cell i oM
     have d2:=arB.cell j oM
     have ar2:=arB.set i D1[j]! oM
     have d3:=ar2.cell j (by simp;omega)
     have ssw:=swB.swp i j oM oM
     have g1:(i:Int)+1=((i+1:Nat):Int):=oM
     have g2:(j:Int)-1=((j-1:Nat):Int):=oM
     (repeat' (first|(with_reducible first|refine brS_mk (fun _=> ?_) (fun _=> ?_)|refine And.intro ?_ ?_)|(simp (disch:=try exact dZ) only [↓RBp,↓RA,↓reduceIte,Nat.reduceAdd,Nat.reduceMul,Nat.reduceEqDiff,RB,RX,RA2,f348_k3_eq,f348_k3_t,d1,d2,d3,arB.frz,ar2.frz,g1,g2])))
     apply hE
     ·exact ⟨i+1,j-1,_,rfl,rfl,by omega,by omega,by omega,by omega,by omega,(swp_size _ _ _).trans hz1,ssw.drew,eP⟩
     ·simp [intOf];omega
   have t4:∀(i:Nat) wB,SW w wB q o D1→i1≤i→i≤b→Go.Sort.scanUp (fun x=> !ltN D1[a]! x) D1 j1 i1=i→f348_l3 K E1 (.slice (some ⟨q,o,none⟩) d.size cap) (.int .i64 ((a:Nat):Int)) (.int .i64 ((i:Nat):Int)) (.int .i64 ((j1:Nat):Int)) wB:=by
    intro i wB swB h1 h2 eu
    apply f348_l3_rule (I:=fun x w'=>∃j:Nat,x= .int .i64 (j:Int)∧j≤j1∧a≤j∧SW w w' q o D1∧Go.Sort.scanDown (fun x=>ltN D1[a]! x) D1 i j=Go.Sort.scanDown (fun x=>ltN D1[a]! x) D1 i j1) (μ:=fun x _=>(intOf x).toNat)
    ·exact ⟨j1,rfl,by omega,by omega,swB,rfl⟩
    ·intros;rename_i wA hIA EA hEA
     obtain ⟨j,rfl,hj1,hj2,swA,eA⟩:=hIA
     have arA:=swA.ar
     cases j with
     |zero=>
      have e0:Go.Sort.scanDown (fun x=>ltN D1[a]! x) D1 i 0=0:=rfl
      rw [e0] at eA
      unfold f348_l3_t
      (repeat' (first|(with_reducible first|refine brS_mk (fun _=> ?_) (fun _=> ?_)|refine And.intro ?_ ?_)|(simp (disch:=try exact dZ) only [↓RBp,↓RA,↓reduceIte,Nat.reduceAdd,Nat.reduceMul,Nat.reduceEqDiff,RB,RX,RA2])))
      apply t5 i 0 _ swA.drew oM oM oM oM eu eA.symm
     |succ j=>
      rw [scanDown_succ] at eA
      have gj:((j+1:Nat):Int)-1=(j:Int):=oM
      by_cases hij:i≤j+1
      ·have c1:=arA.cell (j+1) oM
       have c2:=arA.cell a oM
       cases hl:ltN D1[a]! D1[j+1]! with
       |true=>
        rw [if_pos (by simp [hl];omega)] at eA
        unfold f348_l3_t
        (repeat' (first|(with_reducible first|refine brS_mk (fun _=> ?_) (fun _=> ?_)|refine And.intro ?_ ?_)|(simp (disch:=try exact dZ) only [↓RBp,↓RA,↓reduceIte,Nat.reduceAdd,Nat.reduceMul,Nat.reduceEqDiff,RB,RX,RA2,gj,c1,c2,c_Less,hl])))
        apply hEA
        ·exact ⟨j,rfl,by omega,by omega,swA.drew,eA⟩
        ·simp [intOf]
       |false=>
        rw [if_neg (by simp [hl])] at eA
        unfold f348_l3_t
        (repeat' (first|(with_reducible first|refine brS_mk (fun _=> ?_) (fun _=> ?_)|refine And.intro ?_ ?_)|(simp (disch:=try exact dZ) only [↓RBp,↓RA,↓reduceIte,Nat.reduceAdd,Nat.reduceMul,Nat.reduceEqDiff,RB,RX,RA2,gj,c1,c2,c_Less,hl])))
        apply t5 i (j+1) _ swA.drew oM oM oM oM eu eA.symm
      ·rw [if_neg (by simp;omega)] at eA
       unfold f348_l3_t
       (repeat' (first|(with_reducible first|refine brS_mk (fun _=> ?_) (fun _=> ?_)|refine And.intro ?_ ?_)|(simp (disch:=try exact dZ) only [↓RBp,↓RA,↓reduceIte,Nat.reduceAdd,Nat.reduceMul,Nat.reduceEqDiff,RB,RX,RA2])))
       apply t5 i (j+1) _ swA.drew oM oM oM oM eu eA.symm
   unfold f348_l1_t
   apply f348_l2_rule (I:=fun x w'=>∃i:Nat,x= .int .i64 (i:Int)∧i1≤i∧i≤j1+2∧i≤b∧SW w w' q o D1∧Go.Sort.scanUp (fun x=> !ltN D1[a]! x) D1 j1 i=Go.Sort.scanUp (fun x=> !ltN D1[a]! x) D1 j1 i1) (μ:=fun x _=>j1+3-(intOf x).toNat)
   ·exact ⟨i1,rfl,by omega,by omega,by omega,sw1,rfl⟩
   ·intros;rename_i wA hIA EA hEA
    obtain ⟨i,rfl,hi1,hi2,hi3,swA,eA⟩:=hIA
    rw [scanUp_eq] at eA
    have arA:=swA.ar
    have gi:(i:Int)+1=((i+1:Nat):Int):=oM
    by_cases hij:i≤j1
    ·have c1:=arA.cell i oM
     have c2:=arA.cell a oM
     cases hl:ltN D1[a]! D1[i]! with
     |false=>
      rw [if_pos (by simp [hl];omega)] at eA
      unfold f348_l2_t
      (repeat' (first|(with_reducible first|refine brS_mk (fun _=> ?_) (fun _=> ?_)|refine And.intro ?_ ?_)|(simp (disch:=try exact dZ) only [↓RBp,↓RA,↓reduceIte,Nat.reduceAdd,Nat.reduceMul,Nat.reduceEqDiff,RB,RX,RA2,gi,c1,c2,c_Less,hl])))
      apply hEA
      ·exact ⟨i+1,rfl,by omega,by omega,by omega,swA.drew,eA⟩
      ·simp [intOf];omega
     |true=>
      rw [if_neg (by simp [hl])] at eA
      unfold f348_l2_t
      (repeat' (first|(with_reducible first|refine brS_mk (fun _=> ?_) (fun _=> ?_)|refine And.intro ?_ ?_)|(simp (disch:=try exact dZ) only [↓RBp,↓RA,↓reduceIte,Nat.reduceAdd,Nat.reduceMul,Nat.reduceEqDiff,RB,RX,RA2,gi,c1,c2,c_Less,hl,f348_k2_eq,f348_k2_t])))
      apply t4 i _ swA.drew oM oM eA.symm
    ·rw [if_neg (by simp;omega)] at eA
     unfold f348_l2_t
     (repeat' (first|(with_reducible first|refine brS_mk (fun _=> ?_) (fun _=> ?_)|refine And.intro ?_ ?_)|(simp (disch:=try exact dZ) only [↓RBp,↓RA,↓reduceIte,Nat.reduceAdd,Nat.reduceMul,Nat.reduceEqDiff,RB,RX,RA2,gi,f348_k2_eq,f348_k2_t])))
     apply t4 i _ swA.drew oM oM eA.symm
 refine f348_call _ _ _ _ _ _ ?_
 unfold f348_t
 (repeat' (first|(with_reducible first|refine brS_mk (fun _=> ?_) (fun _=> ?_)|refine And.intro ?_ ?_)|(simp (disch:=try exact dZ) only [↓RBp,↓RA,↓reduceIte,Nat.reduceAdd,Nat.reduceMul,Nat.reduceEqDiff,RB,RX,RA2,e1,e2,c0,cp,cq,h.frz,ar0.frz])))
 apply t3 (a+1) (b-1) D hz0 hK oM oM oM oM oM _ sw0.drew
end
section
variable {w w':World} {q o cap:Nat} {d:Array Nat}
theorem scanSorted_eq (d:Array Nat) (b i:Nat):Go.Sort.scanSorted ltN d b i=if (decide (i<b)&& !ltN d[i]! d[i-1]!)=true then Go.Sort.scanSorted ltN d b (i+1) else i:=by rw [Go.Sort.scanSorted]
theorem shiftDown_succ (j:Nat) (d:Array Nat):Go.Sort.shiftDown ltN (j+1) d=if (!ltN d[j+1]! d[j]!)=true then d else Go.Sort.shiftDown ltN j (Go.Sort.swp d (j+1) j):=rfl
theorem shiftUp_eq (b j:Nat) (d:Array Nat):Go.Sort.shiftUp ltN b j d=if j<b then (if (!ltN d[j]! d[j-1]!)=true then d else Go.Sort.shiftUp ltN b (j+1) (Go.Sort.swp d j (j-1))) else d:=by rw [Go.Sort.shiftUp]
theorem partialIns_succ (a b s i:Nat) (d:Array Nat):Go.Sort.partialIns ltN a b (s+1) i d=(if Go.Sort.scanSorted ltN d b i=b then (d,true) else if b-a<50 then (d,false) else
  Go.Sort.partialIns ltN a b s (Go.Sort.scanSorted ltN d b i) (if b-Go.Sort.scanSorted ltN d b i≥2 then Go.Sort.shiftUp ltN b (Go.Sort.scanSorted ltN d b i+1) (if Go.Sort.scanSorted ltN d b i-a≥2 then Go.Sort.shiftDown ltN (Go.Sort.scanSorted ltN d b i-1) (Go.Sort.swp d (Go.Sort.scanSorted ltN d b i) (Go.Sort.scanSorted ltN d b i-1)) else Go.Sort.swp d (Go.Sort.scanSorted ltN d b i) (Go.Sort.scanSorted ltN d b i-1)) else (if Go.Sort.scanSorted ltN d b i-a≥2 then Go.Sort.shiftDown ltN (Go.Sort.scanSorted ltN d b i-1) (Go.Sort.swp d (Go.Sort.scanSorted ltN d b i) (Go.Sort.scanSorted ltN d b i-1)) else Go.Sort.swp d (Go.Sort.scanSorted ltN d b i) (Go.Sort.scanSorted ltN d b i-1)))):=rfl
theorem k_pis (h:Ar w q o d) (hd:d.size<1099511627776) (a b:Nat) (hab:a+1<b) (hb:b≤d.size) (K:K1) (hK:∀w',SW w w' q o (Go.Sort.partialInsertionSort ltN d a b).1→(Go.Sort.partialInsertionSort ltN d a b).1.size=d.size→K (.bool (Go.Sort.partialInsertionSort ltN d a b).2) w'):
  callS prog 346 #[.slice (some ⟨q,o,none⟩) d.size cap,.int .i64 (a:Int),.int .i64 (b:Int)] w K:=by
 have e1:(a:Int)+1=((a+1:Nat):Int):=oM
 refine f346_call _ _ _ _ _ ?_
 unfold f346_t
 simp (disch:=try exact dZ) only [↓RBp,↓RA,↓reduceIte,Nat.reduceAdd,Nat.reduceMul,Nat.reduceEqDiff,RB,RX,RA2,e1]
 generalize hT:Go.Sort.partialInsertionSort ltN d a b=T at*
 apply f346_l1_rule (I:=fun x y w'=>∃(i j:Nat) (D:Array Nat),x= .int .i64 (i:Int)∧y= .int .i64 (j:Int)∧j≤5∧a+1≤i∧i≤b∧D.size=d.size∧SW w w' q o D∧Go.Sort.partialIns ltN a b (5-j) i D=T) (μ:=fun _ y _=>6-(intOf y).toNat)
 ·exact ⟨a+1,0,d,rfl,rfl,by omega,by omega,by omega,rfl,SW.refl h,hT⟩
 ·intro x7 x8 w1 hI E1 hE
  obtain ⟨i0,jj,D,rfl,rfl,hj5,b1,b2,hz,sw,eT⟩:=hI
  by_cases hj:jj<5
  ·obtain ⟨s,hs⟩:∃s,5-jj=s+1:=⟨4-jj,by omega⟩
   rw [hs,partialIns_succ] at eT
   have es:5-(jj+1)=s:=oM
   have gj:(jj:Int)+1=((jj+1:Nat):Int):=oM
   have t2:∀(i:Nat) (D3:Array Nat) wB,a+1≤i→i≤b→D3.size=d.size→SW w wB q o D3→Go.Sort.partialIns ltN a b s i D3=T→f346_k2 K E1 (.slice (some ⟨q,o,none⟩) d.size cap) (.int .i64 ((a:Nat):Int)) (.int .i64 ((b:Nat):Int)) (.int .i64 ((i:Nat):Int)) (.int .i64 ((jj:Nat):Int)) wB:=by
    intro i D3 wB h1 h2 hz3 sw3 e3
    simp (disch:=try exact dZ) only [↓RBp,↓RA,↓reduceIte,Nat.reduceAdd,Nat.reduceMul,Nat.reduceEqDiff,RB,RX,RA2,f346_k2_eq,f346_k2_t,gj]
    apply hE
    ·exact ⟨i,jj+1,D3,rfl,rfl,by omega,h1,h2,hz3,sw3,by rw [es];exact e3⟩
    ·simp [intOf];omega
   have t4:∀(i:Nat) (D2:Array Nat) wB,a+1≤i→i<b→D2.size=d.size→SW w wB q o D2→Go.Sort.partialIns ltN a b s i (if b-i≥2 then Go.Sort.shiftUp ltN b (i+1) D2 else D2)=T→f346_k4 K E1 (.slice (some ⟨q,o,none⟩) d.size cap) (.int .i64 ((a:Nat):Int)) (.int .i64 ((b:Nat):Int)) (.int .i64 ((i:Nat):Int)) (.int .i64 ((jj:Nat):Int)) wB:=by
    intro i D2 wB h1 h2 hz2 sw2 e2
    have g1:(b:Int)-(i:Int)=((b-i:Nat):Int):=oM
    have g2:(i:Int)+1=((i+1:Nat):Int):=oM
    by_cases hbi:b-i≥2
    ·rw [if_pos hbi] at e2
     simp (disch:=try exact dZ) only [↓RBp,↓RA,↓reduceIte,Nat.reduceAdd,Nat.reduceMul,Nat.reduceEqDiff,RB,RX,RA2,f346_k4_eq,f346_k4_t,g1,g2]
     apply f346_l4_rule (I:=fun x w'=>∃(j:Nat) (D3:Array Nat),x= .int .i64 (j:Int)∧i+1≤j∧j≤b∧D3.size=d.size∧SW w w' q o D3∧Go.Sort.shiftUp ltN b j D3=Go.Sort.shiftUp ltN b (i+1) D2) (μ:=fun x _=>b+1-(intOf x).toNat)
     ·exact ⟨i+1,D2,rfl,by omega,by omega,hz2,sw2,rfl⟩
     ·intros;rename_i wA hIA EA hEA
      obtain ⟨j,D3,rfl,h3,h4,hz3,swA,eA⟩:=hIA
      rw [shiftUp_eq] at eA
      have arA:=swA.ar
      have q1:(j:Int)-1=((j-1:Nat):Int):=oM
      have q2:(j:Int)+1=((j+1:Nat):Int):=oM
      by_cases hjb:j<b
      ·rw [if_pos hjb] at eA
       have c1:=arA.cell j oM
       have c2:=arA.cell (j-1) oM
       cases hl:ltN D3[j]! D3[j-1]! with
       |true=>
        rw [hl,if_neg (by simp)] at eA
        have ar2:=arA.set j D3[j-1]! oM
        have c3:=ar2.cell (j-1) (by simp;omega)
        have ssw:=swA.swp j (j-1) oM oM
        unfold f346_l4_t
        (repeat' (first|(with_reducible first|refine brS_mk (fun _=> ?_) (fun _=> ?_)|refine And.intro ?_ ?_)|(simp (disch:=try exact dZ) only [↓RBp,↓RA,↓reduceIte,Nat.reduceAdd,Nat.reduceMul,Nat.reduceEqDiff,RB,RX,RA2,q1,q2,c1,c2,c3,c_Less,hl,arA.frz,ar2.frz])))
        apply hEA
        ·exact ⟨j+1,_,rfl,by omega,by omega,(swp_size _ _ _).trans hz3,ssw.drew.drew,eA⟩
        ·simp [intOf];omega
       |false=>
        rw [hl,if_pos (by simp)] at eA
        unfold f346_l4_t
        (repeat' (first|(with_reducible first|refine brS_mk (fun _=> ?_) (fun _=> ?_)|refine And.intro ?_ ?_)|(simp (disch:=try exact dZ) only [↓RBp,↓RA,↓reduceIte,Nat.reduceAdd,Nat.reduceMul,Nat.reduceEqDiff,RB,RX,RA2,q1,q2,c1,c2,c_Less,hl])))
        apply t2 i D3 _ h1 oM hz3 swA.drew (by rw [eA];exact e2)
      ·rw [if_neg hjb] at eA
       unfold f346_l4_t
       (repeat' (first|(with_reducible first|refine brS_mk (fun _=> ?_) (fun _=> ?_)|refine And.intro ?_ ?_)|(simp (disch:=try exact dZ) only [↓RBp,↓RA,↓reduceIte,Nat.reduceAdd,Nat.reduceMul,Nat.reduceEqDiff,RB,RX,RA2,q1,q2])))
       apply t2 i D3 _ h1 oM hz3 swA (by rw [eA];exact e2)
    ·rw [if_neg hbi] at e2
     simp (disch:=try exact dZ) only [↓RBp,↓RA,↓reduceIte,Nat.reduceAdd,Nat.reduceMul,Nat.reduceEqDiff,RB,RX,RA2,f346_k4_eq,f346_k4_t,g1,g2]
     apply t2 i D2 _ h1 oM hz2 sw2 e2
   have t3:∀(i:Nat) wB,a+1≤i→i≤b→SW w wB q o D→Go.Sort.scanSorted ltN D b i0=i→f346_k3 K E1 (.slice (some ⟨q,o,none⟩) d.size cap) (.int .i64 ((a:Nat):Int)) (.int .i64 ((b:Nat):Int)) (.int .i64 ((i:Nat):Int)) (.int .i64 ((jj:Nat):Int)) wB:=by
    intro i wB h1 h2 swB ei
    rw [ei] at eT
    by_cases hib:i=b
    ·rw [if_pos hib] at eT
     rw [←eT] at hK
     subst hib
     simp (disch:=try exact dZ) only [↓RBp,↓RA,↓reduceIte,Nat.reduceAdd,Nat.reduceMul,Nat.reduceEqDiff,RB,RX,RA2,f346_k3_eq,f346_k3_t]
     exact hK _ swB hz
    ·rw [if_neg hib] at eT
     have g1:(b:Int)-(a:Int)=((b-a:Nat):Int):=oM
     have g2:(i:Int)-1=((i-1:Nat):Int):=oM
     have g3:(i:Int)-(a:Int)=((i-a:Nat):Int):=oM
     by_cases h50:b-a<50
     ·rw [if_pos h50] at eT
      rw [←eT] at hK
      simp (disch:=try exact dZ) only [↓RBp,↓RA,↓reduceIte,Nat.reduceAdd,Nat.reduceMul,Nat.reduceEqDiff,RB,RX,RA2,f346_k3_eq,f346_k3_t,g1]
      exact hK _ swB hz
     ·rw [if_neg h50] at eT
      have arB:=swB.ar
      have c1:=arB.cell i oM
      have c2:=arB.cell (i-1) oM
      have ar2:=arB.set i D[i-1]! oM
      have c3:=ar2.cell (i-1) (by simp;omega)
      have ssw:=swB.swp i (i-1) oM oM
      have hz1:=(swp_size D i (i-1)).trans hz
      by_cases hia:i-a≥2
      ·rw [if_pos hia] at eT
       (repeat' (first|(with_reducible first|refine brS_mk (fun _=> ?_) (fun _=> ?_)|refine And.intro ?_ ?_)|(simp (disch:=try exact dZ) only [↓RBp,↓RA,↓reduceIte,Nat.reduceAdd,Nat.reduceMul,Nat.reduceEqDiff,RB,RX,RA2,f346_k3_eq,f346_k3_t,g1,g2,g3,c1,c2,c3,arB.frz,ar2.frz])))
       apply f346_l3_rule (I:=fun x w'=>∃(j:Nat) (D2:Array Nat),x= .int .i64 (j:Int)∧j≤i-1∧D2.size=d.size∧SW w w' q o D2∧Go.Sort.shiftDown ltN j D2=Go.Sort.shiftDown ltN (i-1) (Go.Sort.swp D i (i-1))) (μ:=fun x _=>(intOf x).toNat)
       ·exact ⟨i-1,_,rfl,by omega,hz1,ssw.drew,rfl⟩
       ·intros;rename_i wA hIA EA hEA
        obtain ⟨j,D2,rfl,h3,hz2,swA,eA⟩:=hIA
        have arA:=swA.ar
        cases j with
        |zero=>
         have e0:Go.Sort.shiftDown ltN 0 D2=D2:=rfl
         rw [e0] at eA
         unfold f346_l3_t
         (repeat' (first|(with_reducible first|refine brS_mk (fun _=> ?_) (fun _=> ?_)|refine And.intro ?_ ?_)|(simp (disch:=try exact dZ) only [↓RBp,↓RA,↓reduceIte,Nat.reduceAdd,Nat.reduceMul,Nat.reduceEqDiff,RB,RX,RA2])))
         apply t4 i D2 _ h1 oM hz2 swA (by rw [eA];exact eT)
        |succ j=>
         rw [shiftDown_succ] at eA
         have q1:((j+1:Nat):Int)-1=(j:Int):=oM
         have d1:=arA.cell (j+1) oM
         have d2:=arA.cell j oM
         cases hl:ltN D2[j+1]! D2[j]! with
         |true=>
          rw [hl,if_neg (by simp)] at eA
          have ar3:=arA.set (j+1) D2[j]! oM
          have d3:=ar3.cell j (by simp;omega)
          have ssw2:=swA.swp (j+1) j oM oM
          unfold f346_l3_t
          (repeat' (first|(with_reducible first|refine brS_mk (fun _=> ?_) (fun _=> ?_)|refine And.intro ?_ ?_)|(simp (disch:=try exact dZ) only [↓RBp,↓RA,↓reduceIte,Nat.reduceAdd,Nat.reduceMul,Nat.reduceEqDiff,RB,RX,RA2,q1,d1,d2,d3,c_Less,hl,arA.frz,ar3.frz])))
          apply hEA
          ·exact ⟨j,_,rfl,by omega,(swp_size _ _ _).trans hz2,ssw2.drew.drew,eA⟩
          ·simp [intOf]
         |false=>
          rw [hl,if_pos (by simp)] at eA
          unfold f346_l3_t
          (repeat' (first|(with_reducible first|refine brS_mk (fun _=> ?_) (fun _=> ?_)|refine And.intro ?_ ?_)|(simp (disch:=try exact dZ) only [↓RBp,↓RA,↓reduceIte,Nat.reduceAdd,Nat.reduceMul,Nat.reduceEqDiff,RB,RX,RA2,q1,d1,d2,c_Less,hl])))
          apply t4 i D2 _ h1 oM hz2 swA.drew (by rw [eA];exact eT)
      ·rw [if_neg hia] at eT
       (repeat' (first|(with_reducible first|refine brS_mk (fun _=> ?_) (fun _=> ?_)|refine And.intro ?_ ?_)|(simp (disch:=try exact dZ) only [↓RBp,↓RA,↓reduceIte,Nat.reduceAdd,Nat.reduceMul,Nat.reduceEqDiff,RB,RX,RA2,f346_k3_eq,f346_k3_t,g1,g2,g3,c1,c2,c3,arB.frz,ar2.frz])))
       apply t4 i _ _ h1 oM hz1 ssw.drew eT
   unfold f346_l1_t
   simp (disch:=try exact dZ) only [↓RBp,↓RA,↓reduceIte,Nat.reduceAdd,Nat.reduceMul,Nat.reduceEqDiff,RB,RX,RA2]
   apply f346_l2_rule (I:=fun x w'=>∃i:Nat,x= .int .i64 (i:Int)∧a+1≤i∧i≤b∧SW w w' q o D∧Go.Sort.scanSorted ltN D b i=Go.Sort.scanSorted ltN D b i0) (μ:=fun x _=>b+1-(intOf x).toNat)
   ·exact ⟨i0,rfl,b1,b2,sw,rfl⟩
   ·intros;rename_i wA hIA EA hEA
    obtain ⟨i,rfl,h1,h2,swA,eA⟩:=hIA
    rw [scanSorted_eq] at eA
    have arA:=swA.ar
    have q1:(i:Int)-1=((i-1:Nat):Int):=oM
    have q2:(i:Int)+1=((i+1:Nat):Int):=oM
    by_cases hib:i<b
    ·have c1:=arA.cell i oM
     have c2:=arA.cell (i-1) oM
     cases hl:ltN D[i]! D[i-1]! with
     |false=>
      rw [if_pos (by simp [hl];omega)] at eA
      unfold f346_l2_t
      (repeat' (first|(with_reducible first|refine brS_mk (fun _=> ?_) (fun _=> ?_)|refine And.intro ?_ ?_)|(simp (disch:=try exact dZ) only [↓RBp,↓RA,↓reduceIte,Nat.reduceAdd,Nat.reduceMul,Nat.reduceEqDiff,RB,RX,RA2,q1,q2,c1,c2,c_Less,hl])))
      apply hEA
      ·exact ⟨i+1,rfl,by omega,by omega,swA.drew,eA⟩
      ·simp [intOf];omega
     |true=>
      rw [if_neg (by simp [hl])] at eA
      unfold f346_l2_t
      (repeat' (first|(with_reducible first|refine brS_mk (fun _=> ?_) (fun _=> ?_)|refine And.intro ?_ ?_)|(simp (disch:=try exact dZ) only [↓RBp,↓RA,↓reduceIte,Nat.reduceAdd,Nat.reduceMul,Nat.reduceEqDiff,RB,RX,RA2,q1,q2,c1,c2,c_Less,hl])))
      apply t3 i _ h1 h2 swA.drew eA.symm
    ·rw [if_neg (by simp;omega)] at eA
     unfold f346_l2_t
     (repeat' (first|(with_reducible first|refine brS_mk (fun _=> ?_) (fun _=> ?_)|refine And.intro ?_ ?_)|(simp (disch:=try exact dZ) only [↓RBp,↓RA,↓reduceIte,Nat.reduceAdd,Nat.reduceMul,Nat.reduceEqDiff,RB,RX,RA2])))
     apply t3 i _ h1 h2 swA.drew eA.symm
  ·have:jj=5:=oM
   subst this
   have e0:Go.Sort.partialIns ltN a b (5-5) i0 D=(D,false):=rfl
   rw [e0] at eT
   rw [←eT] at hK
   unfold f346_l1_t
   simp (disch:=try exact dZ) only [↓RBp,↓RA,↓reduceIte,Nat.reduceAdd,Nat.reduceMul,Nat.reduceEqDiff,RB,RX,RA2,f346_k1_eq,f346_k1_t]
   exact hK _ sw hz
end
section
variable {w w':World} {q o cap:Nat} {d:Array Nat}
def pd3 (D:Array Nat) (a b lim pv:Nat) (wb wp:Bool):Array Nat:=
 if (decide (a>0)&& !ltN D[a-1]! D[pv]!)=true then
  match Go.Sort.partitionEqual ltN D a b pv with
  |(mid,d4)=>if _h:a<mid∧mid≤b then Go.Sort.pdq ltN d4 mid b lim wb wp else d4
 else
  match Go.Sort.partition ltN D a b pv with
  |(mid,ap,d4)=>
   if _h:a≤mid∧mid<b then
    if mid-a<b-mid then Go.Sort.pdq ltN (Go.Sort.pdq ltN d4 a mid lim true true) (mid+1) b lim (decide (mid-a≥(b-a)/8)) ap
    else Go.Sort.pdq ltN (Go.Sort.pdq ltN d4 (mid+1) b lim true true) a mid lim (decide (b-mid≥(b-a)/8)) ap
   else d4
def pd2 (D:Array Nat) (a b lim pv:Nat) (hint:Go.Sort.Hint) (wb wp:Bool):Array Nat:=
 let pi:=if wb&&wp&&hint= .increasing then Go.Sort.partialInsertionSort ltN D a b else (D,false)
 if pi.2 then pi.1 else pd3 pi.1 a b lim pv wb wp
def pd1 (D:Array Nat) (a b lim:Nat) (wb wp:Bool):Array Nat:=
 let c:=Go.Sort.choosePivot ltN D a b
 pd2 (if c.2= .decreasing then Go.Sort.reverseRange D a b else D) a b lim (if c.2= .decreasing then (b-1)-(c.1-a) else c.1) (if c.2= .decreasing then Go.Sort.Hint.increasing else c.2) wb wp
theorem pdq_eq (D:Array Nat) (a b lim:Nat) (wb wp:Bool):Go.Sort.pdq ltN D a b lim wb wp=if b-a≤12 then Go.Sort.insertionSort ltN D a b else if lim=0 then Go.Sort.heapSort ltN D a b else pd1 (if !wb then Go.Sort.breakPatterns D a b else D) a b (if !wb then lim-1 else lim) wb wp:=by
 rw [Go.Sort.pdq]
 rfl
theorem k_pdq:∀(N:Nat) (w:World) (d:Array Nat) (a0 b0 lim0:Nat) (K:K1),b0-a0≤N→Ar w q o d→d.size<1099511627776→a0≤b0→b0≤d.size→lim0<1099511627776→(∀w',SW w w' q o (Go.Sort.pdq ltN d a0 b0 lim0 true true)→(Go.Sort.pdq ltN d a0 b0 lim0 true true).size=d.size→K (.tuple #[]) w')→
  callS prog 302 #[.slice (some ⟨q,o,none⟩) d.size cap,.int .i64 (a0:Int),.int .i64 (b0:Int),.int .i64 (lim0:Int)] w K:=by
 intro N
 induction N using Nat.strongRecOn with
 |ind N ih=>
 intro w d a0 b0 lim0 K hN h hd hab hb hlim hK
 refine f302_call _ _ _ _ _ _ ?_
 unfold f302_t
 generalize hT:Go.Sort.pdq ltN d a0 b0 lim0 true true=T at*
 apply f302_l1_rule (I:=fun x1 x2 x3 x8 x9 w'=>∃(a b lim:Nat) (wb wp:Bool) (D:Array Nat),x1= .int .i64 (a:Int)∧x2= .int .i64 (b:Int)∧x3= .int .i64 (lim:Int)∧x8= .bool wb∧x9= .bool wp∧b-a≤b0-a0∧a≤b∧b≤d.size∧lim≤lim0∧D.size=d.size∧SW w w' q o D∧Go.Sort.pdq ltN D a b lim wb wp=T) (μ:=fun x1 x2 _ _ _ _=>(intOf x2).toNat-(intOf x1).toNat)
 ·exact ⟨a0,b0,lim0,true,true,d,rfl,rfl,rfl,rfl,rfl,Nat.le_refl _,hab,hb,Nat.le_refl _,rfl,SW.refl h,hT⟩
 ·intro x1 x2 x3 x8 x9 w1 hI E1 hE
  obtain ⟨a,b,lim0',wb,wp,D,rfl,rfl,rfl,rfl,rfl,hba,hab1,hb1,hl1,hz,sw,eT⟩:=hI
  rw [pdq_eq] at eT
  have g0:(b:Int)-(a:Int)=((b-a:Nat):Int):=oM
  by_cases h12:b-a≤12
  ·rw [if_pos h12] at eT
   unfold f302_l1_t
   simp (disch:=try exact dZ) only [↓RBp,↓RA,↓reduceIte,Nat.reduceAdd,Nat.reduceMul,Nat.reduceEqDiff,RB,RX,RA2,g0]
   rw [←hz]
   refine k_ins sw.ar oM a b hab1 oM _ (fun w2 h2 hz2=> ?_)
   rw [eT] at h2 hz2
   exact hK _ (sw.trans h2) (hz2.trans hz)
  ·rw [if_neg h12] at eT
   by_cases hl0:lim0'=0
   ·rw [if_pos hl0] at eT
    subst hl0
    unfold f302_l1_t
    simp (disch:=try exact dZ) only [↓RBp,↓RA,↓reduceIte,Nat.reduceAdd,Nat.reduceMul,Nat.reduceEqDiff,RB,RX,RA2,g0]
    rw [←hz]
    refine k_heap sw.ar oM a b oM oM _ (fun w2 h2 hz2=> ?_)
    rw [eT] at h2 hz2
    exact hK _ (sw.trans h2) (hz2.trans hz)
   ·rw [if_neg hl0] at eT
    have t3:∀(lim pv:Nat) (D3:Array Nat) wB,lim≤lim0'→a≤pv→pv<b→D3.size=d.size→SW w wB q o D3→pd3 D3 a b lim pv wb wp=T→f302_k3 K E1 (.slice (some ⟨q,o,none⟩) d.size cap) (.int .i64 ((a:Nat):Int)) (.int .i64 ((b:Nat):Int)) (.int .i64 ((lim:Nat):Int)) (.bool wb) (.bool wp) (.int .i64 (((b-a):Nat):Int)) (.int .i64 ((pv:Nat):Int)) wB:=by
     intro lim pv D3 wB hl hp1 hp2 hz3 sw3 e3
     unfold pd3 at e3
     have ar3:=sw3.ar
     have cc:=ar3.cell pv oM
     by_cases ha:a>0
     ·have ga:(a:Int)-1=((a-1:Nat):Int):=oM
      have ca:=ar3.cell (a-1) oM
      cases hlt:ltN D3[a-1]! D3[pv]! with
      |false=>
       rw [hlt,if_pos (by simp;omega)] at e3
       have kk:=fun K hK=>k_partEq (cap:=cap) (K:=K) sw3.drew.ar oM a b pv oM oM hp1 hp2 hK
       generalize Go.Sort.partitionEqual ltN D3 a b pv=R at*
       obtain ⟨mid,d4⟩:=R
       simp only at e3 kk
       (repeat' (first|(with_reducible first|refine brS_mk (fun _=> ?_) (fun _=> ?_)|refine And.intro ?_ ?_)|(simp (disch:=try exact dZ) only [↓RBp,↓RA,↓reduceIte,Nat.reduceAdd,Nat.reduceMul,Nat.reduceEqDiff,RB,RX,RA2,f302_k3_eq,f302_k3_t,ga,ca,cc,c_Less,hlt])))
       rw [←hz3]
       refine kk _ (fun w4 h4 hz4 hr4=> ?_)
       rw [dif_pos hr4] at e3
       try rw [hz3]
       apply hE
       ·exact ⟨mid,b,lim,wb,wp,d4,rfl,rfl,rfl,rfl,rfl,by omega,by omega,by omega,by omega,hz4.trans hz3,sw3.drew.trans h4,e3⟩
       ·simp [intOf];omega
      |true=>
       rw [hlt,if_neg (by simp)] at e3
       (repeat' (first|(with_reducible first|refine brS_mk (fun _=> ?_) (fun _=> ?_)|refine And.intro ?_ ?_)|(simp (disch:=try exact dZ) only [↓RBp,↓RA,↓reduceIte,Nat.reduceAdd,Nat.reduceMul,Nat.reduceEqDiff,RB,RX,RA2,f302_k3_eq,f302_k3_t,ga,ca,cc,c_Less,hlt])))
       have hst:=Go.Sort.partition_holds ltN ltN_swo D3 a b pv hp1 hp2 oM
       have kk:=fun K hK=>k_part (cap:=cap) (K:=K) sw3.drew.ar oM a b pv oM oM hp1 hp2 hK
       generalize Go.Sort.partition ltN D3 a b pv=R at*
       obtain ⟨mid,ap,d4⟩:=R
       simp only at e3 hst kk
       obtain ⟨m1,m2,_⟩:=hst
       rw [dif_pos ⟨m1,m2⟩] at e3
       rw [←hz3]
       refine kk _ (fun w4 h4 hz4=> ?_)
       have g1:(mid:Int)-(a:Int)=((mid-a:Nat):Int):=oM
       have g2:(b:Int)-(mid:Int)=((b-mid:Nat):Int):=oM
       have g3:(mid:Int)+1=((mid+1:Nat):Int):=oM
       have g4:((b-a:Nat):Int)/8=(((b-a)/8:Nat):Int):=oM
       have hz5:d4.size=d.size:=hz4.trans hz3
       have f1:decide (((b-a:Nat):Int)/8≤(mid:Int)-(a:Int))=decide (mid-a≥(b-a)/8):=by
        have:(((b-a:Nat):Int)/8≤(mid:Int)-(a:Int))=(mid-a≥(b-a)/8):=propext oM
        simp only [this]
       have f2:decide (((b-a:Nat):Int)/8≤(b:Int)-(mid:Int))=decide (b-mid≥(b-a)/8):=by
        have:(((b-a:Nat):Int)/8≤(b:Int)-(mid:Int))=(b-mid≥(b-a)/8):=propext oM
        simp only [this]
       by_cases hmm:mid-a<b-mid
       ·rw [if_pos hmm] at e3
        simp (disch:=try exact dZ) only [↓RBp,↓RA,↓reduceIte,Nat.reduceAdd,Nat.reduceMul,Nat.reduceEqDiff,RB,RX,RA2,g0,f1,f2,g1,g2,g4]
        rw [hz3,←hz5]
        refine ih (mid-a) oM w4 d4 a mid lim _ (Nat.le_refl _) h4.ar oM m1 oM oM (fun w5 h5 hz6=> ?_)
        try rw [hz5]
        simp (disch:=try exact dZ) only [↓RBp,↓RA,↓reduceIte,Nat.reduceAdd,Nat.reduceMul,Nat.reduceEqDiff,RB,RX,RA2,g3]
        apply hE
        ·exact ⟨mid+1,b,lim,decide (mid-a≥(b-a)/8),ap,_,rfl,rfl,rfl,by rw [f1],rfl,by omega,by omega,by omega,by omega,hz6.trans hz5,(sw3.drew.trans h4).trans h5,e3⟩
        ·simp [intOf];omega
       ·rw [if_neg hmm] at e3
        simp (disch:=try exact dZ) only [↓RBp,↓RA,↓reduceIte,Nat.reduceAdd,Nat.reduceMul,Nat.reduceEqDiff,RB,RX,RA2,g0,f1,f2,g1,g2,g3,g4]
        rw [hz3,←hz5]
        refine ih (b-(mid+1)) oM w4 d4 (mid+1) b lim _ (Nat.le_refl _) h4.ar oM oM oM oM (fun w5 h5 hz6=> ?_)
        try rw [hz5]
        apply hE
        ·exact ⟨a,mid,lim,decide (b-mid≥(b-a)/8),ap,_,rfl,rfl,rfl,by rw [f2],rfl,by omega,by omega,by omega,by omega,hz6.trans hz5,(sw3.drew.trans h4).trans h5,e3⟩
        ·simp [intOf];omega
     ·rw [if_neg (by simp [ha])] at e3
      (repeat' (first|(with_reducible first|refine brS_mk (fun _=> ?_) (fun _=> ?_)|refine And.intro ?_ ?_)|(simp (disch:=try exact dZ) only [↓RBp,↓RA,↓reduceIte,Nat.reduceAdd,Nat.reduceMul,Nat.reduceEqDiff,RB,RX,RA2,f302_k3_eq,f302_k3_t])))
      have hst:=Go.Sort.partition_holds ltN ltN_swo D3 a b pv hp1 hp2 oM
      have kk:=fun K hK=>k_part (cap:=cap) (K:=K) sw3.drew.ar oM a b pv oM oM hp1 hp2 hK
      generalize Go.Sort.partition ltN D3 a b pv=R at*
      obtain ⟨mid,ap,d4⟩:=R
      simp only at e3 hst kk
      obtain ⟨m1,m2,_⟩:=hst
      rw [dif_pos ⟨m1,m2⟩] at e3
      rw [←hz3]
      refine kk _ (fun w4 h4 hz4=> ?_)
      have g1:(mid:Int)-(a:Int)=((mid-a:Nat):Int):=oM
      have g2:(b:Int)-(mid:Int)=((b-mid:Nat):Int):=oM
      have g3:(mid:Int)+1=((mid+1:Nat):Int):=oM
      have g4:((b-a:Nat):Int)/8=(((b-a)/8:Nat):Int):=oM
      have hz5:d4.size=d.size:=hz4.trans hz3
      have f1:decide (((b-a:Nat):Int)/8≤(mid:Int)-(a:Int))=decide (mid-a≥(b-a)/8):=by
       have:(((b-a:Nat):Int)/8≤(mid:Int)-(a:Int))=(mid-a≥(b-a)/8):=propext oM
       simp only [this]
      have f2:decide (((b-a:Nat):Int)/8≤(b:Int)-(mid:Int))=decide (b-mid≥(b-a)/8):=by
       have:(((b-a:Nat):Int)/8≤(b:Int)-(mid:Int))=(b-mid≥(b-a)/8):=propext oM
       simp only [this]
      by_cases hmm:mid-a<b-mid
      ·rw [if_pos hmm] at e3
       simp (disch:=try exact dZ) only [↓RBp,↓RA,↓reduceIte,Nat.reduceAdd,Nat.reduceMul,Nat.reduceEqDiff,RB,RX,RA2,g0,f1,f2,g1,g2,g4]
       rw [hz3,←hz5]
       refine ih (mid-a) oM w4 d4 a mid lim _ (Nat.le_refl _) h4.ar oM m1 oM oM (fun w5 h5 hz6=> ?_)
       try rw [hz5]
       simp (disch:=try exact dZ) only [↓RBp,↓RA,↓reduceIte,Nat.reduceAdd,Nat.reduceMul,Nat.reduceEqDiff,RB,RX,RA2,g3]
       apply hE
       ·exact ⟨mid+1,b,lim,decide (mid-a≥(b-a)/8),ap,_,rfl,rfl,rfl,by rw [f1],rfl,by omega,by omega,by omega,by omega,hz6.trans hz5,(sw3.drew.trans h4).trans h5,e3⟩
       ·simp [intOf];omega
      ·rw [if_neg hmm] at e3
       simp (disch:=try exact dZ) only [↓RBp,↓RA,↓reduceIte,Nat.reduceAdd,Nat.reduceMul,Nat.reduceEqDiff,RB,RX,RA2,g0,f1,f2,g1,g2,g3,g4]
       rw [hz3,←hz5]
       refine ih (b-(mid+1)) oM w4 d4 (mid+1) b lim _ (Nat.le_refl _) h4.ar oM oM oM oM (fun w5 h5 hz6=> ?_)
       try rw [hz5]
       apply hE
       ·exact ⟨a,mid,lim,decide (b-mid≥(b-a)/8),ap,_,rfl,rfl,rfl,by rw [f2],rfl,by omega,by omega,by omega,by omega,hz6.trans hz5,(sw3.drew.trans h4).trans h5,e3⟩
       ·simp [intOf];omega
    have t2:∀(lim pv:Nat) (hh:Go.Sort.Hint) (D2:Array Nat) wB,lim≤lim0'→a≤pv→pv<b→D2.size=d.size→SW w wB q o D2→pd2 D2 a b lim pv hh wb wp=T→f302_k2 K E1 (.slice (some ⟨q,o,none⟩) d.size cap) (.int .i64 ((a:Nat):Int)) (.int .i64 ((b:Nat):Int)) (.int .i64 ((lim:Nat):Int)) (.bool wb) (.bool wp) (.int .i64 (((b-a):Nat):Int)) (.int .i64 ((pv:Nat):Int)) (.int .i64 (hintN hh)) wB:=by
     intro lim pv hh D2 wB hl hp1 hp2 hz2 sw2 e2
     unfold pd2 at e2
     have nopi:(wb&&wp&&decide (hh= .increasing))=false→pd3 D2 a b lim pv wb wp=T:=by
      intro hc
      simpa [hc] using e2
     cases hwb:wb with
     |false=>
      rw [hwb] at nopi t3
      simp (disch:=try exact dZ) only [↓RBp,↓RA,↓reduceIte,Nat.reduceAdd,Nat.reduceMul,Nat.reduceEqDiff,RB,RX,RA2,f302_k2_eq,f302_k2_t]
      apply t3 lim pv D2 _ hl hp1 hp2 hz2 sw2 (nopi (by simp))
     |true=>
      cases hwp:wp with
      |false=>
       rw [hwb,hwp] at nopi t3
       simp (disch:=try exact dZ) only [↓RBp,↓RA,↓reduceIte,Nat.reduceAdd,Nat.reduceMul,Nat.reduceEqDiff,RB,RX,RA2,f302_k2_eq,f302_k2_t]
       apply t3 lim pv D2 _ hl hp1 hp2 hz2 sw2 (nopi (by simp))
      |true=>
       rw [hwb,hwp] at nopi t3 e2
       by_cases hi:hh= .increasing
       ·have e2':(if (Go.Sort.partialInsertionSort ltN D2 a b).2=true then (Go.Sort.partialInsertionSort ltN D2 a b).1 else pd3 (Go.Sort.partialInsertionSort ltN D2 a b).1 a b lim pv true true)=T:=by simpa [hi] using e2
        have kk:=fun K hK=>k_pis (cap:=cap) (K:=K) sw2.ar oM a b oM oM hK
        generalize Go.Sort.partialInsertionSort ltN D2 a b=R at*
        obtain ⟨d5,r5⟩:=R
        simp only at e2' kk
        subst hi
        have hn1:hintN .increasing=1:=rfl
        simp (disch:=try exact dZ) only [↓RBp,↓RA,↓reduceIte,Nat.reduceAdd,Nat.reduceMul,Nat.reduceEqDiff,RB,RX,RA2,f302_k2_eq,f302_k2_t,hn1]
        rw [←hz2]
        refine kk _ (fun w4 h4 hz4=> ?_)
        try rw [hz2]
        cases r5 with
        |true=>
         rw [if_pos rfl] at e2'
         rw [←e2'] at hK
         simp (disch:=try exact dZ) only [↓RBp,↓RA,↓reduceIte,Nat.reduceAdd,Nat.reduceMul,Nat.reduceEqDiff,RB,RX,RA2]
         exact hK _ (sw2.trans h4) (hz4.trans hz2)
        |false=>
         rw [if_neg (by simp)] at e2'
         simp (disch:=try exact dZ) only [↓RBp,↓RA,↓reduceIte,Nat.reduceAdd,Nat.reduceMul,Nat.reduceEqDiff,RB,RX,RA2]
         apply t3 lim pv d5 _ hl hp1 hp2 (hz4.trans hz2) (sw2.trans h4) e2'
       ·have hn1:¬hintN hh=1:=by cases hh<;>simp_all [hintN]
        simp (disch:=try exact dZ) only [↓RBp,↓RA,↓reduceIte,Nat.reduceAdd,Nat.reduceMul,Nat.reduceEqDiff,RB,RX,RA2,f302_k2_eq,f302_k2_t,dec_false hn1]
        apply t3 lim pv D2 _ hl hp1 hp2 hz2 sw2 (nopi (by simp [hi]))
    have t1:∀(lim:Nat) (D1:Array Nat) wB,lim≤lim0'→D1.size=d.size→SW w wB q o D1→pd1 D1 a b lim wb wp=T→f302_k1 K E1 (.slice (some ⟨q,o,none⟩) d.size cap) (.int .i64 ((a:Nat):Int)) (.int .i64 ((b:Nat):Int)) (.int .i64 ((lim:Nat):Int)) (.bool wb) (.bool wp) (.int .i64 (((b-a):Nat):Int)) wB:=by
     intro lim D1 wB hl hz1 sw1 e1
     unfold pd1 at e1
     have hcp:=Go.Sort.choosePivot_holds ltN D1 a b oM
     have kk:=fun K hK=>k_choose (cap:=cap) (K:=K) sw1.ar oM a b oM oM hK
     generalize Go.Sort.choosePivot ltN D1 a b=C at*
     obtain ⟨pv,hh⟩:=C
     simp only at e1 hcp kk
     simp (disch:=try exact dZ) only [↓RBp,↓RA,↓reduceIte,Nat.reduceAdd,Nat.reduceMul,Nat.reduceEqDiff,RB,RX,RA2,f302_k1_eq,f302_k1_t]
     rw [←hz1]
     refine kk _ (fun w2 h2=> ?_)
     try rw [hz1]
     have sw2:SW w w2 q o D1:=⟨sw1.ar.frm (Frm.of_ext (F:=fun _=>False) h2) (fun h=>h),sw1.frm.ext h2,sw1.oth.same (h2.blk _ sw1.ar.lt)⟩
     by_cases hdec:hh= .decreasing
     ·subst hdec
      simp only [if_true] at e1
      have hn1:hintN .decreasing=2:=rfl
      have g1:(b:Int)-1=((b-1:Nat):Int):=oM
      have g2:(pv:Int)-(a:Int)=((pv-a:Nat):Int):=oM
      have g3:((b-1:Nat):Int)-((pv-a:Nat):Int)=((b-1-(pv-a):Nat):Int):=oM
      simp (disch:=try exact dZ) only [↓RBp,↓RA,↓reduceIte,Nat.reduceAdd,Nat.reduceMul,Nat.reduceEqDiff,RB,RX,RA2,hn1]
      rw [←hz1]
      refine k_reverse sw2.ar oM a b oM oM _ (fun w3 h3 hz3=> ?_)
      try rw [hz1]
      simp (disch:=try exact dZ) only [↓RBp,↓RA,↓reduceIte,Nat.reduceAdd,Nat.reduceMul,Nat.reduceEqDiff,RB,RX,RA2,g1,g2,g3]
      have tt:=t2 lim (b-1-(pv-a)) .increasing (Go.Sort.reverseRange D1 a b) w3 hl oM oM (hz3.trans hz1) (sw2.trans h3) e1
      rw [show hintN .increasing=1 from rfl] at tt
      apply tt
     ·simp only [hdec,if_false] at e1
      have hn1:¬hintN hh=2:=by cases hh<;>simp_all [hintN]
      simp (disch:=try exact dZ) only [↓RBp,↓RA,↓reduceIte,Nat.reduceAdd,Nat.reduceMul,Nat.reduceEqDiff,RB,RX,RA2,dec_false hn1]
      apply t2 lim pv hh D1 _ hl hcp.1 hcp.2 hz1 sw2 e1
    have gl:(lim0':Int)-1=((lim0'-1:Nat):Int):=oM
    unfold f302_l1_t
    (repeat' (first|(with_reducible first|refine brS_mk (fun _=> ?_) (fun _=> ?_)|refine And.intro ?_ ?_)|(simp (disch:=try exact dZ) only [↓RBp,↓RA,↓reduceIte,Nat.reduceAdd,Nat.reduceMul,Nat.reduceEqDiff,RB,RX,RA2,g0])))
    ·rename_i hw
     have i1:(if (!wb)=true then Go.Sort.breakPatterns D a b else D)=D:=if_neg (by simp [hw])
     have i2:(if (!wb)=true then lim0'-1 else lim0')=lim0':=if_neg (by simp [hw])
     rw [i1,i2] at eT
     apply t1 lim0' D _ (Nat.le_refl _) hz sw eT
    ·rename_i hw
     have hw':wb=false:=by simpa using hw
     have i1:(if (!wb)=true then Go.Sort.breakPatterns D a b else D)=Go.Sort.breakPatterns D a b:=if_pos (by simp [hw'])
     have i2:(if (!wb)=true then lim0'-1 else lim0')=lim0'-1:=if_pos (by simp [hw'])
     rw [i1,i2] at eT
     rw [←hz]
     refine k_break sw.ar oM a b oM oM _ (fun w2 h2 hz2=> ?_)
     try rw [hz]
     simp (disch:=try exact dZ) only [↓RBp,↓RA,↓reduceIte,Nat.reduceAdd,Nat.reduceMul,Nat.reduceEqDiff,RB,RX,RA2,gl,g0]
     apply t1 (lim0'-1) _ _ oM (hz2.trans hz) (sw.trans h2) eT
end
def f67_t (x0:Value) (K:K1) (w:World):Prop:=
 ev prog (binM .lss 3 (.tmp 4) (.const (.int .i64 1)) x0 (.int .i64 1)) w fun t5 w=>
 gd t5 false (fun k=>k x0 w) w fun t7 w=>
 gd t5 false (fun k=>ev prog (binM .gtr 3 (.tmp 7) (.const (.int .i64 4096)) t7 (.int .i64 4096)) w k) w fun t8 w=>
 pickS t5 (.bool true) t8 w fun t9 w=>
 cndS t9 (
 K (.tuple #[(.pointer none),(.int .i64 1)]) w) (
 ev prog (binM .mul 3 (.tmp 10) (.const (.int .i64 8)) x0 (.int .i64 8)) w fun t11 w=>
 ev prog (Instr.makeSlice 34 t11 t11) w fun t12 w=>
 callS prog 115 (pA #[t12]) w fun t13 w=>
 K (.tuple #[t13,(.int .i64 0)]) w)
theorem f67_call (x0:Value) (K:K1) (w:World) (h:f67_t x0 K w):callS prog 67 #[x0] w K:=
 call_of_txt (args:= [x0]) mixed Tryz.func67 .o kR (cast kR h)
def f68_t (x0 x1:Value) (K:K1) (w:World):Prop:=
 ev prog (binM .eql 111 (.tmp 5) (.const (.pointer none)) x0 (.pointer none)) w fun t6 w=>
 gd t6 false (fun k=>k x1 w) w fun t8 w=>
 gd t6 false (fun k=>ev prog (binM .lss 3 (.tmp 8) (.const (.int .i64 0)) t8 (.int .i64 0)) w k) w fun t9 w=>
 pickS t6 (.bool true) t9 w fun t10 w=>
 gd t10 false (fun k=>k x1 w) w fun t12 w=>
 gd t10 false (fun k=>ev prog (binM .geq 3 (.tmp 12) (.const (.int .i64 8)) t12 (.int .i64 8)) w k) w fun t13 w=>
 pickS t10 (.bool true) t13 w fun t14 w=>
 cndS t14 (
 K (.pointer none) w) (
 nilS prog x0 w fun t17 w=>
 ev prog (Instr.fieldAt 220 t17 3) w fun t18 w=>
 ev prog (Instr.indexAt 218 t18 x1) w fun t19 w=>
 ldS prog 87 t19 w fun t20 w=>
 K t20 w)
theorem f68_call (x0 x1:Value) (K:K1) (w:World) (h:f68_t x0 x1 K w):callS prog 68 #[x0,x1] w K:=
 call_of_txt (args:= [x0,x1]) mixed Tryz.func68 .o kR (cast kR h)
def f77_t (x0 x1 x2:Value) (K:K1) (w:World):Prop:=
 ev prog (binM .eql 87 (.tmp 6) (.const (.pointer none)) x0 (.pointer none)) w fun t7 w=>
 gd t7 false (fun k=>k x0 w) w fun t9 w=>
 gd t7 false (fun k=>nilS prog t9 w k) w fun t10 w=>
 gd t7 false (fun k=>ev prog (Instr.fieldAt 262 t10 0) w k) w fun t11 w=>
 gd t7 false (fun k=>ldS prog 111 t11 w k) w fun t12 w=>
 gd t7 false (fun k=>ev prog (binM .eql 111 (.tmp 12) (.const (.pointer none)) t12 (.pointer none)) w k) w fun t13 w=>
 pickS t7 (.bool true) t13 w fun t14 w=>
 gd t14 false (fun k=>k x0 w) w fun t16 w=>
 gd t14 false (fun k=>k x0 w) w fun t17 w=>
 gd t14 false (fun k=>k x1 w) w fun t18 w=>
 gd t14 false (fun k=>callS prog 139 (pA #[t17,t18]) w k) w fun t19 w=>
 gd t14 false (fun k=>callS prog 138 (pA #[t16,t19]) w k) w fun t20 w=>
 gd t14 false (fun k=>ev prog (Op.unary .not t20) w k) w fun t21 w=>
 pickS t14 (.bool true) t21 w fun t22 w=>
 cndS t22 (
 K (.tuple #[]) w) (
 callS prog 140 (pA #[x0,x1,x2]) w fun t26 w=>
 K (.tuple #[]) w)
theorem f77_call (x0 x1 x2:Value) (K:K1) (w:World) (h:f77_t x0 x1 x2 K w):callS prog 77 #[x0,x1,x2] w K:=
 call_of_txt (args:= [x0,x1,x2]) mixed Tryz.func77 .o kR (cast kR h)
noncomputable def f115_u:Code×Dec:=((Tryz.f115.body).getD .skip,(.s .o (.x 8 .o (.x 8 (.s .o (.b (.l [14] 8 268419088 .o))) .o))))
abbrev f115_e (K:K1):KF:=endK prog Tryz.f115.results.toList K
def f115_k1_o (K:K1):KF:=fun fr w=>∀σ,cP (pr (pr f115_u)) (f115_e K) (f115_e K) nX (mixF 8 σ 0 fr) w
def f115_k1 (K:K1) (x3:Value) (w:World):Prop:=f115_k1_o K (fz 29 0 [(3,x3)]) w
def f115_k2_o (K:K1):KF:=fun fr w=>∀σ,cP (pr (pr (pr f115_u))) (f115_e K) (f115_e K) nX (mixF 8 σ 0 fr) w
def f115_k2 (K:K1) (x3:Value) (w:World):Prop:=f115_k2_o K (fz 29 0 [(3,x3)]) w
def f115_l1 (K:K1) (x3 x14:Value) (w:World):Prop:=loopT [14] 8 (fun E=>cP (pl (pl (pr (pl (pr (pr f115_u)))))) E (f115_e K) (exB 0 (f115_k2_o K) nX)) (fz 29 0 [(3,x3),(14,x14)]) w
def f115_k1_t (x3:Value) (K:K1) (w:World):Prop:=
 f115_l1 K x3 (.int .i64 0) w
theorem f115_k1_eq (K:K1) (x3:Value) (w:World):f115_k1 K x3 w=f115_k1_t x3 K w:=cutE fun σ=>by kernel_rfl
def f115_k2_t (x3:Value) (K:K1) (w:World):Prop:=
 K x3 w
theorem f115_k2_eq (K:K1) (x3:Value) (w:World):f115_k2 K x3 w=f115_k2_t x3 K w:=cutE fun σ=>by kernel_rfl
def f115_l1_t (x3 x14:Value) (K:K1) (E1:VP1) (w:World):Prop:=
 ev prog (binM .lss 3 (.tmp 14) (.const (.int .i64 8)) x14 (.int .i64 8)) w fun t15 w=>
 cndS t15 (
 ev prog (Instr.makeMap 260 none) w fun t21 w=>
 ev prog (Instr.build 262 #[(0,x3),(1,x14),(3,t21)]) w fun t22 w=>
 ev prog (Instr.box 262 t22) w fun t23 w=>
 nilS prog x3 w fun t24 w=>
 ev prog (Instr.fieldAt 220 t24 3) w fun t25 w=>
 ev prog (Instr.indexAt 218 t25 x14) w fun t26 w=>
 stS prog 87 t26 t23 w fun w=>
 ev prog (binM .add 3 (.tmp 14) (.const (.int .i64 1)) x14 (.int .i64 1)) w fun t27 w=>
 E1 t27 w) (
 f115_k2 K x3 w)
theorem f115_l1_rule (x3 x14:Value) (K:K1) (w:World) (I:VP1) (μ:Value→World→Nat) (h0:I x14 w)
  (hr:∀(x14:Value) (w:World),I x14 w→∀E1:VP1,(∀(y14:Value) (w':World),I y14 w'→μ y14 w'<μ x14 w→E1 y14 w')→f115_l1_t x3 x14 K E1 w):f115_l1 K x3 x14 w:=
 ⟨I,μ,h0,fun σ w hI E hE=>cast kR (hr (σ 14) w hI E hE)⟩
def f115_t (x0:Value) (K:K1) (w:World):Prop:=
 rd prog (Builtin.len_ #[34] 3 #[x0]) w.drew fun t9=>
 rd prog (binM .quo 3 (.tmp 9) (.const (.int .i64 8)) t9 (.int .i64 8)) w.drew fun t10=>
 (callS prog 178 (pA #[x0]) w.drew fun t7 w=>
 (ag prog (Builtin.len_ #[34] 3 #[x0]) w t9)∧
 (ag prog (binM .quo 3 (.tmp 9) (.const (.int .i64 8)) t9 (.int .i64 8)) w t10)∧
 ev prog (Instr.makeSlice 217 t10 t10) w fun t11 w=>
 rd prog (Instr.build 220 #[(0,x0),(1,t7),(2,t11)]) w fun t12=>
 ev prog (Instr.box 220 t12) w fun t13 w=>
 f115_k1 K t13 w)∧
 (ev prog (Instr.makeSlice 217 t10 t10) w.drew fun t11_1 w=>
 callS prog 178 (pA #[x0]) w fun t7_1 w=>
 (ag prog (Builtin.len_ #[34] 3 #[x0]) w t9)∧
 (ag prog (binM .quo 3 (.tmp 9) (.const (.int .i64 8)) t9 (.int .i64 8)) w t10)∧
 rd prog (Instr.build 220 #[(0,x0),(1,t7_1),(2,t11_1)]) w fun t12_1=>
 ev prog (Instr.box 220 t12_1) w fun t13_1 w=>
 f115_k1 K t13_1 w)
theorem f115_call (x0:Value) (K:K1) (w:World) (h:f115_t x0 K w):callS prog 115 #[x0] w K:=
 call_of_txt (args:= [x0]) mixed Tryz.func115 f115_u.2 kR (cast kR h)
def f126_t (x0:Value) (K:K1) (w:World):Prop:=
 ev prog (binM .eql 87 (.tmp 3) (.const (.pointer none)) x0 (.pointer none)) w fun t4 w=>
 cndS t4 (
 K (.int .i64 0) w) (
 nilS prog x0 w fun t6 w=>
 ev prog (Instr.fieldAt 262 t6 1) w fun t7 w=>
 ldS prog 3 t7 w fun t8 w=>
 K t8 w)
theorem f126_call (x0:Value) (K:K1) (w:World) (h:f126_t x0 K w):callS prog 126 #[x0] w K:=
 call_of_txt (args:= [x0]) mixed Tryz.func126 .o kR (cast kR h)
def f127_t (x0:Value) (K:K1) (w:World):Prop:=
 ev prog (binM .eql 87 (.tmp 3) (.const (.pointer none)) x0 (.pointer none)) w fun t4 w=>
 gd t4 false (fun k=>k x0 w) w fun t6 w=>
 gd t4 false (fun k=>nilS prog t6 w k) w fun t7 w=>
 gd t4 false (fun k=>ev prog (Instr.fieldAt 262 t7 0) w k) w fun t8 w=>
 gd t4 false (fun k=>ldS prog 111 t8 w k) w fun t9 w=>
 gd t4 false (fun k=>ev prog (binM .eql 111 (.tmp 9) (.const (.pointer none)) t9 (.pointer none)) w k) w fun t10 w=>
 pickS t4 (.bool true) t10 w fun t11 w=>
 cndS t11 (
 K (.int .i64 1) w) (
 nilS prog x0 w fun t13 w=>
 ev prog (Instr.fieldAt 262 t13 2) w fun t14 w=>
 ldS prog 30 t14 w fun t15 w=>
 K t15 w)
theorem f127_call (x0:Value) (K:K1) (w:World) (h:f127_t x0 K w):callS prog 127 #[x0] w K:=
 call_of_txt (args:= [x0]) mixed Tryz.func127 .o kR (cast kR h)
noncomputable def f138_u:Code×Dec:=((Tryz.f138.body).getD .skip,(.s .o (.s .o (.s .o (.x 32 .o .o)))))
abbrev f138_e (K:K1):KF:=endK prog Tryz.f138.results.toList K
def f138_k1_o (K:K1):KF:=fun fr w=>∀σ,cP (pr (pr (pr (pr f138_u)))) (f138_e K) (f138_e K) nX (mixF 32 σ 0 fr) w
def f138_k1 (K:K1) (x5:Value) (w:World):Prop:=f138_k1_o K (fz 42 0 [(5,x5)]) w
def f138_k1_t (x5:Value) (K:K1) (w:World):Prop:=
 nilS prog x5 w fun t36 w=>
 ev prog (Instr.fieldAt 220 t36 7) w fun t37 w=>
 ldS prog 41 t37 w fun t38 w=>
 ev prog (binM .add 41 (.tmp 38) (.const (.int .u64 ((1:Nat):Int))) t38 (.int .u64 ((1:Nat):Int))) w fun t39 w=>
 nilS prog x5 w fun t40 w=>
 ev prog (Instr.fieldAt 220 t40 7) w fun t41 w=>
 stS prog 41 t41 t39 w fun w=>
 K (.bool true) w
theorem f138_k1_eq (K:K1) (x5:Value) (w:World):f138_k1 K x5 w=f138_k1_t x5 K w:=cutE fun σ=>by kernel_rfl
def f138_t (x0 x1:Value) (K:K1) (w:World):Prop:=
 callS prog 206 (pA #[x0,x1]) w fun t8 w=>
 ev prog (Op.unary .not t8) w fun t9 w=>
 cndS t9 (
 K (.bool false) w) (
 nilS prog x0 w fun t11 w=>
 ev prog (Instr.fieldAt 262 t11 0) w fun t12 w=>
 ldS prog 111 t12 w fun t13 w=>
 nilS prog t13 w fun t15 w=>
 ev prog (Instr.fieldAt 220 t15 5) w fun t16 w=>
 ldS prog 4 t16 w fun t17 w=>
 cndS t17 (
 nilS prog t13 w fun t19 w=>
 ev prog (Instr.fieldAt 220 t19 6) w fun t20 w=>
 ldS prog 3 t20 w fun t21 w=>
 ev prog (binM .eql 3 (.tmp 21) (.const (.int .i64 0)) t21 (.int .i64 0)) w fun t22 w=>
 cndS t22 (
 nilS prog t13 w fun t24 w=>
 ev prog (Instr.fieldAt 220 t24 4) w fun t25 w=>
 stS prog 4 t25 (.bool true) w fun w=>
 callS prog 207 (pA #[x0,(.int .i64 3)]) w fun t27 w=>
 K (.bool false) w) (
 nilS prog t13 w fun t29 w=>
 ev prog (Instr.fieldAt 220 t29 6) w fun t30 w=>
 ldS prog 3 t30 w fun t31 w=>
 ev prog (binM .sub 3 (.tmp 31) (.const (.int .i64 1)) t31 (.int .i64 1)) w fun t32 w=>
 nilS prog t13 w fun t33 w=>
 ev prog (Instr.fieldAt 220 t33 6) w fun t34 w=>
 stS prog 3 t34 t32 w fun w=>
 f138_k1 K t13 w)) (
 f138_k1 K t13 w))
theorem f138_call (x0 x1:Value) (K:K1) (w:World) (h:f138_t x0 x1 K w):callS prog 138 #[x0,x1] w K:=
 call_of_txt (args:= [x0,x1]) mixed Tryz.func138 f138_u.2 kR (cast kR h)
def f139_t (x0 x1:Value) (K:K1) (w:World):Prop:=
 ev prog (binM .rem 41 (.tmp 5) (.const (.int .u64 ((8:Nat):Int))) x1 (.int .u64 ((8:Nat):Int))) w fun t6 w=>
 ev prog (binM .eql 41 (.tmp 6) (.const (.int .u64 ((0:Nat):Int))) t6 (.int .u64 ((0:Nat):Int))) w fun t7 w=>
 gd t7 true (fun k=>k x1 w) w fun t9 w=>
 gd t7 true (fun k=>k x0 w) w fun t10 w=>
 gd t7 true (fun k=>nilS prog t10 w k) w fun t11 w=>
 gd t7 true (fun k=>ev prog (Instr.fieldAt 262 t11 0) w k) w fun t12 w=>
 gd t7 true (fun k=>ldS prog 111 t12 w k) w fun t13 w=>
 gd t7 true (fun k=>callS prog 208 (pA #[t13]) w k) w fun t14 w=>
 gd t7 true (fun k=>ev prog (binM .lss 41 (.tmp 9) (.tmp 14) t9 t14) w k) w fun t15 w=>
 pickS t7 t15 (.bool false) w fun t16 w=>
 K t16 w
theorem f139_call (x0 x1:Value) (K:K1) (w:World) (h:f139_t x0 x1 K w):callS prog 139 #[x0,x1] w K:=
 call_of_txt (args:= [x0,x1]) mixed Tryz.func139 .o kR (cast kR h)
def f140_t (x0 x1 x2:Value) (K:K1) (w:World):Prop:=
 nilS prog x0 w fun t8 w=>
 ev prog (Instr.fieldAt 262 t8 0) w fun t9 w=>
 ldS prog 111 t9 w fun t10 w=>
 nilS prog t10 w fun t11 w=>
 ev prog (Instr.fieldAt 220 t11 2) w fun t12 w=>
 ldS prog 217 t12 w fun t13 w=>
 ev prog (binM .quo 41 (.tmp 14) (.const (.int .u64 ((64:Nat):Int))) x1 (.int .u64 ((64:Nat):Int))) w fun t15 w=>
 ev prog (Instr.indexAt 217 t13 t15) w fun t16 w=>
 nilS prog t16 w fun t19 w=>
 ev prog (Instr.fieldAt 354 t19 1) w fun t20 w=>
 ldS prog 247 t20 w fun t21 w=>
 ev prog (Instr.build 255 #[(0,x1),(1,x2)]) w fun t24 w=>
 ev prog (Instr.buildSlice 247 1 #[(0,t24)]) w fun t25 w=>
 bltS prog .append #[247,247] 247 #[false,false] (pA #[t21,t25]) w fun t26 w=>
 nilS prog t16 w fun t27 w=>
 ev prog (Instr.fieldAt 354 t27 1) w fun t28 w=>
 stS prog 247 t28 t26 w fun w=>
 nilS prog x0 w fun t30 w=>
 ev prog (Instr.fieldAt 262 t30 0) w fun t31 w=>
 ldS prog 111 t31 w fun t32 w=>
 nilS prog t32 w fun t33 w=>
 ev prog (Instr.fieldAt 220 t33 1) w fun t34 w=>
 ldS prog 34 t34 w fun t35 w=>
 ev prog (binM .quo 41 (.tmp 36) (.const (.int .u64 ((8:Nat):Int))) x1 (.int .u64 ((8:Nat):Int))) w fun t37 w=>
 ev prog (Instr.indexAt 34 t35 t37) w fun t39 w=>
 stS prog 41 t39 x2 w fun w=>
 K (.tuple #[]) w
theorem f140_call (x0 x1 x2:Value) (K:K1) (w:World) (h:f140_t x0 x1 x2 K w):callS prog 140 #[x0,x1,x2] w K:=
 call_of_txt (args:= [x0,x1,x2]) mixed Tryz.func140 .o kR (cast kR h)
def f178_t (x0:Value) (K:K1) (w:World):Prop:=
 ev prog (binM .eql 34 (.tmp 3) (.const (.slice none 0 0)) x0 (.slice none 0 0)) w fun t4 w=>
 cndS t4 (
 K (.slice none 0 0) w) (
 ev prog (Instr.buildSlice 34 0 #[]) w fun t5 w=>
 bltS prog .append #[34,34] 34 #[false,false] (pA #[t5,x0]) w fun t7 w=>
 K t7 w)
theorem f178_call (x0:Value) (K:K1) (w:World) (h:f178_t x0 K w):callS prog 178 #[x0] w K:=
 call_of_txt (args:= [x0]) mixed Tryz.func178 .o kR (cast kR h)
noncomputable def f206_u:Code×Dec:=((Tryz.f206.body).getD .skip,(.s .o (.x 0 .o .o)))
abbrev f206_e (K:K1):KF:=endK prog Tryz.f206.results.toList K
def f206_k1_o (K:K1):KF:=fun fr w=>∀σ,cP (pr (pr f206_u)) (f206_e K) (f206_e K) nX (mixF 0 σ 0 fr) w
def f206_k1 (K:K1) (w:World):Prop:=f206_k1_o K (fz 20 0 []) w
def f206_k1_t (K:K1) (w:World):Prop:=
 K (.bool false) w
theorem f206_k1_eq (K:K1) (w:World):f206_k1 K w=f206_k1_t K w:=cutE fun σ=>by kernel_rfl
def f206_t (x0 x1:Value) (K:K1) (w:World):Prop:=
 nilS prog x0 w fun t7 w=>
 ev prog (Instr.fieldAt 262 t7 0) w fun t8 w=>
 ldS prog 111 t8 w fun t9 w=>
 nilS prog t9 w fun t10 w=>
 ev prog (Instr.fieldAt 220 t10 4) w fun t11 w=>
 ldS prog 4 t11 w fun t12 w=>
 cndS t12 (
 callS prog 207 (pA #[x0,(.int .i64 3)]) w fun t14 w=>
 f206_k1 K w) (
 ev prog (Op.unary .not x1) w fun t17 w=>
 cndS t17 (
 callS prog 207 (pA #[x0,(.int .i64 2)]) w fun t19 w=>
 f206_k1 K w) (
 K (.bool true) w))
theorem f206_call (x0 x1:Value) (K:K1) (w:World) (h:f206_t x0 x1 K w):callS prog 206 #[x0,x1] w K:=
 call_of_txt (args:= [x0,x1]) mixed Tryz.func206 f206_u.2 kR (cast kR h)
def f207_t (x0 x1:Value) (K:K1) (w:World):Prop:=
 nilS prog x0 w fun t5 w=>
 ev prog (Instr.fieldAt 262 t5 2) w fun t6 w=>
 ldS prog 30 t6 w fun t7 w=>
 ev prog (binM .eql 30 (.tmp 7) (.const (.int .i64 0)) t7 (.int .i64 0)) w fun t8 w=>
 cndS t8 (
 nilS prog x0 w fun t11 w=>
 ev prog (Instr.fieldAt 262 t11 2) w fun t12 w=>
 stS prog 30 t12 x1 w fun w=>
 K (.tuple #[]) w) (
 K (.tuple #[]) w)
theorem f207_call (x0 x1:Value) (K:K1) (w:World) (h:f207_t x0 x1 K w):callS prog 207 #[x0,x1] w K:=
 call_of_txt (args:= [x0,x1]) mixed Tryz.func207 .o kR (cast kR h)
def f208_t (x0:Value) (K:K1) (w:World):Prop:=
 callS prog 284 (pA #[x0]) w fun t4 w=>
 ev prog (convert 3 41 t4) w fun t5 w=>
 ev prog (binM .mul 41 (.tmp 5) (.const (.int .u64 ((64:Nat):Int))) t5 (.int .u64 ((64:Nat):Int))) w fun t6 w=>
 K t6 w
theorem f208_call (x0:Value) (K:K1) (w:World) (h:f208_t x0 K w):callS prog 208 #[x0] w K:=
 call_of_txt (args:= [x0]) mixed Tryz.func208 .o kR (cast kR h)
def f284_t (x0:Value) (K:K1) (w:World):Prop:=
 ev prog (binM .eql 111 (.tmp 3) (.const (.pointer none)) x0 (.pointer none)) w fun t4 w=>
 cndS t4 (
 K (.int .i64 0) w) (
 nilS prog x0 w fun t6 w=>
 ev prog (Instr.fieldAt 220 t6 2) w fun t7 w=>
 ldS prog 217 t7 w fun t8 w=>
 bltS prog .len #[217] 3 #[false] #[t8] w fun t9 w=>
 K t9 w)
theorem f284_call (x0:Value) (K:K1) (w:World) (h:f284_t x0 K w):callS prog 284 #[x0] w K:=
 call_of_txt (args:= [x0]) mixed Tryz.func284 .o kR (cast kR h)
noncomputable def f431_u:Code×Dec:=((Tryz.f431.body).getD .skip,(.s .o (.x 1 (.s .o (.b (.l [] 8388609 9007199237963804 .o))) .o)))
abbrev f431_e (K:K1):KF:=endK prog Tryz.f431.results.toList K
def f431_k1_o (K:K1):KF:=fun fr w=>∀σ,cP (pr (pr f431_u)) (f431_e K) (f431_e K) nX (mixF 1 σ 0 fr) w
def f431_k1 (K:K1) (x0:Value) (w:World):Prop:=f431_k1_o K (fz 57 0 [(0,x0)]) w
def f431_l1 (K:K1) (x0 x23:Value) (w:World):Prop:=loopT [] 8388609 (fun E=>cP (pl (pl (pr (pl (pr f431_u))))) E (f431_e K) (exB 0 (f431_k1_o K) nX)) (fz 57 0 [(0,x0),(23,x23)]) w
def f431_k1_t (x0:Value) (K:K1) (w:World):Prop:=
 nilS prog x0 w fun t54 w=>
 ev prog (Instr.fieldAt 262 t54 3) w fun t55 w=>
 ldS prog 260 t55 w fun t56 w=>
 bltS prog .clear #[260] 0 #[false] (pA #[t56]) w fun _ w=>
 K (.tuple #[]) w
theorem f431_k1_eq (K:K1) (x0:Value) (w:World):f431_k1 K x0 w=f431_k1_t x0 K w:=cutE fun σ=>by kernel_rfl
def f431_l1_t (x0 x23:Value) (K:K1) (E1:VP0) (w:World):Prop:=
 ev prog (Instr.next x23 false 0) w fun t24 w=>
 ev prog (Instr.extract t24 0) w fun t25 w=>
 cndS t25 (
 ev prog (Instr.entry x23) w fun t26 w=>
 ev prog (Instr.extract t26 0) w fun t27 w=>
 ev prog (Instr.extract t26 1) w fun t28 w=>
 nilS prog x0 w fun t30 w=>
 ev prog (Instr.fieldAt 262 t30 0) w fun t31 w=>
 ldS prog 111 t31 w fun t32 w=>
 nilS prog t32 w fun t33 w=>
 ev prog (Instr.fieldAt 220 t33 2) w fun t34 w=>
 ldS prog 217 t34 w fun t35 w=>
 ev prog (Instr.indexAt 217 t35 t27) w fun t37 w=>
 ev prog (Instr.fieldAt 354 t37 0) w fun t38 w=>
 ldS prog 41 t38 w fun t39 w=>
 ev prog (binM .gtr 41 (.tmp 40) (.tmp 41) t28 t39) w fun t42 w=>
 cndS t42 (
 nilS prog x0 w fun t44 w=>
 ev prog (Instr.fieldAt 262 t44 0) w fun t45 w=>
 ldS prog 111 t45 w fun t46 w=>
 ev prog (binM .sub 41 (.tmp 48) (.tmp 49) t28 t39) w fun t50 w=>
 ev prog (convert 41 3 t50) w fun t51 w=>
 callS prog 435 (pA #[t46,t27,t51]) w fun t52 w=>
 E1 w) (
 E1 w)) (
 f431_k1 K x0 w)
theorem f431_l1_rule (x0 x23:Value) (K:K1) (w:World) (I:VP0) (μ:World→Nat) (h0:I w)
  (hr:∀(w:World),I w→∀E1:VP0,(∀(w':World),I w'→μ w'<μ w→E1 w')→f431_l1_t x0 x23 K E1 w):f431_l1 K x0 x23 w:=
 ⟨I,μ,h0,fun σ w hI E hE=>cast kR (hr w hI E hE)⟩
def f431_t (x0:Value) (K:K1) (w:World):Prop:=
 ev prog (binM .eql 87 (.tmp 5) (.const (.pointer none)) x0 (.pointer none)) w fun t6 w=>
 gd t6 false (fun k=>k x0 w) w fun t8 w=>
 gd t6 false (fun k=>nilS prog t8 w k) w fun t9 w=>
 gd t6 false (fun k=>ev prog (Instr.fieldAt 262 t9 0) w k) w fun t10 w=>
 gd t6 false (fun k=>ldS prog 111 t10 w k) w fun t11 w=>
 gd t6 false (fun k=>ev prog (binM .eql 111 (.tmp 11) (.const (.pointer none)) t11 (.pointer none)) w k) w fun t12 w=>
 pickS t6 (.bool true) t12 w fun t13 w=>
 gd t13 false (fun k=>k x0 w) w fun t15 w=>
 gd t13 false (fun k=>callS prog 138 (pA #[t15,(.bool true)]) w k) w fun t16 w=>
 gd t13 false (fun k=>ev prog (Op.unary .not t16) w k) w fun t17 w=>
 pickS t13 (.bool true) t17 w fun t18 w=>
 cndS t18 (
 K (.tuple #[]) w) (
 nilS prog x0 w fun t20 w=>
 ev prog (Instr.fieldAt 262 t20 3) w fun t21 w=>
 ldS prog 260 t21 w fun t22 w=>
 ev prog (Instr.range 260 t22) w fun t23 w=>
 f431_l1 K x0 t23 w)
theorem f431_call (x0:Value) (K:K1) (w:World) (h:f431_t x0 K w):callS prog 431 #[x0] w K:=
 call_of_txt (args:= [x0]) mixed Tryz.func431 f431_u.2 kR (cast kR h)
def f432_t (x0 x1:Value) (K:K1) (w:World):Prop:=
 ev prog (binM .eql 87 (.tmp 6) (.const (.pointer none)) x0 (.pointer none)) w fun t7 w=>
 gd t7 false (fun k=>k x0 w) w fun t9 w=>
 gd t7 false (fun k=>nilS prog t9 w k) w fun t10 w=>
 gd t7 false (fun k=>ev prog (Instr.fieldAt 262 t10 0) w k) w fun t11 w=>
 gd t7 false (fun k=>ldS prog 111 t11 w k) w fun t12 w=>
 gd t7 false (fun k=>ev prog (binM .eql 111 (.tmp 12) (.const (.pointer none)) t12 (.pointer none)) w k) w fun t13 w=>
 pickS t7 (.bool true) t13 w fun t14 w=>
 gd t14 false (fun k=>k x0 w) w fun t16 w=>
 gd t14 false (fun k=>k x1 w) w fun t17 w=>
 gd t14 false (fun k=>k x0 w) w fun t18 w=>
 gd t14 false (fun k=>nilS prog t18 w k) w fun t19 w=>
 gd t14 false (fun k=>ev prog (Instr.fieldAt 262 t19 0) w k) w fun t20 w=>
 gd t14 false (fun k=>ldS prog 111 t20 w k) w fun t21 w=>
 gd t14 false (fun k=>callS prog 208 (pA #[t21]) w k) w fun t22 w=>
 gd t14 false (fun k=>ev prog (binM .lss 41 (.tmp 17) (.tmp 22) t17 t22) w k) w fun t23 w=>
 gd t14 false (fun k=>callS prog 138 (pA #[t16,t23]) w k) w fun t24 w=>
 gd t14 false (fun k=>ev prog (Op.unary .not t24) w k) w fun t25 w=>
 pickS t14 (.bool true) t25 w fun t26 w=>
 cndS t26 (
 K (.tuple #[]) w) (
 ev prog (binM .quo 41 (.tmp 27) (.const (.int .u64 ((64:Nat):Int))) x1 (.int .u64 ((64:Nat):Int))) w fun t28 w=>
 ev prog (convert 41 3 t28) w fun t29 w=>
 nilS prog x0 w fun t31 w=>
 ev prog (Instr.fieldAt 262 t31 0) w fun t32 w=>
 ldS prog 111 t32 w fun t33 w=>
 nilS prog t33 w fun t34 w=>
 ev prog (Instr.fieldAt 220 t34 2) w fun t35 w=>
 ldS prog 217 t35 w fun t36 w=>
 ev prog (Instr.indexAt 217 t36 t29) w fun t38 w=>
 nilR prog x0 w.drew fun t40=>
 rd prog (Instr.fieldAt 262 t40 3) w.drew fun t41=>
 ldR prog 260 t41 w.drew fun t42=>
 nilR prog t38 w.drew fun t45=>
 rd prog (Instr.fieldAt 354 t45 0) w.drew fun t46=>
 ldR prog 41 t46 w.drew fun t47=>
 nilR prog t38 w.drew fun t49=>
 rd prog (Instr.fieldAt 354 t49 1) w.drew fun t50=>
 ldR prog 247 t50 w.drew fun t51=>
 rd prog (Builtin.len_ #[247] 3 #[t51]) w.drew fun t52=>
 rd prog (convert 3 41 t52) w.drew fun t53=>
 rd prog (binM .add 41 (.tmp 47) (.tmp 53) t47 t53) w.drew fun t54=>
 ac prog (Instr.mapUpdate 260 t42 t29 t54) w.drew fun w=>
 K (.tuple #[]) w)
theorem f432_call (x0 x1:Value) (K:K1) (w:World) (h:f432_t x0 x1 K w):callS prog 432 #[x0,x1] w K:=
 call_of_txt (args:= [x0,x1]) mixed Tryz.func432 .o kR (cast kR h)
def f433_t (x0 x1:Value) (K:K1) (w:World):Prop:=
 ev prog (binM .eql 87 (.tmp 5) (.const (.pointer none)) x0 (.pointer none)) w fun t6 w=>
 gd t6 false (fun k=>k x0 w) w fun t8 w=>
 gd t6 false (fun k=>nilS prog t8 w k) w fun t9 w=>
 gd t6 false (fun k=>ev prog (Instr.fieldAt 262 t9 0) w k) w fun t10 w=>
 gd t6 false (fun k=>ldS prog 111 t10 w k) w fun t11 w=>
 gd t6 false (fun k=>ev prog (binM .eql 111 (.tmp 11) (.const (.pointer none)) t11 (.pointer none)) w k) w fun t12 w=>
 pickS t6 (.bool true) t12 w fun t13 w=>
 gd t13 false (fun k=>k x0 w) w fun t15 w=>
 gd t13 false (fun k=>k x0 w) w fun t16 w=>
 gd t13 false (fun k=>k x1 w) w fun t17 w=>
 gd t13 false (fun k=>callS prog 139 (pA #[t16,t17]) w k) w fun t18 w=>
 gd t13 false (fun k=>callS prog 206 (pA #[t15,t18]) w k) w fun t19 w=>
 gd t13 false (fun k=>ev prog (Op.unary .not t19) w k) w fun t20 w=>
 pickS t13 (.bool true) t20 w fun t21 w=>
 cndS t21 (
 K (.int .u64 ((0:Nat):Int)) w) (
 nilS prog x0 w fun t23 w=>
 ev prog (Instr.fieldAt 262 t23 0) w fun t24 w=>
 ldS prog 111 t24 w fun t25 w=>
 nilS prog t25 w fun t26 w=>
 ev prog (Instr.fieldAt 220 t26 1) w fun t27 w=>
 ldS prog 34 t27 w fun t28 w=>
 ev prog (binM .quo 41 (.tmp 29) (.const (.int .u64 ((8:Nat):Int))) x1 (.int .u64 ((8:Nat):Int))) w fun t30 w=>
 ev prog (Instr.indexAt 34 t28 t30) w fun t31 w=>
 ldS prog 41 t31 w fun t32 w=>
 K t32 w)
theorem f433_call (x0 x1:Value) (K:K1) (w:World) (h:f433_t x0 x1 K w):callS prog 433 #[x0,x1] w K:=
 call_of_txt (args:= [x0,x1]) mixed Tryz.func433 .o kR (cast kR h)
def f434_t (x0:Value) (K:K1) (w:World):Prop:=
 ev prog (binM .eql 87 (.tmp 3) (.const (.pointer none)) x0 (.pointer none)) w fun t4 w=>
 cndS t4 (
 K (.int .u64 ((0:Nat):Int)) w) (
 nilS prog x0 w fun t6 w=>
 ev prog (Instr.fieldAt 262 t6 0) w fun t7 w=>
 ldS prog 111 t7 w fun t8 w=>
 callS prog 208 (pA #[t8]) w fun t9 w=>
 K t9 w)
theorem f434_call (x0:Value) (K:K1) (w:World) (h:f434_t x0 K w):callS prog 434 #[x0] w K:=
 call_of_txt (args:= [x0]) mixed Tryz.func434 .o kR (cast kR h)
def f435_t (x0 x1 x2:Value) (K:K1) (w:World):Prop:=
 nilS prog x0 w fun t8 w=>
 ev prog (Instr.fieldAt 220 t8 2) w fun t9 w=>
 ldS prog 217 t9 w fun t10 w=>
 ev prog (Instr.indexAt 217 t10 x1) w fun t12 w=>
 nilR prog x0 w.drew fun t14=>
 rd prog (Instr.fieldAt 220 t14 0) w.drew fun t15=>
 ldR prog 34 t15 w.drew fun t16=>
 nilR prog t12 w.drew fun t18=>
 rd prog (Instr.fieldAt 354 t18 1) w.drew fun t19=>
 ldR prog 247 t19 w.drew fun t20=>
 rd prog (Instr.sliceAt 247 t20 none (some x2) none) w.drew fun t22=>
 callS prog 436 (pA #[t16,t22]) w.drew fun t23 w=>
 nilS prog t12 w fun t25 w=>
 ev prog (Instr.fieldAt 354 t25 0) w fun t26 w=>
 ldS prog 41 t26 w fun t27 w=>
 ev prog (convert 3 41 x2) w fun t29 w=>
 ev prog (binM .add 41 (.tmp 27) (.tmp 29) t27 t29) w fun t30 w=>
 nilS prog t12 w fun t31 w=>
 ev prog (Instr.fieldAt 354 t31 0) w fun t32 w=>
 stS prog 41 t32 t30 w fun w=>
 nilS prog t12 w fun t35 w=>
 ev prog (Instr.fieldAt 354 t35 1) w fun t36 w=>
 ldS prog 247 t36 w fun t37 w=>
 ev prog (Instr.sliceAt 247 t37 (some x2) none none) w fun t39 w=>
 nilS prog t12 w fun t40 w=>
 ev prog (Instr.fieldAt 354 t40 1) w fun t41 w=>
 stS prog 247 t41 t39 w fun w=>
 nilS prog t12 w fun t43 w=>
 ev prog (Instr.fieldAt 354 t43 1) w fun t44 w=>
 ldS prog 247 t44 w fun t45 w=>
 bltS prog .len #[247] 3 #[false] #[t45] w fun t46 w=>
 ev prog (binM .eql 3 (.tmp 46) (.const (.int .i64 0)) t46 (.int .i64 0)) w fun t47 w=>
 cndS t47 (
 nilS prog t12 w fun t49 w=>
 ev prog (Instr.fieldAt 354 t49 1) w fun t50 w=>
 stS prog 247 t50 (.slice none 0 0) w fun w=>
 K (.tuple #[]) w) (
 K (.tuple #[]) w)
theorem f435_call (x0 x1 x2:Value) (K:K1) (w:World) (h:f435_t x0 x1 x2 K w):callS prog 435 #[x0,x1,x2] w K:=
 call_of_txt (args:= [x0,x1,x2]) mixed Tryz.func435 .o kR (cast kR h)
noncomputable def f436_u:Code×Dec:=((Tryz.f436.body).getD .skip,(.s .o (.b (.l [8] 193 1048352 .o))))
abbrev f436_e (K:K1):KF:=endK prog Tryz.f436.results.toList K
def f436_l1 (K:K1) (x0 x6 x7 x8:Value) (w:World):Prop:=loopT [8] 193 (fun E=>cP (pl (pl (pr f436_u))) E (f436_e K) (exB 0 (f436_e K) nX)) (fz 20 0 [(0,x0),(6,x6),(7,x7),(8,x8)]) w
def f436_l1_t (x0 x6 x7 x8:Value) (K:K1) (E1:VP1) (w:World):Prop:=
 ev prog (binM .lss 3 (.tmp 8) (.tmp 7) x8 x7) w fun t9 w=>
 cndS t9 (
 ev prog (Instr.indexAt 247 x6 x8) w fun t10 w=>
 ldS prog 255 t10 w fun t11 w=>
 ev prog (Instr.alloc 255 true (.tuple #[])) w fun t5 w=>
 stS prog 255 t5 t11 w fun w=>
 ev prog (Instr.fieldAt 255 t5 0) w fun t13 w=>
 ldS prog 41 t13 w fun t14 w=>
 ev prog (binM .quo 41 (.tmp 14) (.const (.int .u64 ((8:Nat):Int))) t14 (.int .u64 ((8:Nat):Int))) w fun t15 w=>
 ev prog (Instr.fieldAt 255 t5 1) w fun t16 w=>
 ldS prog 41 t16 w fun t17 w=>
 ev prog (Instr.indexAt 34 x0 t15) w fun t18 w=>
 stS prog 41 t18 t17 w fun w=>
 ev prog (binM .add 3 (.tmp 8) (.const (.int .i64 1)) x8 (.int .i64 1)) w fun t19 w=>
 E1 t19 w) (
 K (.tuple #[]) w)
theorem f436_l1_rule (x0 x6 x7 x8:Value) (K:K1) (w:World) (I:VP1) (μ:Value→World→Nat) (h0:I x8 w)
  (hr:∀(x8:Value) (w:World),I x8 w→∀E1:VP1,(∀(y8:Value) (w':World),I y8 w'→μ y8 w'<μ x8 w→E1 y8 w')→f436_l1_t x0 x6 x7 x8 K E1 w):f436_l1 K x0 x6 x7 x8 w:=
 ⟨I,μ,h0,fun σ w hI E hE=>cast kR (hr (σ 8) w hI E hE)⟩
def f436_t (x0 x1:Value) (K:K1) (w:World):Prop:=
 bltS prog .len #[247] 3 #[false] #[x1] w fun t7 w=>
 f436_l1 K x0 x1 t7 (.int .i64 0) w
theorem f436_call (x0 x1:Value) (K:K1) (w:World) (h:f436_t x0 x1 K w):callS prog 436 #[x0,x1] w K:=
 call_of_txt (args:= [x0,x1]) mixed Tryz.func436 f436_u.2 kR (cast kR h)
structure DS where
 n:Nat
 cur:Nat→Nat
 pers:Nat→Nat
 done:Nat→Nat
 hist:Nat→List (Nat×Nat)
 off:Bool
 armed:Bool
 left:Int
 exe:Nat
 err:Nat→Int
 notes:Nat→Int→Option Nat
structure Lay where
 n:Nat
 d:Nat
 pb:Nat
 cb:Nat
 pc:Nat
 cc:Nat
 lb:Nat
 tb:Nat→Nat
 nb:Nat→Nat
 dt:Nat→Nat
 ids:Nat→Nat
 hv:Nat→Value
inductive Role
 |dev|pe|cu|li
 |th (i:Nat)|nt (i:Nat)|hs (l:Nat)
def Lay.blk (Y:Lay):Role→Option Nat
 | .dev=>some Y.d
 | .pe=>some Y.pb
 | .cu=>some Y.cb
 | .li=>some Y.lb
 | .th i=>if i<8 then some (Y.tb i) else none
 | .nt i=>if i<8 then some (Y.nb i) else none
 | .hs l=>if l<Y.n then (Y.hv l).ownBlock else none
def Lay.F (Y:Lay) (b:Nat):Prop:=∃r,Y.blk r=some b
abbrev bp (b:Nat):Value:= .pointer (some ⟨b,0,none⟩)
abbrev u64 (n:Nat):Value:= .int .u64 (n:Int)
abbrev sl (b n c:Nat):Value:= .slice (some ⟨b,0,none⟩) n c
def devF (Y:Lay) (D:DS) (i:Nat):Value:=
 if i=0 then sl Y.pb (8*D.n) Y.pc else if i=1 then sl Y.cb (8*D.n) Y.cc else if i=2 then sl Y.lb D.n D.n else
 if i<11 then bp (Y.dt (i-3)) else if i=11 then .bool D.off else if i=12 then .bool D.armed else if i=13 then .int .i64 D.left else u64 D.exe
def linF (Y:Lay) (D:DS) (i:Nat):Value:=if i%2=0 then u64 (D.done (i/2)) else Y.hv (i/2)
def thF (Y:Lay) (D:DS) (id i:Nat):Value:=if i=0 then bp Y.d else if i=1 then .int .i64 (Y.ids id:Int) else if i=2 then .int .i64 (D.err id) else .map (some (Y.nb id))
def wrL:List (Nat×Nat)→List Value
 | []=> []
 |(o,v)::l=>u64 o::u64 v::wrL l
def ntF (D:DS) (id:Nat) (i:Int):Option Value:=(D.notes id i).map u64
structure Good (D:DS):Prop where
 n0:0<D.n
 n:D.n≤4096
 cur:∀i,i<8*D.n→D.cur i<18446744073709551616
 pers:∀i,i<8*D.n→D.pers i<18446744073709551616
 hist:∀l,l<D.n→∀o v,(o,v)∈D.hist l→o%8=0∧o/64=l∧v<18446744073709551616
 cnt:∀l,l<D.n→D.done l+(D.hist l).length≤D.exe
 left:0≤D.left∧D.left<9223372036854775808
 notes:∀id,id<8→∀k p,D.notes id k=some p→0≤k∧k<D.n∧p≤D.done k.toNat+(D.hist k.toNat).length
structure Dv (w:World) (Y:Lay) (D:DS):Prop where
 yn:Y.n=D.n
 dev:Cells w Y.d 220 15 (devF Y D)
 pe:Cells w Y.pb 41 (8*D.n) (fun i=>u64 (D.pers i))
 cu:Cells w Y.cb 41 (8*D.n) (fun i=>u64 (D.cur i))
 li:Cells w Y.lb 354 (2*D.n) (linF Y D)
 hs:∀l,l<D.n→SlO w 255 2 (Y.hv l) (D.hist l).length (wrL (D.hist l))
 th:∀i,i<8→Cells w (Y.tb i) 262 4 (thF Y D i)
 nt:∀i,i<8→∃es c,MapI w (Y.nb i) es c (ntF D i)
 inj:∀r r' b,Y.blk r=some b→Y.blk r'=some b→r=r'
theorem Dv.lt {w:World} {Y:Lay} {D:DS} (h:Dv w Y D) {b:Nat} (hb:Y.F b):b<w.heap.size:=by
 obtain ⟨r,hr⟩:=hb
 cases r with
 |dev=>injection hr with hr;subst hr;exact h.dev.lt
 |pe=>injection hr with hr;subst hr;exact h.pe.lt
 |cu=>injection hr with hr;subst hr;exact h.cu.lt
 |li=>injection hr with hr;subst hr;exact h.li.lt
 |th i=>simp only [Lay.blk] at hr;split at hr<;>cases hr;exact (h.th i (by assumption)).lt
 |nt i=>
  simp only [Lay.blk] at hr;split at hr<;>cases hr
  obtain ⟨es,c,hm⟩:=h.nt i (by assumption)
  exact hm.lt
 |hs l=>
  simp only [Lay.blk] at hr;split at hr
  ·exact (h.hs l (by have:=h.yn;omega)).lt hr
  ·cases hr
theorem Dv.of_heap {w w':World} {Y:Lay} {D:DS} (h:Dv w Y D) (e:∀b,Y.F b→w'.heap[b]? =w.heap[b]?):Dv w' Y D where
 yn:=h.yn
 dev:=h.dev.of_heap (e _ ⟨.dev,rfl⟩)
 pe:=h.pe.of_heap (e _ ⟨.pe,rfl⟩)
 cu:=h.cu.of_heap (e _ ⟨.cu,rfl⟩)
 li:=h.li.of_heap (e _ ⟨.li,rfl⟩)
 hs l hl:=(h.hs l hl).of_heap (fun b hb=>e b ⟨.hs l,by have:=h.yn;simp only [Lay.blk];rw [if_pos oM];exact hb⟩)
 th i hi:=(h.th i hi).of_heap (e _ ⟨.th i,by simp [Lay.blk,hi]⟩)
 nt i hi:=by obtain ⟨es,c,hm⟩:=h.nt i hi;exact ⟨es,c,hm.of_heap (e _ ⟨.nt i,by simp [Lay.blk,hi]⟩)⟩
 inj:=h.inj
theorem Dv.ext {w w':World} {Y:Lay} {D:DS} (h:Dv w Y D) (e:Ext w w'):Dv w' Y D:=h.of_heap (fun b hb=>e.blk b (h.lt hb))
theorem Dv.frm {w w':World} {Y:Lay} {D:DS} {G:Nat→Prop} (h:Dv w Y D) (e:Frm G w w') (hG:∀b,Y.F b→¬G b):Dv w' Y D:=h.of_heap (fun b hb=>e.block b (h.lt hb) (hG b hb))
structure Stp (w:World) (Y:Lay) (w':World) (Y':Lay) (D':DS):Prop where
 dv:Dv w' Y' D'
 y:Y'={Y with hv:=Y'.hv}
 frm:Frm Y.F w w'
 fr:∀b,Y'.F b→Y.F b∨w.heap.size≤b
theorem Stp.refl {w:World} {Y:Lay} {D:DS} (h:Dv w Y D):Stp w Y w Y D:=⟨h,rfl,Frm.refl _ _,fun b hb=> .inl hb⟩
theorem Stp.ext {w w':World} {Y:Lay} {D:DS} (h:Dv w Y D) (e:Ext w w'):Stp w Y w' Y D:=⟨h.ext e,rfl,Frm.of_ext e,fun b hb=> .inl hb⟩
theorem Stp.trans {w w' w'':World} {Y Y' Y'':Lay} {D' D'':DS} (h:Stp w Y w' Y' D') (k:Stp w' Y' w'' Y'' D''):Stp w Y w'' Y'' D'' where
 dv:=k.dv
 y:=by rw [k.y,h.y]
 frm:=h.frm.trans k.frm (fun x hx hf=>by
  rcases h.fr x hf with h1|h1
  ·exact h1
  ·omega)
 fr b hb:=by
  rcases k.fr b hb with h1|h1
  ·exact h.fr b h1
  ·exact .inr (Nat.le_trans h.frm.size h1)
theorem Stp.grow {w w' w'':World} {Y Y':Lay} {D':DS} (h:Stp w Y w' Y' D') (e:Ext w' w''):Stp w Y w'' Y' D':=h.trans (Stp.ext h.dv e)
theorem Stp.pre {w0 w w':World} {Y Y':Lay} {D':DS} (e:Ext w0 w) (hl:∀b,Y.F b→b<w0.heap.size) (h:Stp w Y w' Y' D'):Stp w0 Y w' Y' D' where
 dv:=h.dv
 y:=h.y
 frm:=(Frm.of_ext e:Frm Y.F w0 w).trans h.frm (fun _ _ h=>h)
 fr b hb:=by
  rcases h.fr b hb with h1|h1
  ·exact .inl h1
  ·exact .inr (Nat.le_trans e.size h1)
theorem Stp.to {w w':World} {Y Y':Lay} {D1 D2:DS} (h:Stp w Y w' Y' D1) (e:D1=D2):Stp w Y w' Y' D2:=e▸h
theorem Stp.tb {w w':World} {Y Y':Lay} {D':DS} (h:Stp w Y w' Y' D'):Y'.tb=Y.tb:=by rw [h.y]
theorem Stp.d {w w':World} {Y Y':Lay} {D':DS} (h:Stp w Y w' Y' D'):Y'.d=Y.d:=by rw [h.y]
theorem Frm.one (w:World) (b i:Nat) (v:Value):Frm (fun x=>x=b) w (w.setCell ⟨b,i,none⟩ v):=(Frm.refl _ w).set v (fun _=>rfl)
section
variable {w w':World} {Y:Lay} {D D':DS}
theorem Dv.setDev (h:Dv w Y D) (i:Nat) (v:Value) (hi:i<15) (hv:∀j,j<15→devF Y D' j=if j=i then v else devF Y D j)
  (e:D'.n=D.n∧D'.pers=D.pers∧D'.cur=D.cur∧D'.done=D.done∧D'.hist=D.hist∧D'.err=D.err∧D'.notes=D.notes):Stp w Y (w.setCell ⟨Y.d,i,none⟩ v) Y D':=by
 have hf:=Frm.one w Y.d i v
 have ne:∀r b,Y.blk r=some b→r≠ .dev→b≠Y.d:=fun r b hr hn e=>hn (h.inj r .dev b hr (by rw [e];rfl))
 obtain ⟨e1,e2,e3,e4,e5,e6,e7⟩:=e
 refine ⟨⟨by rw [e1];exact h.yn,(h.dev.set v hi).congr (fun j hj=>(hv j hj).symm),?_,?_,?_,?_,?_,?_,h.inj⟩,rfl,hf.mono (fun b hb=>⟨.dev,by rw [hb];rfl⟩),fun b hb=> .inl hb⟩
 ·rw [e1,e2];exact h.pe.frm hf (ne .pe _ rfl (by simp))
 ·rw [e1,e3];exact h.cu.frm hf (ne .cu _ rfl (by simp))
 ·have:linF Y D'=linF Y D:=by funext j;simp [linF,e4]
  rw [e1,this];exact h.li.frm hf (ne .li _ rfl (by simp))
 ·rw [e1,e5];exact fun l hl=>(h.hs l hl).frm hf (fun b hb=>ne (.hs l) b (by simp only [Lay.blk];rw [if_pos (by have:=h.yn;omega)];exact hb) (by simp))
 ·intro j hj
  have:thF Y D' j=thF Y D j:=by funext q;simp [thF,e6]
  rw [this];exact (h.th j hj).frm hf (ne (.th j) _ (by simp [Lay.blk,hj]) (by simp))
 ·intro j hj
  have:ntF D' j=ntF D j:=by funext q;simp [ntF,e7]
  rw [this]
  obtain ⟨es,c,hm⟩:=h.nt j hj
  exact ⟨es,c,hm.of_heap (hf.block _ hm.lt (ne (.nt j) _ (by simp [Lay.blk,hj]) (by simp)))⟩
theorem Dv.setErr (h:Dv w Y D) (id:Nat) (hid:id<8) (x:Int):Stp w Y (w.setCell ⟨Y.tb id,2,none⟩ (.int .i64 x)) Y {D with err:=fun j=>if j=id then x else D.err j}:=by
 have hf:=Frm.one w (Y.tb id) 2 (.int .i64 x)
 have hb:Y.blk (.th id)=some (Y.tb id):=by simp [Lay.blk,hid]
 have ne:∀r b,Y.blk r=some b→r≠ .th id→b≠Y.tb id:=fun r b hr hn e=>hn (h.inj r (.th id) b hr (by rw [e];exact hb))
 refine ⟨⟨h.yn,h.dev.frm hf (ne .dev _ rfl (by simp)),h.pe.frm hf (ne .pe _ rfl (by simp)),h.cu.frm hf (ne .cu _ rfl (by simp)),h.li.frm hf (ne .li _ rfl (by simp)),?_,?_,?_,h.inj⟩,rfl,hf.mono (fun b hb'=>⟨.th id,by rw [hb'];exact hb⟩),fun b hb=> .inl hb⟩
 ·exact fun l hl=>(h.hs l hl).frm hf (fun b hb=>ne (.hs l) b (by simp only [Lay.blk];rw [if_pos (by have:=h.yn;have:l<D.n:=hl;omega)];exact hb) (by simp))
 ·intro j hj
  by_cases hji:j=id
  ·subst hji
   refine ((h.th j hj).set _ oM).congr (fun q hq=> ?_)
   have hq':q=0∨q=1∨q=2∨q=3:=oM
   rcases hq' with rfl|rfl|rfl|rfl<;>simp [thF]
  ·have:thF Y {D with err:=fun j=>if j=id then x else D.err j} j=thF Y D j:=by funext q;simp [thF,hji]
   rw [this];exact (h.th j hj).frm hf (ne (.th j) _ (by simp [Lay.blk,hj]) (by simpa using hji))
 ·intro j hj
  obtain ⟨es,c,hm⟩:=h.nt j hj
  exact ⟨es,c,hm.of_heap (hf.block _ hm.lt (ne (.nt j) _ (by simp [Lay.blk,hj]) (by simp)))⟩
theorem Dv.setCur (h:Dv w Y D) (i x:Nat) (hi:i<8*D.n):Stp w Y (w.setCell ⟨Y.cb,i,none⟩ (u64 x)) Y {D with cur:=fun j=>if j=i then x else D.cur j}:=by
 have hf:=Frm.one w Y.cb i (u64 x)
 have ne:∀r b,Y.blk r=some b→r≠ .cu→b≠Y.cb:=fun r b hr hn e=>hn (h.inj r .cu b hr (by rw [e];rfl))
 refine ⟨⟨h.yn,h.dev.frm hf (ne .dev _ rfl (by simp)),h.pe.frm hf (ne .pe _ rfl (by simp)),?_,h.li.frm hf (ne .li _ rfl (by simp)),?_,?_,?_,h.inj⟩,rfl,hf.mono (fun b hb'=>⟨.cu,by rw [hb'];rfl⟩),fun b hb=> .inl hb⟩
 ·exact (h.cu.set (u64 x) hi).congr (fun j hj=>by show _=u64 (if j=i then x else D.cur j);split<;>simp_all)
 ·exact fun l hl=>(h.hs l hl).frm hf (fun b hb=>ne (.hs l) b (by simp only [Lay.blk];rw [if_pos (by have:=h.yn;have:l<D.n:=hl;omega)];exact hb) (by simp))
 ·exact fun j hj=>(h.th j hj).frm hf (ne (.th j) _ (by simp [Lay.blk,hj]) (by simp))
 ·intro j hj
  obtain ⟨es,c,hm⟩:=h.nt j hj
  exact ⟨es,c,hm.of_heap (hf.block _ hm.lt (ne (.nt j) _ (by simp [Lay.blk,hj]) (by simp)))⟩
theorem Dv.setPers (h:Dv w Y D) (i x:Nat) (hi:i<8*D.n):Stp w Y (w.setCell ⟨Y.pb,i,none⟩ (u64 x)) Y {D with pers:=fun j=>if j=i then x else D.pers j}:=by
 have hf:=Frm.one w Y.pb i (u64 x)
 have ne:∀r b,Y.blk r=some b→r≠ .pe→b≠Y.pb:=fun r b hr hn e=>hn (h.inj r .pe b hr (by rw [e];rfl))
 refine ⟨⟨h.yn,h.dev.frm hf (ne .dev _ rfl (by simp)),?_,h.cu.frm hf (ne .cu _ rfl (by simp)),h.li.frm hf (ne .li _ rfl (by simp)),?_,?_,?_,h.inj⟩,rfl,hf.mono (fun b hb'=>⟨.pe,by rw [hb'];rfl⟩),fun b hb=> .inl hb⟩
 ·exact (h.pe.set (u64 x) hi).congr (fun j hj=>by show _=u64 (if j=i then x else D.pers j);split<;>simp_all)
 ·exact fun l hl=>(h.hs l hl).frm hf (fun b hb=>ne (.hs l) b (by simp only [Lay.blk];rw [if_pos (by have:=h.yn;have:l<D.n:=hl;omega)];exact hb) (by simp))
 ·exact fun j hj=>(h.th j hj).frm hf (ne (.th j) _ (by simp [Lay.blk,hj]) (by simp))
 ·intro j hj
  obtain ⟨es,c,hm⟩:=h.nt j hj
  exact ⟨es,c,hm.of_heap (hf.block _ hm.lt (ne (.nt j) _ (by simp [Lay.blk,hj]) (by simp)))⟩
theorem Dv.setDone (h:Dv w Y D) (l x:Nat) (hl:l<D.n):Stp w Y (w.setCell ⟨Y.lb,l*2,none⟩ (u64 x)) Y {D with done:=fun j=>if j=l then x else D.done j}:=by
 have hf:=Frm.one w Y.lb (l*2) (u64 x)
 have ne:∀r b,Y.blk r=some b→r≠ .li→b≠Y.lb:=fun r b hr hn e=>hn (h.inj r .li b hr (by rw [e];rfl))
 refine ⟨⟨h.yn,h.dev.frm hf (ne .dev _ rfl (by simp)),h.pe.frm hf (ne .pe _ rfl (by simp)),h.cu.frm hf (ne .cu _ rfl (by simp)),?_,?_,?_,?_,h.inj⟩,rfl,hf.mono (fun b hb'=>⟨.li,by rw [hb'];rfl⟩),fun b hb=> .inl hb⟩
 ·refine (h.li.set (u64 x) (i:=l*2) oM).congr (fun j hj=> ?_)
  by_cases e:j=l*2
  ·subst e
   have e1:l*2%2=0:=oM
   have e2:l*2/2=l:=oM
   simp [linF,e1,e2]
  ·rw [if_neg e]
   by_cases e2:j%2=0
   ·have:¬j/2=l:=oM
    simp [linF,e2,this]
   ·simp [linF,e2]
 ·exact fun l hl=>(h.hs l hl).frm hf (fun b hb=>ne (.hs l) b (by simp only [Lay.blk];rw [if_pos (by have:=h.yn;have:l<D.n:=hl;omega)];exact hb) (by simp))
 ·exact fun j hj=>(h.th j hj).frm hf (ne (.th j) _ (by simp [Lay.blk,hj]) (by simp))
 ·intro j hj
  obtain ⟨es,c,hm⟩:=h.nt j hj
  exact ⟨es,c,hm.of_heap (hf.block _ hm.lt (ne (.nt j) _ (by simp [Lay.blk,hj]) (by simp)))⟩
theorem Dv.setHist (h:Dv w Y D) (l:Nat) (hl:l<D.n) (v:Value) (H:List (Nat×Nat)) (hv:SlO w' 255 2 v H.length (wrL H)) (hf:Frm (fun b=>(Y.hv l).ownBlock=some b) w w') (hn:∀b,v.ownBlock=some b→(Y.hv l).ownBlock=some b∨w.heap.size≤b):
  Stp w Y (w'.setCell ⟨Y.lb,l*2+1,none⟩ v) {Y with hv:=fun j=>if j=l then v else Y.hv j} {D with hist:=fun j=>if j=l then H else D.hist j}:=by
 have hyn:=h.yn
 have hbl:∀b,(Y.hv l).ownBlock=some b→Y.blk (.hs l)=some b:=fun b hb=>by simp only [Lay.blk];rw [if_pos oM];exact hb
 have ne:∀r b,Y.blk r=some b→r≠ .hs l→¬(Y.hv l).ownBlock=some b:=fun r b hr hn e=>hn (h.inj r (.hs l) b hr (hbl b e))
 have hli:=h.li.frm hf (ne .li _ rfl (by simp))
 have hf2:=Frm.one w' Y.lb (l*2+1) v
 have ne2:∀r b,Y.blk r=some b→r≠ .li→b≠Y.lb:=fun r b hr hn e=>hn (h.inj r .li b hr (by rw [e];rfl))
 have hvl:∀b,v.ownBlock=some b→b≠Y.lb:=by
  intro b hb e
  rcases hn b hb with h1|h1
  ·exact ne2 (.hs l) b (hbl b h1) (by simp) e
  ·have:=h.li.lt;omega
 have blk':∀r,r≠ .hs l→Lay.blk {Y with hv:=fun j=>if j=l then v else Y.hv j} r=Y.blk r:=by
  intro r hr
  cases r with
  |hs q=>have:¬q=l:=fun e=>hr (by rw [e]);simp [Lay.blk,this]
  |_=>rfl
 have blkl:Lay.blk {Y with hv:=fun j=>if j=l then v else Y.hv j} (.hs l)=v.ownBlock:=by simp [Lay.blk];omega
 have both:Frm Y.F w (w'.setCell ⟨Y.lb,l*2+1,none⟩ v):=(hf.mono (fun b hb=>(⟨.hs l,hbl b hb⟩:Y.F b))).trans (hf2.mono (fun b hb=>(⟨.li,by rw [hb];rfl⟩:Y.F b))) (fun _ _ h=>h)
 have hnew:∀b,v.ownBlock=some b→∀r,r≠ .hs l→Y.blk r=some b→False:=by
  intro b hb r hr hrb
  rcases hn b hb with h1|h1
  ·exact ne r b hrb hr h1
  ·have:=h.lt ⟨r,hrb⟩;omega
 refine ⟨⟨h.yn,?_,?_,?_,?_,?_,?_,?_,?_⟩,rfl,both,?_⟩
 ·exact (h.dev.frm hf (ne .dev _ rfl (by simp))).frm hf2 (ne2 .dev _ rfl (by simp))
 ·exact (h.pe.frm hf (ne .pe _ rfl (by simp))).frm hf2 (ne2 .pe _ rfl (by simp))
 ·exact (h.cu.frm hf (ne .cu _ rfl (by simp))).frm hf2 (ne2 .cu _ rfl (by simp))
 ·refine (hli.set v (i:=l*2+1) oM).congr (fun j hj=> ?_)
  by_cases e:j=l*2+1
  ·subst e
   have e1:(l*2+1)%2=1:=oM
   have e2:(l*2+1)/2=l:=oM
   simp [linF,e1,e2]
  ·rw [if_neg e]
   by_cases e2:j%2=0
   ·simp [linF,e2]
   ·have:¬j/2=l:=oM
    simp [linF,e2,this]
 ·intro q hq
  have hq':q<D.n:=hq
  by_cases e:q=l
  ·subst e
   simp only [if_true]
   exact hv.frm hf2 hvl
  ·simp only [e,if_false]
   have hqb:∀b,(Y.hv q).ownBlock=some b→Y.blk (.hs q)=some b:=fun b hb=>by simp only [Lay.blk];rw [if_pos oM];exact hb
   exact ((h.hs q hq').frm hf (fun b hb=>ne (.hs q) b (hqb b hb) (by simpa using e))).frm hf2 (fun b hb=>ne2 (.hs q) b (hqb b hb) (by simp))
 ·intro j hj
  exact ((h.th j hj).frm hf (ne (.th j) _ (by simp [Lay.blk,hj]) (by simp))).frm hf2 (ne2 (.th j) _ (by simp [Lay.blk,hj]) (by simp))
 ·intro j hj
  obtain ⟨es,c,hm⟩:=h.nt j hj
  have hm1:=hm.of_heap (hf.block _ hm.lt (ne (.nt j) _ (by simp [Lay.blk,hj]) (by simp)))
  exact ⟨es,c,hm1.of_heap (hf2.block _ hm1.lt (ne2 (.nt j) _ (by simp [Lay.blk,hj]) (by simp)))⟩
 ·intro r r' b hr hr'
  by_cases e1:r= .hs l
  ·by_cases e2:r'= .hs l
   ·rw [e1,e2]
   ·rw [e1,blkl] at hr;rw [blk' r' e2] at hr'
    exact (hnew b hr r' e2 hr').elim
  ·by_cases e2:r'= .hs l
   ·rw [e2,blkl] at hr';rw [blk' r e1] at hr
    exact (hnew b hr' r e1 hr).elim
   ·rw [blk' r e1] at hr;rw [blk' r' e2] at hr';exact h.inj r r' b hr hr'
 ·rintro b ⟨r,hr⟩
  by_cases e1:r= .hs l
  ·rw [e1,blkl] at hr
   rcases hn b hr with h1|h1
   ·exact .inl ⟨.hs l,hbl b h1⟩
   ·exact .inr h1
  ·rw [blk' r e1] at hr;exact .inl ⟨r,hr⟩
theorem Dv.setNote (h:Dv w Y D) (id:Nat) (hid:id<8) (m:Int→Option Nat) {es:Array MapEntry} {c:Nat} (hm:MapI w' (Y.nb id) es c (fun i=>(m i).map u64)) (hf:Frm (fun b=>b=Y.nb id) w w'):
  Stp w Y w' Y {D with notes:=fun j=>if j=id then m else D.notes j}:=by
 have hb:Y.blk (.nt id)=some (Y.nb id):=by simp [Lay.blk,hid]
 have ne:∀r b,Y.blk r=some b→r≠ .nt id→b≠Y.nb id:=fun r b hr hn e=>hn (h.inj r (.nt id) b hr (by rw [e];exact hb))
 refine ⟨⟨h.yn,h.dev.frm hf (ne .dev _ rfl (by simp)),h.pe.frm hf (ne .pe _ rfl (by simp)),h.cu.frm hf (ne .cu _ rfl (by simp)),h.li.frm hf (ne .li _ rfl (by simp)),?_,?_,?_,h.inj⟩,rfl,hf.mono (fun b hb'=>⟨.nt id,by rw [hb'];exact hb⟩),fun b hb=> .inl hb⟩
 ·exact fun l hl=>(h.hs l hl).frm hf (fun b hb=>ne (.hs l) b (by simp only [Lay.blk];rw [if_pos (by have:=h.yn;have:l<D.n:=hl;omega)];exact hb) (by simp))
 ·exact fun j hj=>(h.th j hj).frm hf (ne (.th j) _ (by simp [Lay.blk,hj]) (by simp))
 ·intro j hj
  by_cases e:j=id
  ·subst e
   have e:ntF {D with notes:=fun q=>if q=j then m else D.notes q} j=fun i=>(m i).map u64:=by funext q;simp [ntF]
   rw [e];exact ⟨es,c,hm⟩
  ·obtain ⟨es',c',hm'⟩:=h.nt j hj
   have:ntF {D with notes:=fun j=>if j=id then m else D.notes j} j=ntF D j:=by funext q;simp [ntF,e]
   rw [this]
   exact ⟨es',c',hm'.of_heap (hf.block _ hm'.lt (ne (.nt j) _ (by simp [Lay.blk,hj]) (by simpa using e)))⟩
end
section
variable {w w':World} {Y:Lay} {D D':DS}
theorem Dv.c_tdev (h:Dv w Y D) (id:Nat) (hi:id<8):w.cell? ⟨Y.tb id,0,none⟩=some (.pointer (some ⟨Y.d,0,none⟩)):=(h.th id hi).cell oM
theorem Dv.c_tid (h:Dv w Y D) (id:Nat) (hi:id<8):w.cell? ⟨Y.tb id,1,none⟩=some (.int .i64 (Y.ids id:Int)):=(h.th id hi).cell oM
theorem Dv.c_err (h:Dv w Y D) (id:Nat) (hi:id<8):w.cell? ⟨Y.tb id,2,none⟩=some (.int .i64 (D.err id)):=(h.th id hi).cell oM
theorem Dv.c_nb (h:Dv w Y D) (id:Nat) (hi:id<8):w.cell? ⟨Y.tb id,3,none⟩=some (.map (some (Y.nb id))):=(h.th id hi).cell oM
theorem Dv.z_t (h:Dv w Y D) (id i:Nat) (hi:id<8):w.frozen? ⟨Y.tb id,i,none⟩=false:=(h.th id hi).frz i
theorem Dv.c_pe (h:Dv w Y D):w.cell? ⟨Y.d,0,none⟩=some (.slice (some ⟨Y.pb,0,none⟩) (8*D.n) Y.pc):=h.dev.cell oM
theorem Dv.c_cu (h:Dv w Y D):w.cell? ⟨Y.d,1,none⟩=some (.slice (some ⟨Y.cb,0,none⟩) (8*D.n) Y.cc):=h.dev.cell oM
theorem Dv.c_li (h:Dv w Y D):w.cell? ⟨Y.d,2,none⟩=some (.slice (some ⟨Y.lb,0,none⟩) D.n D.n):=h.dev.cell oM
theorem Dv.c_th (h:Dv w Y D) (i:Nat) (h1:3≤i) (h2:i<11):w.cell? ⟨Y.d,i,none⟩=some (.pointer (some ⟨Y.dt (i-3),0,none⟩)):=by
 rw [h.dev.cell oM];unfold devF;rw [if_neg oM,if_neg oM,if_neg oM,if_pos h2]
theorem Dv.c_off (h:Dv w Y D):w.cell? ⟨Y.d,11,none⟩=some (.bool D.off):=h.dev.cell oM
theorem Dv.c_arm (h:Dv w Y D):w.cell? ⟨Y.d,12,none⟩=some (.bool D.armed):=h.dev.cell oM
theorem Dv.c_left (h:Dv w Y D):w.cell? ⟨Y.d,13,none⟩=some (.int .i64 D.left):=h.dev.cell oM
theorem Dv.c_exe (h:Dv w Y D):w.cell? ⟨Y.d,14,none⟩=some (.int .u64 (D.exe:Int)):=h.dev.cell oM
theorem Dv.z_d (h:Dv w Y D) (i:Nat):w.frozen? ⟨Y.d,i,none⟩=false:=h.dev.frz i
theorem Dv.c_cur (h:Dv w Y D) (i:Nat) (hi:i<8*D.n):w.cell? ⟨Y.cb,i,none⟩=some (.int .u64 (D.cur i:Int)):=h.cu.cell hi
theorem Dv.z_c (h:Dv w Y D) (i:Nat):w.frozen? ⟨Y.cb,i,none⟩=false:=h.cu.frz i
theorem Dv.c_pers (h:Dv w Y D) (i:Nat) (hi:i<8*D.n):w.cell? ⟨Y.pb,i,none⟩=some (.int .u64 (D.pers i:Int)):=h.pe.cell hi
theorem Dv.z_p (h:Dv w Y D) (i:Nat):w.frozen? ⟨Y.pb,i,none⟩=false:=h.pe.frz i
theorem Dv.c_done (h:Dv w Y D) (l:Nat) (hl:l<D.n):w.cell? ⟨Y.lb,l*2,none⟩=some (.int .u64 (D.done l:Int)):=by
 rw [h.li.cell oM];unfold linF;rw [if_pos oM,show l*2/2=l by omega]
theorem Dv.c_hist (h:Dv w Y D) (l:Nat) (hl:l<D.n):w.cell? ⟨Y.lb,l*2+1,none⟩=some (Y.hv l):=by
 rw [h.li.cell oM];unfold linF;rw [if_neg oM,show (l*2+1)/2=l by omega]
theorem Dv.z_l (h:Dv w Y D) (i:Nat):w.frozen? ⟨Y.lb,i,none⟩=false:=h.li.frz i
set_option linter.defProp false in
def Dv.R (h:Dv w Y D):=And.intro h.c_tdev<|And.intro h.c_err<|And.intro h.c_nb<|And.intro h.z_t<|And.intro h.c_pe<|And.intro h.c_cu<|And.intro h.c_li<|And.intro h.c_th<|And.intro h.c_off<|And.intro h.c_arm<|And.intro h.c_left<|And.intro h.c_exe<|And.intro h.z_d<|And.intro h.c_cur<|And.intro h.z_c<|And.intro h.c_pers<|And.intro h.z_p<|And.intro h.c_done<|And.intro h.c_hist h.z_l
end
def DS.fail (D:DS) (id:Nat) (e:Int):DS:=if D.err id=0 then {D with err:=fun j=>if j=id then e else D.err j} else D
theorem k_fail {w:World} {Y:Lay} {D:DS} (h:Dv w Y D) (id:Nat) (hid:id<8) (e:Int) (K:K1) (hK:∀w',Stp w Y w' Y (D.fail id e)→K (.tuple #[]) w'):callS prog 207 #[.pointer (some ⟨Y.tb id,0,none⟩),.int .i64 e] w K:=by
 refine f207_call _ _ _ _ ?_
 unfold f207_t
 (repeat' (first|(with_reducible first|refine brS_mk (fun _=> ?_) (fun _=> ?_)|refine And.intro ?_ ?_)|(simp (disch:=try exact dZ) only [↓RBp,↓RA,↓reduceIte,Nat.reduceAdd,Nat.reduceMul,Nat.reduceEqDiff,RB,RX,RA2,h.R])))
 ·rename_i h0
  refine hK _ ?_
  unfold DS.fail;rw [if_pos h0];exact h.setErr id hid e
 ·rename_i h0
  refine hK _ ?_
  unfold DS.fail;rw [if_neg h0];exact Stp.refl h
def DS.on (D:DS) (id:Nat) (v:Bool):DS:=if D.off=true then D.fail id 3 else if v=true then D else D.fail id 2
theorem k_on {w:World} {Y:Lay} {D:DS} (h:Dv w Y D) (id:Nat) (hid:id<8) (v:Bool) (K:K1) (hK:∀w',Stp w Y w' Y (D.on id v)→K (.bool (!D.off&&v)) w'):callS prog 206 #[.pointer (some ⟨Y.tb id,0,none⟩),.bool v] w K:=by
 refine f206_call _ _ _ _ ?_
 unfold f206_t
 unfold DS.on at hK
 (repeat' (first|(with_reducible first|refine brS_mk (fun _=> ?_) (fun _=> ?_)|refine And.intro ?_ ?_)|(simp (disch:=try exact dZ) only [↓RBp,↓RA,↓reduceIte,Nat.reduceAdd,Nat.reduceMul,Nat.reduceEqDiff,RB,RX,RA2,h.R])))
 ·rename_i h0
  refine k_fail h id hid 3 _ (fun w' hs=> ?_)
  simp (disch:=try exact dZ) only [↓RBp,↓RA,↓reduceIte,Nat.reduceAdd,Nat.reduceMul,Nat.reduceEqDiff,RB,RX,RA2,f206_k1_eq,f206_k1_t]
  simpa [h0] using hK w' (by simpa [h0] using hs)
 ·rename_i h0 h1
  simpa [h0,h1] using hK w (by simpa [h0,h1] using Stp.refl h)
 ·rename_i h0 h1
  refine k_fail h id hid 2 _ (fun w' hs=> ?_)
  simp (disch:=try exact dZ) only [↓RBp,↓RA,↓reduceIte,Nat.reduceAdd,Nat.reduceMul,Nat.reduceEqDiff,RB,RX,RA2,f206_k1_eq,f206_k1_t]
  simpa [h0,h1] using hK w' (by simpa [h0,h1] using hs)
def DS.counted (D:DS) (id:Nat) (v:Bool):DS:=
 if D.off=true then D.fail id 3 else if v=false then D.fail id 2 else
 if D.armed=true then if D.left=0 then ({D with off:=true}:DS).fail id 3 else {D with left:=D.left-1,exe:=D.exe+1} else {D with exe:=D.exe+1}
def DS.runs (D:DS) (v:Bool):Bool:= !D.off&&v&& !(D.armed&&decide (D.left=0))
theorem devF_off (Y:Lay) (D:DS) (b:Bool) (j:Nat):devF Y {D with off:=b} j=if j=11 then .bool b else devF Y D j:=by
 unfold devF
 by_cases h:j=11
 ·subst h;simp
 ·simp [h]
theorem devF_left (Y:Lay) (D:DS) (x:Int) (j:Nat):devF Y {D with left:=x} j=if j=13 then .int .i64 x else devF Y D j:=by
 unfold devF
 by_cases h:j=13
 ·subst h;simp
 ·simp [h]
theorem devF_exe (Y:Lay) (D:DS) (x:Nat) (j:Nat) (hj:j<15):devF Y {D with exe:=x} j=if j=14 then .int .u64 (x:Int) else devF Y D j:=by
 unfold devF
 by_cases h:j=14
 ·subst h;simp [u64]
 ·rw [if_neg h];simp;repeat (first|rfl|split|omega)
theorem Dv.setOff {w:World} {Y:Lay} {D:DS} (h:Dv w Y D) (b:Bool):Stp w Y (w.setCell ⟨Y.d,11,none⟩ (.bool b)) Y {D with off:=b}:=h.setDev 11 _ oM (fun j hj=>devF_off Y D b j) ⟨rfl,rfl,rfl,rfl,rfl,rfl,rfl⟩
theorem Dv.setLeft {w:World} {Y:Lay} {D:DS} (h:Dv w Y D) (x:Int):Stp w Y (w.setCell ⟨Y.d,13,none⟩ (.int .i64 x)) Y {D with left:=x}:=h.setDev 13 _ oM (fun j hj=>devF_left Y D x j) ⟨rfl,rfl,rfl,rfl,rfl,rfl,rfl⟩
theorem Dv.setExe {w:World} {Y:Lay} {D:DS} (h:Dv w Y D) (x:Nat):Stp w Y (w.setCell ⟨Y.d,14,none⟩ (.int .u64 (x:Int))) Y {D with exe:=x}:=h.setDev 14 _ oM (fun j hj=>devF_exe Y D x j hj) ⟨rfl,rfl,rfl,rfl,rfl,rfl,rfl⟩
theorem k_counted {w:World} {Y:Lay} {D:DS} (h:Dv w Y D) (id:Nat) (hid:id<8) (v:Bool) (hx:D.exe<1099511627776) (hl:0≤D.left) (hl':D.left<9223372036854775808) (K:K1) (hK:∀w',Stp w Y w' Y (D.counted id v)→K (.bool (D.runs v)) w'):callS prog 138 #[.pointer (some ⟨Y.tb id,0,none⟩),.bool v] w K:=by
 refine f138_call _ _ _ _ ?_
 unfold f138_t
 unfold DS.counted DS.runs at hK
 simp (disch:=try exact dZ) only [↓RBp,↓RA,↓reduceIte,Nat.reduceAdd,Nat.reduceMul,Nat.reduceEqDiff,RB,RX,RA2]
 refine k_on h id hid v _ (fun w1 h1=> ?_)
 by_cases ho:D.off=true
 ·simp (disch:=try exact dZ) only [↓RBp,↓RA,↓reduceIte,Nat.reduceAdd,Nat.reduceMul,Nat.reduceEqDiff,RB,RX,RA2,ho]
  simp only [DS.on,ho,if_true] at h1
  simpa [ho] using hK w1 (by simpa [ho] using h1)
 ·by_cases hv:v=true
  ·have e:D.on id v=D:=by simp [DS.on,ho,hv]
   rw [e] at h1
   have ho':D.off=false:=by simpa using ho
   subst hv
   (repeat' (first|(with_reducible first|refine brS_mk (fun _=> ?_) (fun _=> ?_)|refine And.intro ?_ ?_)|(simp (disch:=try exact dZ) only [↓RBp,↓RA,↓reduceIte,Nat.reduceAdd,Nat.reduceMul,Nat.reduceEqDiff,RB,RX,RA2,ho',h1.dv.R,f138_k1_eq,f138_k1_t])))
   ·rename_i ha hz
    have h2:=h1.trans (h1.dv.setOff true)
    refine k_fail h2.dv id hid 3 _ (fun w3 h3=> ?_)
    simpa [ho',ha,hz] using hK w3 (by simpa [ho',ha,hz] using h2.trans h3)
   ·rename_i ha hz
    have h2:=h1.trans (h1.dv.setLeft (D.left-1))
    simp (disch:=try exact dZ) only [↓RBp,↓RA,↓reduceIte,Nat.reduceAdd,Nat.reduceMul,Nat.reduceEqDiff,RB,RX,RA2,h2.dv.R]
    simpa [ho',ha,hz] using hK _ (by simpa [ho',ha,hz] using h2.trans (h2.dv.setExe (D.exe+1)))
   ·rename_i ha
    simpa [ho',ha] using hK _ (by simpa [ho',ha] using h1.trans (h1.dv.setExe (D.exe+1)))
  ·have hv':v=false:=by simpa using hv
   subst hv'
   simp (disch:=try exact dZ) only [↓RBp,↓RA,↓reduceIte,Nat.reduceAdd,Nat.reduceMul,Nat.reduceEqDiff,RB,RX,RA2]
   have ho':D.off=false:=by simpa using ho
   have e:D.on id false=D.fail id 2:=by simp [DS.on,ho']
   rw [e] at h1
   simpa [ho'] using hK _ (by simpa [ho'] using h1)
end Go.Proofs.YtjegifbmbianiaaGreatDoor
namespace Go.Proofs.YtjegifbmbianiaaGreatDoor
def nibN (i:Nat):Nat:=([0,274646895,549293790,820201905,1098587580,1361435347,1640403810,1905808397,2197175160,2460548119,2722870694,2987750089,3280807620,3553878443,3811616794,4084100981]:List Nat).getD i 0
def bs (c:Nat):Nat:=if c%2=1 then (c/2)^^^2197175160 else c/2
def bsN:Nat→Nat→Nat
 |0,c=>c
 |n+1,c=>bsN n (bs c)
def nb (c:Nat):Nat:=(c/16)^^^nibN (c%16)
def sumN (x:Nat):Nat:=bsN 32 (4294967295^^^x)^^^4294967295
def sealN (x:Nat):Nat:=sumN x*4294967296+x
end Go.Proofs.YtjegifbmbianiaaGreatDoor
namespace Go.Proofs.YtjegifbmbianiaaGreatDoor
open Go Go.Sh
def payN (i:Nat):Int:=([3,7,15,31,60]:List Int).getD i 0
structure Glob (w:World):Prop where
 pay:∀i,i<5→w.cell? ⟨1,i,none⟩=some (.int .i64 (payN i))
 nib:∀i,i<16→w.cell? ⟨4,i,none⟩=some (.int .u32 (nibN i))
section
variable {w w':World} {Y:Lay} {D D':DS}
theorem c_Lines (h:Dv w Y D) (K:K1):callS prog 284 #[.pointer (some ⟨Y.d,0,none⟩)] w K=K (.int .i64 (D.n:Int)) w:=by
 refine callS_det (by kernel_rfl) (f284_call _ _ _ ?_) K
 unfold f284_t
 (repeat' (first|(with_reducible first|refine brS_mk (fun _=> ?_) (fun _=> ?_)|refine And.intro ?_ ?_)|(simp (disch:=try exact dZ) only [↓RBp,↓RA,↓reduceIte,Nat.reduceAdd,Nat.reduceMul,Nat.reduceEqDiff,RB,RX,RA2,h.R])))
theorem c_DSize (h:Dv w Y D) (g:Good D) (K:K1):callS prog 208 #[.pointer (some ⟨Y.d,0,none⟩)] w K=K (.int .u64 ((D.n*64:Nat):Int)) w:=by
 refine callS_det (by kernel_rfl) (f208_call _ _ _ ?_) K
 unfold f208_t
 have:=g.n
 (repeat' (first|(with_reducible first|refine brS_mk (fun _=> ?_) (fun _=> ?_)|refine And.intro ?_ ?_)|(simp (disch:=try exact dZ) only [↓RBp,↓RA,↓reduceIte,Nat.reduceAdd,Nat.reduceMul,Nat.reduceEqDiff,RB,RX,RA2,c_Lines h])))
def vOff (D:DS) (off:Nat):Bool:=decide (off%8=0)&&decide (off<D.n*64)
theorem c_word (h:Dv w Y D) (g:Good D) (id:Nat) (hid:id<8) (off:Nat) (K:K1):callS prog 139 #[.pointer (some ⟨Y.tb id,0,none⟩),.int .u64 (off:Int)] w K=K (.bool (vOff D off)) w:=by
 refine callS_det (by kernel_rfl) (f139_call _ _ _ _ ?_) K
 unfold f139_t vOff
 (repeat' (first|(with_reducible first|refine brS_mk (fun _=> ?_) (fun _=> ?_)|refine And.intro ?_ ?_)|(simp (disch:=try exact dZ) only [↓RBp,↓RA,↓reduceIte,Nat.reduceAdd,Nat.reduceMul,Nat.reduceEqDiff,RB,RX,RA2,h.R,c_DSize h g])))
theorem c_onOk (h:Dv w Y D) (id:Nat) (hid:id<8) (ho:D.off=false) (K:K1):callS prog 206 #[.pointer (some ⟨Y.tb id,0,none⟩),.bool true] w K=K (.bool true) w:=by
 refine callS_det (by kernel_rfl) (f206_call _ _ _ _ ?_) K
 unfold f206_t
 (repeat' (first|(with_reducible first|refine brS_mk (fun _=> ?_) (fun _=> ?_)|refine And.intro ?_ ?_)|(simp (disch:=try exact dZ) only [↓RBp,↓RA,↓reduceIte,Nat.reduceAdd,Nat.reduceMul,Nat.reduceEqDiff,RB,RX,RA2,h.R,ho])))
theorem c_Load (h:Dv w Y D) (g:Good D) (id:Nat) (hid:id<8) (ho:D.off=false) (off:Nat) (h1:off%8=0) (h2:off<D.n*64) (K:K1):callS prog 433 #[.pointer (some ⟨Y.tb id,0,none⟩),.int .u64 (off:Int)] w K=K (.int .u64 (D.cur (off/8):Int)) w:=by
 refine callS_det (by kernel_rfl) (f433_call _ _ _ _ ?_) K
 unfold f433_t
 have hv:vOff D off=true:=by simp [vOff,h1,h2]
 have:=g.n
 (repeat' (first|(with_reducible first|refine brS_mk (fun _=> ?_) (fun _=> ?_)|refine And.intro ?_ ?_)|(simp (disch:=try exact dZ) only [↓RBp,↓RA,↓reduceIte,Nat.reduceAdd,Nat.reduceMul,Nat.reduceEqDiff,RB,RX,RA2,h.R,c_word h g id hid,c_onOk h id hid ho,hv])))
theorem c_Err (h:Dv w Y D) (id:Nat) (hid:id<8) (K:K1):callS prog 127 #[.pointer (some ⟨Y.tb id,0,none⟩)] w K=K (.int .i64 (D.err id)) w:=by
 refine callS_det (by kernel_rfl) (f127_call _ _ _ ?_) K
 unfold f127_t
 (repeat' (first|(with_reducible first|refine brS_mk (fun _=> ?_) (fun _=> ?_)|refine And.intro ?_ ?_)|(simp (disch:=try exact dZ) only [↓RBp,↓RA,↓reduceIte,Nat.reduceAdd,Nat.reduceMul,Nat.reduceEqDiff,RB,RX,RA2,h.R])))
theorem c_TSize (h:Dv w Y D) (g:Good D) (id:Nat) (hid:id<8) (K:K1):callS prog 434 #[.pointer (some ⟨Y.tb id,0,none⟩)] w K=K (.int .u64 ((D.n*64:Nat):Int)) w:=by
 refine callS_det (by kernel_rfl) (f434_call _ _ _ ?_) K
 unfold f434_t
 (repeat' (first|(with_reducible first|refine brS_mk (fun _=> ?_) (fun _=> ?_)|refine And.intro ?_ ?_)|(simp (disch:=try exact dZ) only [↓RBp,↓RA,↓reduceIte,Nat.reduceAdd,Nat.reduceMul,Nat.reduceEqDiff,RB,RX,RA2,h.R,c_DSize h g])))
theorem c_Thread (h:Dv w Y D) (id:Nat) (hid:id<8) (K:K1):callS prog 68 #[.pointer (some ⟨Y.d,0,none⟩),.int .i64 (id:Int)] w K=K (.pointer (some ⟨Y.dt id,0,none⟩)) w:=by
 refine callS_det (by kernel_rfl) (f68_call _ _ _ _ ?_) K
 unfold f68_t
 have e:3+id-3=id:=oM
 (repeat' (first|(with_reducible first|refine brS_mk (fun _=> ?_) (fun _=> ?_)|refine And.intro ?_ ?_)|(simp (disch:=try exact dZ) only [↓RBp,↓RA,↓reduceIte,Nat.reduceAdd,Nat.reduceMul,Nat.reduceEqDiff,RB,RX,RA2,h.R,e])))
end
theorem elWrite:ElT prog 247 247 255 2 16 (.agg #[.int .u64 0,.int .u64 0]):=⟨by kernel_rfl,by kernel_rfl,by kernel_rfl,by kernel_rfl,by decide⟩
theorem wrL_append (a b:List (Nat×Nat)):wrL (a++b)=wrL a++wrL b:=by
 induction a with
 |nil=>rfl
 |cons x a ih=>obtain ⟨o,v⟩:=x;simp [wrL,ih]
def DS.write (D:DS) (off v:Nat):DS:={D with hist:=fun j=>if j=off/64 then D.hist (off/64)++ [(off,v)] else D.hist j,cur:=fun j=>if j=off/8 then v else D.cur j}
section
variable {w w':World} {Y:Lay} {D D':DS}
theorem k_write (h:Dv w Y D) (g:Good D) (id:Nat) (hid:id<8) (off v:Nat) (h1:off%8=0) (h2:off<D.n*64) (hx:D.exe<1099511627776) (K:K1) (hK:∀w' Y',Stp w Y w' Y' (D.write off v)→K (.tuple #[]) w'):callS prog 140 #[.pointer (some ⟨Y.tb id,0,none⟩),.int .u64 (off:Int),.int .u64 (v:Int)] w K:=by
 refine f140_call _ _ _ _ _ ?_
 unfold f140_t
 have:=g.n
 have hl:off/64<D.n:=oM
 have hc:=g.cnt (off/64) hl
 simp (disch:=try exact dZ) only [↓RBp,↓RA,↓reduceIte,Nat.reduceAdd,Nat.reduceMul,Nat.reduceEqDiff,RB,RX,RA2,h.R]
 have h':=h.ext (Ext.alloc_self w (.cells #[.int .u64 (off:Int),.int .u64 (v:Int)] 255))
 refine blt_append elWrite (h'.hs _ hl) (news:= [u64 off,u64 v]) (by simp) ?_ rfl oM oM oM (fun v' w' hv hf hn _=> ?_)
 ·intro j u hj
  rw [Nat.zero_add,cell_new _ _ _ _ _ rfl];simpa [u64] using hj
 have hs:=h'.setHist (off/64) hl v' (D.hist (off/64)++ [(off,v)]) (by rw [wrL_append];simpa [wrL] using hv) hf hn
 have hli:=(h'.li.frm hf (fun e=>by have:=h'.inj (.hs (off/64)) .li Y.lb (by simp only [Lay.blk];rw [if_pos (by have:=h'.yn;omega)];exact e) rfl;cases this))
 have c1:=hli.cell (i:=off/64*2+1) oM
 have o1:isOne v'=true:=by rcases hv.2 with ⟨rfl,_⟩|⟨_,_,_,_,rfl,_⟩<;>rfl
 have c2:=hs.dv.c_cur (off/8) (by show off/8<8*D.n;omega)
 simp (disch:=try exact dZ) only [↓RBp,↓RA,↓reduceIte,Nat.reduceAdd,Nat.reduceMul,Nat.reduceEqDiff,RB,RX,RA2,c1,c2,hli.frz,o1,hs.dv.R]
 have hs2:=(Stp.pre (Ext.alloc_self w _) (fun b hb=>h.lt hb) hs).trans (hs.dv.setCur (off/8) v (by show off/8<8*D.n;omega))
 exact hK _ _ hs2
def DS.store (D:DS) (id off v:Nat):DS:=if D.runs (vOff D off)=true then (D.counted id (vOff D off)).write off v else D.counted id (vOff D off)
theorem DS.fail_n (D:DS) (id:Nat) (e:Int):(D.fail id e).n=D.n:=by unfold DS.fail;split<;>rfl
theorem DS.counted_run {D:DS} {id:Nat} {v:Bool} (h:D.runs v=true):D.counted id v=if D.armed=true then {D with left:=D.left-1,exe:=D.exe+1} else {D with exe:=D.exe+1}:=by
 simp only [DS.runs,Bool.and_eq_true,Bool.not_eq_true',Bool.and_eq_false_iff] at h
 obtain ⟨⟨h1,h2⟩,h3⟩:=h
 unfold DS.counted
 rw [if_neg (by simp [h1]),if_neg (by simp [h2])]
 by_cases ha:D.armed=true
 ·rw [if_pos ha,if_pos ha]
  have:¬D.left=0:=by rcases h3 with h3|h3<;>simp_all
  rw [if_neg this]
 ·rw [if_neg ha,if_neg ha]
theorem Good.fail (g:Good D) (id:Nat) (e:Int):Good (D.fail id e):=by
 unfold DS.fail
 split
 ·exact ⟨g.n0,g.n,g.cur,g.pers,g.hist,g.cnt,g.left,g.notes⟩
 ·exact g
theorem Good.counted (g:Good D) (id:Nat) (v:Bool):Good (D.counted id v):=by
 unfold DS.counted
 have hc:∀l,l<D.n→D.done l+(D.hist l).length≤D.exe+1:=fun l hl=>Nat.le_succ_of_le (g.cnt l hl)
 have hl:=g.left
 split
 ·exact g.fail _ _
 ·split
  ·exact g.fail _ _
  ·split
   ·split
    ·exact Good.fail (D:={D with off:=true}) ⟨g.n0,g.n,g.cur,g.pers,g.hist,g.cnt,g.left,g.notes⟩ _ _
    ·exact ⟨g.n0,g.n,g.cur,g.pers,g.hist,hc,⟨by show 0≤D.left-1;omega,by show D.left-1<_;omega⟩,g.notes⟩
   ·exact ⟨g.n0,g.n,g.cur,g.pers,g.hist,hc,g.left,g.notes⟩
theorem DS.counted_n (D:DS) (id:Nat) (v:Bool):(D.counted id v).n=D.n:=by
 unfold DS.counted
 split
 ·exact D.fail_n _ _
 ·split
  ·exact D.fail_n _ _
  ·split
   ·split
    ·exact DS.fail_n _ _ _
    ·rfl
   ·rfl
theorem Good.write (g:Good D) (off v:Nat) (h1:off%8=0) (h2:off<D.n*64) (hv:v<18446744073709551616) (hc:∀l,l<D.n→D.done l+(D.hist l).length+1≤D.exe):Good (D.write off v):=by
 refine ⟨g.n0,g.n,?_,g.pers,?_,?_,g.left,?_⟩
 ·intro i hi
  show (if i=off/8 then v else D.cur i)<_
  split
  ·exact hv
  ·exact g.cur i hi
 ·intro l hl o x hx
  have hx':(o,x)∈(if l=off/64 then D.hist (off/64)++ [(off,v)] else D.hist l):=hx
  split at hx'
  ·rename_i e
   rcases List.mem_append.1 hx' with h|h
   ·have:=g.hist _ (by show off/64<D.n;omega) o x h;omega
   ·simp at h;obtain ⟨rfl,rfl⟩:=h;exact ⟨h1,e.symm,hv⟩
  ·exact g.hist l hl o x hx'
 ·intro l hl
  show D.done l+(if l=off/64 then D.hist (off/64)++ [(off,v)] else D.hist l).length≤D.exe
  have:=hc l hl
  split
  ·rename_i e;subst e;simp;omega
  ·omega
 ·intro id hid k p hk
  have:=g.notes id hid k p hk
  refine ⟨this.1,this.2.1,?_⟩
  show p≤D.done k.toNat+(if k.toNat=off/64 then D.hist (off/64)++ [(off,v)] else D.hist k.toNat).length
  split
  ·rename_i e;rw [←e];simp;omega
  ·exact this.2.2
theorem DS.counted_hist {D:DS} {id:Nat} {v:Bool} (h:D.runs v=true):(D.counted id v).hist=D.hist∧(D.counted id v).done=D.done∧(D.counted id v).exe=D.exe+1∧(D.counted id v).cur=D.cur∧(D.counted id v).pers=D.pers∧(D.counted id v).notes=D.notes∧(D.counted id v).off=D.off∧(D.counted id v).err=D.err:=by
 rw [DS.counted_run h];split<;>exact ⟨rfl,rfl,rfl,rfl,rfl,rfl,rfl,rfl⟩
theorem runs_v {D:DS} {v:Bool} (h:D.runs v=true):v=true∧D.off=false:=by
 simp only [DS.runs,Bool.and_eq_true,Bool.not_eq_true'] at h;exact ⟨h.1.2,h.1.1⟩
theorem vOff_iff {D:DS} {off:Nat} (h:vOff D off=true):off%8=0∧off<D.n*64:=by simpa [vOff] using h
theorem Good.store (g:Good D) (id off v:Nat) (hv:v<18446744073709551616):Good (D.store id off v):=by
 unfold DS.store
 split
 ·rename_i hr
  obtain ⟨h1,h2⟩:=vOff_iff (runs_v hr).1
  have:=DS.counted_hist (id:=id) hr
  refine (g.counted id _).write off v h1 (by rw [DS.counted_n];exact h2) hv ?_
  intro l hl
  rw [DS.counted_n] at hl
  rw [this.1,this.2.1,this.2.2.1]
  have:=g.cnt l hl
  omega
 ·exact g.counted id _
theorem k_Store (h:Dv w Y D) (g:Good D) (id:Nat) (hid:id<8) (off v:Nat) (hx:D.exe<1099511627775) (K:K1) (hK:∀w' Y',Stp w Y w' Y' (D.store id off v)→K (.tuple #[]) w'):callS prog 77 #[.pointer (some ⟨Y.tb id,0,none⟩),.int .u64 (off:Int),.int .u64 (v:Int)] w K:=by
 refine f77_call _ _ _ _ _ ?_
 unfold f77_t
 simp (disch:=try exact dZ) only [↓RBp,↓RA,↓reduceIte,Nat.reduceAdd,Nat.reduceMul,Nat.reduceEqDiff,RB,RX,RA2,h.R,c_word h g id hid]
 refine k_counted h id hid (vOff D off) oM g.left.1 g.left.2 _ (fun w1 h1=> ?_)
 unfold DS.store at hK
 (repeat' (first|(with_reducible first|refine brS_mk (fun _=> ?_) (fun _=> ?_)|refine And.intro ?_ ?_)|(simp (disch:=try exact dZ) only [↓RBp,↓RA,↓reduceIte,Nat.reduceAdd,Nat.reduceMul,Nat.reduceEqDiff,RB,RX,RA2])))
 ·rename_i hr
  rw [if_pos hr] at hK
  obtain ⟨e1,e2⟩:=vOff_iff (runs_v hr).1
  have hn:=DS.counted_hist (id:=id) hr
  refine k_write h1.dv (g.counted id _) id hid off v e1 (by rw [DS.counted_n];exact e2) (by rw [hn.2.2.1];omega) _ (fun w2 Y2 h2=> ?_)
  exact hK _ _ (h1.trans h2)
 ·rename_i hr
  rw [if_neg hr] at hK
  exact hK _ _ h1
end
def applyH (l:List (Nat×Nat)) (f:Nat→Nat):Nat→Nat:=l.foldl (fun f x=>fun j=>if j=x.1/8 then x.2 else f j) f
theorem applyH_snoc (l:List (Nat×Nat)) (x:Nat×Nat) (f:Nat→Nat):applyH (l++ [x]) f=fun j=>if j=x.1/8 then x.2 else applyH l f j:=by simp [applyH,List.foldl_append]
theorem wrL_get:∀(l:List (Nat×Nat)) (i:Nat) (x:Nat×Nat),l[i]? =some x→(wrL l)[i*2]? =some (.int .u64 (x.1:Int))∧(wrL l)[i*2+1]? =some (.int .u64 (x.2:Int)):=by
 intro l
 induction l with
 |nil=>intro i x h;simp at h
 |cons y l ih=>
  intro i x h
  obtain ⟨o,v⟩:=y
  cases i with
  |zero=>simp at h;subst h;exact ⟨rfl,rfl⟩
  |succ i=>
   have:=ih i x (by simpa using h)
   simp only [wrL,show (i+1)*2=i*2+1+1 by omega,List.getElem?_cons_succ]
   exact this
theorem take_snoc' {α:Type} {l:List α} {k:Nat} {x:α} (h:l[k]? =some x):l.take (k+1)=l.take k++ [x]:=by
 have hk:=(List.getElem?_eq_some_iff.1 h).1
 rw [List.take_succ_eq_append_getElem hk];congr 2;simpa [List.getElem?_eq_getElem hk] using h
section
variable {w w':World} {Y:Lay} {D D':DS}
theorem k_apply (h:Dv w Y D) (g:Good D) (l k b o len cap:Nat) (hl:l<D.n) (hv:Y.hv l= .slice (some ⟨b,o,none⟩) len cap) (hk:k≤(D.hist l).length) (hk':(D.hist l).length<1099511627776) (K:K1) (hK:∀w',Stp w Y w' Y {D with pers:=applyH ((D.hist l).take k) D.pers}→Frm (fun b=>b=Y.pb) w w'→K (.tuple #[]) w'):
  callS prog 436 #[.slice (some ⟨Y.pb,0,none⟩) (8*D.n) Y.pc,.slice (some ⟨b,o,none⟩) k cap] w K:=by
 refine f436_call _ _ _ _ ?_
 unfold f436_t
 simp (disch:=try exact dZ) only [↓RBp,↓RA,↓reduceIte,Nat.reduceAdd,Nat.reduceMul,Nat.reduceEqDiff,RB,RX,RA2]
 apply f436_l1_rule (I:=fun x8 w'=>∃j:Nat,x8= .int .i64 (j:Int)∧j≤k∧Stp w Y w' Y {D with pers:=applyH ((D.hist l).take j) D.pers}∧Frm (fun b=>b=Y.pb) w w') (μ:=fun x8 _=>k-(intOf x8).toNat)
 ·exact ⟨0,rfl,by omega,Stp.refl h,Frm.refl _ _⟩
 ·intros;rename_i w1 hI E1 hE
  obtain ⟨j,rfl,hj,hs,hfr⟩:=hI
  unfold f436_l1_t
  have hn:=g.n
  by_cases hjk:j<k
  ·have hjl:j<(D.hist l).length:=oM
   obtain ⟨x,hx⟩:∃x,(D.hist l)[j]? =some x:=⟨_,List.getElem?_eq_getElem hjl⟩
   have hw:=wrL_get _ _ _ hx
   have hS:=hs.dv.hs l hl
   have c1:=hS.cell hv hw.1
   have c2:=hS.cell hv hw.2
   have hg:=g.hist l hl x.1 x.2 (List.mem_of_getElem? hx)
   have bp:=hs.dv.pe.lt
   have c3:=hs.dv.c_pers (x.1/8) (by show _<8*D.n;omega)
   rw [←Nat.add_assoc] at c2
   simp (disch:=try exact dZ) only [↓RBp,↓RA,↓reduceIte,Nat.reduceAdd,Nat.reduceMul,Nat.reduceEqDiff,RB,RX,RA2,hs.dv.R,c1,c2,c3]
   apply hE
   ·refine ⟨j+1,by simp,by omega,?_,(hfr.set _ (fun _=>rfl)).alloc _⟩
    rw [take_snoc' hx,applyH_snoc]
    exact (hs.trans (hs.dv.setPers (x.1/8) x.2 (by show _<8*D.n;omega))).grow (Ext.alloc_self _ _)
   ·simp [intOf];omega
  ·have:j=k:=oM
   subst this
   simp (disch:=try exact dZ) only [↓RBp,↓RA,↓reduceIte,Nat.reduceAdd,Nat.reduceMul,Nat.reduceEqDiff,RB,RX,RA2]
   exact hK _ hs hfr
def DS.persist (D:DS) (l k:Nat):DS:={D with pers:=applyH ((D.hist l).take k) D.pers,done:=fun j=>if j=l then D.done l+k else D.done j,hist:=fun j=>if j=l then (D.hist l).drop k else D.hist j}
theorem wrL_drop (k:Nat) (l:List (Nat×Nat)):wrL (l.drop k)=(wrL l).drop (k*2):=by
 induction k generalizing l with
 |zero=>simp
 |succ k ih=>
  cases l with
  |nil=>simp [wrL]
  |cons x l=>obtain ⟨o,v⟩:=x;simp only [List.drop_succ_cons,ih,wrL,show (k+1)*2=k*2+1+1 by omega]
theorem k_persist (h:Dv w Y D) (g:Good D) (l k:Nat) (hl:l<D.n) (h0:0<k) (hk:k≤(D.hist l).length) (hx:D.exe<1099511627776) (K:K1) (hK:∀w' Y',Stp w Y w' Y' (D.persist l k)→Frm (fun b=>b=Y.pb∨b=Y.lb) w w'→K (.tuple #[]) w'):
  callS prog 435 #[.pointer (some ⟨Y.d,0,none⟩),.int .i64 (l:Int),.int .i64 (k:Int)] w K:=by
 have hn:=g.n
 have hc:=g.cnt l hl
 have hS:=h.hs l hl
 obtain ⟨b,o,cap,hv,hcap⟩:=hS.isS (Nat.lt_of_lt_of_le h0 hk)
 have r1:=fun w k'=>rd_of_run (P:=prog) (run_hi elWrite b o (D.hist l).length cap .i64 k w oM) k'
 have r2:=fun w k'=>ev_of_run (P:=prog) (run_lo elWrite b o (D.hist l).length cap .i64 k w hk) k'
 have c1:=h.c_hist l hl
 rw [hv] at c1
 refine f435_call _ _ _ _ _ ?_
 unfold f435_t
 simp (disch:=try exact dZ) only [↓RBp,↓RA,↓reduceIte,Nat.reduceAdd,Nat.reduceMul,Nat.reduceEqDiff,RB,RX,RA2,h.R,hv,r1]
 have hd:=h.ext (Ext.refl w).drew
 refine k_apply hd g l k b o _ cap hl hv hk oM _ (fun w1 h1 hf1=> ?_)
 have hF1:Frm (fun b=>b=Y.pb∨b=Y.lb) w w1:=(Frm.of_ext (Ext.refl w).drew).trans (hf1.mono (fun b hb=> .inl hb)) (fun _ _ h=>h)
 have h1':=Stp.pre (Ext.refl w).drew (fun b hb=>h.lt hb) h1
 have c2:=h1'.dv.c_done l hl
 have c3:=h1'.dv.c_hist l hl
 rw [hv] at c3
 simp (disch:=try exact dZ) only [↓RBp,↓RA,↓reduceIte,Nat.reduceAdd,Nat.reduceMul,Nat.reduceEqDiff,RB,RX,RA2,h1'.dv.R,c2]
 have h2:=h1'.trans (h1'.dv.setDone l (D.done l+k) hl)
 have c4:=h2.dv.c_hist l hl
 have c4':=h2.dv.c_done l hl
 rw [hv] at c4
 simp (disch:=try exact dZ) only [↓RBp,↓RA,↓reduceIte,Nat.reduceAdd,Nat.reduceMul,Nat.reduceEqDiff,RB,RX,RA2,h2.dv.R,hv,r2]
 have hS2:=h2.dv.hs l hl
 rw [hv] at hS2
 have hd2:=hS2.drop (k:=k) hk
 have h3:=h2.trans (h2.dv.setHist l hl _ ((D.hist l).drop k) (by rw [wrL_drop,List.length_drop];exact hd2) (Frm.refl _ _) (fun b' hb'=> .inl (by rw [hv];exact hb')))
 have c5:=h3.dv.c_hist l hl
 simp only [if_true] at c5
 (repeat' (first|(with_reducible first|refine brS_mk (fun _=> ?_) (fun _=> ?_)|refine And.intro ?_ ?_)|(simp (disch:=try exact dZ) only [↓RBp,↓RA,↓reduceIte,Nat.reduceAdd,Nat.reduceMul,Nat.reduceEqDiff,RB,RX,RA2,h3.dv.R,c5])))
 ·rename_i e
  have e':(D.hist l).drop k= []:=List.eq_nil_of_length_eq_zero (by rw [List.length_drop];omega)
  have h4:=h3.trans (h3.dv.setHist l hl (.slice none 0 0) [] (SlO.nil _ _ _) (Frm.refl _ _) (fun b' hb'=>by cases hb'))
  refine hK _ _ (h4.to ?_) (((hF1.set _ (fun _=> .inr rfl)).set _ (fun _=> .inr rfl)).set _ (fun _=> .inr rfl))
  unfold DS.persist
  simp only [DS.mk.injEq,true_and,and_true]
  funext j
  by_cases hj:j=l
  ·simp [hj,e']
  ·simp [hj]
 ·refine hK _ _ (h3.to ?_) ((hF1.set _ (fun _=> .inr rfl)).set _ (fun _=> .inr rfl))
  unfold DS.persist
  simp only [DS.mk.injEq,true_and,and_true]
end
def DS.note (D:DS) (id:Nat) (k:Int) (p:Nat):DS:={D with notes:=fun j=>if j=id then (fun i=>if i=k then some p else D.notes id i) else D.notes j}
def fOff (D:DS) (off:Nat):Bool:=decide (off<D.n*64)
def DS.flush (D:DS) (id off:Nat):DS:=if D.runs (fOff D off)=true then (D.counted id (fOff D off)).note id ((off/64:Nat):Int) (D.done (off/64)+(D.hist (off/64)).length) else D.counted id (fOff D off)
theorem mapN:mapT prog 260=true:=by kernel_rfl
section
variable {w w':World} {Y:Lay} {D D':DS}
theorem Good.note (g:Good D) (id:Nat) (l p:Nat) (hl:l<D.n) (hp:p≤D.done l+(D.hist l).length):Good (D.note id (l:Int) p):=by
 refine ⟨g.n0,g.n,g.cur,g.pers,g.hist,g.cnt,g.left,?_⟩
 intro j hj k q hk
 have hk':(if j=id then (fun i=>if i=(l:Int) then some p else D.notes id i) else D.notes j) k=some q:=hk
 by_cases e1:j=id
 ·by_cases e2:k=(l:Int)
  ·simp only [e1,e2,if_true,Option.some.injEq] at hk'
   subst e2;subst hk'
   exact ⟨Int.natCast_nonneg _,by show (l:Int)<(D.n:Int);omega,by show p≤D.done (l:Int).toNat+(D.hist (l:Int).toNat).length;simpa using hp⟩
  ·simp only [e1,e2,if_true,if_false] at hk'
   subst e1;exact g.notes j hj k q hk'
 ·simp only [e1,if_false] at hk'
  exact g.notes j hj k q hk'
theorem Good.flush (g:Good D) (id off:Nat):Good (D.flush id off):=by
 unfold DS.flush
 split
 ·rename_i hr
  have hv:=(runs_v hr).1
  have hn:=DS.counted_hist (id:=id) hr
  simp only [fOff,decide_eq_true_eq] at hv
  refine (g.counted id _).note id _ _ (by rw [DS.counted_n];omega) ?_
  rw [hn.1,hn.2.1];exact Nat.le_refl _
 ·exact g.counted id _
theorem k_Flush (h:Dv w Y D) (g:Good D) (id:Nat) (hid:id<8) (off:Nat) (hx:D.exe<1099511627775) (K:K1) (hK:∀w',Stp w Y w' Y (D.flush id off)→K (.tuple #[]) w'):callS prog 432 #[.pointer (some ⟨Y.tb id,0,none⟩),.int .u64 (off:Int)] w K:=by
 refine f432_call _ _ _ _ ?_
 unfold f432_t
 unfold DS.flush at hK
 have hn:=g.n
 simp (disch:=try exact dZ) only [↓RBp,↓RA,↓reduceIte,Nat.reduceAdd,Nat.reduceMul,Nat.reduceEqDiff,RB,RX,RA2,h.R,c_DSize h g]
 refine k_counted h id hid (fOff D off) oM g.left.1 g.left.2 _ (fun w1 h1=> ?_)
 by_cases hr:D.runs (fOff D off)=true
 ·rw [if_pos hr] at hK
  have hv:=(runs_v hr).1
  simp only [fOff,decide_eq_true_eq] at hv
  have hc:=DS.counted_hist (id:=id) hr
  have hcn:=DS.counted_n D id (fOff D off)
  have hcl:=g.cnt (off/64) oM
  have hl:off/64<(D.counted id (fOff D off)).n:=by rw [hcn];omega
  have c1:=h1.dv.c_done (off/64) hl
  have hS:=h1.dv.hs (off/64) hl
  have c2:=h1.dv.c_hist (off/64) hl
  have ln:∃a cap,Y.hv (off/64)= .slice a (D.hist (off/64)).length cap:=by
   rw [hc.1] at hS
   rcases hS.2 with ⟨e,e2⟩|⟨b,o,cap,a,e,_⟩
   ·rw [e,e2];exact ⟨_,_,rfl⟩
   ·exact ⟨_,_,e⟩
  obtain ⟨a,cap,hv2⟩:=ln
  rw [hc.2.1] at c1
  rw [hv2] at c2
  simp (disch:=try exact dZ) only [↓RBp,↓RA,↓reduceIte,Nat.reduceAdd,Nat.reduceMul,Nat.reduceEqDiff,RB,RX,RA2,hr,h1.dv.R,hcn,hc.2.1,hv2]
  obtain ⟨es,c,hm⟩:=h1.dv.nt id hid
  refine ac_mapUpdate mapN (hm.of_heap (w':=w1.drew) rfl) _ _ (fun w2 es2 c2 hm2 hf2=> ?_)
  have hfr:Frm (fun b=>b=Y.nb id) w1 w2:=⟨hf2.os,hf2.tape,hf2.output,hf2.size,hf2.block⟩
  have hm3:MapI w2 (Y.nb id) es2 c2 (fun i=>((if i=((off/64:Nat):Int) then some (D.done (off/64)+(D.hist (off/64)).length) else (D.counted id (fOff D off)).notes id i):Option Nat).map u64):=by
   refine ⟨hm2.1,hm2.2.1,hm2.2.2.1,hm2.2.2.2.1,hm2.2.2.2.2.1,?_⟩
   intro i v
   have:=hm2.2.2.2.2.2 i v
   rw [←this]
   show ((if i=((off/64:Nat):Int) then some (D.done (off/64)+(D.hist (off/64)).length) else (D.counted id (fOff D off)).notes id i):Option Nat).map u64=some v↔(if i=((off/64:Nat):Int) then some _ else ntF (D.counted id (fOff D off)) id i)=some v
   by_cases e:i=((off/64:Nat):Int)
   ·rw [if_pos e,if_pos e];exact Iff.rfl
   ·rw [if_neg e,if_neg e];exact Iff.rfl
  exact hK _ (h1.trans (h1.dv.setNote id hid _ hm3 hfr))
 ·rw [if_neg hr] at hK
  have hr':D.runs (fOff D off)=false:=by simpa using hr
  simp (disch:=try exact dZ) only [↓RBp,↓RA,↓reduceIte,Nat.reduceAdd,Nat.reduceMul,Nat.reduceEqDiff,RB,RX,RA2,hr']
  exact hK _ h1
def DS.parts (D:DS) (kk:Nat→Nat):DS:={D with pers:=fun x=>applyH ((D.hist (x/8)).take (kk (x/8))) D.pers x,done:=fun l=>D.done l+kk l,hist:=fun l=>(D.hist l).drop (kk l)}
theorem applyH_cons (x:Nat×Nat) (l:List (Nat×Nat)) (f:Nat→Nat):applyH (x::l) f=applyH l (fun j=>if j=x.1/8 then x.2 else f j):=rfl
theorem applyH_congr (l:List (Nat×Nat)):∀(f g:Nat→Nat) (x:Nat),f x=g x→applyH l f x=applyH l g x:=by
 induction l with
 |nil=>intro f g x h;exact h
 |cons y l ih=>
  intro f g x h
  rw [applyH_cons,applyH_cons]
  exact ih _ _ x (by simp [h])
theorem applyH_other (l:List (Nat×Nat)):∀(f:Nat→Nat) (x:Nat),(∀y∈l,y.1/8≠x)→applyH l f x=f x:=by
 induction l with
 |nil=>intro f x h;rfl
 |cons y l ih=>
  intro f x h
  rw [applyH_cons,ih _ x (fun z hz=>h z (List.mem_cons_of_mem _ hz))]
  have:=h y List.mem_cons_self
  simp [Ne.symm this]
theorem parts_persist (g:Good D) (kk:Nat→Nat) (l k:Nat) (hl:l<D.n) (h0:kk l=0):(D.parts kk).persist l k=D.parts (fun j=>if j=l then k else kk j):=by
 unfold DS.persist DS.parts
 simp only [DS.mk.injEq,true_and,and_true,h0,List.drop_zero,Nat.add_zero]
 refine ⟨?_,?_,?_⟩
 ·funext x
  by_cases hx:x/8=l
  ·simp only [hx,if_true]
   exact applyH_congr _ _ _ _ (by simp [hx,h0,applyH])
  ·simp only [hx,if_false]
   rw [applyH_other]
   intro y hy e
   have:=g.hist l hl y.1 y.2 (List.mem_of_mem_take hy)
   apply hx;omega
 ·funext j
  by_cases hj:j=l
  ·simp [hj]
  ·simp [hj]
 ·funext j
  by_cases hj:j=l
  ·simp [hj]
  ·simp [hj]
theorem applyH_lt (l:List (Nat×Nat)):∀(f:Nat→Nat) (x:Nat),f x<18446744073709551616→(∀y∈l,y.2<18446744073709551616)→applyH l f x<18446744073709551616:=by
 induction l with
 |nil=>intro f x h _;exact h
 |cons y l ih=>
  intro f x h hl
  rw [applyH_cons]
  refine ih _ x ?_ (fun z hz=>hl z (List.mem_cons_of_mem _ hz))
  have:=hl y List.mem_cons_self
  split
  ·exact this
  ·exact h
theorem Good.parts (g:Good D) (kk:Nat→Nat) (hk:∀l,l<D.n→kk l≤(D.hist l).length):Good (D.parts kk):=by
 refine ⟨g.n0,g.n,g.cur,?_,?_,?_,g.left,?_⟩
 ·intro i hi
  refine applyH_lt _ _ _ (g.pers i hi) ?_
  intro y hy
  exact (g.hist (i/8) (by show i/8<D.n;have:i<8*D.n:=hi;omega) y.1 y.2 (List.mem_of_mem_take hy)).2.2
 ·intro l hl o v hv
  exact g.hist l hl o v (List.mem_of_mem_drop hv)
 ·intro l hl
  have:=g.cnt l hl
  have h2:=hk l hl
  show D.done l+kk l+((D.hist l).drop (kk l)).length≤D.exe
  rw [List.length_drop];omega
 ·intro id hid k p hkp
  have:=g.notes id hid k p hkp
  refine ⟨this.1,this.2.1,?_⟩
  have h2:=hk k.toNat oM
  show p≤D.done k.toNat+kk k.toNat+((D.hist k.toNat).drop (kk k.toNat)).length
  rw [List.length_drop];omega
def DS.due (D:DS) (id l:Nat):Nat:=
 match D.notes id (l:Int) with
 |some p=>p-D.done l
 |none=>0
def DS.clr (D:DS) (id:Nat):DS:={D with notes:=fun j=>if j=id then (fun _=>none) else D.notes j}
def DS.fence (D:DS) (id:Nat):DS:=if D.runs true=true then ((D.counted id true).parts (D.due id)).clr id else D.counted id true
theorem due_le (g:Good D) (id l:Nat) (hid:id<8):D.due id l≤(D.hist l).length:=by
 unfold DS.due
 cases h:D.notes id (l:Int) with
 |none=>simp
 |some p=>have:=(g.notes id hid _ p h).2.2;simp at this;simp;omega
theorem Good.clr (g:Good D) (id:Nat):Good (D.clr id):=by
 refine ⟨g.n0,g.n,g.cur,g.pers,g.hist,g.cnt,g.left,?_⟩
 intro j hj k p hk
 have hk':(if j=id then (fun _=>none) else D.notes j) k=some p:=hk
 by_cases e:j=id
 ·simp [e] at hk'
 ·simp only [e,if_false] at hk';exact g.notes j hj k p hk'
theorem Good.fence (g:Good D) (id:Nat) (hid:id<8):Good (D.fence id):=by
 unfold DS.fence
 split
 ·rename_i hr
  have hn:=DS.counted_hist (id:=id) hr
  refine ((g.counted id _).parts _ ?_).clr id
  intro l hl
  rw [hn.1];exact due_le g id l hid
 ·exact g.counted id _
def leftN (es:Array MapEntry) (seen:Array Nat):Nat:=(es.toList.filter fun x=> !seen.contains x.born).length
theorem filter_lt {α:Type} {p q:α→Bool}:∀{l:List α},(∀x,q x=true→p x=true)→∀{x:α},x∈l→p x=true→q x=false→(l.filter q).length<(l.filter p).length:=by
 intro l
 induction l with
 |nil=>intro _ x hx;cases hx
 |cons a l ih=>
  intro hpq x hx hp hq
  have hle:(l.filter q).length≤(l.filter p).length:=by
   clear ih hx
   induction l with
   |nil=>simp
   |cons b l ih=>
    simp only [List.filter_cons]
    cases hb:q b with
    |true=>rw [hpq b hb];simp;exact ih
    |false=>cases p b<;>simp<;>omega
  simp only [List.filter_cons]
  cases hx with
  |head=>rw [hp,hq];simp;omega
  |tail _ hx=>
   have:=ih hpq hx hp hq
   cases ha:q a with
   |true=>rw [hpq a ha];simp;exact this
   |false=>cases p a<;>simp<;>omega
theorem leftN_lt {es:Array MapEntry} {seen:Array Nat} {x:MapEntry} (hx:x∈es.toList) (hs:x.born∉seen):leftN es (seen.push x.born)<leftN es seen:=by
 refine filter_lt ?_ hx (by simpa using hs) (by simp)
 intro y hy
 simp at hy ⊢
 intro h;exact hy.1 h
def itN (it:Nat) (es:Array MapEntry) (w:World):Nat:=
 match w.heap[it]? with
 |some (.mapIter _ _ seen _)=>leftN es seen
 |_=>0
theorem k_Fence (h:Dv w Y D) (g:Good D) (id:Nat) (hid:id<8) (hx:D.exe<1099511627775) (K:K1) (hK:∀w' Y',Stp w Y w' Y' (D.fence id)→K (.tuple #[]) w'):callS prog 431 #[.pointer (some ⟨Y.tb id,0,none⟩)] w K:=by
 refine f431_call _ _ _ ?_
 unfold f431_t
 unfold DS.fence at hK
 simp (disch:=try exact dZ) only [↓RBp,↓RA,↓reduceIte,Nat.reduceAdd,Nat.reduceMul,Nat.reduceEqDiff,RB,RX,RA2,h.R]
 refine k_counted h id hid true oM g.left.1 g.left.2 _ (fun w1 h1=> ?_)
 by_cases hr:D.runs true=true
 ·rw [if_pos hr] at hK
  have hc:=DS.counted_hist (id:=id) hr
  have hcn:=DS.counted_n D id true
  have gc:=g.counted id true
  have hexe:(D.counted id true).exe<1099511627776:=by rw [hc.2.2.1];omega
  have hdue:∀l,l<(D.counted id true).n→D.due id l≤((D.counted id true).hist l).length:=fun l hl=>by rw [hc.1];exact due_le g id l hid
  generalize hC:D.counted id true=C at*
  obtain ⟨es,clk,hm⟩:=h1.dv.nt id hid
  have r1:=ev_range mapN hm.1
  simp (disch:=try exact dZ) only [↓RBp,↓RA,↓reduceIte,Nat.reduceAdd,Nat.reduceMul,Nat.reduceEqDiff,RB,RX,RA2,hr,h1.dv.R,r1]
  obtain ⟨it,hit⟩:∃it,it=w1.heap.size:=⟨_,rfl⟩
  rw [←hit]
  have hborn:=hm.2.1
  have hnd:=hm.2.2.1
  have hkeys:=hm.2.2.2.2.1
  have hlk:=hm.2.2.2.2.2
  have hknd:=hm.2.2.2.1
  apply f431_l1_rule (I:=fun w'=>∃seen last kk Y',w'.heap[it]? =some (.mapIter (some (Y.nb id)) clk seen last)∧clk≤last∧Stp w Y w' Y' (C.parts kk)∧¬Y'.F it∧w'.heap[Y.nb id]? =some (.map es clk)∧it<w'.heap.size∧(∀l,l<C.n→kk l≤(C.hist l).length)∧
   (∀x∈es.toList,∀l:Nat,x.key= .int .i64 (l:Int)→(x.born∈seen→kk l=D.due id l)∧(x.born∉seen→kk l=0))∧(∀l:Nat,(∀x∈es.toList,x.key≠ .int .i64 (l:Int))→kk l=0)) (μ:=fun w'=>itN it es w')
  ·subst hit
   refine ⟨#[],clk,fun _=>0,Y,heap_alloc_eq _ _,Nat.le_refl _,(h1.grow (Ext.alloc_self _ _)).to ?_,fun hF=> ?_,?_,?_,fun l hl=>Nat.zero_le _,fun x hx l hk=>⟨fun hb=>by simp at hb,fun _=>rfl⟩,fun l hl=>rfl⟩
   ·unfold DS.parts;simp [applyH]
   ·have:=h1.dv.lt hF;omega
   ·rw [heap_alloc_lt _ hm.lt];exact hm.1
   ·rw [size_alloc];omega
  ·intros;rename_i w2 hI E1 hE
   obtain ⟨seen,last,kk,Y',hit2,hle,hs,hnF,hmap,hitlt,hkk,hin,hout⟩:=hI
   obtain ⟨hv',rfl⟩:∃hv',Y'={Y with hv:=hv'}:=⟨_,hs.y⟩
   unfold f431_l1_t
   refine ev_next hit2 hmap hborn hle ?_ ?_
   ·intro hall w3 he
    have h3:=hs.grow he
    have hmap3:=Ext.heap_some he hmap
    have r2:=fun ty cs k=>blt_clear (ty:=ty) (cs:=cs) mapN hmap3 k
    simp (disch:=try exact dZ) only [↓RBp,↓RA,↓reduceIte,Nat.reduceAdd,Nat.reduceMul,Nat.reduceEqDiff,RB,RX,RA2,f431_k1_eq,f431_k1_t,h3.dv.R,r2]
    have hkd:kk=D.due id:=by
     funext l
     by_cases hx:∃x∈es.toList,x.key= .int .i64 (l:Int)
     ·obtain ⟨x,hx,hk⟩:=hx
      exact (hin x hx l hk).1 (hall x hx)
     ·rw [hout l (fun x hx' hk=>hx ⟨x,hx',hk⟩)]
      unfold DS.due
      cases hn:D.notes id (l:Int) with
      |none=>rfl
      |some p=>
       exfalso;apply hx
       have:=(hlk (l:Int) (u64 p)).1 (by simp [ntF,hc.2.2.2.2.2.1,hn])
       obtain ⟨x,hx,hk,_⟩:=this
       exact ⟨x,hx,hk⟩
    rw [hkd] at h3
    have hme:MapI (putO w3 (Y.nb id) (.map #[] clk)) (Y.nb id) #[] clk (fun i=>((fun _=>none:Int→Option Nat) i).map u64):=MapI.empty (putO_eq hmap3)
    exact hK _ _ (h3.trans (h3.dv.setNote id hid (fun _=>none) hme putO_frm))
   ·intro x hx hns w3 hit3 hsz hf3
    obtain ⟨i,hki⟩:=hkeys x hx
    have hval:(C.notes id i).map u64=some x.val:=(hlk i x.val).2 ⟨x,hx,hki,rfl⟩
    have hval2:∃p,C.notes id i=some p∧u64 p=x.val:=Option.map_eq_some_iff.1 hval
    obtain ⟨p,hp,hxv⟩:=hval2
    have hgn:=gc.notes id hid i p hp
    have hil:∃l:Nat,i=(l:Int):=⟨i.toNat,(Int.toNat_of_nonneg hgn.1).symm⟩
    obtain ⟨l,hil⟩:=hil
    rw [hil] at hki hp hgn
    have hl:l<C.n:=Int.ofNat_lt.1 hgn.2.1
    have hk0:kk l=0:=(hin x hx l hki).2 hns
    have hitw:w.heap.size≤it:=by rw [hit];exact h1.frm.size
    have hdv3:Dv w3 {Y with hv:=hv'} (C.parts kk):=hs.dv.frm hf3 (fun b hb e=>hnF (by rw [←e];exact hb))
    have h3:Stp w Y w3 {Y with hv:=hv'} (C.parts kk):=⟨hdv3,rfl,hs.frm.trans hf3 (fun b hb e=>absurd (e▸hb) (Nat.not_lt.2 hitw)),hs.fr⟩
    have hnb:Y.nb id≠it:=fun e=>hnF ⟨.nt id,by simp [Lay.blk,hid,e]⟩
    have hmap3:w3.heap[Y.nb id]? =some (.map es clk):=by rw [hf3.block _ (lt_of_heap hmap) hnb];exact hmap
    have r2:=fun k=>ev_entry (P:=prog) hit3 hmap3 hnd hx rfl k
    have hd:(C.parts kk).done l=C.done l:=by simp [DS.parts,hk0]
    have hn4:=gc.n
    have hcl:=gc.cnt l hl
    have hp':p≤C.done l+(C.hist l).length:=by simpa using hgn.2.2
    have hnn:(C.parts kk).n=C.n:=rfl
    have c1:=hdv3.c_done l hl
    rw [hd] at c1
    have hdue1:D.due id l=p-C.done l:=by
     have hp2:=hp
     rw [hc.2.2.2.2.2.1] at hp2
     unfold DS.due;rw [hp2,hc.2.1]
    have hh1:((C.parts kk).hist l).length=(C.hist l).length:=by simp [DS.parts,hk0]
    have hit3lt:it<w3.heap.size:=by rw [hsz];exact hitlt
    have hit0:itN it es w2=leftN es seen:=by unfold itN;rw [hit2]
    have hin':∀y∈es.toList,∀q:Nat,y.key= .int .i64 (q:Int)→∀kk':Nat→Nat,kk' l=D.due id l→(∀j,j≠l→kk' j=kk j)→(y.born∈seen.push x.born→kk' q=D.due id q)∧(y.born∉seen.push x.born→kk' q=0):=by
     intro y hy q hq kk' e1 e2
     by_cases hql:q=l
     ·subst hql
      refine ⟨fun _=>e1,fun hn=> ?_⟩
      exfalso;apply hn
      have hyx:y=x:=by
       have h5:=List.mem_iff_getElem?.1 hy
       have h6:=List.mem_iff_getElem?.1 hx
       obtain ⟨a,ha⟩:=h5
       obtain ⟨b,hb⟩:=h6
       have h7:(es.toList.map (·.key))[a]? =some (.int .i64 (q:Int)):=by rw [List.getElem?_map,ha,Option.map_some,hq]
       have h8:(es.toList.map (·.key))[b]? =some (.int .i64 (q:Int)):=by rw [List.getElem?_map,hb,Option.map_some,hki]
       have h9:a=b:=(List.getElem?_inj (by rw [List.length_map];exact (List.getElem?_eq_some_iff.1 ha).1) hknd).1 (h7.trans h8.symm)
       rw [h9,hb] at ha
       injection ha with ha
       exact ha.symm
      rw [hyx];simp
     ·rw [e2 q hql]
      have h5:=hin y hy q hq
      have hne:y.born≠x.born:=by
       intro e
       have h10:=List.mem_iff_getElem?.1 hy
       have h11:=List.mem_iff_getElem?.1 hx
       obtain ⟨a,ha⟩:=h10
       obtain ⟨b,hb⟩:=h11
       have h7:(es.toList.map (·.born))[a]? =some x.born:=by rw [List.getElem?_map,ha,Option.map_some,e]
       have h8:(es.toList.map (·.born))[b]? =some x.born:=by rw [List.getElem?_map,hb,Option.map_some]
       have h9:a=b:=(List.getElem?_inj (by rw [List.length_map];exact (List.getElem?_eq_some_iff.1 ha).1) hnd).1 (h7.trans h8.symm)
       rw [h9,hb] at ha
       injection ha with ha
       rw [←ha,hki] at hq
       injection hq with _ hq
       exact hql (Int.ofNat_inj.1 hq).symm
      refine ⟨fun hb=>h5.1 ?_,fun hb=>h5.2 (fun h6=>hb ?_)⟩
      ·rcases Array.mem_push.1 hb with h6|h6
       ·exact h6
       ·exact absurd h6 hne
      ·exact Array.mem_push.2 (.inl h6)
    have hout':∀q:Nat,(∀y∈es.toList,y.key≠ .int .i64 (q:Int))→q≠l:=fun q hq e=>hq x hx (by rw [hki,e])
    by_cases hpd:C.done l<p
    ·simp (disch:=try exact dZ) only [↓RBp,↓RA,↓reduceIte,Nat.reduceAdd,Nat.reduceMul,Nat.reduceEqDiff,RB,RX,RA2,r2,hki,←hxv,hdv3.R,hnn,hd]
     refine k_persist hdv3 (gc.parts kk hkk) l (p-C.done l) hl (by clear hE;omega) (by rw [hh1];clear hE;omega) (show C.exe<_ from hexe) _ (fun w4 Y4 h4 hf4=> ?_)
     have hnb4:¬(Y.nb id=Y.pb∨Y.nb id=Y.lb):=by
      rintro (e|e)
      ·have:=h.inj (.nt id) .pe (Y.nb id) (by simp [Lay.blk,hid]) (by rw [e];rfl);cases this
      ·have:=h.inj (.nt id) .li (Y.nb id) (by simp [Lay.blk,hid]) (by rw [e];rfl);cases this
     have hit4:w4.heap[it]? =some (.mapIter (some (Y.nb id)) clk (seen.push x.born) clk):=by rw [h4.frm.block it hit3lt hnF];exact hit3
     apply hE
     ·refine ⟨seen.push x.born,clk,fun j=>if j=l then p-C.done l else kk j,Y4,hit4,Nat.le_refl _,?_,?_,?_,?_,?_,?_,?_⟩
      ·rw [←parts_persist gc kk l _ hl hk0];exact h3.trans h4
      ·intro hF
       rcases h4.fr it hF with h5|h5
       ·exact hnF h5
       ·exact absurd hit3lt (Nat.not_lt.2 h5)
      ·rw [hf4.block _ (lt_of_heap hmap3) hnb4];exact hmap3
      ·exact Nat.lt_of_lt_of_le hit3lt h4.frm.size
      ·intro q hq
       show (if q=l then p-C.done l else kk q)≤_
       by_cases e:q=l
       ·rw [if_pos e,e];clear hE;omega
       ·rw [if_neg e];exact hkk q hq
      ·intro y hy q hq
       exact hin' y hy q hq (fun j=>if j=l then p-C.done l else kk j) ((if_pos rfl).trans hdue1.symm) (fun j hj=>if_neg hj)
      ·intro q hq
       show (if q=l then p-C.done l else kk q)=0
       rw [if_neg (hout' q hq)];exact hout q hq
     ·show itN it es w4<itN it es w2
      rw [hit0];unfold itN;rw [hit4];exact leftN_lt hx hns
    ·simp (disch:=try exact dZ) only [↓RBp,↓RA,↓reduceIte,Nat.reduceAdd,Nat.reduceMul,Nat.reduceEqDiff,RB,RX,RA2,r2,hki,←hxv,hdv3.R,hnn,hd]
     apply hE
     ·refine ⟨seen.push x.born,clk,kk,_,hit3,Nat.le_refl _,h3,hnF,hmap3,hit3lt,hkk,?_,hout⟩
      intro y hy q hq
      exact hin' y hy q hq kk (by rw [hk0,hdue1];clear hE;omega) (fun j hj=>rfl)
     ·show itN it es w3<itN it es w2
      rw [hit0];unfold itN;rw [hit3];exact leftN_lt hx hns
 ·rw [if_neg hr] at hK
  have hr':D.runs true=false:=by simpa using hr
  simp (disch:=try exact dZ) only [↓RBp,↓RA,↓reduceIte,Nat.reduceAdd,Nat.reduceMul,Nat.reduceEqDiff,RB,RX,RA2,hr']
  exact hK _ _ h1
end
noncomputable def f331_u:Code×Dec:=((Tryz.f331.body).getD .skip,(.s .o (.x 3 .o (.x 1 .o .o))))
abbrev f331_e (K:K1):KF:=endK prog Tryz.f331.results.toList K
def f331_k1_o (K:K1):KF:=fun fr w=>∀σ,cP (pr (pr f331_u)) (f331_e K) (f331_e K) nX (mixF 3 σ 0 fr) w
def f331_k1 (K:K1) (x0 x1:Value) (w:World):Prop:=f331_k1_o K (fz 27 0 [(0,x0),(1,x1)]) w
def f331_k2_o (K:K1):KF:=fun fr w=>∀σ,cP (pr (pr (pr f331_u))) (f331_e K) (f331_e K) nX (mixF 1 σ 0 fr) w
def f331_k2 (K:K1) (x0:Value) (w:World):Prop:=f331_k2_o K (fz 27 0 [(0,x0)]) w
def f331_k1_t (x0 x1:Value) (K:K1) (w:World):Prop:=
 bltS prog .cap #[222] 3 #[false] (pA #[x0]) w fun t10 w=>
 bltS prog .len #[222] 3 #[false] #[x0] w fun t12 w=>
 ev prog (binM .sub 3 (.tmp 10) (.tmp 12) t10 t12) w fun t13 w=>
 ev prog (binM .sub 3 (.tmp 8) (.tmp 13) x1 t13) w fun t14 w=>
 ev prog (binM .gtr 3 (.tmp 15) (.const (.int .i64 0)) t14 (.int .i64 0)) w fun t16 w=>
 cndS t16 (
 bltS prog .cap #[222] 3 #[false] (pA #[x0]) w fun t19 w=>
 ev prog (Instr.sliceAt 222 x0 none (some t19) none) w fun t20 w=>
 bltS prog .append #[222,3] 222 #[false,false] (pA #[t20,t14]) w fun t22 w=>
 bltS prog .len #[222] 3 #[false] #[x0] w fun t24 w=>
 ev prog (Instr.sliceAt 222 t22 none (some t24) none) w fun t25 w=>
 f331_k2 K t25 w) (
 f331_k2 K x0 w)
theorem f331_k1_eq (K:K1) (x0 x1:Value) (w:World):f331_k1 K x0 x1 w=f331_k1_t x0 x1 K w:=cutE fun σ=>by kernel_rfl
def f331_k2_t (x0:Value) (K:K1) (w:World):Prop:=
 K x0 w
theorem f331_k2_eq (K:K1) (x0:Value) (w:World):f331_k2 K x0 w=f331_k2_t x0 K w:=cutE fun σ=>by kernel_rfl
def f331_t (x0 x1:Value) (K:K1) (w:World):Prop:=
 ev prog (binM .lss 3 (.tmp 5) (.const (.int .i64 0)) x1 (.int .i64 0)) w fun t6 w=>
 cndS t6 (
 ev prog (Instr.makeInterface 9 (.string {data:= #[99,97,110,110,111,116,32,98,101,32,110,101,103,97,116,105,118,101]})) w fun t7 w=>
 False) (
 f331_k1 K x0 x1 w)
theorem f331_call (x0 x1:Value) (K:K1) (w:World) (h:f331_t x0 x1 K w):callS prog 331 #[x0,x1] w K:=
 call_of_txt (args:= [x0,x1]) mixed Tryz.func331 f331_u.2 kR (cast kR h)
structure Ins where
 op:Nat
 off:Nat
 val:Nat
def okI (i:Ins):Prop:=1≤i.op∧i.op≤3∧i.off<18446744073709551616∧i.val<18446744073709551616
def DS.exec (D:DS) (id:Nat) (i:Ins):DS:=if i.op=1 then D.store id i.off i.val else if i.op=2 then D.flush id i.off else D.fence id
def DS.run (D:DS) (id:Nat) (p:List Ins):DS:=p.foldl (fun D i=>D.exec id i) D
section
variable {w w':World} {Y:Lay} {D D':DS}
theorem Good.exec (g:Good D) (id:Nat) (hid:id<8) (i:Ins) (hi:okI i):Good (D.exec id i):=by
 unfold DS.exec;split
 ·exact g.store _ _ _ hi.2.2.2
 ·split
  ·exact g.flush _ _
  ·exact g.fence _ hid
theorem Good.run (id:Nat) (hid:id<8):∀(p:List Ins) (D:DS),Good D→(∀i∈p,okI i)→Good (D.run id p):=by
 intro p
 induction p with
 |nil=>intro D g _;exact g
 |cons i p ih=>intro D g h;exact ih _ (g.exec id hid i (h i List.mem_cons_self)) (fun j hj=>h j (List.mem_cons_of_mem _ hj))
def thr (Y:Lay) (id:Nat):Value:= .iface 87 (.pointer (some ⟨Y.tb id,0,none⟩))
end
end Go.Proofs.YtjegifbmbianiaaGreatDoor
