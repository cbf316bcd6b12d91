/-
  Part 2 of what the proofs of this seat share.
-/
import Derived.Test.YtifpinhjpbgnoaaGreatDoorBs1
import Derived.Below
import Derived.Laws.AppendOwn
import Derived.Laws.OwnMore
import Derived.Laws.IdiomRangeMap
import Derived.MapKept
import Derived.Laws.MakeOwn
import Derived.Sort.AssemblyPlain
import Derived.Sort.LotD4
import Derived.Sort.LotD5
set_option linter.defProp false
set_option linter.unusedSimpArgs false
set_option linter.unusedVariables false
set_option maxHeartbeats 8000000
set_option maxRecDepth 100000
open Go.Proofs.Tryz (prog)
open Go.RowKit (intOf)
namespace Go.Proofs.YtifpinhjpbgnoaaGreatDoor
open Go Go.Sh
def f118_t (x0:Value) (K:K1) (w:World):Prop:=
 bltS prog .len #[39] 3 #[false] #[x0] w fun t4 w=>
 ev prog (convert 3 96 t4) w fun t8 w=>
 callS prog 126 (pA #[t8]) w fun t9 w=>
 callS prog 125 (pA #[x0,(.int .i64 0),t4,t9]) w fun t10 w=>
 K (.tuple #[]) w
theorem f118_call (x0:Value) (K:K1) (w:World) (h:f118_t x0 K w):callS prog 118 #[x0] w K:=
 call_of_txt (args:= [x0]) mixed Tryz.func118 .o (by kernel_rfl) (cast (by kernel_rfl) h)
noncomputable def f125_u:Code×Dec:=((Tryz.f125.body).getD .skip,(.s .o (.s .o (.b (.l [1,2,3,8,9] 1 21778071482940061661655974875633165532942 (.b (.s .o (.s .o (.s .o (.x 1807 .o (.s .o (.x 7951 .o (.x 3855 .o .o)))))))))))))
abbrev f125_e (K:K1):KF:=endK prog Tryz.f125.results.toList K
def f125_l1 (K:K1) (x0 x1 x2 x3 x8 x9:Value) (w:World):Prop:=loopT [1,2,3,8,9] 1 (fun E=>cP (pl (pl (pr (pr f125_u)))) E (f125_e K) (exB 0 (f125_e K) nX)) (fz 134 0 [(0,x0),(1,x1),(2,x2),(3,x3),(8,x8),(9,x9)]) w
def f125_k1_o (K:K1) (E1:VP5):KF:=fun fr w=>∀σ,cP (pr (pr (pr (pr (pl (pl (pl (pr (pr f125_u))))))))) (fun fr w=>E1 (sv fr 1) (sv fr 2) (sv fr 3) (sv fr 8) (sv fr 9) w) (f125_e K) (exB 1 (fun fr w=>E1 (sv fr 1) (sv fr 2) (sv fr 3) (sv fr 8) (sv fr 9) w) (exB 0 (f125_e K) nX)) (mixF 1807 σ 0 fr) w
def f125_k1 (K:K1) (E1:VP5) (x0 x1 x2 x3 x8 x9 x10:Value) (w:World):Prop:=f125_k1_o K E1 (fz 134 0 [(0,x0),(1,x1),(2,x2),(3,x3),(8,x8),(9,x9),(10,x10)]) w
def f125_k2_o (K:K1) (E1:VP5):KF:=fun fr w=>∀σ,cP (pr (pr (pr (pr (pr (pr (pl (pl (pl (pr (pr f125_u))))))))))) (fun fr w=>E1 (sv fr 1) (sv fr 2) (sv fr 3) (sv fr 8) (sv fr 9) w) (f125_e K) (exB 1 (fun fr w=>E1 (sv fr 1) (sv fr 2) (sv fr 3) (sv fr 8) (sv fr 9) w) (exB 0 (f125_e K) nX)) (mixF 7951 σ 0 fr) w
def f125_k2 (K:K1) (E1:VP5) (x0 x1 x2 x3 x8 x9 x10 x11 x12:Value) (w:World):Prop:=f125_k2_o K E1 (fz 134 0 [(0,x0),(1,x1),(2,x2),(3,x3),(8,x8),(9,x9),(10,x10),(11,x11),(12,x12)]) w
def f125_k3_o (K:K1) (E1:VP5):KF:=fun fr w=>∀σ,cP (pr (pr (pr (pr (pr (pr (pr (pl (pl (pl (pr (pr f125_u)))))))))))) (fun fr w=>E1 (sv fr 1) (sv fr 2) (sv fr 3) (sv fr 8) (sv fr 9) w) (f125_e K) (exB 1 (fun fr w=>E1 (sv fr 1) (sv fr 2) (sv fr 3) (sv fr 8) (sv fr 9) w) (exB 0 (f125_e K) nX)) (mixF 3855 σ 0 fr) w
def f125_k3 (K:K1) (E1:VP5) (x0 x1 x2 x3 x8 x9 x10 x11:Value) (w:World):Prop:=f125_k3_o K E1 (fz 134 0 [(0,x0),(1,x1),(2,x2),(3,x3),(8,x8),(9,x9),(10,x10),(11,x11)]) w
def f125_l1_t (x0 x1 x2 x3 x8 x9:Value) (K:K1) (E1:VP5) (w:World):Prop:=
 ev prog (binM .sub 3 (.tmp 19) (.tmp 20) x2 x1) w fun t21 w=>
 ev prog (binM .leq 3 (.tmp 22) (.const (.int .i64 12)) t21 (.int .i64 12)) w fun t23 w=>
 cndS t23 (
 callS prog 131 (pA #[x0,x1,x2]) w fun t27 w=>
 K (.tuple #[]) w) (
 ev prog (binM .eql 3 (.tmp 28) (.const (.int .i64 0)) x3 (.int .i64 0)) w fun t29 w=>
 cndS t29 (
 callS prog 132 (pA #[x0,x1,x2]) w fun t33 w=>
 K (.tuple #[]) w) (
 ev prog (Op.unary .not x8) w fun t35 w=>
 cndS t35 (
 callS prog 133 (pA #[x0,x1,x2]) w fun t39 w=>
 ev prog (binM .sub 3 (.tmp 40) (.const (.int .i64 1)) x3 (.int .i64 1)) w fun t41 w=>
 f125_k1 K E1 x0 x1 x2 t41 x8 x9 t21 w) (
 f125_k1 K E1 x0 x1 x2 x3 x8 x9 t21 w)))
theorem f125_l1_rule (x0 x1 x2 x3 x8 x9:Value) (K:K1) (w:World) (I:VP5) (μ:Value→Value→Value→Value→Value→World→Nat) (h0:I x1 x2 x3 x8 x9 w)
  (hr:∀(x1 x2 x3 x8 x9:Value) (w:World),I x1 x2 x3 x8 x9 w→∀E1:VP5,(∀(y1 y2 y3 y8 y9:Value) (w':World),I y1 y2 y3 y8 y9 w'→μ y1 y2 y3 y8 y9 w'<μ x1 x2 x3 x8 x9 w→E1 y1 y2 y3 y8 y9 w')→f125_l1_t x0 x1 x2 x3 x8 x9 K E1 w):f125_l1 K x0 x1 x2 x3 x8 x9 w:=
 ⟨I,μ,h0,fun σ w hI E hE=>cast (by kernel_rfl) (hr (σ 1) (σ 2) (σ 3) (σ 8) (σ 9) w hI E hE)⟩
def f125_k1_t (x0 x1 x2 x3 x8 x9 x10:Value) (K:K1) (E1:VP5) (w:World):Prop:=
 callS prog 134 (pA #[x0,x1,x2]) w fun t46 w=>
 ev prog (Instr.extract t46 0) w fun t47 w=>
 ev prog (Instr.extract t46 1) w fun t48 w=>
 ev prog (binM .eql 202 (.tmp 49) (.const (.int .i64 2)) t48 (.int .i64 2)) w fun t50 w=>
 cndS t50 (
 callS prog 135 (pA #[x0,x1,x2]) w fun t54 w=>
 ev prog (binM .sub 3 (.tmp 55) (.const (.int .i64 1)) x2 (.int .i64 1)) w fun t56 w=>
 ev prog (binM .sub 3 (.tmp 57) (.tmp 58) t47 x1) w fun t59 w=>
 ev prog (binM .sub 3 (.tmp 56) (.tmp 59) t56 t59) w fun t60 w=>
 f125_k2 K E1 x0 x1 x2 x3 x8 x9 x10 t60 (.int .i64 1) w) (
 f125_k2 K E1 x0 x1 x2 x3 x8 x9 x10 t47 t48 w)
theorem f125_k1_eq (K:K1) (E1:VP5) (x0 x1 x2 x3 x8 x9 x10:Value) (w:World):f125_k1 K E1 x0 x1 x2 x3 x8 x9 x10 w=f125_k1_t x0 x1 x2 x3 x8 x9 x10 K E1 w:=cutE fun σ=>by kernel_rfl
def f125_k2_t (x0 x1 x2 x3 x8 x9 x10 x11 x12:Value) (K:K1) (E1:VP5) (w:World):Prop:=
 gd x8 true (fun k=>k x9 w) w fun t63 w=>
 pickS x8 t63 (.bool false) w fun t64 w=>
 gd t64 true (fun k=>k x12 w) w fun t66 w=>
 gd t64 true (fun k=>ev prog (binM .eql 202 (.tmp 66) (.const (.int .i64 1)) t66 (.int .i64 1)) w k) w fun t67 w=>
 pickS t64 t67 (.bool false) w fun t68 w=>
 cndS t68 (
 callS prog 136 (pA #[x0,x1,x2]) w fun t72 w=>
 cndS t72 (
 K (.tuple #[]) w) (
 f125_k3 K E1 x0 x1 x2 x3 x8 x9 x10 x11 w)) (
 f125_k3 K E1 x0 x1 x2 x3 x8 x9 x10 x11 w)
theorem f125_k2_eq (K:K1) (E1:VP5) (x0 x1 x2 x3 x8 x9 x10 x11 x12:Value) (w:World):f125_k2 K E1 x0 x1 x2 x3 x8 x9 x10 x11 x12 w=f125_k2_t x0 x1 x2 x3 x8 x9 x10 x11 x12 K E1 w:=cutE fun σ=>by kernel_rfl
def f125_k3_t (x0 x1 x2 x3 x8 x9 x10 x11:Value) (K:K1) (E1:VP5) (w:World):Prop:=
 rd prog (binM .gtr 3 (.tmp 73) (.const (.int .i64 0)) x1 (.int .i64 0)) w.drew fun t74=>
 gdR t74 true (fun k=>k x0) fun t76=>
 gdR t74 true (fun k=>k x1) fun t77=>
 gdR t74 true (fun k=>rd prog (binM .sub 3 (.tmp 77) (.const (.int .i64 1)) t77 (.int .i64 1)) w.drew k) fun t78=>
 gdR t74 true (fun k=>rd prog (Instr.indexAt 39 t76 t78) w.drew k) fun t79=>
 gdR t74 true (fun k=>ldR prog 30 t79 w.drew k) fun t80=>
 gdR t74 true (fun k=>k x0) fun t81=>
 gdR t74 true (fun k=>k x11) fun t82=>
 gdR t74 true (fun k=>rd prog (Instr.indexAt 39 t81 t82) w.drew k) fun t83=>
 gdR t74 true (fun k=>ldR prog 30 t83 w.drew k) fun t84=>
 gd t74 true (fun k=>callS prog 137 (pA #[t80,t84]) w.drew k) w.drew fun t85 w=>
 gdR t74 true (fun k=>rd prog (Op.unary .not t85) w k) fun t86=>
 pickV t74 t86 (.bool false) fun t87=>
 cndS t87 (
 callS prog 138 (pA #[x0,x1,x2,x11]) w fun t92 w=>
 E1 t92 x2 x3 x8 x9 w) (
 callS prog 139 (pA #[x0,x1,x2,x11]) w fun t99 w=>
 ev prog (Instr.extract t99 0) w fun t100 w=>
 ev prog (Instr.extract t99 1) w fun t101 w=>
 ev prog (binM .sub 3 (.tmp 103) (.tmp 104) t100 x1) w fun t105 w=>
 ev prog (binM .sub 3 (.tmp 106) (.tmp 107) x2 t100) w fun t108 w=>
 ev prog (binM .quo 3 (.tmp 109) (.const (.int .i64 8)) x10 (.int .i64 8)) w fun t110 w=>
 ev prog (binM .lss 3 (.tmp 111) (.tmp 112) t105 t108) w fun t113 w=>
 cndS t113 (
 ev prog (binM .geq 3 (.tmp 114) (.tmp 115) t105 t110) w fun t116 w=>
 callS prog 125 (pA #[x0,x1,t100,x3]) w fun t121 w=>
 ev prog (binM .add 3 (.tmp 122) (.const (.int .i64 1)) t100 (.int .i64 1)) w fun t123 w=>
 E1 t123 x2 x3 t116 t101 w) (
 ev prog (binM .geq 3 (.tmp 124) (.tmp 125) t108 t110) w fun t126 w=>
 ev prog (binM .add 3 (.tmp 128) (.const (.int .i64 1)) t100 (.int .i64 1)) w fun t129 w=>
 callS prog 125 (pA #[x0,t129,x2,x3]) w fun t132 w=>
 E1 x1 t100 x3 t126 t101 w))
theorem f125_k3_eq (K:K1) (E1:VP5) (x0 x1 x2 x3 x8 x9 x10 x11:Value) (w:World):f125_k3 K E1 x0 x1 x2 x3 x8 x9 x10 x11 w=f125_k3_t x0 x1 x2 x3 x8 x9 x10 x11 K E1 w:=cutE fun σ=>by kernel_rfl
def f125_t (x0 x1 x2 x3:Value) (K:K1) (w:World):Prop:=
 f125_l1 K x0 x1 x2 x3 (.bool true) (.bool true) w
theorem f125_call (x0 x1 x2 x3:Value) (K:K1) (w:World) (h:f125_t x0 x1 x2 x3 K w):callS prog 125 #[x0,x1,x2,x3] w K:=
 call_of_txt (args:= [x0,x1,x2,x3]) mixed Tryz.func125 f125_u.2 (by kernel_rfl) (cast (by kernel_rfl) h)
def f126_t (x0:Value) (K:K1) (w:World):Prop:=
 cndS (.bool false) (
 ev prog (convert 96 32 x0) w fun t4 w=>
 callS prog 140 (pA #[t4]) w fun t5 w=>
 K t5 w) (
 callS prog 141 (pA #[x0]) w fun t7 w=>
 K t7 w)
theorem f126_call (x0:Value) (K:K1) (w:World) (h:f126_t x0 K w):callS prog 126 #[x0] w K:=
 call_of_txt (args:= [x0]) mixed Tryz.func126 .o (by kernel_rfl) (cast (by kernel_rfl) h)
noncomputable def f131_u:Code×Dec:=((Tryz.f131.body).getD .skip,(.s .o (.b (.l [6] 7 562949953420480 (.s .o (.x 71 (.b (.s .o (.b (.l [7] 71 562949953355904 .o)))) .o))))))
abbrev f131_e (K:K1):KF:=endK prog Tryz.f131.results.toList K
def f131_l1 (K:K1) (x0 x1 x2 x6:Value) (w:World):Prop:=loopT [6] 7 (fun E=>cP (pl (pl (pr f131_u))) E (f131_e K) (exB 0 (f131_e K) nX)) (fz 49 0 [(0,x0),(1,x1),(2,x2),(6,x6)]) w
def f131_k1_o (K:K1) (E1:VP1):KF:=fun fr w=>∀σ,cP (pr (pr (pl (pl (pr f131_u))))) (fun fr w=>E1 (sv fr 6) w) (f131_e K) (exB 0 (f131_e K) nX) (mixF 71 σ 0 fr) w
def f131_k1 (K:K1) (E1:VP1) (x0 x1 x2 x6:Value) (w:World):Prop:=f131_k1_o K E1 (fz 49 0 [(0,x0),(1,x1),(2,x2),(6,x6)]) w
def f131_l2 (K:K1) (E1:VP1) (x0 x1 x2 x6 x7:Value) (w:World):Prop:=loopT [7] 71 (fun E=>cP (pl (pl (pr (pl (pl (pr (pl (pl (pr f131_u))))))))) E (f131_e K) (exB 2 (f131_k1_o K E1) (exB 1 (f131_k1_o K E1) (exB 0 (f131_e K) nX)))) (fz 49 0 [(0,x0),(1,x1),(2,x2),(6,x6),(7,x7)]) w
def f131_l1_t (x0 x1 x2 x6:Value) (K:K1) (E1:VP1) (w:World):Prop:=
 ev prog (binM .lss 3 (.tmp 10) (.tmp 11) x6 x2) w fun t12 w=>
 cndS t12 (
 f131_l2 K E1 x0 x1 x2 x6 x6 w) (
 K (.tuple #[]) w)
theorem f131_l1_rule (x0 x1 x2 x6:Value) (K:K1) (w:World) (I:VP1) (μ:Value→World→Nat) (h0:I x6 w)
  (hr:∀(x6:Value) (w:World),I x6 w→∀E1:VP1,(∀(y6:Value) (w':World),I y6 w'→μ y6 w'<μ x6 w→E1 y6 w')→f131_l1_t x0 x1 x2 x6 K E1 w):f131_l1 K x0 x1 x2 x6 w:=
 ⟨I,μ,h0,fun σ w hI E hE=>cast (by kernel_rfl) (hr (σ 6) w hI E hE)⟩
def f131_k1_t (x0 x1 x2 x6:Value) (K:K1) (E1:VP1) (w:World):Prop:=
 ev prog (binM .add 3 (.tmp 13) (.const (.int .i64 1)) x6 (.int .i64 1)) w fun t14 w=>
 E1 t14 w
theorem f131_k1_eq (K:K1) (E1:VP1) (x0 x1 x2 x6:Value) (w:World):f131_k1 K E1 x0 x1 x2 x6 w=f131_k1_t x0 x1 x2 x6 K E1 w:=cutE fun σ=>by kernel_rfl
def f131_l2_t (x0 x1 x2 x6 x7:Value) (K:K1) (E1:VP1) (E2:VP1) (w:World):Prop:=
 rd prog (binM .gtr 3 (.tmp 16) (.tmp 17) x7 x1) w.drew fun t18=>
 gdR t18 true (fun k=>k x0) fun t20=>
 gdR t18 true (fun k=>k x7) fun t21=>
 gdR t18 true (fun k=>rd prog (Instr.indexAt 39 t20 t21) w.drew k) fun t22=>
 gdR t18 true (fun k=>ldR prog 30 t22 w.drew k) fun t23=>
 gdR t18 true (fun k=>k x0) fun t24=>
 gdR t18 true (fun k=>k x7) fun t25=>
 gdR t18 true (fun k=>rd prog (binM .sub 3 (.tmp 25) (.const (.int .i64 1)) t25 (.int .i64 1)) w.drew k) fun t26=>
 gdR t18 true (fun k=>rd prog (Instr.indexAt 39 t24 t26) w.drew k) fun t27=>
 gdR t18 true (fun k=>ldR prog 30 t27 w.drew k) fun t28=>
 gd t18 true (fun k=>callS prog 137 (pA #[t23,t28]) w.drew k) w.drew fun t29 w=>
 pickV t18 t29 (.bool false) fun t30=>
 cndS t30 (
 rd prog (binM .sub 3 (.tmp 36) (.const (.int .i64 1)) x7 (.int .i64 1)) w.drew fun t37=>
 rd prog (binM .sub 3 (.tmp 39) (.const (.int .i64 1)) x7 (.int .i64 1)) w.drew fun t40=>
 rd prog (Instr.indexAt 39 x0 t40) w.drew fun t41=>
 ldR prog 30 t41 w.drew fun t42=>
 rd prog (Instr.indexAt 39 x0 x7) w.drew fun t45=>
 ldR prog 30 t45 w.drew fun t46=>
 rd prog (Instr.indexAt 39 x0 x7) w.drew fun t47=>
 stS prog 30 t47 t42 w.drew fun w=>
 (ag prog (binM .sub 3 (.tmp 36) (.const (.int .i64 1)) x7 (.int .i64 1)) w t37)∧
 rd prog (Instr.indexAt 39 x0 t37) w fun t48=>
 stS prog 30 t48 t46 w fun w=>
 ev prog (binM .sub 3 (.tmp 31) (.const (.int .i64 1)) x7 (.int .i64 1)) w fun t32 w=>
 E2 t32 w) (
 f131_k1 K E1 x0 x1 x2 x6 w)
theorem f131_l2_rule (x0 x1 x2 x6 x7:Value) (K:K1) (E1:VP1) (w:World) (I:VP1) (μ:Value→World→Nat) (h0:I x7 w)
  (hr:∀(x7:Value) (w:World),I x7 w→∀E2:VP1,(∀(y7:Value) (w':World),I y7 w'→μ y7 w'<μ x7 w→E2 y7 w')→f131_l2_t x0 x1 x2 x6 x7 K E1 E2 w):f131_l2 K E1 x0 x1 x2 x6 x7 w:=
 ⟨I,μ,h0,fun σ w hI E hE=>cast (by kernel_rfl) (hr (σ 7) w hI E hE)⟩
def f131_t (x0 x1 x2:Value) (K:K1) (w:World):Prop:=
 ev prog (binM .add 3 (.tmp 8) (.const (.int .i64 1)) x1 (.int .i64 1)) w fun t9 w=>
 f131_l1 K x0 x1 x2 t9 w
theorem f131_call (x0 x1 x2:Value) (K:K1) (w:World) (h:f131_t x0 x1 x2 K w):callS prog 131 #[x0,x1,x2] w K:=
 call_of_txt (args:= [x0,x1,x2]) mixed Tryz.func131 f131_u.2 (by kernel_rfl) (cast (by kernel_rfl) h)
noncomputable def f132_u:Code×Dec:=((Tryz.f132.body).getD .skip,(.s .o (.s .o (.s .o (.x 449 (.s .o (.b (.l [9] 449 133956096 .o))) (.s .o (.b (.l [10] 193 72057593501058048 .o))))))))
abbrev f132_e (K:K1):KF:=endK prog Tryz.f132.results.toList K
def f132_k1_o (K:K1):KF:=fun fr w=>∀σ,cP (pr (pr (pr (pr f132_u)))) (f132_e K) (f132_e K) nX (mixF 449 σ 0 fr) w
def f132_k1 (K:K1) (x0 x6 x7 x8:Value) (w:World):Prop:=f132_k1_o K (fz 56 0 [(0,x0),(6,x6),(7,x7),(8,x8)]) w
def f132_l1 (K:K1) (x0 x6 x7 x8 x9:Value) (w:World):Prop:=loopT [9] 449 (fun E=>cP (pl (pl (pr (pl (pr (pr (pr f132_u))))))) E (f132_e K) (exB 0 (f132_k1_o K) nX)) (fz 56 0 [(0,x0),(6,x6),(7,x7),(8,x8),(9,x9)]) w
def f132_l2 (K:K1) (x0 x6 x7 x10:Value) (w:World):Prop:=loopT [10] 193 (fun E=>cP (pl (pl (pr (pr (pr (pr (pr f132_u))))))) E (f132_e K) (exB 2 (f132_e K) nX)) (fz 56 0 [(0,x0),(6,x6),(7,x7),(10,x10)]) w
def f132_k1_t (x0 x6 x7 x8:Value) (K:K1) (w:World):Prop:=
 ev prog (binM .sub 3 (.tmp 27) (.const (.int .i64 1)) x8 (.int .i64 1)) w fun t28 w=>
 f132_l2 K x0 x6 x7 t28 w
theorem f132_k1_eq (K:K1) (x0 x6 x7 x8:Value) (w:World):f132_k1 K x0 x6 x7 x8 w=f132_k1_t x0 x6 x7 x8 K w:=cutE fun σ=>by kernel_rfl
def f132_l1_t (x0 x6 x7 x8 x9:Value) (K:K1) (E1:VP1) (w:World):Prop:=
 ev prog (binM .geq 3 (.tmp 18) (.const (.int .i64 0)) x9 (.int .i64 0)) w fun t19 w=>
 cndS t19 (
 callS prog 144 (pA #[x0,x9,x8,x6]) w fun t26 w=>
 ev prog (binM .sub 3 (.tmp 20) (.const (.int .i64 1)) x9 (.int .i64 1)) w fun t21 w=>
 E1 t21 w) (
 f132_k1 K x0 x6 x7 x8 w)
theorem f132_l1_rule (x0 x6 x7 x8 x9:Value) (K:K1) (w:World) (I:VP1) (μ:Value→World→Nat) (h0:I x9 w)
  (hr:∀(x9:Value) (w:World),I x9 w→∀E1:VP1,(∀(y9:Value) (w':World),I y9 w'→μ y9 w'<μ x9 w→E1 y9 w')→f132_l1_t x0 x6 x7 x8 x9 K E1 w):f132_l1 K x0 x6 x7 x8 x9 w:=
 ⟨I,μ,h0,fun σ w hI E hE=>cast (by kernel_rfl) (hr (σ 9) w hI E hE)⟩
def f132_l2_t (x0 x6 x7 x10:Value) (K:K1) (E1:VP1) (w:World):Prop:=
 ev prog (binM .geq 3 (.tmp 29) (.const (.int .i64 0)) x10 (.int .i64 0)) w fun t30 w=>
 cndS t30 (
 rd prog (binM .add 3 (.tmp 36) (.tmp 37) x6 x10) w.drew fun t38=>
 rd prog (binM .add 3 (.tmp 40) (.tmp 41) x6 x10) w.drew fun t42=>
 rd prog (Instr.indexAt 39 x0 t42) w.drew fun t43=>
 ldR prog 30 t43 w.drew fun t44=>
 rd prog (Instr.indexAt 39 x0 x6) w.drew fun t47=>
 ldR prog 30 t47 w.drew fun t48=>
 rd prog (Instr.indexAt 39 x0 x6) w.drew fun t49=>
 stS prog 30 t49 t44 w.drew fun w=>
 (ag prog (binM .add 3 (.tmp 36) (.tmp 37) x6 x10) w t38)∧
 rd prog (Instr.indexAt 39 x0 t38) w fun t50=>
 stS prog 30 t50 t48 w fun w=>
 callS prog 144 (pA #[x0,x7,x10,x6]) w fun t55 w=>
 ev prog (binM .sub 3 (.tmp 31) (.const (.int .i64 1)) x10 (.int .i64 1)) w fun t32 w=>
 E1 t32 w) (
 K (.tuple #[]) w)
theorem f132_l2_rule (x0 x6 x7 x10:Value) (K:K1) (w:World) (I:VP1) (μ:Value→World→Nat) (h0:I x10 w)
  (hr:∀(x10:Value) (w:World),I x10 w→∀E1:VP1,(∀(y10:Value) (w':World),I y10 w'→μ y10 w'<μ x10 w→E1 y10 w')→f132_l2_t x0 x6 x7 x10 K E1 w):f132_l2 K x0 x6 x7 x10 w:=
 ⟨I,μ,h0,fun σ w hI E hE=>cast (by kernel_rfl) (hr (σ 10) w hI E hE)⟩
def f132_t (x0 x1 x2:Value) (K:K1) (w:World):Prop:=
 ev prog (binM .sub 3 (.tmp 12) (.tmp 13) x2 x1) w fun t14 w=>
 ev prog (binM .sub 3 (.tmp 15) (.const (.int .i64 1)) t14 (.int .i64 1)) w fun t16 w=>
 ev prog (binM .quo 3 (.tmp 16) (.const (.int .i64 2)) t16 (.int .i64 2)) w fun t17 w=>
 f132_l1 K x0 x1 (.int .i64 0) t14 t17 w
theorem f132_call (x0 x1 x2:Value) (K:K1) (w:World) (h:f132_t x0 x1 x2 K w):callS prog 132 #[x0,x1,x2] w K:=
 call_of_txt (args:= [x0,x1,x2]) mixed Tryz.func132 f132_u.2 (by kernel_rfl) (cast (by kernel_rfl) h)
noncomputable def f133_u:Code×Dec:=((Tryz.f133.body).getD .skip,(.s .o (.s .o (.s (.s .o (.s .o (.s .o (.b (.l [9] 451 36893488147351995904 (.s .o (.s (.b (.s .o (.x 1987 .o .o))) .o))))))) .o))))
abbrev f133_e (K:K1):KF:=endK prog Tryz.f133.results.toList K
def f133_l1 (K:K1) (x0 x1 x6 x7 x8 x9:Value) (w:World):Prop:=loopT [9] 451 (fun E=>cP (pl (pl (pr (pr (pr (pl (pr (pr f133_u)))))))) E (f133_e K) (exB 0 (f133_e K) nX)) (fz 65 0 [(0,x0),(1,x1),(6,x6),(7,x7),(8,x8),(9,x9)]) w
def f133_k1_o (K:K1) (E1:VP1):KF:=fun fr w=>∀σ,cP (pr (pr (pl (pl (pr (pl (pl (pr (pr (pr (pl (pr (pr f133_u))))))))))))) (cP (pr (pr (pl (pl (pr (pr (pr (pl (pr (pr f133_u)))))))))) (fun fr w=>E1 (sv fr 9) w) (f133_e K) (exB 0 (f133_e K) nX)) (f133_e K) (exB 1 (cP (pr (pr (pl (pl (pr (pr (pr (pl (pr (pr f133_u)))))))))) (fun fr w=>E1 (sv fr 9) w) (f133_e K) (exB 0 (f133_e K) nX)) (exB 0 (f133_e K) nX)) (mixF 1987 σ 0 fr) w
def f133_k1 (K:K1) (E1:VP1) (x0 x1 x6 x7 x8 x9 x10:Value) (w:World):Prop:=f133_k1_o K E1 (fz 65 0 [(0,x0),(1,x1),(6,x6),(7,x7),(8,x8),(9,x9),(10,x10)]) w
def f133_l1_t (x0 x1 x6 x7 x8 x9:Value) (K:K1) (E1:VP1) (w:World):Prop:=
 ev prog (binM .quo 3 (.tmp 28) (.const (.int .i64 4)) x6 (.int .i64 4)) w fun t29 w=>
 ev prog (binM .mul 3 (.tmp 29) (.const (.int .i64 2)) t29 (.int .i64 2)) w fun t30 w=>
 ev prog (binM .add 3 (.tmp 27) (.tmp 30) x1 t30) w fun t31 w=>
 ev prog (binM .add 3 (.tmp 31) (.const (.int .i64 1)) t31 (.int .i64 1)) w fun t32 w=>
 ev prog (binM .leq 3 (.tmp 26) (.tmp 32) x9 t32) w fun t33 w=>
 cndS t33 (
 callS prog 146 (pA #[x7]) w fun t36 w=>
 ev prog (binM .sub 96 (.tmp 37) (.const (.int .u64 ((1:Nat):Int))) x8 (.int .u64 ((1:Nat):Int))) w fun t38 w=>
 ev prog (binM .and 96 (.tmp 36) (.tmp 38) t36 t38) w fun t39 w=>
 ev prog (convert 96 3 t39) w fun t40 w=>
 ev prog (binM .geq 3 (.tmp 41) (.tmp 42) t40 x6) w fun t43 w=>
 cndS t43 (
 ev prog (binM .sub 3 (.tmp 44) (.tmp 45) t40 x6) w fun t46 w=>
 f133_k1 K E1 x0 x1 x6 x7 x8 x9 t46 w) (
 f133_k1 K E1 x0 x1 x6 x7 x8 x9 t40 w)) (
 K (.tuple #[]) w)
theorem f133_l1_rule (x0 x1 x6 x7 x8 x9:Value) (K:K1) (w:World) (I:VP1) (μ:Value→World→Nat) (h0:I x9 w)
  (hr:∀(x9:Value) (w:World),I x9 w→∀E1:VP1,(∀(y9:Value) (w':World),I y9 w'→μ y9 w'<μ x9 w→E1 y9 w')→f133_l1_t x0 x1 x6 x7 x8 x9 K E1 w):f133_l1 K x0 x1 x6 x7 x8 x9 w:=
 ⟨I,μ,h0,fun σ w hI E hE=>cast (by kernel_rfl) (hr (σ 9) w hI E hE)⟩
def f133_k1_t (x0 x1 x6 x7 x8 x9 x10:Value) (K:K1) (E1:VP1) (w:World):Prop:=
 rd prog (binM .add 3 (.tmp 50) (.tmp 51) x1 x10) w.drew fun t52=>
 rd prog (binM .add 3 (.tmp 54) (.tmp 55) x1 x10) w.drew fun t56=>
 rd prog (Instr.indexAt 39 x0 t56) w.drew fun t57=>
 ldR prog 30 t57 w.drew fun t58=>
 rd prog (Instr.indexAt 39 x0 x9) w.drew fun t61=>
 ldR prog 30 t61 w.drew fun t62=>
 rd prog (Instr.indexAt 39 x0 x9) w.drew fun t63=>
 stS prog 30 t63 t58 w.drew fun w=>
 (ag prog (binM .add 3 (.tmp 50) (.tmp 51) x1 x10) w t52)∧
 rd prog (Instr.indexAt 39 x0 t52) w fun t64=>
 stS prog 30 t64 t62 w fun w=>
 ev prog (binM .add 3 (.tmp 34) (.const (.int .i64 1)) x9 (.int .i64 1)) w fun t35 w=>
 E1 t35 w
theorem f133_k1_eq (K:K1) (E1:VP1) (x0 x1 x6 x7 x8 x9 x10:Value) (w:World):f133_k1 K E1 x0 x1 x6 x7 x8 x9 x10 w=f133_k1_t x0 x1 x6 x7 x8 x9 x10 K E1 w:=cutE fun σ=>by kernel_rfl
def f133_t (x0 x1 x2:Value) (K:K1) (w:World):Prop:=
 ev prog (binM .sub 3 (.tmp 11) (.tmp 12) x2 x1) w fun t13 w=>
 ev prog (binM .geq 3 (.tmp 14) (.const (.int .i64 8)) t13 (.int .i64 8)) w fun t15 w=>
 cndS t15 (
 ev prog (convert 3 212 t13) w fun t17 w=>
 ev prog (Instr.alloc 212 true (.tuple #[])) w fun t7 w=>
 stS prog 212 t7 t17 w fun w=>
 callS prog 145 (pA #[t13]) w fun t19 w=>
 ev prog (binM .quo 3 (.tmp 21) (.const (.int .i64 4)) t13 (.int .i64 4)) w fun t22 w=>
 ev prog (binM .mul 3 (.tmp 22) (.const (.int .i64 2)) t22 (.int .i64 2)) w fun t23 w=>
 ev prog (binM .add 3 (.tmp 20) (.tmp 23) x1 t23) w fun t24 w=>
 ev prog (binM .sub 3 (.tmp 24) (.const (.int .i64 1)) t24 (.int .i64 1)) w fun t25 w=>
 f133_l1 K x0 x1 t13 t7 t19 t25 w) (
 K (.tuple #[]) w)
theorem f133_call (x0 x1 x2:Value) (K:K1) (w:World) (h:f133_t x0 x1 x2 K w):callS prog 133 #[x0,x1,x2] w K:=
 call_of_txt (args:= [x0,x1,x2]) mixed Tryz.func133 f133_u.2 (by kernel_rfl) (cast (by kernel_rfl) h)
noncomputable def f134_u:Code×Dec:=((Tryz.f134.body).getD .skip,(.s .o (.s .o (.s .o (.s .o (.s .o (.s .o (.x 2560 (.s .o (.s (.x 7681 .o .o) .o)) .o))))))))
abbrev f134_e (K:K1):KF:=endK prog Tryz.f134.results.toList K
def f134_k1_o (K:K1):KF:=fun fr w=>∀σ,cP (pr (pr (pr (pr (pr (pr (pr f134_u))))))) (f134_e K) (f134_e K) nX (mixF 2560 σ 0 fr) w
def f134_k1 (K:K1) (x9 x11:Value) (w:World):Prop:=f134_k1_o K (fz 57 0 [(9,x9),(11,x11)]) w
def f134_k2_o (K:K1):KF:=fun fr w=>∀σ,cP (pr (pl (pr (pl (pr (pr (pr (pr (pr (pr f134_u)))))))))) (f134_k1_o K) (f134_e K) nX (mixF 7681 σ 0 fr) w
def f134_k2 (K:K1) (x0 x9 x10 x11 x12:Value) (w:World):Prop:=f134_k2_o K (fz 57 0 [(0,x0),(9,x9),(10,x10),(11,x11),(12,x12)]) w
def f134_k1_t (x9 x11:Value) (K:K1) (w:World):Prop:=
 ldS prog 3 x9 w fun t49 w=>
 ev prog (binM .eql 3 (.tmp 49) (.const (.int .i64 0)) t49 (.int .i64 0)) w fun t52 w=>
 cndS t52 (
 K (.tuple #[x11,(.int .i64 1)]) w) (
 ev prog (binM .eql 3 (.tmp 49) (.const (.int .i64 12)) t49 (.int .i64 12)) w fun t55 w=>
 cndS t55 (
 K (.tuple #[x11,(.int .i64 2)]) w) (
 K (.tuple #[x11,(.int .i64 0)]) w))
theorem f134_k1_eq (K:K1) (x9 x11:Value) (w:World):f134_k1 K x9 x11 w=f134_k1_t x9 x11 K w:=cutE fun σ=>by kernel_rfl
def f134_k2_t (x0 x9 x10 x11 x12:Value) (K:K1) (w:World):Prop:=
 callS prog 148 (pA #[x0,x10,x11,x12,x9]) w fun t48 w=>
 f134_k1 K x9 t48 w
theorem f134_k2_eq (K:K1) (x0 x9 x10 x11 x12:Value) (w:World):f134_k2 K x0 x9 x10 x11 x12 w=f134_k2_t x0 x9 x10 x11 x12 K w:=cutE fun σ=>by kernel_rfl
def f134_t (x0 x1 x2:Value) (K:K1) (w:World):Prop:=
 ev prog (binM .sub 3 (.tmp 13) (.tmp 14) x2 x1) w fun t15 w=>
 ev prog (Instr.alloc 3 true (.tuple #[])) w fun t9 w=>
 ev prog (binM .quo 3 (.tmp 17) (.const (.int .i64 4)) t15 (.int .i64 4)) w fun t18 w=>
 ev prog (binM .mul 3 (.tmp 18) (.const (.int .i64 1)) t18 (.int .i64 1)) w fun t19 w=>
 ev prog (binM .add 3 (.tmp 16) (.tmp 19) x1 t19) w fun t20 w=>
 ev prog (binM .quo 3 (.tmp 22) (.const (.int .i64 4)) t15 (.int .i64 4)) w fun t23 w=>
 ev prog (binM .mul 3 (.tmp 23) (.const (.int .i64 2)) t23 (.int .i64 2)) w fun t24 w=>
 ev prog (binM .add 3 (.tmp 21) (.tmp 24) x1 t24) w fun t25 w=>
 ev prog (binM .quo 3 (.tmp 27) (.const (.int .i64 4)) t15 (.int .i64 4)) w fun t28 w=>
 ev prog (binM .mul 3 (.tmp 28) (.const (.int .i64 3)) t28 (.int .i64 3)) w fun t29 w=>
 ev prog (binM .add 3 (.tmp 26) (.tmp 29) x1 t29) w fun t30 w=>
 ev prog (binM .geq 3 (.tmp 31) (.const (.int .i64 8)) t15 (.int .i64 8)) w fun t32 w=>
 cndS t32 (
 ev prog (binM .geq 3 (.tmp 33) (.const (.int .i64 50)) t15 (.int .i64 50)) w fun t34 w=>
 cndS t34 (
 callS prog 147 (pA #[x0,t20,t9]) w fun t37 w=>
 callS prog 147 (pA #[x0,t25,t9]) w fun t40 w=>
 callS prog 147 (pA #[x0,t30,t9]) w fun t43 w=>
 f134_k2 K x0 t9 t37 t40 t43 w) (
 f134_k2 K x0 t9 t20 t25 t30 w)) (
 f134_k1 K t9 t25 w)
theorem f134_call (x0 x1 x2:Value) (K:K1) (w:World) (h:f134_t x0 x1 x2 K w):callS prog 134 #[x0,x1,x2] w K:=
 call_of_txt (args:= [x0,x1,x2]) mixed Tryz.func134 f134_u.2 (by kernel_rfl) (cast (by kernel_rfl) h)
noncomputable def f135_u:Code×Dec:=((Tryz.f135.body).getD .skip,(.s .o (.s .o (.b (.l [6,7] 1 4294965440 .o)))))
abbrev f135_e (K:K1):KF:=endK prog Tryz.f135.results.toList K
def f135_l1 (K:K1) (x0 x6 x7:Value) (w:World):Prop:=loopT [6,7] 1 (fun E=>cP (pl (pl (pr (pr f135_u)))) E (f135_e K) (exB 0 (f135_e K) nX)) (fz 32 0 [(0,x0),(6,x6),(7,x7)]) w
def f135_l1_t (x0 x6 x7:Value) (K:K1) (E1:VP2) (w:World):Prop:=
 ev prog (binM .lss 3 (.tmp 11) (.tmp 12) x6 x7) w fun t13 w=>
 cndS t13 (
 rd prog (Instr.indexAt 39 x0 x7) w.drew fun t20=>
 ldR prog 30 t20 w.drew fun t21=>
 rd prog (Instr.indexAt 39 x0 x6) w.drew fun t24=>
 ldR prog 30 t24 w.drew fun t25=>
 rd prog (Instr.indexAt 39 x0 x6) w.drew fun t26=>
 stS prog 30 t26 t21 w.drew fun w=>
 rd prog (Instr.indexAt 39 x0 x7) w fun t27=>
 stS prog 30 t27 t25 w fun w=>
 ev prog (binM .add 3 (.tmp 28) (.const (.int .i64 1)) x6 (.int .i64 1)) w fun t29 w=>
 ev prog (binM .sub 3 (.tmp 30) (.const (.int .i64 1)) x7 (.int .i64 1)) w fun t31 w=>
 E1 t29 t31 w) (
 K (.tuple #[]) w)
theorem f135_l1_rule (x0 x6 x7:Value) (K:K1) (w:World) (I:VP2) (μ:Value→Value→World→Nat) (h0:I x6 x7 w)
  (hr:∀(x6 x7:Value) (w:World),I x6 x7 w→∀E1:VP2,(∀(y6 y7:Value) (w':World),I y6 y7 w'→μ y6 y7 w'<μ x6 x7 w→E1 y6 y7 w')→f135_l1_t x0 x6 x7 K E1 w):f135_l1 K x0 x6 x7 w:=
 ⟨I,μ,h0,fun σ w hI E hE=>cast (by kernel_rfl) (hr (σ 6) (σ 7) w hI E hE)⟩
def f135_t (x0 x1 x2:Value) (K:K1) (w:World):Prop:=
 ev prog (binM .sub 3 (.tmp 9) (.const (.int .i64 1)) x2 (.int .i64 1)) w fun t10 w=>
 f135_l1 K x0 x1 t10 w
theorem f135_call (x0 x1 x2:Value) (K:K1) (w:World) (h:f135_t x0 x1 x2 K w):callS prog 135 #[x0,x1,x2] w K:=
 call_of_txt (args:= [x0,x1,x2]) mixed Tryz.func135 f135_u.2 (by kernel_rfl) (cast (by kernel_rfl) h)
noncomputable def f136_u:Code×Dec:=((Tryz.f136.body).getD .skip,(.s .o (.s .o (.x 0 (.s .o (.b (.l [7,8] 7 10889035741470030830827987437816582760384 (.s .o (.x 391 (.b (.x 391 (.b (.l [7] 263 34359607424 .o)) (.s .o (.s .o (.s .o (.x 391 (.s .o (.s (.s .o (.b (.l [9] 391 39614081238685424723062424064 .o))) .o)) (.s .o (.s (.s .o (.b (.l [10] 391 10889035738934729630371528634823176356864 .o))) .o)))))))) .o))))) .o))))
abbrev f136_e (K:K1):KF:=endK prog Tryz.f136.results.toList K
def f136_k1_o (K:K1):KF:=fun fr w=>∀σ,cP (pr (pr (pr f136_u))) (f136_e K) (f136_e K) nX (mixF 0 σ 0 fr) w
def f136_k1 (K:K1) (w:World):Prop:=f136_k1_o K (fz 133 0 []) w
def f136_l1 (K:K1) (x0 x1 x2 x7 x8:Value) (w:World):Prop:=loopT [7,8] 7 (fun E=>cP (pl (pl (pr (pl (pr (pr f136_u)))))) E (f136_e K) (exB 0 (f136_k1_o K) nX)) (fz 133 0 [(0,x0),(1,x1),(2,x2),(7,x7),(8,x8)]) w
def f136_k2_o (K:K1) (E1:VP2):KF:=fun fr w=>∀σ,cP (pr (pr (pl (pl (pr (pl (pr (pr f136_u)))))))) (fun fr w=>E1 (sv fr 7) (sv fr 8) w) (f136_e K) (exB 0 (f136_k1_o K) nX) (mixF 391 σ 0 fr) w
def f136_k2 (K:K1) (E1:VP2) (x0 x1 x2 x7 x8:Value) (w:World):Prop:=f136_k2_o K E1 (fz 133 0 [(0,x0),(1,x1),(2,x2),(7,x7),(8,x8)]) w
def f136_k3_o (K:K1) (E1:VP2):KF:=fun fr w=>∀σ,cP (pr (pl (pl (pr (pl (pl (pr (pl (pr (pr f136_u)))))))))) (f136_k2_o K E1) (f136_e K) (exB 1 (f136_k2_o K E1) (exB 0 (f136_k1_o K) nX)) (mixF 391 σ 0 fr) w
def f136_k3 (K:K1) (E1:VP2) (x0 x1 x2 x7 x8:Value) (w:World):Prop:=f136_k3_o K E1 (fz 133 0 [(0,x0),(1,x1),(2,x2),(7,x7),(8,x8)]) w
def f136_l2 (K:K1) (E1:VP2) (x0 x1 x2 x7 x8:Value) (w:World):Prop:=loopT [7] 263 (fun E=>cP (pl (pl (pl (pl (pl (pr (pl (pl (pr (pl (pr (pr f136_u)))))))))))) E (f136_e K) (exB 2 (f136_k3_o K E1) (exB 1 (f136_k2_o K E1) (exB 0 (f136_k1_o K) nX)))) (fz 133 0 [(0,x0),(1,x1),(2,x2),(7,x7),(8,x8)]) w
def f136_k4_o (K:K1) (E1:VP2):KF:=fun fr w=>∀σ,cP (pr (pr (pr (pr (pr (pl (pl (pr (pl (pl (pr (pl (pr (pr f136_u)))))))))))))) (f136_k2_o K E1) (f136_e K) (exB 1 (f136_k2_o K E1) (exB 0 (f136_k1_o K) nX)) (mixF 391 σ 0 fr) w
def f136_k4 (K:K1) (E1:VP2) (x0 x1 x2 x7 x8:Value) (w:World):Prop:=f136_k4_o K E1 (fz 133 0 [(0,x0),(1,x1),(2,x2),(7,x7),(8,x8)]) w
def f136_l3 (K:K1) (E1:VP2) (x0 x1 x2 x7 x8 x9:Value) (w:World):Prop:=loopT [9] 391 (fun E=>cP (pl (pl (pr (pl (pr (pl (pr (pr (pr (pr (pl (pl (pr (pl (pl (pr (pl (pr (pr f136_u))))))))))))))))))) E (f136_e K) (exB 4 (f136_k4_o K E1) (exB 1 (f136_k2_o K E1) (exB 0 (f136_k1_o K) nX)))) (fz 133 0 [(0,x0),(1,x1),(2,x2),(7,x7),(8,x8),(9,x9)]) w
def f136_l4 (K:K1) (E1:VP2) (x0 x1 x2 x7 x8 x10:Value) (w:World):Prop:=loopT [10] 391 (fun E=>cP (pl (pl (pr (pl (pr (pr (pr (pr (pr (pr (pl (pl (pr (pl (pl (pr (pl (pr (pr f136_u))))))))))))))))))) E (f136_e K) (exB 6 (f136_k2_o K E1) (exB 1 (f136_k2_o K E1) (exB 0 (f136_k1_o K) nX)))) (fz 133 0 [(0,x0),(1,x1),(2,x2),(7,x7),(8,x8),(10,x10)]) w
def f136_k1_t (K:K1) (w:World):Prop:=
 K (.bool false) w
theorem f136_k1_eq (K:K1) (w:World):f136_k1 K w=f136_k1_t K w:=cutE fun σ=>by kernel_rfl
def f136_l1_t (x0 x1 x2 x7 x8:Value) (K:K1) (E1:VP2) (w:World):Prop:=
 ev prog (binM .lss 3 (.tmp 13) (.const (.int .i64 5)) x8 (.int .i64 5)) w fun t14 w=>
 cndS t14 (
 f136_l2 K E1 x0 x1 x2 x7 x8 w) (
 f136_k1 K w)
theorem f136_l1_rule (x0 x1 x2 x7 x8:Value) (K:K1) (w:World) (I:VP2) (μ:Value→Value→World→Nat) (h0:I x7 x8 w)
  (hr:∀(x7 x8:Value) (w:World),I x7 x8 w→∀E1:VP2,(∀(y7 y8:Value) (w':World),I y7 y8 w'→μ y7 y8 w'<μ x7 x8 w→E1 y7 y8 w')→f136_l1_t x0 x1 x2 x7 x8 K E1 w):f136_l1 K x0 x1 x2 x7 x8 w:=
 ⟨I,μ,h0,fun σ w hI E hE=>cast (by kernel_rfl) (hr (σ 7) (σ 8) w hI E hE)⟩
def f136_k2_t (x0 x1 x2 x7 x8:Value) (K:K1) (E1:VP2) (w:World):Prop:=
 ev prog (binM .add 3 (.tmp 15) (.const (.int .i64 1)) x8 (.int .i64 1)) w fun t16 w=>
 E1 x7 t16 w
theorem f136_k2_eq (K:K1) (E1:VP2) (x0 x1 x2 x7 x8:Value) (w:World):f136_k2 K E1 x0 x1 x2 x7 x8 w=f136_k2_t x0 x1 x2 x7 x8 K E1 w:=cutE fun σ=>by kernel_rfl
def f136_k3_t (x0 x1 x2 x7 x8:Value) (K:K1) (E1:VP2) (w:World):Prop:=
 ev prog (binM .eql 3 (.tmp 35) (.tmp 36) x7 x2) w fun t37 w=>
 cndS t37 (
 K (.bool true) w) (
 ev prog (binM .sub 3 (.tmp 38) (.tmp 39) x2 x1) w fun t40 w=>
 ev prog (binM .lss 3 (.tmp 40) (.const (.int .i64 50)) t40 (.int .i64 50)) w fun t41 w=>
 cndS t41 (
 K (.bool false) w) (
 rd prog (binM .sub 3 (.tmp 45) (.const (.int .i64 1)) x7 (.int .i64 1)) w.drew fun t46=>
 rd prog (binM .sub 3 (.tmp 48) (.const (.int .i64 1)) x7 (.int .i64 1)) w.drew fun t49=>
 rd prog (Instr.indexAt 39 x0 t49) w.drew fun t50=>
 ldR prog 30 t50 w.drew fun t51=>
 rd prog (Instr.indexAt 39 x0 x7) w.drew fun t54=>
 ldR prog 30 t54 w.drew fun t55=>
 rd prog (Instr.indexAt 39 x0 x7) w.drew fun t56=>
 stS prog 30 t56 t51 w.drew fun w=>
 (ag prog (binM .sub 3 (.tmp 45) (.const (.int .i64 1)) x7 (.int .i64 1)) w t46)∧
 rd prog (Instr.indexAt 39 x0 t46) w fun t57=>
 stS prog 30 t57 t55 w fun w=>
 ev prog (binM .sub 3 (.tmp 58) (.tmp 59) x7 x1) w fun t60 w=>
 ev prog (binM .geq 3 (.tmp 60) (.const (.int .i64 2)) t60 (.int .i64 2)) w fun t61 w=>
 cndS t61 (
 ev prog (binM .sub 3 (.tmp 62) (.const (.int .i64 1)) x7 (.int .i64 1)) w fun t63 w=>
 f136_l3 K E1 x0 x1 x2 x7 x8 t63 w) (
 f136_k4 K E1 x0 x1 x2 x7 x8 w)))
theorem f136_k3_eq (K:K1) (E1:VP2) (x0 x1 x2 x7 x8:Value) (w:World):f136_k3 K E1 x0 x1 x2 x7 x8 w=f136_k3_t x0 x1 x2 x7 x8 K E1 w:=cutE fun σ=>by kernel_rfl
def f136_l2_t (x0 x1 x2 x7 x8:Value) (K:K1) (E1:VP2) (E2:VP1) (w:World):Prop:=
 rd prog (binM .lss 3 (.tmp 17) (.tmp 18) x7 x2) w.drew fun t19=>
 gdR t19 true (fun k=>k x0) fun t21=>
 gdR t19 true (fun k=>k x7) fun t22=>
 gdR t19 true (fun k=>rd prog (Instr.indexAt 39 t21 t22) w.drew k) fun t23=>
 gdR t19 true (fun k=>ldR prog 30 t23 w.drew k) fun t24=>
 gdR t19 true (fun k=>k x0) fun t25=>
 gdR t19 true (fun k=>k x7) fun t26=>
 gdR t19 true (fun k=>rd prog (binM .sub 3 (.tmp 26) (.const (.int .i64 1)) t26 (.int .i64 1)) w.drew k) fun t27=>
 gdR t19 true (fun k=>rd prog (Instr.indexAt 39 t25 t27) w.drew k) fun t28=>
 gdR t19 true (fun k=>ldR prog 30 t28 w.drew k) fun t29=>
 gd t19 true (fun k=>callS prog 137 (pA #[t24,t29]) w.drew k) w.drew fun t30 w=>
 gdR t19 true (fun k=>rd prog (Op.unary .not t30) w k) fun t31=>
 pickV t19 t31 (.bool false) fun t32=>
 cndS t32 (
 ev prog (binM .add 3 (.tmp 33) (.const (.int .i64 1)) x7 (.int .i64 1)) w fun t34 w=>
 E2 t34 w) (
 f136_k3 K E1 x0 x1 x2 x7 x8 w)
theorem f136_l2_rule (x0 x1 x2 x7 x8:Value) (K:K1) (E1:VP2) (w:World) (I:VP1) (μ:Value→World→Nat) (h0:I x7 w)
  (hr:∀(x7:Value) (w:World),I x7 w→∀E2:VP1,(∀(y7:Value) (w':World),I y7 w'→μ y7 w'<μ x7 w→E2 y7 w')→f136_l2_t x0 x1 x2 x7 x8 K E1 E2 w):f136_l2 K E1 x0 x1 x2 x7 x8 w:=
 ⟨I,μ,h0,fun σ w hI E hE=>cast (by kernel_rfl) (hr (σ 7) w hI E hE)⟩
def f136_k4_t (x0 x1 x2 x7 x8:Value) (K:K1) (E1:VP2) (w:World):Prop:=
 ev prog (binM .sub 3 (.tmp 95) (.tmp 96) x2 x7) w fun t97 w=>
 ev prog (binM .geq 3 (.tmp 97) (.const (.int .i64 2)) t97 (.int .i64 2)) w fun t98 w=>
 cndS t98 (
 ev prog (binM .add 3 (.tmp 99) (.const (.int .i64 1)) x7 (.int .i64 1)) w fun t100 w=>
 f136_l4 K E1 x0 x1 x2 x7 x8 t100 w) (
 f136_k2 K E1 x0 x1 x2 x7 x8 w)
theorem f136_k4_eq (K:K1) (E1:VP2) (x0 x1 x2 x7 x8:Value) (w:World):f136_k4 K E1 x0 x1 x2 x7 x8 w=f136_k4_t x0 x1 x2 x7 x8 K E1 w:=cutE fun σ=>by kernel_rfl
def f136_l3_t (x0 x1 x2 x7 x8 x9:Value) (K:K1) (E1:VP2) (E2:VP1) (w:World):Prop:=
 ev prog (binM .geq 3 (.tmp 64) (.const (.int .i64 1)) x9 (.int .i64 1)) w fun t65 w=>
 cndS t65 (
 rd prog (Instr.indexAt 39 x0 x9) w.drew fun t70=>
 ldR prog 30 t70 w.drew fun t71=>
 rd prog (binM .sub 3 (.tmp 73) (.const (.int .i64 1)) x9 (.int .i64 1)) w.drew fun t74=>
 rd prog (Instr.indexAt 39 x0 t74) w.drew fun t75=>
 ldR prog 30 t75 w.drew fun t76=>
 callS prog 137 (pA #[t71,t76]) w.drew fun t77 w=>
 rd prog (Op.unary .not t77) w fun t78=>
 cndS t78 (
 f136_k4 K E1 x0 x1 x2 x7 x8 w) (
 rd prog (binM .sub 3 (.tmp 82) (.const (.int .i64 1)) x9 (.int .i64 1)) w.drew fun t83=>
 rd prog (binM .sub 3 (.tmp 85) (.const (.int .i64 1)) x9 (.int .i64 1)) w.drew fun t86=>
 rd prog (Instr.indexAt 39 x0 t86) w.drew fun t87=>
 ldR prog 30 t87 w.drew fun t88=>
 rd prog (Instr.indexAt 39 x0 x9) w.drew fun t91=>
 ldR prog 30 t91 w.drew fun t92=>
 rd prog (Instr.indexAt 39 x0 x9) w.drew fun t93=>
 stS prog 30 t93 t88 w.drew fun w=>
 (ag prog (binM .sub 3 (.tmp 82) (.const (.int .i64 1)) x9 (.int .i64 1)) w t83)∧
 rd prog (Instr.indexAt 39 x0 t83) w fun t94=>
 stS prog 30 t94 t92 w fun w=>
 ev prog (binM .sub 3 (.tmp 66) (.const (.int .i64 1)) x9 (.int .i64 1)) w fun t67 w=>
 E2 t67 w)) (
 f136_k4 K E1 x0 x1 x2 x7 x8 w)
theorem f136_l3_rule (x0 x1 x2 x7 x8 x9:Value) (K:K1) (E1:VP2) (w:World) (I:VP1) (μ:Value→World→Nat) (h0:I x9 w)
  (hr:∀(x9:Value) (w:World),I x9 w→∀E2:VP1,(∀(y9:Value) (w':World),I y9 w'→μ y9 w'<μ x9 w→E2 y9 w')→f136_l3_t x0 x1 x2 x7 x8 x9 K E1 E2 w):f136_l3 K E1 x0 x1 x2 x7 x8 x9 w:=
 ⟨I,μ,h0,fun σ w hI E hE=>cast (by kernel_rfl) (hr (σ 9) w hI E hE)⟩
def f136_l4_t (x0 x1 x2 x7 x8 x10:Value) (K:K1) (E1:VP2) (E2:VP1) (w:World):Prop:=
 ev prog (binM .lss 3 (.tmp 101) (.tmp 102) x10 x2) w fun t103 w=>
 cndS t103 (
 rd prog (Instr.indexAt 39 x0 x10) w.drew fun t108=>
 ldR prog 30 t108 w.drew fun t109=>
 rd prog (binM .sub 3 (.tmp 111) (.const (.int .i64 1)) x10 (.int .i64 1)) w.drew fun t112=>
 rd prog (Instr.indexAt 39 x0 t112) w.drew fun t113=>
 ldR prog 30 t113 w.drew fun t114=>
 callS prog 137 (pA #[t109,t114]) w.drew fun t115 w=>
 rd prog (Op.unary .not t115) w fun t116=>
 cndS t116 (
 f136_k2 K E1 x0 x1 x2 x7 x8 w) (
 rd prog (binM .sub 3 (.tmp 120) (.const (.int .i64 1)) x10 (.int .i64 1)) w.drew fun t121=>
 rd prog (binM .sub 3 (.tmp 123) (.const (.int .i64 1)) x10 (.int .i64 1)) w.drew fun t124=>
 rd prog (Instr.indexAt 39 x0 t124) w.drew fun t125=>
 ldR prog 30 t125 w.drew fun t126=>
 rd prog (Instr.indexAt 39 x0 x10) w.drew fun t129=>
 ldR prog 30 t129 w.drew fun t130=>
 rd prog (Instr.indexAt 39 x0 x10) w.drew fun t131=>
 stS prog 30 t131 t126 w.drew fun w=>
 (ag prog (binM .sub 3 (.tmp 120) (.const (.int .i64 1)) x10 (.int .i64 1)) w t121)∧
 rd prog (Instr.indexAt 39 x0 t121) w fun t132=>
 stS prog 30 t132 t130 w fun w=>
 ev prog (binM .add 3 (.tmp 104) (.const (.int .i64 1)) x10 (.int .i64 1)) w fun t105 w=>
 E2 t105 w)) (
 f136_k2 K E1 x0 x1 x2 x7 x8 w)
theorem f136_l4_rule (x0 x1 x2 x7 x8 x10:Value) (K:K1) (E1:VP2) (w:World) (I:VP1) (μ:Value→World→Nat) (h0:I x10 w)
  (hr:∀(x10:Value) (w:World),I x10 w→∀E2:VP1,(∀(y10:Value) (w':World),I y10 w'→μ y10 w'<μ x10 w→E2 y10 w')→f136_l4_t x0 x1 x2 x7 x8 x10 K E1 E2 w):f136_l4 K E1 x0 x1 x2 x7 x8 x10 w:=
 ⟨I,μ,h0,fun σ w hI E hE=>cast (by kernel_rfl) (hr (σ 10) w hI E hE)⟩
def f136_t (x0 x1 x2:Value) (K:K1) (w:World):Prop:=
 ev prog (binM .add 3 (.tmp 11) (.const (.int .i64 1)) x1 (.int .i64 1)) w fun t12 w=>
 f136_l1 K x0 x1 x2 t12 (.int .i64 0) w
theorem f136_call (x0 x1 x2:Value) (K:K1) (w:World) (h:f136_t x0 x1 x2 K w):callS prog 136 #[x0,x1,x2] w K:=
 call_of_txt (args:= [x0,x1,x2]) mixed Tryz.func136 f136_u.2 (by kernel_rfl) (cast (by kernel_rfl) h)
def f137_t (x0 x1:Value) (K:K1) (w:World):Prop:=
 callS prog 149 (pA #[x0]) w fun t6 w=>
 gd t6 true (fun k=>k x1 w) w fun t8 w=>
 gd t6 true (fun k=>callS prog 149 (pA #[t8]) w k) w fun t9 w=>
 gd t6 true (fun k=>ev prog (Op.unary .not t9) w k) w fun t10 w=>
 pickS t6 t10 (.bool false) w fun t11 w=>
 gd t11 false (fun k=>k x0 w) w fun t13 w=>
 gd t11 false (fun k=>k x1 w) w fun t14 w=>
 gd t11 false (fun k=>ev prog (binM .lss 30 (.tmp 13) (.tmp 14) t13 t14) w k) w fun t15 w=>
 pickS t11 (.bool true) t15 w fun t16 w=>
 K t16 w
theorem f137_call (x0 x1:Value) (K:K1) (w:World) (h:f137_t x0 x1 K w):callS prog 137 #[x0,x1] w K:=
 call_of_txt (args:= [x0,x1]) mixed Tryz.func137 .o (by kernel_rfl) (cast (by kernel_rfl) h)
noncomputable def f138_u:Code×Dec:=((Tryz.f138.body).getD .skip,(.s .o (.s .o (.s .o (.x 512 (.b (.l [9,10] 3 9671406556917032860780032 (.b (.x 1539 (.b (.l [9] 1027 70368207307264 .o)) (.x 1539 (.b (.l [10] 515 4611615649683211264 .o)) .o))))) .o)))))
abbrev f138_e (K:K1):KF:=endK prog Tryz.f138.results.toList K
def f138_k1_o (K:K1):KF:=fun fr w=>∀σ,cP (pr (pr (pr (pr f138_u)))) (f138_e K) (f138_e K) nX (mixF 512 σ 0 fr) w
def f138_k1 (K:K1) (x9:Value) (w:World):Prop:=f138_k1_o K (fz 84 0 [(9,x9)]) w
def f138_l1 (K:K1) (x0 x1 x9 x10:Value) (w:World):Prop:=loopT [9,10] 3 (fun E=>cP (pl (pl (pl (pr (pr (pr f138_u)))))) E (f138_e K) (exB 0 (f138_k1_o K) nX)) (fz 84 0 [(0,x0),(1,x1),(9,x9),(10,x10)]) w
def f138_k2_o (K:K1) (E1:VP2):KF:=fun fr w=>∀σ,cP (pr (pl (pl (pl (pl (pr (pr (pr f138_u)))))))) (fun fr w=>E1 (sv fr 9) (sv fr 10) w) (f138_e K) (exB 1 (fun fr w=>E1 (sv fr 9) (sv fr 10) w) (exB 0 (f138_k1_o K) nX)) (mixF 1539 σ 0 fr) w
def f138_k2 (K:K1) (E1:VP2) (x0 x1 x9 x10:Value) (w:World):Prop:=f138_k2_o K E1 (fz 84 0 [(0,x0),(1,x1),(9,x9),(10,x10)]) w
def f138_l2 (K:K1) (E1:VP2) (x0 x1 x9 x10:Value) (w:World):Prop:=loopT [9] 1027 (fun E=>cP (pl (pl (pl (pl (pl (pl (pl (pr (pr (pr f138_u)))))))))) E (f138_e K) (exB 2 (f138_k2_o K E1) (exB 1 (fun fr w=>E1 (sv fr 9) (sv fr 10) w) (exB 0 (f138_k1_o K) nX)))) (fz 84 0 [(0,x0),(1,x1),(9,x9),(10,x10)]) w
def f138_k3_o (K:K1) (E1:VP2):KF:=fun fr w=>∀σ,cP (pr (pr (pl (pl (pl (pl (pr (pr (pr f138_u))))))))) (fun fr w=>E1 (sv fr 9) (sv fr 10) w) (f138_e K) (exB 1 (fun fr w=>E1 (sv fr 9) (sv fr 10) w) (exB 0 (f138_k1_o K) nX)) (mixF 1539 σ 0 fr) w
def f138_k3 (K:K1) (E1:VP2) (x0 x1 x9 x10:Value) (w:World):Prop:=f138_k3_o K E1 (fz 84 0 [(0,x0),(1,x1),(9,x9),(10,x10)]) w
def f138_l3 (K:K1) (E1:VP2) (x0 x1 x9 x10:Value) (w:World):Prop:=loopT [10] 515 (fun E=>cP (pl (pl (pl (pr (pl (pl (pl (pl (pr (pr (pr f138_u))))))))))) E (f138_e K) (exB 4 (f138_k3_o K E1) (exB 1 (fun fr w=>E1 (sv fr 9) (sv fr 10) w) (exB 0 (f138_k1_o K) nX)))) (fz 84 0 [(0,x0),(1,x1),(9,x9),(10,x10)]) w
def f138_k1_t (x9:Value) (K:K1) (w:World):Prop:=
 K x9 w
theorem f138_k1_eq (K:K1) (x9:Value) (w:World):f138_k1 K x9 w=f138_k1_t x9 K w:=cutE fun σ=>by kernel_rfl
def f138_l1_t (x0 x1 x9 x10:Value) (K:K1) (E1:VP2) (w:World):Prop:=
 f138_l2 K E1 x0 x1 x9 x10 w
theorem f138_l1_rule (x0 x1 x9 x10:Value) (K:K1) (w:World) (I:VP2) (μ:Value→Value→World→Nat) (h0:I x9 x10 w)
  (hr:∀(x9 x10:Value) (w:World),I x9 x10 w→∀E1:VP2,(∀(y9 y10:Value) (w':World),I y9 y10 w'→μ y9 y10 w'<μ x9 x10 w→E1 y9 y10 w')→f138_l1_t x0 x1 x9 x10 K E1 w):f138_l1 K x0 x1 x9 x10 w:=
 ⟨I,μ,h0,fun σ w hI E hE=>cast (by kernel_rfl) (hr (σ 9) (σ 10) w hI E hE)⟩
def f138_k2_t (x0 x1 x9 x10:Value) (K:K1) (E1:VP2) (w:World):Prop:=
 f138_l3 K E1 x0 x1 x9 x10 w
theorem f138_k2_eq (K:K1) (E1:VP2) (x0 x1 x9 x10:Value) (w:World):f138_k2 K E1 x0 x1 x9 x10 w=f138_k2_t x0 x1 x9 x10 K E1 w:=cutE fun σ=>by kernel_rfl
def f138_l2_t (x0 x1 x9 x10:Value) (K:K1) (E1:VP2) (E2:VP1) (w:World):Prop:=
 rd prog (binM .leq 3 (.tmp 29) (.tmp 30) x9 x10) w.drew fun t31=>
 gdR t31 true (fun k=>k x0) fun t33=>
 gdR t31 true (fun k=>k x1) fun t34=>
 gdR t31 true (fun k=>rd prog (Instr.indexAt 39 t33 t34) w.drew k) fun t35=>
 gdR t31 true (fun k=>ldR prog 30 t35 w.drew k) fun t36=>
 gdR t31 true (fun k=>k x0) fun t37=>
 gdR t31 true (fun k=>k x9) fun t38=>
 gdR t31 true (fun k=>rd prog (Instr.indexAt 39 t37 t38) w.drew k) fun t39=>
 gdR t31 true (fun k=>ldR prog 30 t39 w.drew k) fun t40=>
 gd t31 true (fun k=>callS prog 137 (pA #[t36,t40]) w.drew k) w.drew fun t41 w=>
 gdR t31 true (fun k=>rd prog (Op.unary .not t41) w k) fun t42=>
 pickV t31 t42 (.bool false) fun t43=>
 cndS t43 (
 ev prog (binM .add 3 (.tmp 44) (.const (.int .i64 1)) x9 (.int .i64 1)) w fun t45 w=>
 E2 t45 w) (
 f138_k2 K E1 x0 x1 x9 x10 w)
theorem f138_l2_rule (x0 x1 x9 x10:Value) (K:K1) (E1:VP2) (w:World) (I:VP1) (μ:Value→World→Nat) (h0:I x9 w)
  (hr:∀(x9:Value) (w:World),I x9 w→∀E2:VP1,(∀(y9:Value) (w':World),I y9 w'→μ y9 w'<μ x9 w→E2 y9 w')→f138_l2_t x0 x1 x9 x10 K E1 E2 w):f138_l2 K E1 x0 x1 x9 x10 w:=
 ⟨I,μ,h0,fun σ w hI E hE=>cast (by kernel_rfl) (hr (σ 9) w hI E hE)⟩
def f138_k3_t (x0 x1 x9 x10:Value) (K:K1) (E1:VP2) (w:World):Prop:=
 ev prog (binM .gtr 3 (.tmp 62) (.tmp 63) x9 x10) w fun t64 w=>
 cndS t64 (
 f138_k1 K x9 w) (
 rd prog (Instr.indexAt 39 x0 x10) w.drew fun t71=>
 ldR prog 30 t71 w.drew fun t72=>
 rd prog (Instr.indexAt 39 x0 x9) w.drew fun t75=>
 ldR prog 30 t75 w.drew fun t76=>
 rd prog (Instr.indexAt 39 x0 x9) w.drew fun t77=>
 stS prog 30 t77 t72 w.drew fun w=>
 rd prog (Instr.indexAt 39 x0 x10) w fun t78=>
 stS prog 30 t78 t76 w fun w=>
 ev prog (binM .add 3 (.tmp 79) (.const (.int .i64 1)) x9 (.int .i64 1)) w fun t80 w=>
 ev prog (binM .sub 3 (.tmp 81) (.const (.int .i64 1)) x10 (.int .i64 1)) w fun t82 w=>
 E1 t80 t82 w)
theorem f138_k3_eq (K:K1) (E1:VP2) (x0 x1 x9 x10:Value) (w:World):f138_k3 K E1 x0 x1 x9 x10 w=f138_k3_t x0 x1 x9 x10 K E1 w:=cutE fun σ=>by kernel_rfl
def f138_l3_t (x0 x1 x9 x10:Value) (K:K1) (E1:VP2) (E2:VP1) (w:World):Prop:=
 rd prog (binM .leq 3 (.tmp 46) (.tmp 47) x9 x10) w.drew fun t48=>
 gdR t48 true (fun k=>k x0) fun t50=>
 gdR t48 true (fun k=>k x1) fun t51=>
 gdR t48 true (fun k=>rd prog (Instr.indexAt 39 t50 t51) w.drew k) fun t52=>
 gdR t48 true (fun k=>ldR prog 30 t52 w.drew k) fun t53=>
 gdR t48 true (fun k=>k x0) fun t54=>
 gdR t48 true (fun k=>k x10) fun t55=>
 gdR t48 true (fun k=>rd prog (Instr.indexAt 39 t54 t55) w.drew k) fun t56=>
 gdR t48 true (fun k=>ldR prog 30 t56 w.drew k) fun t57=>
 gd t48 true (fun k=>callS prog 137 (pA #[t53,t57]) w.drew k) w.drew fun t58 w=>
 pickV t48 t58 (.bool false) fun t59=>
 cndS t59 (
 ev prog (binM .sub 3 (.tmp 60) (.const (.int .i64 1)) x10 (.int .i64 1)) w fun t61 w=>
 E2 t61 w) (
 f138_k3 K E1 x0 x1 x9 x10 w)
theorem f138_l3_rule (x0 x1 x9 x10:Value) (K:K1) (E1:VP2) (w:World) (I:VP1) (μ:Value→World→Nat) (h0:I x10 w)
  (hr:∀(x10:Value) (w:World),I x10 w→∀E2:VP1,(∀(y10:Value) (w':World),I y10 w'→μ y10 w'<μ x10 w→E2 y10 w')→f138_l3_t x0 x1 x9 x10 K E1 E2 w):f138_l3 K E1 x0 x1 x9 x10 w:=
 ⟨I,μ,h0,fun σ w hI E hE=>cast (by kernel_rfl) (hr (σ 10) w hI E hE)⟩
def f138_t (x0 x1 x2 x3:Value) (K:K1) (w:World):Prop:=
 rd prog (Instr.indexAt 39 x0 x3) w.drew fun t17=>
 ldR prog 30 t17 w.drew fun t18=>
 rd prog (Instr.indexAt 39 x0 x1) w.drew fun t21=>
 ldR prog 30 t21 w.drew fun t22=>
 rd prog (Instr.indexAt 39 x0 x1) w.drew fun t23=>
 stS prog 30 t23 t18 w.drew fun w=>
 rd prog (Instr.indexAt 39 x0 x3) w fun t24=>
 stS prog 30 t24 t22 w fun w=>
 ev prog (binM .add 3 (.tmp 25) (.const (.int .i64 1)) x1 (.int .i64 1)) w fun t26 w=>
 ev prog (binM .sub 3 (.tmp 27) (.const (.int .i64 1)) x2 (.int .i64 1)) w fun t28 w=>
 f138_l1 K x0 x1 t26 t28 w
theorem f138_call (x0 x1 x2 x3:Value) (K:K1) (w:World) (h:f138_t x0 x1 x2 x3 K w):callS prog 138 #[x0,x1,x2,x3] w K:=
 call_of_txt (args:= [x0,x1,x2,x3]) mixed Tryz.func138 f138_u.2 (by kernel_rfl) (cast (by kernel_rfl) h)
noncomputable def f139_u:Code×Dec:=((Tryz.f139.body).getD .skip,(.s .o (.s .o (.s .o (.x 3075 (.b (.l [10] 2051 70367670436864 .o)) (.x 3075 (.b (.l [11] 1027 9223301668110600192 .o)) (.s .o (.s .o (.s .o (.s .o (.x 2051 (.b (.l [10,11] 3 11417981541647678414640987641481260342710373376 (.b (.x 3075 (.b (.l [10] 2051 41537741042978506913543222282159104 .o)) (.x 3075 (.b (.l [11] 1027 5444476332360147136792965474937657624576 .o)) .o))))) .o)))))))))))
abbrev f139_e (K:K1):KF:=endK prog Tryz.f139.results.toList K
def f139_k1_o (K:K1):KF:=fun fr w=>∀σ,cP (pr (pr (pr (pr f139_u)))) (f139_e K) (f139_e K) nX (mixF 3075 σ 0 fr) w
def f139_k1 (K:K1) (x0 x1 x10 x11:Value) (w:World):Prop:=f139_k1_o K (fz 168 0 [(0,x0),(1,x1),(10,x10),(11,x11)]) w
def f139_l1 (K:K1) (x0 x1 x10 x11:Value) (w:World):Prop:=loopT [10] 2051 (fun E=>cP (pl (pl (pl (pr (pr (pr f139_u)))))) E (f139_e K) (exB 0 (f139_k1_o K) nX)) (fz 168 0 [(0,x0),(1,x1),(10,x10),(11,x11)]) w
def f139_k2_o (K:K1):KF:=fun fr w=>∀σ,cP (pr (pr (pr (pr (pr f139_u))))) (f139_e K) (f139_e K) nX (mixF 3075 σ 0 fr) w
def f139_k2 (K:K1) (x0 x1 x10 x11:Value) (w:World):Prop:=f139_k2_o K (fz 168 0 [(0,x0),(1,x1),(10,x10),(11,x11)]) w
def f139_l2 (K:K1) (x0 x1 x10 x11:Value) (w:World):Prop:=loopT [11] 1027 (fun E=>cP (pl (pl (pl (pr (pr (pr (pr f139_u))))))) E (f139_e K) (exB 2 (f139_k2_o K) nX)) (fz 168 0 [(0,x0),(1,x1),(10,x10),(11,x11)]) w
def f139_k3_o (K:K1):KF:=fun fr w=>∀σ,cP (pr (pr (pr (pr (pr (pr (pr (pr (pr (pr f139_u)))))))))) (f139_e K) (f139_e K) nX (mixF 2051 σ 0 fr) w
def f139_k3 (K:K1) (x0 x1 x11:Value) (w:World):Prop:=f139_k3_o K (fz 168 0 [(0,x0),(1,x1),(11,x11)]) w
def f139_l3 (K:K1) (x0 x1 x10 x11:Value) (w:World):Prop:=loopT [10,11] 3 (fun E=>cP (pl (pl (pl (pr (pr (pr (pr (pr (pr (pr (pr (pr f139_u)))))))))))) E (f139_e K) (exB 4 (f139_k3_o K) nX)) (fz 168 0 [(0,x0),(1,x1),(10,x10),(11,x11)]) w
def f139_k4_o (K:K1) (E1:VP2):KF:=fun fr w=>∀σ,cP (pr (pl (pl (pl (pl (pr (pr (pr (pr (pr (pr (pr (pr (pr f139_u)))))))))))))) (fun fr w=>E1 (sv fr 10) (sv fr 11) w) (f139_e K) (exB 5 (fun fr w=>E1 (sv fr 10) (sv fr 11) w) (exB 4 (f139_k3_o K) nX)) (mixF 3075 σ 0 fr) w
def f139_k4 (K:K1) (E1:VP2) (x0 x1 x10 x11:Value) (w:World):Prop:=f139_k4_o K E1 (fz 168 0 [(0,x0),(1,x1),(10,x10),(11,x11)]) w
def f139_l4 (K:K1) (E1:VP2) (x0 x1 x10 x11:Value) (w:World):Prop:=loopT [10] 2051 (fun E=>cP (pl (pl (pl (pl (pl (pl (pl (pr (pr (pr (pr (pr (pr (pr (pr (pr f139_u)))))))))))))))) E (f139_e K) (exB 6 (f139_k4_o K E1) (exB 5 (fun fr w=>E1 (sv fr 10) (sv fr 11) w) (exB 4 (f139_k3_o K) nX)))) (fz 168 0 [(0,x0),(1,x1),(10,x10),(11,x11)]) w
def f139_k5_o (K:K1) (E1:VP2):KF:=fun fr w=>∀σ,cP (pr (pr (pl (pl (pl (pl (pr (pr (pr (pr (pr (pr (pr (pr (pr f139_u))))))))))))))) (fun fr w=>E1 (sv fr 10) (sv fr 11) w) (f139_e K) (exB 5 (fun fr w=>E1 (sv fr 10) (sv fr 11) w) (exB 4 (f139_k3_o K) nX)) (mixF 3075 σ 0 fr) w
def f139_k5 (K:K1) (E1:VP2) (x0 x1 x10 x11:Value) (w:World):Prop:=f139_k5_o K E1 (fz 168 0 [(0,x0),(1,x1),(10,x10),(11,x11)]) w
def f139_l5 (K:K1) (E1:VP2) (x0 x1 x10 x11:Value) (w:World):Prop:=loopT [11] 1027 (fun E=>cP (pl (pl (pl (pr (pl (pl (pl (pl (pr (pr (pr (pr (pr (pr (pr (pr (pr f139_u))))))))))))))))) E (f139_e K) (exB 8 (f139_k5_o K E1) (exB 5 (fun fr w=>E1 (sv fr 10) (sv fr 11) w) (exB 4 (f139_k3_o K) nX)))) (fz 168 0 [(0,x0),(1,x1),(10,x10),(11,x11)]) w
def f139_k1_t (x0 x1 x10 x11:Value) (K:K1) (w:World):Prop:=
 f139_l2 K x0 x1 x10 x11 w
theorem f139_k1_eq (K:K1) (x0 x1 x10 x11:Value) (w:World):f139_k1 K x0 x1 x10 x11 w=f139_k1_t x0 x1 x10 x11 K w:=cutE fun σ=>by kernel_rfl
def f139_l1_t (x0 x1 x10 x11:Value) (K:K1) (E1:VP1) (w:World):Prop:=
 rd prog (binM .leq 3 (.tmp 30) (.tmp 31) x10 x11) w.drew fun t32=>
 gdR t32 true (fun k=>k x0) fun t34=>
 gdR t32 true (fun k=>k x10) fun t35=>
 gdR t32 true (fun k=>rd prog (Instr.indexAt 39 t34 t35) w.drew k) fun t36=>
 gdR t32 true (fun k=>ldR prog 30 t36 w.drew k) fun t37=>
 gdR t32 true (fun k=>k x0) fun t38=>
 gdR t32 true (fun k=>k x1) fun t39=>
 gdR t32 true (fun k=>rd prog (Instr.indexAt 39 t38 t39) w.drew k) fun t40=>
 gdR t32 true (fun k=>ldR prog 30 t40 w.drew k) fun t41=>
 gd t32 true (fun k=>callS prog 137 (pA #[t37,t41]) w.drew k) w.drew fun t42 w=>
 pickV t32 t42 (.bool false) fun t43=>
 cndS t43 (
 ev prog (binM .add 3 (.tmp 44) (.const (.int .i64 1)) x10 (.int .i64 1)) w fun t45 w=>
 E1 t45 w) (
 f139_k1 K x0 x1 x10 x11 w)
theorem f139_l1_rule (x0 x1 x10 x11:Value) (K:K1) (w:World) (I:VP1) (μ:Value→World→Nat) (h0:I x10 w)
  (hr:∀(x10:Value) (w:World),I x10 w→∀E1:VP1,(∀(y10:Value) (w':World),I y10 w'→μ y10 w'<μ x10 w→E1 y10 w')→f139_l1_t x0 x1 x10 x11 K E1 w):f139_l1 K x0 x1 x10 x11 w:=
 ⟨I,μ,h0,fun σ w hI E hE=>cast (by kernel_rfl) (hr (σ 10) w hI E hE)⟩
def f139_k2_t (x0 x1 x10 x11:Value) (K:K1) (w:World):Prop:=
 ev prog (binM .gtr 3 (.tmp 63) (.tmp 64) x10 x11) w fun t65 w=>
 cndS t65 (
 rd prog (Instr.indexAt 39 x0 x1) w.drew fun t72=>
 ldR prog 30 t72 w.drew fun t73=>
 rd prog (Instr.indexAt 39 x0 x11) w.drew fun t76=>
 ldR prog 30 t76 w.drew fun t77=>
 rd prog (Instr.indexAt 39 x0 x11) w.drew fun t78=>
 stS prog 30 t78 t73 w.drew fun w=>
 rd prog (Instr.indexAt 39 x0 x1) w fun t79=>
 stS prog 30 t79 t77 w fun w=>
 K (.tuple #[x11,(.bool true)]) w) (
 rd prog (Instr.indexAt 39 x0 x11) w.drew fun t87=>
 ldR prog 30 t87 w.drew fun t88=>
 rd prog (Instr.indexAt 39 x0 x10) w.drew fun t91=>
 ldR prog 30 t91 w.drew fun t92=>
 rd prog (Instr.indexAt 39 x0 x10) w.drew fun t93=>
 stS prog 30 t93 t88 w.drew fun w=>
 rd prog (Instr.indexAt 39 x0 x11) w fun t94=>
 stS prog 30 t94 t92 w fun w=>
 ev prog (binM .add 3 (.tmp 95) (.const (.int .i64 1)) x10 (.int .i64 1)) w fun t96 w=>
 ev prog (binM .sub 3 (.tmp 97) (.const (.int .i64 1)) x11 (.int .i64 1)) w fun t98 w=>
 f139_l3 K x0 x1 t96 t98 w)
theorem f139_k2_eq (K:K1) (x0 x1 x10 x11:Value) (w:World):f139_k2 K x0 x1 x10 x11 w=f139_k2_t x0 x1 x10 x11 K w:=cutE fun σ=>by kernel_rfl
def f139_l2_t (x0 x1 x10 x11:Value) (K:K1) (E1:VP1) (w:World):Prop:=
 rd prog (binM .leq 3 (.tmp 46) (.tmp 47) x10 x11) w.drew fun t48=>
 gdR t48 true (fun k=>k x0) fun t50=>
 gdR t48 true (fun k=>k x11) fun t51=>
 gdR t48 true (fun k=>rd prog (Instr.indexAt 39 t50 t51) w.drew k) fun t52=>
 gdR t48 true (fun k=>ldR prog 30 t52 w.drew k) fun t53=>
 gdR t48 true (fun k=>k x0) fun t54=>
 gdR t48 true (fun k=>k x1) fun t55=>
 gdR t48 true (fun k=>rd prog (Instr.indexAt 39 t54 t55) w.drew k) fun t56=>
 gdR t48 true (fun k=>ldR prog 30 t56 w.drew k) fun t57=>
 gd t48 true (fun k=>callS prog 137 (pA #[t53,t57]) w.drew k) w.drew fun t58 w=>
 gdR t48 true (fun k=>rd prog (Op.unary .not t58) w k) fun t59=>
 pickV t48 t59 (.bool false) fun t60=>
 cndS t60 (
 ev prog (binM .sub 3 (.tmp 61) (.const (.int .i64 1)) x11 (.int .i64 1)) w fun t62 w=>
 E1 t62 w) (
 f139_k2 K x0 x1 x10 x11 w)
theorem f139_l2_rule (x0 x1 x10 x11:Value) (K:K1) (w:World) (I:VP1) (μ:Value→World→Nat) (h0:I x11 w)
  (hr:∀(x11:Value) (w:World),I x11 w→∀E1:VP1,(∀(y11:Value) (w':World),I y11 w'→μ y11 w'<μ x11 w→E1 y11 w')→f139_l2_t x0 x1 x10 x11 K E1 w):f139_l2 K x0 x1 x10 x11 w:=
 ⟨I,μ,h0,fun σ w hI E hE=>cast (by kernel_rfl) (hr (σ 11) w hI E hE)⟩
def f139_k3_t (x0 x1 x11:Value) (K:K1) (w:World):Prop:=
 rd prog (Instr.indexAt 39 x0 x1) w.drew fun t159=>
 ldR prog 30 t159 w.drew fun t160=>
 rd prog (Instr.indexAt 39 x0 x11) w.drew fun t163=>
 ldR prog 30 t163 w.drew fun t164=>
 rd prog (Instr.indexAt 39 x0 x11) w.drew fun t165=>
 stS prog 30 t165 t160 w.drew fun w=>
 rd prog (Instr.indexAt 39 x0 x1) w fun t166=>
 stS prog 30 t166 t164 w fun w=>
 K (.tuple #[x11,(.bool false)]) w
theorem f139_k3_eq (K:K1) (x0 x1 x11:Value) (w:World):f139_k3 K x0 x1 x11 w=f139_k3_t x0 x1 x11 K w:=cutE fun σ=>by kernel_rfl
def f139_l3_t (x0 x1 x10 x11:Value) (K:K1) (E1:VP2) (w:World):Prop:=
 f139_l4 K E1 x0 x1 x10 x11 w
theorem f139_l3_rule (x0 x1 x10 x11:Value) (K:K1) (w:World) (I:VP2) (μ:Value→Value→World→Nat) (h0:I x10 x11 w)
  (hr:∀(x10 x11:Value) (w:World),I x10 x11 w→∀E1:VP2,(∀(y10 y11:Value) (w':World),I y10 y11 w'→μ y10 y11 w'<μ x10 x11 w→E1 y10 y11 w')→f139_l3_t x0 x1 x10 x11 K E1 w):f139_l3 K x0 x1 x10 x11 w:=
 ⟨I,μ,h0,fun σ w hI E hE=>cast (by kernel_rfl) (hr (σ 10) (σ 11) w hI E hE)⟩
def f139_k4_t (x0 x1 x10 x11:Value) (K:K1) (E1:VP2) (w:World):Prop:=
 f139_l5 K E1 x0 x1 x10 x11 w
theorem f139_k4_eq (K:K1) (E1:VP2) (x0 x1 x10 x11:Value) (w:World):f139_k4 K E1 x0 x1 x10 x11 w=f139_k4_t x0 x1 x10 x11 K E1 w:=cutE fun σ=>by kernel_rfl
def f139_l4_t (x0 x1 x10 x11:Value) (K:K1) (E1:VP2) (E2:VP1) (w:World):Prop:=
 rd prog (binM .leq 3 (.tmp 99) (.tmp 100) x10 x11) w.drew fun t101=>
 gdR t101 true (fun k=>k x0) fun t103=>
 gdR t101 true (fun k=>k x10) fun t104=>
 gdR t101 true (fun k=>rd prog (Instr.indexAt 39 t103 t104) w.drew k) fun t105=>
 gdR t101 true (fun k=>ldR prog 30 t105 w.drew k) fun t106=>
 gdR t101 true (fun k=>k x0) fun t107=>
 gdR t101 true (fun k=>k x1) fun t108=>
 gdR t101 true (fun k=>rd prog (Instr.indexAt 39 t107 t108) w.drew k) fun t109=>
 gdR t101 true (fun k=>ldR prog 30 t109 w.drew k) fun t110=>
 gd t101 true (fun k=>callS prog 137 (pA #[t106,t110]) w.drew k) w.drew fun t111 w=>
 pickV t101 t111 (.bool false) fun t112=>
 cndS t112 (
 ev prog (binM .add 3 (.tmp 113) (.const (.int .i64 1)) x10 (.int .i64 1)) w fun t114 w=>
 E2 t114 w) (
 f139_k4 K E1 x0 x1 x10 x11 w)
theorem f139_l4_rule (x0 x1 x10 x11:Value) (K:K1) (E1:VP2) (w:World) (I:VP1) (μ:Value→World→Nat) (h0:I x10 w)
  (hr:∀(x10:Value) (w:World),I x10 w→∀E2:VP1,(∀(y10:Value) (w':World),I y10 w'→μ y10 w'<μ x10 w→E2 y10 w')→f139_l4_t x0 x1 x10 x11 K E1 E2 w):f139_l4 K E1 x0 x1 x10 x11 w:=
 ⟨I,μ,h0,fun σ w hI E hE=>cast (by kernel_rfl) (hr (σ 10) w hI E hE)⟩
def f139_k5_t (x0 x1 x10 x11:Value) (K:K1) (E1:VP2) (w:World):Prop:=
 ev prog (binM .gtr 3 (.tmp 132) (.tmp 133) x10 x11) w fun t134 w=>
 cndS t134 (
 f139_k3 K x0 x1 x11 w) (
 rd prog (Instr.indexAt 39 x0 x11) w.drew fun t141=>
 ldR prog 30 t141 w.drew fun t142=>
 rd prog (Instr.indexAt 39 x0 x10) w.drew fun t145=>
 ldR prog 30 t145 w.drew fun t146=>
 rd prog (Instr.indexAt 39 x0 x10) w.drew fun t147=>
 stS prog 30 t147 t142 w.drew fun w=>
 rd prog (Instr.indexAt 39 x0 x11) w fun t148=>
 stS prog 30 t148 t146 w fun w=>
 ev prog (binM .add 3 (.tmp 149) (.const (.int .i64 1)) x10 (.int .i64 1)) w fun t150 w=>
 ev prog (binM .sub 3 (.tmp 151) (.const (.int .i64 1)) x11 (.int .i64 1)) w fun t152 w=>
 E1 t150 t152 w)
theorem f139_k5_eq (K:K1) (E1:VP2) (x0 x1 x10 x11:Value) (w:World):f139_k5 K E1 x0 x1 x10 x11 w=f139_k5_t x0 x1 x10 x11 K E1 w:=cutE fun σ=>by kernel_rfl
def f139_l5_t (x0 x1 x10 x11:Value) (K:K1) (E1:VP2) (E2:VP1) (w:World):Prop:=
 rd prog (binM .leq 3 (.tmp 115) (.tmp 116) x10 x11) w.drew fun t117=>
 gdR t117 true (fun k=>k x0) fun t119=>
 gdR t117 true (fun k=>k x11) fun t120=>
 gdR t117 true (fun k=>rd prog (Instr.indexAt 39 t119 t120) w.drew k) fun t121=>
 gdR t117 true (fun k=>ldR prog 30 t121 w.drew k) fun t122=>
 gdR t117 true (fun k=>k x0) fun t123=>
 gdR t117 true (fun k=>k x1) fun t124=>
 gdR t117 true (fun k=>rd prog (Instr.indexAt 39 t123 t124) w.drew k) fun t125=>
 gdR t117 true (fun k=>ldR prog 30 t125 w.drew k) fun t126=>
 gd t117 true (fun k=>callS prog 137 (pA #[t122,t126]) w.drew k) w.drew fun t127 w=>
 gdR t117 true (fun k=>rd prog (Op.unary .not t127) w k) fun t128=>
 pickV t117 t128 (.bool false) fun t129=>
 cndS t129 (
 ev prog (binM .sub 3 (.tmp 130) (.const (.int .i64 1)) x11 (.int .i64 1)) w fun t131 w=>
 E2 t131 w) (
 f139_k5 K E1 x0 x1 x10 x11 w)
theorem f139_l5_rule (x0 x1 x10 x11:Value) (K:K1) (E1:VP2) (w:World) (I:VP1) (μ:Value→World→Nat) (h0:I x11 w)
  (hr:∀(x11:Value) (w:World),I x11 w→∀E2:VP1,(∀(y11:Value) (w':World),I y11 w'→μ y11 w'<μ x11 w→E2 y11 w')→f139_l5_t x0 x1 x10 x11 K E1 E2 w):f139_l5 K E1 x0 x1 x10 x11 w:=
 ⟨I,μ,h0,fun σ w hI E hE=>cast (by kernel_rfl) (hr (σ 11) w hI E hE)⟩
def f139_t (x0 x1 x2 x3:Value) (K:K1) (w:World):Prop:=
 rd prog (Instr.indexAt 39 x0 x3) w.drew fun t18=>
 ldR prog 30 t18 w.drew fun t19=>
 rd prog (Instr.indexAt 39 x0 x1) w.drew fun t22=>
 ldR prog 30 t22 w.drew fun t23=>
 rd prog (Instr.indexAt 39 x0 x1) w.drew fun t24=>
 stS prog 30 t24 t19 w.drew fun w=>
 rd prog (Instr.indexAt 39 x0 x3) w fun t25=>
 stS prog 30 t25 t23 w fun w=>
 ev prog (binM .add 3 (.tmp 26) (.const (.int .i64 1)) x1 (.int .i64 1)) w fun t27 w=>
 ev prog (binM .sub 3 (.tmp 28) (.const (.int .i64 1)) x2 (.int .i64 1)) w fun t29 w=>
 f139_l1 K x0 x1 t27 t29 w
theorem f139_call (x0 x1 x2 x3:Value) (K:K1) (w:World) (h:f139_t x0 x1 x2 x3 K w):callS prog 139 #[x0,x1,x2,x3] w K:=
 call_of_txt (args:= [x0,x1,x2,x3]) mixed Tryz.func139 f139_u.2 (by kernel_rfl) (cast (by kernel_rfl) h)
noncomputable def f141_u:Code×Dec:=((Tryz.f141.body).getD .skip,(.s .o (.x 5 .o (.x 5 .o (.x 5 .o .o)))))
abbrev f141_e (K:K1):KF:=endK prog Tryz.f141.results.toList K
def f141_k1_o (K:K1):KF:=fun fr w=>∀σ,cP (pr (pr f141_u)) (f141_e K) (f141_e K) nX (mixF 5 σ 0 fr) w
def f141_k1 (K:K1) (x0 x2:Value) (w:World):Prop:=f141_k1_o K (fz 25 0 [(0,x0),(2,x2)]) w
def f141_k2_o (K:K1):KF:=fun fr w=>∀σ,cP (pr (pr (pr f141_u))) (f141_e K) (f141_e K) nX (mixF 5 σ 0 fr) w
def f141_k2 (K:K1) (x0 x2:Value) (w:World):Prop:=f141_k2_o K (fz 25 0 [(0,x0),(2,x2)]) w
def f141_k3_o (K:K1):KF:=fun fr w=>∀σ,cP (pr (pr (pr (pr f141_u)))) (f141_e K) (f141_e K) nX (mixF 5 σ 0 fr) w
def f141_k3 (K:K1) (x0 x2:Value) (w:World):Prop:=f141_k3_o K (fz 25 0 [(0,x0),(2,x2)]) w
def f141_k1_t (x0 x2:Value) (K:K1) (w:World):Prop:=
 ev prog (binM .geq 30 (.tmp 7) (.const (.int .u64 ((65536:Nat):Int))) x0 (.int .u64 ((65536:Nat):Int))) w fun t8 w=>
 cndS t8 (
 ev prog (binM .shr 30 (.tmp 9) (.const (.int .u64 ((16:Nat):Int))) x0 (.int .u64 ((16:Nat):Int))) w fun t10 w=>
 ev prog (binM .add 3 (.tmp 11) (.const (.int .i64 16)) x2 (.int .i64 16)) w fun t12 w=>
 f141_k2 K t10 t12 w) (
 f141_k2 K x0 x2 w)
theorem f141_k1_eq (K:K1) (x0 x2:Value) (w:World):f141_k1 K x0 x2 w=f141_k1_t x0 x2 K w:=cutE fun σ=>by kernel_rfl
def f141_k2_t (x0 x2:Value) (K:K1) (w:World):Prop:=
 ev prog (binM .geq 30 (.tmp 13) (.const (.int .u64 ((256:Nat):Int))) x0 (.int .u64 ((256:Nat):Int))) w fun t14 w=>
 cndS t14 (
 ev prog (binM .shr 30 (.tmp 15) (.const (.int .u64 ((8:Nat):Int))) x0 (.int .u64 ((8:Nat):Int))) w fun t16 w=>
 ev prog (binM .add 3 (.tmp 17) (.const (.int .i64 8)) x2 (.int .i64 8)) w fun t18 w=>
 f141_k3 K t16 t18 w) (
 f141_k3 K x0 x2 w)
theorem f141_k2_eq (K:K1) (x0 x2:Value) (w:World):f141_k2 K x0 x2 w=f141_k2_t x0 x2 K w:=cutE fun σ=>by kernel_rfl
def f141_k3_t (x0 x2:Value) (K:K1) (w:World):Prop:=
 ev prog (convert 30 5 x0) w fun t21 w=>
 ev prog (Instr.index 9 (.string {data:= #[0,1,2,2,3,3,3,3,4,4,4,4,4,4,4,4,5,5,5,5,5,5,5,5,5,5,5,5,5,5,5,5,6,6,6,6,6,6,6,6,6,6,6,6,6,6,6,6,6,6,6,6,6,6,6,6,6,6,6,6,6,6,6,6,7,7,7,7,7,7,7,7,7,7,7,7,7,7,7,7,7,7,7,7,7,7,7,7,7,7,7,7,7,7,7,7,7,7,7,7,7,7,7,7,7,7,7,7,7,7,7,7,7,7,7,7,7,7,7,7,7,7,7,7,7,7,7,7,8,8,8,8,8,8,8,8,8,8,8,8,8,8,8,8,8,8,8,8,8,8,8,8,8,8,8,8,8,8,8,8,8,8,8,8,8,8,8,8,8,8,8,8,8,8,8,8,8,8,8,8,8,8,8,8,8,8,8,8,8,8,8,8,8,8,8,8,8,8,8,8,8,8,8,8,8,8,8,8,8,8,8,8,8,8,8,8,8,8,8,8,8,8,8,8,8,8,8,8,8,8,8,8,8,8,8,8,8,8,8,8,8,8,8,8,8,8,8,8,8,8,8,8,8,8,8,8]}) t21) w fun t22 w=>
 ev prog (convert 5 3 t22) w fun t23 w=>
 ev prog (binM .add 3 (.tmp 19) (.tmp 23) x2 t23) w fun t24 w=>
 K t24 w
theorem f141_k3_eq (K:K1) (x0 x2:Value) (w:World):f141_k3 K x0 x2 w=f141_k3_t x0 x2 K w:=cutE fun σ=>by kernel_rfl
def f141_t (x0:Value) (K:K1) (w:World):Prop:=
 ev prog (binM .geq 30 (.tmp 3) (.const (.int .u64 ((4294967296:Nat):Int))) x0 (.int .u64 ((4294967296:Nat):Int))) w fun t4 w=>
 cndS t4 (
 ev prog (binM .shr 30 (.tmp 5) (.const (.int .u64 ((32:Nat):Int))) x0 (.int .u64 ((32:Nat):Int))) w fun t6 w=>
 f141_k1 K t6 (.int .i64 32) w) (
 f141_k1 K x0 (.int .i64 0) w)
theorem f141_call (x0:Value) (K:K1) (w:World) (h:f141_t x0 K w):callS prog 141 #[x0] w K:=
 call_of_txt (args:= [x0]) mixed Tryz.func141 f141_u.2 (by kernel_rfl) (cast (by kernel_rfl) h)
noncomputable def f144_u:Code×Dec:=((Tryz.f144.body).getD .skip,(.s .o (.b (.l [8] 13 75557863725914323417856 (.b (.s .o (.s .o (.x 781 .o .o))))))))
abbrev f144_e (K:K1):KF:=endK prog Tryz.f144.results.toList K
def f144_l1 (K:K1) (x0 x2 x3 x8:Value) (w:World):Prop:=loopT [8] 13 (fun E=>cP (pl (pl (pr f144_u))) E (f144_e K) (exB 0 (f144_e K) nX)) (fz 76 0 [(0,x0),(2,x2),(3,x3),(8,x8)]) w
def f144_k1_o (K:K1) (E1:VP1):KF:=fun fr w=>∀σ,cP (pr (pr (pr (pl (pl (pl (pr f144_u))))))) (fun fr w=>E1 (sv fr 8) w) (f144_e K) (exB 1 (fun fr w=>E1 (sv fr 8) w) (exB 0 (f144_e K) nX)) (mixF 781 σ 0 fr) w
def f144_k1 (K:K1) (E1:VP1) (x0 x2 x3 x8 x9:Value) (w:World):Prop:=f144_k1_o K E1 (fz 76 0 [(0,x0),(2,x2),(3,x3),(8,x8),(9,x9)]) w
def f144_l1_t (x0 x2 x3 x8:Value) (K:K1) (E1:VP1) (w:World):Prop:=
 ev prog (binM .mul 3 (.const (.int .i64 2)) (.tmp 11) (.int .i64 2) x8) w fun t12 w=>
 ev prog (binM .add 3 (.tmp 12) (.const (.int .i64 1)) t12 (.int .i64 1)) w fun t13 w=>
 ev prog (binM .geq 3 (.tmp 14) (.tmp 15) t13 x2) w fun t16 w=>
 cndS t16 (
 K (.tuple #[]) w) (
 rd prog (binM .add 3 (.tmp 17) (.const (.int .i64 1)) t13 (.int .i64 1)) w.drew fun t18=>
 rd prog (binM .lss 3 (.tmp 18) (.tmp 19) t18 x2) w.drew fun t20=>
 gdR t20 true (fun k=>k x0) fun t22=>
 gdR t20 true (fun k=>k x3) fun t23=>
 gdR t20 true (fun k=>k t13) fun t24=>
 gdR t20 true (fun k=>rd prog (binM .add 3 (.tmp 23) (.tmp 24) t23 t24) w.drew k) fun t25=>
 gdR t20 true (fun k=>rd prog (Instr.indexAt 39 t22 t25) w.drew k) fun t26=>
 gdR t20 true (fun k=>ldR prog 30 t26 w.drew k) fun t27=>
 gdR t20 true (fun k=>k x0) fun t28=>
 gdR t20 true (fun k=>k x3) fun t29=>
 gdR t20 true (fun k=>k t13) fun t30=>
 gdR t20 true (fun k=>rd prog (binM .add 3 (.tmp 29) (.tmp 30) t29 t30) w.drew k) fun t31=>
 gdR t20 true (fun k=>rd prog (binM .add 3 (.tmp 31) (.const (.int .i64 1)) t31 (.int .i64 1)) w.drew k) fun t32=>
 gdR t20 true (fun k=>rd prog (Instr.indexAt 39 t28 t32) w.drew k) fun t33=>
 gdR t20 true (fun k=>ldR prog 30 t33 w.drew k) fun t34=>
 gd t20 true (fun k=>callS prog 137 (pA #[t27,t34]) w.drew k) w.drew fun t35 w=>
 pickV t20 t35 (.bool false) fun t36=>
 cndS t36 (
 ev prog (binM .add 3 (.tmp 37) (.const (.int .i64 1)) t13 (.int .i64 1)) w fun t38 w=>
 f144_k1 K E1 x0 x2 x3 x8 t38 w) (
 f144_k1 K E1 x0 x2 x3 x8 t13 w))
theorem f144_l1_rule (x0 x2 x3 x8:Value) (K:K1) (w:World) (I:VP1) (μ:Value→World→Nat) (h0:I x8 w)
  (hr:∀(x8:Value) (w:World),I x8 w→∀E1:VP1,(∀(y8:Value) (w':World),I y8 w'→μ y8 w'<μ x8 w→E1 y8 w')→f144_l1_t x0 x2 x3 x8 K E1 w):f144_l1 K x0 x2 x3 x8 w:=
 ⟨I,μ,h0,fun σ w hI E hE=>cast (by kernel_rfl) (hr (σ 8) w hI E hE)⟩
def f144_k1_t (x0 x2 x3 x8 x9:Value) (K:K1) (E1:VP1) (w:World):Prop:=
 rd prog (binM .add 3 (.tmp 40) (.tmp 41) x3 x8) w.drew fun t42=>
 rd prog (Instr.indexAt 39 x0 t42) w.drew fun t43=>
 ldR prog 30 t43 w.drew fun t44=>
 rd prog (binM .add 3 (.tmp 46) (.tmp 47) x3 x9) w.drew fun t48=>
 rd prog (Instr.indexAt 39 x0 t48) w.drew fun t49=>
 ldR prog 30 t49 w.drew fun t50=>
 callS prog 137 (pA #[t44,t50]) w.drew fun t51 w=>
 rd prog (Op.unary .not t51) w fun t52=>
 cndS t52 (
 K (.tuple #[]) w) (
 rd prog (binM .add 3 (.tmp 54) (.tmp 55) x3 x8) w.drew fun t56=>
 rd prog (binM .add 3 (.tmp 58) (.tmp 59) x3 x9) w.drew fun t60=>
 rd prog (binM .add 3 (.tmp 62) (.tmp 63) x3 x9) w.drew fun t64=>
 rd prog (Instr.indexAt 39 x0 t64) w.drew fun t65=>
 ldR prog 30 t65 w.drew fun t66=>
 rd prog (binM .add 3 (.tmp 68) (.tmp 69) x3 x8) w.drew fun t70=>
 rd prog (Instr.indexAt 39 x0 t70) w.drew fun t71=>
 ldR prog 30 t71 w.drew fun t72=>
 rd prog (Instr.indexAt 39 x0 t56) w.drew fun t73=>
 stS prog 30 t73 t66 w.drew fun w=>
 (ag prog (binM .add 3 (.tmp 58) (.tmp 59) x3 x9) w t60)∧
 rd prog (Instr.indexAt 39 x0 t60) w fun t74=>
 stS prog 30 t74 t72 w fun w=>
 E1 x9 w)
theorem f144_k1_eq (K:K1) (E1:VP1) (x0 x2 x3 x8 x9:Value) (w:World):f144_k1 K E1 x0 x2 x3 x8 x9 w=f144_k1_t x0 x2 x3 x8 x9 K E1 w:=cutE fun σ=>by kernel_rfl
def f144_t (x0 x1 x2 x3:Value) (K:K1) (w:World):Prop:=
 f144_l1 K x0 x2 x3 x1 w
theorem f144_call (x0 x1 x2 x3:Value) (K:K1) (w:World) (h:f144_t x0 x1 x2 x3 K w):callS prog 144 #[x0,x1,x2,x3] w K:=
 call_of_txt (args:= [x0,x1,x2,x3]) mixed Tryz.func144 f144_u.2 (by kernel_rfl) (cast (by kernel_rfl) h)
def f145_t (x0:Value) (K:K1) (w:World):Prop:=
 ev prog (convert 3 96 x0) w fun t4 w=>
 callS prog 126 (pA #[t4]) w fun t5 w=>
 ev prog (binM .shl 96 (.const (.int .u64 ((1:Nat):Int))) (.tmp 5) (.int .u64 ((1:Nat):Int)) t5) w fun t6 w=>
 K t6 w
theorem f145_call (x0:Value) (K:K1) (w:World) (h:f145_t x0 K w):callS prog 145 #[x0] w K:=
 call_of_txt (args:= [x0]) mixed Tryz.func145 .o (by kernel_rfl) (cast (by kernel_rfl) h)
def f146_t (x0:Value) (K:K1) (w:World):Prop:=
 nilR prog x0 w.drew fun t4=>
 ldR prog 212 t4 w.drew fun t5=>
 nilR prog x0 w.drew fun t7=>
 ldR prog 212 t7 w.drew fun t8=>
 rd prog (binM .shl 212 (.tmp 8) (.const (.int .u64 ((13:Nat):Int))) t8 (.int .u64 ((13:Nat):Int))) w.drew fun t9=>
 rd prog (binM .xor 212 (.tmp 5) (.tmp 9) t5 t9) w.drew fun t10=>
 nilR prog x0 w.drew fun t11=>
 stS prog 212 t11 t10 w.drew fun w=>
 nilR prog x0 w.drew fun t13=>
 ldR prog 212 t13 w.drew fun t14=>
 nilR prog x0 w.drew fun t16=>
 ldR prog 212 t16 w.drew fun t17=>
 rd prog (binM .shr 212 (.tmp 17) (.const (.int .u64 ((7:Nat):Int))) t17 (.int .u64 ((7:Nat):Int))) w.drew fun t18=>
 rd prog (binM .xor 212 (.tmp 14) (.tmp 18) t14 t18) w.drew fun t19=>
 nilR prog x0 w.drew fun t20=>
 stS prog 212 t20 t19 w.drew fun w=>
 nilR prog x0 w.drew fun t22=>
 ldR prog 212 t22 w.drew fun t23=>
 nilR prog x0 w.drew fun t25=>
 ldR prog 212 t25 w.drew fun t26=>
 rd prog (binM .shl 212 (.tmp 26) (.const (.int .u64 ((17:Nat):Int))) t26 (.int .u64 ((17:Nat):Int))) w.drew fun t27=>
 rd prog (binM .xor 212 (.tmp 23) (.tmp 27) t23 t27) w.drew fun t28=>
 nilR prog x0 w.drew fun t29=>
 stS prog 212 t29 t28 w.drew fun w=>
 nilS prog x0 w fun t31 w=>
 ldS prog 212 t31 w fun t32 w=>
 K t32 w
theorem f146_call (x0:Value) (K:K1) (w:World) (h:f146_t x0 K w):callS prog 146 #[x0] w K:=
 call_of_txt (args:= [x0]) mixed Tryz.func146 .o (by kernel_rfl) (cast (by kernel_rfl) h)
def f147_t (x0 x1 x2:Value) (K:K1) (w:World):Prop:=
 ev prog (binM .sub 3 (.tmp 8) (.const (.int .i64 1)) x1 (.int .i64 1)) w fun t9 w=>
 ev prog (binM .add 3 (.tmp 11) (.const (.int .i64 1)) x1 (.int .i64 1)) w fun t12 w=>
 callS prog 148 (pA #[x0,t9,x1,t12,x2]) w fun t14 w=>
 K t14 w
theorem f147_call (x0 x1 x2:Value) (K:K1) (w:World) (h:f147_t x0 x1 x2 K w):callS prog 147 #[x0,x1,x2] w K:=
 call_of_txt (args:= [x0,x1,x2]) mixed Tryz.func147 .o (by kernel_rfl) (cast (by kernel_rfl) h)
def f148_t (x0 x1 x2 x3 x4:Value) (K:K1) (w:World):Prop:=
 callS prog 150 (pA #[x0,x1,x2,x4]) w fun t16 w=>
 ev prog (Instr.extract t16 0) w fun t17 w=>
 ev prog (Instr.extract t16 1) w fun t18 w=>
 callS prog 150 (pA #[x0,t18,x3,x4]) w fun t24 w=>
 ev prog (Instr.extract t24 0) w fun t25 w=>
 ev prog (Instr.extract t24 1) w fun t26 w=>
 callS prog 150 (pA #[x0,t17,t25,x4]) w fun t32 w=>
 ev prog (Instr.extract t32 0) w fun t33 w=>
 ev prog (Instr.extract t32 1) w fun t34 w=>
 K t34 w
theorem f148_call (x0 x1 x2 x3 x4:Value) (K:K1) (w:World) (h:f148_t x0 x1 x2 x3 x4 K w):callS prog 148 #[x0,x1,x2,x3,x4] w K:=
 call_of_txt (args:= [x0,x1,x2,x3,x4]) mixed Tryz.func148 .o (by kernel_rfl) (cast (by kernel_rfl) h)
def f149_t (x0:Value) (K:K1) (w:World):Prop:=
 ev prog (binM .neq 30 (.tmp 3) (.tmp 4) x0 x0) w fun t5 w=>
 K t5 w
theorem f149_call (x0:Value) (K:K1) (w:World) (h:f149_t x0 K w):callS prog 149 #[x0] w K:=
 call_of_txt (args:= [x0]) mixed Tryz.func149 .o (by kernel_rfl) (cast (by kernel_rfl) h)
def f150_t (x0 x1 x2 x3:Value) (K:K1) (w:World):Prop:=
 rd prog (Instr.indexAt 39 x0 x2) w.drew fun t12=>
 ldR prog 30 t12 w.drew fun t13=>
 rd prog (Instr.indexAt 39 x0 x1) w.drew fun t16=>
 ldR prog 30 t16 w.drew fun t17=>
 callS prog 137 (pA #[t13,t17]) w.drew fun t18 w=>
 cndS t18 (
 nilS prog x3 w fun t20 w=>
 ldS prog 3 t20 w fun t21 w=>
 ev prog (binM .add 3 (.tmp 21) (.const (.int .i64 1)) t21 (.int .i64 1)) w fun t22 w=>
 nilS prog x3 w fun t23 w=>
 stS prog 3 t23 t22 w fun w=>
 K (.tuple #[x2,x1]) w) (
 K (.tuple #[x1,x2]) w)
theorem f150_call (x0 x1 x2 x3:Value) (K:K1) (w:World) (h:f150_t x0 x1 x2 x3 K w):callS prog 150 #[x0,x1,x2,x3] w K:=
 call_of_txt (args:= [x0,x1,x2,x3]) mixed Tryz.func150 .o (by kernel_rfl) (cast (by kernel_rfl) h)
end Go.Proofs.YtifpinhjpbgnoaaGreatDoor
namespace Go.Sh
open Go
theorem runN_ended {P:Program}:∀(n k:Nat) (m:Machine) (o:Outcome) (w:World),runN P n m= .ended o w→runN P (n+k) m= .ended o w:=by
 intro n k m o w h
 rw [runN_add,h]
theorem callS_done {P:Program} {f:FuncId} {args:Array Value} {w:World} {K:K1} (h:callS P f args w K) (hi:P.inits.idxOf? f=none):∃n v w',runN P n (lone (Frame.enter P f args .normal) [] w)= .ended (.done v) w'∧K v w':=by
 refine Calls.done (R:=K) (Calls.mono h ?_) hi
 intro e w' hr
 cases e<;>exact hr
theorem callS_det {P:Program} {f:FuncId} {args:Array Value} {w w0:World} {v0:Value} (hi:P.inits.idxOf? f=none) (h:callS P f args w (fun v w'=>v=v0∧w'=w0)) (K:K1):callS P f args w K=K v0 w0:=by
 apply propext
 constructor
 ·intro h'
  obtain ⟨n,v,w',hr,rfl,rfl⟩:=callS_done h hi
  obtain ⟨n',v',w'',hr',hk⟩:=callS_done h' hi
  have e1:=runN_ended n n' _ _ _ hr
  have e2:=runN_ended n' n _ _ _ hr'
  rw [Nat.add_comm n' n,e1] at e2
  injection e2 with a b
  injection a with a
  subst a;subst b
  exact hk
 ·intro hk
  refine Calls.mono h ?_
  intro e w' hr
  cases e with
  |returned v=>obtain ⟨rfl,rfl⟩:=hr;exact hk
  |panicked c=>exact hr.elim
  |outgrown=>exact hr.elim
def Ext (w w':World):Prop:=Go.RowKit.Below w.heap.size w w'
theorem Ext.refl (w:World):Ext w w:=Go.RowKit.Below.refl _ _
theorem Ext.size {w w':World} (h:Ext w w'):w.heap.size≤w'.heap.size:=Go.RowKit.Below.size h
theorem Ext.blk {w w':World} (h:Ext w w') (b:Nat) (hb:b<w.heap.size):w'.heap[b]? =w.heap[b]? :=Go.RowKit.Below.block h b hb
theorem Ext.trans {a b c:World} (h:Ext a b) (k:Ext b c):Ext a c:=Go.RowKit.Below.trans h (Go.RowKit.Below.mono k h.size)
theorem Ext.alloc {a w:World} (h:Ext a w) (o:Obj):Ext a (w.alloc o):=Go.RowKit.Below.alloc h h.size o
theorem Ext.drew {a w:World} (h:Ext a w):Ext a w.drew:=Go.RowKit.Below.drew h
theorem Ext.setCell {a w:World} (h:Ext a w) {p:Addr} (hp:a.heap.size≤p.block) (u:Value):Ext a (w.setCell p u):=Go.RowKit.Below.setCell h hp u
theorem Ext.cell {w w':World} (h:Ext w w') (b o:Nat) (hb:b<w.heap.size):w'.cell? ⟨b,o,none⟩=w.cell? ⟨b,o,none⟩:=Go.RowKit.Below.cell (p:=⟨b,o,none⟩) h hb
theorem Ext.alloc_self (w:World) (o:Obj):Ext w (w.alloc o):=(Ext.refl w).alloc o
theorem lt_of_cell {w:World} {b o:Nat} {v:Value} (h:w.cell? ⟨b,o,none⟩=some v):b<w.heap.size:=World.block_lt_of_cell? (a:=⟨b,o,none⟩) w h
theorem Ext.cell_some {w w':World} (h:Ext w w') {b o:Nat} {v:Value} (hc:w.cell? ⟨b,o,none⟩=some v):w'.cell? ⟨b,o,none⟩=some v:=by
 rw [h.cell b o (lt_of_cell hc)];exact hc
theorem Ext.heap_some {w w':World} (h:Ext w w') {b:Nat} {o:Obj} (hc:w.heap[b]? =some o):w'.heap[b]? =some o:=by
 have hb:b<w.heap.size:=by
  rcases Nat.lt_or_ge b w.heap.size with h|h
  ·exact h
  ·rw [Array.getElem?_eq_none h] at hc;cases hc
 rw [h.blk b hb];exact hc
theorem cell_new (w:World) (c:Array Value) (t:TypeId) (b i:Nat) (h:b=w.heap.size):(w.alloc (.cells c t)).cell? ⟨b,i,none⟩=c[i]? :=by subst h;exact World.cell?_alloc_new w c t i
theorem cell_old (w:World) (o:Obj) (b i:Nat) (h:b<w.heap.size):(w.alloc o).cell? ⟨b,i,none⟩=w.cell? ⟨b,i,none⟩:=World.cell?_alloc_lt (w:=w) (a:=⟨b,i,none⟩) (o:=o) h
theorem cell_drew (w:World) (a:Addr):w.drew.cell? a=w.cell? a:=rfl
theorem frozen_new (w:World) (c:Array Value) (t:TypeId) (b i:Nat) (h:b=w.heap.size):(w.alloc (.cells c t)).frozen? ⟨b,i,none⟩=false:=by subst h;exact World.frozen?_alloc_new w c t i
theorem frozen_old (w:World) (o:Obj) (b i:Nat) (h:b<w.heap.size):(w.alloc o).frozen? ⟨b,i,none⟩=w.frozen? ⟨b,i,none⟩:=World.frozen?_alloc_old (w:=w) (a:=⟨b,i,none⟩) (o:=o) (Nat.ne_of_lt h)
theorem frozen_drew (w:World) (a:Addr):w.drew.frozen? a=w.frozen? a:=rfl
theorem set_new (w:World) (c:Array Value) (t:TypeId) (b i:Nat) (v:Value) (h:b=w.heap.size):(w.alloc (.cells c t)).setCell ⟨b,i,none⟩ v=w.alloc (.cells (c.setIfInBounds i v) t):=by subst h;exact World.setCell_alloc_new (w:=w) c t i v
theorem set_old (w:World) (o:Obj) (b i:Nat) (v:Value) (h:b<w.heap.size):(w.alloc o).setCell ⟨b,i,none⟩ v=(w.setCell ⟨b,i,none⟩ v).alloc o:=World.setCell_alloc_past (w:=w) o b i v h
theorem set_drew (w:World) (a:Addr) (v:Value):w.drew.setCell a v=(w.setCell a v).drew:=rfl
theorem alloc_drew (w:World) (o:Obj):w.drew.alloc o=(w.alloc o).drew:=rfl
theorem size_drew (w:World):w.drew.heap.size=w.heap.size:=rfl
theorem size_alloc (w:World) (o:Obj):(w.alloc o).heap.size=w.heap.size+1:=World.size_alloc w o
theorem size_set (w:World) (a:Addr) (v:Value):(w.setCell a v).heap.size=w.heap.size:=World.size_setCell w a v
theorem arr0 (a:Value) (l:List Value):(a::l).toArray[0]? =some a:=rfl
theorem arr1 (a b:Value) (l:List Value):(a::b::l).toArray[1]? =some b:=rfl
theorem arr2 (a b c:Value) (l:List Value):(a::b::c::l).toArray[2]? =some c:=rfl
theorem arr3 (a b c d:Value) (l:List Value):(a::b::c::d::l).toArray[3]? =some d:=rfl
theorem arr4 (a b c d e:Value) (l:List Value):(a::b::c::d::e::l).toArray[4]? =some e:=rfl
theorem aset0 (a v:Value) (l:List Value):(a::l).toArray.setIfInBounds 0 v=(v::l).toArray:=by simp
theorem aset1 (a b v:Value) (l:List Value):(a::b::l).toArray.setIfInBounds 1 v=(a::v::l).toArray:=by simp
theorem aset2 (a b c v:Value) (l:List Value):(a::b::c::l).toArray.setIfInBounds 2 v=(a::b::v::l).toArray:=by simp
theorem aset3 (a b c d v:Value) (l:List Value):(a::b::c::d::l).toArray.setIfInBounds 3 v=(a::b::c::v::l).toArray:=by simp
theorem aset4 (a b c d e v:Value) (l:List Value):(a::b::c::d::e::l).toArray.setIfInBounds 4 v=(a::b::c::d::v::l).toArray:=by simp
theorem beqNat_refl (n:Nat):Nat.beq n n=true:=Nat.beq_refl n
theorem setCells_nil (w:World) (b o:Nat):setCells w b o []=w:=rfl
theorem setCells_cons (w:World) (b o:Nat) (v:Value) (l:List Value):setCells w b o (v::l)=setCells (w.setCell ⟨b,o,none⟩ v) b (o+1) l:=rfl
theorem allOne_nil:allOne []=true:=rfl
theorem allOne_cons (v:Value) (l:List Value) (h:isOne v=true):allOne (v::l)=allOne l:=by simp [allOne,h]
theorem freeRow_zero (w:World) (b o:Nat):freeRow w b o 0=true:=rfl
theorem freeRow_succ (w:World) (b o n:Nat):freeRow w b o (n+1)=((w.cell? ⟨b,o,none⟩).isSome&&(!w.frozen? ⟨b,o,none⟩&&freeRow w b (o+1) n)):=rfl
def consO (x:Option Value) (y:Option (List Value)):Option (List Value):=
 match x,y with
 |some v,some l=>some (v::l)
 |_,_=>none
theorem consO_some (v:Value) (l:List Value):consO (some v) (some l)=some (v::l):=rfl
theorem cellsFrom_succ (w:World) (b o n:Nat):cellsFrom w b o (n+1)=consO (w.cell? ⟨b,o,none⟩) (cellsFrom w b (o+1) n):=by
 conv=>lhs;unfold cellsFrom
 cases w.cell? ⟨b,o,none⟩<;>cases cellsFrom w b (o+1) n<;>rfl
set_option linter.defProp false in
def RZ:=And.intro size_drew<|And.intro size_alloc size_set
theorem zu8:Value.int .u8 0=Value.int .u8 ((0:Nat):Int):=rfl
theorem zu16:Value.int .u16 0=Value.int .u16 ((0:Nat):Int):=rfl
theorem zu32:Value.int .u32 0=Value.int .u32 ((0:Nat):Int):=rfl
theorem zu64:Value.int .u64 0=Value.int .u64 ((0:Nat):Int):=rfl
theorem false_true:(false=true)=False:=by simp
theorem true_false:(true=false)=False:=by simp
set_option linter.defProp false in
def RI:=And.intro false_true<|And.intro true_false<|And.intro true_and<|And.intro and_true<|And.intro false_and and_false
set_option linter.defProp false in
def RS:=And.intro zu8<|And.intro zu16<|And.intro zu32<|And.intro zu64<|And.intro setCells_nil<|And.intro setCells_cons<|And.intro allOne_nil<|And.intro allOne_cons<|And.intro freeRow_zero<|And.intro freeRow_succ<|And.intro consO_some<|And.intro cellsFrom_zero<|And.intro cellsFrom_succ<|And.intro (@Option.isSome_some Value)<|And.intro beqNat_refl<|And.intro (@List.length_cons Value) (@List.length_nil Value)
set_option linter.defProp false in
def RW:=And.intro cell_new<|And.intro cell_old<|And.intro cell_drew<|And.intro frozen_new<|And.intro frozen_old<|And.intro frozen_drew<|And.intro set_new<|And.intro set_old<|And.intro set_drew<|And.intro alloc_drew<|
 And.intro size_drew<|And.intro size_alloc<|And.intro size_set<|And.intro arr0<|And.intro arr1<|And.intro arr2<|And.intro arr3<|And.intro arr4<|And.intro aset0<|And.intro aset1<|And.intro aset2<|And.intro aset3 aset4
def pnd (p:Prop):Prop:=p
def hld (p:Prop):Prop:=p
theorem pnd_eq (p:Prop):pnd p=hld p:=rfl
inductive Dep (A B:Prop):Type
 |mk
def brS (p A B:Prop) (_:Dep A B:= .mk):Prop:=(p→A)∧(¬p→B)
theorem brS_mk {p A B:Prop} (h1:p→A) (h2:¬p→B):brS (hld p) A B:=⟨h1,h2⟩
theorem brS_true (A B:Prop):brS (hld True) A B=A:=by unfold brS hld;simp
theorem brS_false (A B:Prop):brS (hld False) A B=B:=by unfold brS hld;simp
theorem brS_not (p A B:Prop):brS (hld (¬p)) A B=brS (pnd p) B A:=by
 unfold brS hld pnd;by_cases h:p<;>simp [h]
theorem cnd_bl (b:Bool) (A B:Prop):cndS (.bool b) A B=brS (pnd (b=true)) A B:=by
 unfold brS pnd;cases b<;>simp [cndS]
theorem pick_bl (c:Bool) (a b:Value) (w:World) (k:K1):pickS (.bool c) a b w k=brS (pnd (c=true)) (k a w) (k b w):=by
 unfold brS pnd;cases c<;>simp [pickS]
theorem pickV_bl (c:Bool) (a b:Value) (k:Value→Prop):pickV (.bool c) a b k=brS (pnd (c=true)) (k a) (k b):=by
 unfold brS pnd;cases c<;>simp [pickV]
theorem gd_blT (c:Bool) (y:K1→Prop) (w:World) (k:K1):gd (.bool c) true y w k=brS (pnd (c=true)) (y k) (k undef w):=by
 unfold brS pnd;cases c<;>simp [gd_tt,gd_ft]
theorem gd_blF (c:Bool) (y:K1→Prop) (w:World) (k:K1):gd (.bool c) false y w k=brS (pnd (c=true)) (k undef w) (y k):=by
 unfold brS pnd;cases c<;>simp [gd_ff,gd_tf]
theorem gdR_blT (c:Bool) (y:(Value→Prop)→Prop) (k:Value→Prop):gdR (.bool c) true y k=brS (pnd (c=true)) (y k) (k undef):=by
 unfold brS pnd;cases c<;>simp [gdR_tt,gdR_ft]
theorem gdR_blF (c:Bool) (y:(Value→Prop)→Prop) (k:Value→Prop):gdR (.bool c) false y k=brS (pnd (c=true)) (k undef) (y k):=by
 unfold brS pnd;cases c<;>simp [gdR_ff,gdR_tf]
theorem gq_blT (c:Bool) (A:Prop):gq (.bool c) true A=brS (pnd (c=true)) A True:=by
 unfold brS pnd;cases c<;>simp [gq_tt,gq_ft]
theorem gq_blF (c:Bool) (A:Prop):gq (.bool c) false A=brS (pnd (c=true)) True A:=by
 unfold brS pnd;cases c<;>simp [gq_ff,gq_tf]
theorem gd_u (b:Bool) (y:K1→Prop) (w:World) (k:K1):gd undef b y w k=k undef w:=rfl
theorem gdR_u (b:Bool) (y:(Value→Prop)→Prop) (k:Value→Prop):gdR undef b y k=k undef:=rfl
theorem gq_u (b:Bool) (A:Prop):gq undef b A=True:=rfl
theorem dec_iff (p:Prop) [Decidable p]:(decide p=true)=p:=by simp
theorem not_iff (b:Bool):((!b)=true)=¬(b=true):=by cases b<;>simp
theorem true_iff:(true=true)=True:=by simp
theorem not_t:(¬True)=False:=by simp
theorem not_f:(¬False)=True:=by simp
set_option linter.defProp false in
def RBp:=And.intro gd_u<|And.intro gdR_u<|And.intro gq_u<|And.intro cnd_bl<|And.intro pick_bl<|And.intro pickV_bl<|And.intro gd_blT<|And.intro gd_blF<|And.intro gdR_blT<|And.intro gdR_blF<|And.intro gq_blT gq_blF
set_option linter.defProp false in
def RBr:=And.intro pnd_eq<|And.intro false_true<|And.intro true_false<|And.intro brS_true<|And.intro brS_false<|And.intro brS_not<|And.intro @dec_iff<|And.intro not_iff<|And.intro true_iff<|And.intro not_t not_f
set_option linter.defProp false in
def RX:=And.intro RBr<|And.intro RW RS
theorem Ext.setB {a w:World} (h:Ext a w) {b i:Nat} (hb:a.heap.size≤b) (u:Value):Ext a (w.setCell ⟨b,i,none⟩ u):=h.setCell hb u
theorem heap_alloc_lt {w:World} {b:Nat} (o:Obj) (h:b<w.heap.size):(w.alloc o).heap[b]? =w.heap[b]? :=by
 show (w.heap.push o)[b]? =_
 rw [Array.getElem?_push,if_neg (by omega)]
theorem heap_alloc_eq (w:World) (o:Obj):(w.alloc o).heap[w.heap.size]? =some o:=by
 show (w.heap.push o)[w.heap.size]? =_
 rw [Array.getElem?_push,if_pos rfl]
theorem heap_set_ne {w:World} {b:Nat} {a:Addr} (v:Value) (h:b≠a.block):(w.setCell a v).heap[b]? =w.heap[b]? :=by
 simp only [World.setCell,Array.getElem?_modify]
 rw [if_neg (by omega)]
theorem lt_of_heap {w:World} {b:Nat} {o:Obj} (h:w.heap[b]? =some o):b<w.heap.size:=by
 rcases Nat.lt_or_ge b w.heap.size with h'|h'
 ·exact h'
 ·rw [Array.getElem?_eq_none h'] at h;cases h
structure Frm (F:Nat→Prop) (w w':World):Prop where
 os:w'.os=w.os
 tape:w'.tape=w.tape
 output:w'.output=w.output
 size:w.heap.size≤w'.heap.size
 block:∀k,k<w.heap.size→¬F k→w'.heap[k]? =w.heap[k]?
theorem Frm.refl (F:Nat→Prop) (w:World):Frm F w w:=⟨rfl,rfl,rfl,Nat.le_refl _,fun _ _ _=>rfl⟩
theorem Frm.of_ext {F:Nat→Prop} {w w':World} (h:Ext w w'):Frm F w w':=⟨h.os,h.tape,h.output,Ext.size h,fun k hk _=>Ext.blk h k hk⟩
theorem Frm.to_ext {w w':World} {F:Nat→Prop} (h:Frm F w w') (hF:∀b,b<w.heap.size→¬F b):Ext w w':=⟨h.os,h.tape,h.output,h.size,fun k hk=>h.block k hk (hF k hk)⟩
theorem Frm.mono {F G:Nat→Prop} {w w':World} (h:Frm F w w') (hG:∀b,F b→G b):Frm G w w':=⟨h.os,h.tape,h.output,h.size,fun k hk hn=>h.block k hk (fun hf=>hn (hG k hf))⟩
theorem Frm.trans {F G:Nat→Prop} {a b c:World} (h:Frm F a b) (k:Frm G b c) (hG:∀x,x<a.heap.size→G x→F x):Frm F a c:=
 ⟨k.os.trans h.os,k.tape.trans h.tape,k.output.trans h.output,Nat.le_trans h.size k.size,
  fun x hx hn=>(k.block x (Nat.lt_of_lt_of_le hx h.size) (fun hg=>hn (hG x hx hg))).trans (h.block x hx hn)⟩
theorem Frm.alloc {F:Nat→Prop} {a w:World} (h:Frm F a w) (o:Obj):Frm F a (w.alloc o):=
 h.trans (G:=fun _=>False) (Frm.of_ext (Ext.alloc_self w o)) (fun _ _ h=>h.elim)
theorem Frm.drew {F:Nat→Prop} {a w:World} (h:Frm F a w):Frm F a w.drew:=⟨h.os,h.tape,h.output,h.size,h.block⟩
theorem Frm.set {F:Nat→Prop} {a w:World} (h:Frm F a w) {p:Addr} (v:Value) (hp:p.block<a.heap.size→F p.block):Frm F a (w.setCell p v):=
 h.trans (G:=fun b=>b=p.block) ⟨rfl,rfl,rfl,by simp [World.setCell],fun k _ hn=>heap_set_ne v hn⟩ (fun x hx e=>by subst e;exact hp hx)
theorem Frm.ext {F:Nat→Prop} {a w w':World} (h:Frm F a w) (e:Ext w w'):Frm F a w':=h.trans (G:=fun _=>False) (Frm.of_ext e) (fun _ _ h=>h.elim)
def Cells (w:World) (b:Nat) (t:TypeId) (n:Nat) (f:Nat→Value):Prop:=∃a:Array Value,w.heap[b]? =some (.cells a t (0,0))∧n≤a.size∧∀i,i<n→a[i]? =some (f i)
section
variable {w w':World} {b b' n m:Nat} {t t':TypeId} {f g:Nat→Value}
theorem Cells.lt (h:Cells w b t n f):b<w.heap.size:=by obtain ⟨a,h,_⟩:=h;exact lt_of_heap h
theorem Cells.of_heap (h:Cells w b t n f) (e:w'.heap[b]? =w.heap[b]?):Cells w' b t n f:=by obtain ⟨a,h,h2⟩:=h;exact ⟨a,e.trans h,h2⟩
theorem Cells.ext (h:Cells w b t n f) (e:Ext w w'):Cells w' b t n f:=h.of_heap (e.blk b h.lt)
theorem Cells.frm {F:Nat→Prop} (h:Cells w b t n f) (e:Frm F w w') (hb:¬F b):Cells w' b t n f:=h.of_heap (e.block b h.lt hb)
theorem Cells.alloc (h:Cells w b t n f) (o:Obj):Cells (w.alloc o) b t n f:=h.of_heap (heap_alloc_lt o h.lt)
theorem Cells.drew (h:Cells w b t n f):Cells w.drew b t n f:=h
theorem Cells.cell (h:Cells w b t n f) {i:Nat} (hi:i<n):w.cell? ⟨b,i,none⟩=some (f i):=by
 obtain ⟨a,h,hs,hf⟩:=h
 rw [cell_of_blk h];exact hf i hi
theorem Cells.frz (h:Cells w b t n f) (i:Nat):w.frozen? ⟨b,i,none⟩=false:=by
 obtain ⟨a,h,hs,hf⟩:=h
 unfold World.frozen?;simp only [h];simp
theorem Cells.congr (h:Cells w b t n f) (e:∀i,i<n→f i=g i):Cells w b t n g:=by
 obtain ⟨a,h,hs,hf⟩:=h
 exact ⟨a,h,hs,fun i hi=>by rw [←e i hi];exact hf i hi⟩
theorem Cells.ty (h:Cells w b t n f) (h':Cells w b t' m g):t=t':=by
 obtain ⟨a,h,hs,hf⟩:=h
 obtain ⟨a',h',hs',hf'⟩:=h'
 rw [h] at h';injection h' with h';injection h'
theorem Cells.ne (h:Cells w b t n f) (h':Cells w b' t' m g) (ht:t≠t'):b≠b':=by
 intro e;subst e;exact ht (h.ty h')
theorem Cells.set_ne (h:Cells w b t n f) {a:Addr} (v:Value) (hb:b≠a.block):Cells (w.setCell a v) b t n f:=h.of_heap (heap_set_ne v hb)
theorem Cells.set (h:Cells w b t n f) {i:Nat} (v:Value) (hi:i<n):Cells (w.setCell ⟨b,i,none⟩ v) b t n (fun j=>if j=i then v else f j):=by
 obtain ⟨a,h,hs,hf⟩:=h
 refine ⟨a.setIfInBounds i v,?_,by simp [hs],?_⟩
 ·simp only [World.setCell,Array.getElem?_modify,h];simp
 ·intro j hj
  rw [Array.getElem?_setIfInBounds]
  by_cases e:i=j
  ·subst e;simp;omega
  ·have e':¬j=i:=fun h=>e h.symm
   simp only [e,e',if_false];exact hf j hj
theorem Cells.new (w:World) (l:List Value) (t:TypeId):Cells (w.alloc (.cells l.toArray t)) w.heap.size t l.length (fun i=>l.getD i undef):=by
 refine ⟨l.toArray,heap_alloc_eq _ _,by simp,?_⟩
 intro i hi
 simp [hi]
end
def SlO (w:World) (t:TypeId) (z:Nat) (v:Value) (n:Nat) (L:List Value):Prop:=L.length=n*z∧((v= .slice none 0 0∧n=0)∨
 ∃b o cap a,v= .slice (some ⟨b,o,none⟩) n cap∧w.heap[b]? =some (.cells a t (0,0))∧n≤cap∧cap≤maxLen∧o+cap*z≤a.size∧∀i u,L[i]? =some u→a[o+i]? =some u)
section
variable {w w':World} {t:TypeId} {z n:Nat} {v:Value} {L:List Value}
theorem SlO.nil (w:World) (t:TypeId) (z:Nat):SlO w t z (.slice none 0 0) 0 []:=⟨by simp,.inl ⟨rfl,rfl⟩⟩
theorem SlO.lt (h:SlO w t z v n L) {b:Nat} (hb:v.ownBlock=some b):b<w.heap.size:=by
 rcases h.2 with ⟨rfl,_⟩|⟨b',o,cap,a,rfl,hh,_⟩
 ·cases hb
 ·injection hb with hb;subst hb;exact lt_of_heap hh
theorem SlO.of_heap (h:SlO w t z v n L) (e:∀b,v.ownBlock=some b→w'.heap[b]? =w.heap[b]?):SlO w' t z v n L:=by
 refine ⟨h.1,?_⟩
 rcases h.2 with h|⟨b',o,cap,a,rfl,hh,h2⟩
 ·exact .inl h
 ·exact .inr ⟨b',o,cap,a,rfl,(e b' rfl).trans hh,h2⟩
theorem SlO.ext (h:SlO w t z v n L) (e:Ext w w'):SlO w' t z v n L:=h.of_heap (fun b hb=>e.blk b (h.lt hb))
theorem SlO.frm {F:Nat→Prop} (h:SlO w t z v n L) (e:Frm F w w') (hF:∀b,v.ownBlock=some b→¬F b):SlO w' t z v n L:=h.of_heap (fun b hb=>e.block b (h.lt hb) (hF b hb))
theorem SlO.cell (h:SlO w t z v n L) {b o m cap:Nat} (hv:v= .slice (some ⟨b,o,none⟩) m cap) {i:Nat} {u:Value} (hi:L[i]? =some u):w.cell? ⟨b,o+i,none⟩=some u:=by
 rcases h.2 with ⟨rfl,_⟩|⟨b',o',cap',a,rfl,hh,_,_,_,h2⟩
 ·cases hv
 ·injection hv with h3 h4 h5;injection h3 with h3;injection h3 with h3 h6;subst h3;subst h6
  rw [cell_of_blk hh];exact h2 i u hi
theorem SlO.lit (w:World) (t:TypeId) (z n:Nat) (l:List Value) (hl:l.length=n*z) (hm:n≤maxLen):SlO (w.alloc (.cells l.toArray t)) t z (.slice (some ⟨w.heap.size,0,none⟩) n n) n l:=
 ⟨hl,.inr ⟨w.heap.size,0,n,l.toArray,rfl,heap_alloc_eq _ _,Nat.le_refl _,hm,by simp [hl],by intro i u h;simpa using h⟩⟩
theorem SlO.isS {t:TypeId} {z n:Nat} {v:Value} {L:List Value} (h:SlO w t z v n L) (hn:0<n):∃b o cap,v= .slice (.some ⟨b,o,none⟩) n cap∧n≤cap:=by
 obtain ⟨hl,h2⟩:=h
 cases h2 with
 |inl h=>exact absurd h.2 (by omega)
 |inr h=>obtain ⟨b,o,cap,a,e,_,e2,_⟩:=h;exact ⟨b,o,cap,e,e2⟩
theorem SlO.drop {t:TypeId} {z n b o m cap k:Nat} {L:List Value} (h:SlO w t z (.slice (some ⟨b,o,none⟩) m cap) n L) (hk:k≤n):SlO w t z (.slice (some ⟨b,if cap=k then o else o+k*z,none⟩) (m-k) (cap-k)) (n-k) (L.drop (k*z)):=by
 obtain ⟨hl,h2⟩:=h
 rcases h2 with ⟨e,_⟩|⟨b',o',cap',a,e,hh,h1,h3,h4,h5⟩
 ·cases e
 ·injection e with e1 e2 e3;injection e1 with e1;injection e1 with e1 e4;subst e1;subst e4;subst e2;subst e3
  refine ⟨by rw [List.length_drop,hl,Nat.sub_mul],.inr ⟨b,_,cap-k,a,rfl,hh,by omega,by omega,?_,?_⟩⟩
  ·split
   ·rename_i e;rw [e] at h4 ⊢;simp;omega
   ·rw [Nat.sub_mul]
    have:=Nat.mul_le_mul_right z (show k≤cap by omega)
    omega
  ·intro i u hu
   rw [List.getElem?_drop] at hu
   split
   ·rename_i e
    have hlt:=(List.getElem?_eq_some_iff.1 hu).1
    rw [hl] at hlt
    have:m=k:=by omega
    rw [this] at hlt;omega
   ·have:=h5 _ _ hu;rw [←this];congr 1;omega
end
theorem SlO.frz {w:World} {t:TypeId} {z n:Nat} {v:Value} {L:List Value} (h:SlO w t z v n L) {b:Nat} (hb:v.ownBlock=some b) (i:Nat):w.frozen? ⟨b,i,none⟩=false:=by
 rcases h.2 with ⟨rfl,_⟩|⟨b',o,cap,a,rfl,hh,_⟩
 ·cases hb
 ·injection hb with hb;subst hb;unfold World.frozen?;simp only [hh];simp
theorem eB {a w:World} (h:Ext a w) {b i:Nat} (u:Value) (hb:a.heap.size≤b:=by first|omega|(simp only [RZ]<;>omega)):Ext a (w.setCell ⟨b,i,none⟩ u):=Ext.setB h hb u
theorem eR (w:World):Ext w w:=Ext.refl w
theorem eA {a w:World} (h:Ext a w) (o:Obj):Ext a (w.alloc o):=Ext.alloc h o
theorem eD {a w:World} (h:Ext a w):Ext a w.drew:=Ext.drew h
theorem eT {a b c:World} (h:Ext a b) (k:Ext b c):Ext a c:=Ext.trans h k
structure ElT (P:Program) (t tx e:TypeId) (z bytes:Nat) (zv:Value):Prop where
 un:P.underlying t=some (.slice e)
 ux:P.underlying tx=some (.slice e)
 inf:((P.info? e).map fun i=>(i.size,i.zero,i.bytes))=some (z,some zv,bytes)
 zs:zv.cells.size=z
 pos:0<z
theorem ElT.info {P:Program} {t tx e:TypeId} {z bytes:Nat} {zv:Value} (h:ElT P t tx e z bytes zv):∃i,P.info? e=some i∧i.size=z∧i.zero=some zv∧i.bytes=bytes:=by
 have:=h.inf
 cases hi:P.info? e with
 |none=>rw [hi] at this;cases this
 |some i=>rw [hi] at this;simp at this;exact ⟨i,rfl,this.1,this.2.1,this.2.2⟩
theorem isOne_oneCell {v:Value} (h:isOne v=true):v.oneCell'=true:=by cases v<;>first|rfl|cases h
theorem allOne_mem {l:List Value} (h:allOne l=true):∀v∈l,v.oneCell'=true:=by
 induction l with
 |nil=>intro v hv;cases hv
 |cons a l ih=>
  simp only [allOne,Bool.and_eq_true] at h
  intro v hv
  cases hv with
  |head=>exact isOne_oneCell h.1
  |tail _ hv=>exact ih h.2 v hv
theorem setRow_heap_eq {w:World} {g:Nat} {cur:Array Value} {e:TypeId} (hg:w.heap[g]? =some (.cells cur e (0,0))) (new:Array Value):(w.setRow g new).heap[g]? =some (.cells new e (0,0)):=setRow_heap w g cur _ e _ hg
theorem setRow_heap_ne {w:World} {g k:Nat} (new:Array Value) (h:k≠g):(w.setRow g new).heap[k]? =w.heap[k]? :=setRow_other w g k _ h
theorem getElem?_splice {l news:List Value} {p i:Nat} (hp:p+news.length≤l.length):(l.take p++news++l.drop (p+news.length))[i]? =if i<p then l[i]? else if i<p+news.length then news[i-p]? else l[i]? :=by
 by_cases h1:i<p
 ·rw [if_pos h1,List.append_assoc,List.getElem?_append_left (by simp;omega),List.getElem?_take_of_lt h1]
 ·rw [if_neg h1]
  by_cases h2:i<p+news.length
  ·rw [if_pos h2,List.getElem?_append_left (by simp;omega),List.getElem?_append_right (by simp;omega)]
   congr 1;simp;omega
  ·rw [if_neg h2,List.getElem?_append_right (by simp;omega),List.getElem?_drop]
   congr 1;simp;omega
theorem run_app_grow {P:Program} (w:World) (t tx ty e:TypeId) (i:TypeInfo) (z:Value) (ht:P.underlying t=some (.slice e)) (htx:P.underlying tx=some (.slice e)) (hi:P.info? e=some i) (hz:i.zero=some z)
  (base:Option Addr) (sLen sCap:Nat) (olds:List Value) (hfo:(Builtin.firstCells i.size sLen (.slice base sLen sCap)).run P w.drew= .ok olds.toArray w.drew)
  (a:Addr) (n c:Nat) (news:List Value) (hf:(Builtin.firstCells i.size n (.slice (some a) n c)).run P w.drew= .ok news.toArray w.drew)
  (hg:sCap<sLen+n) (h63:((sLen+n:Nat):Int)≤9223372036854775807) (hfit:Builtin.nextslicecap (sLen+n) sCap*i.bytes≤281474976710656):
  (Builtin.append_ #[t,tx] ty #[.slice base sLen sCap,.slice (some a) n c]).run P w=
   .ok (.slice (some ⟨w.heap.size,0,none⟩) (sLen+n) (grownCap w (sLen+n) sCap e))
    (w.drew.alloc (.cells ((olds++news).toArray++Builtin.zeroCells z.cells (grownCap w (sLen+n) sCap e-(sLen+n))) e)):=by
 have hn:¬(sLen+n≤sCap):=by omega
 have h63':¬(9223372036854775807<((sLen:Int)+(n:Int))):=by omega
 have h48':¬(281474976710656<Builtin.nextslicecap (sLen+n) sCap*i.bytes):=by omega
 simp [Builtin.append_,run_underlying ht,run_underlying htx,sizeOf,typeInfo,zeroValue,hi,hz,Builtin.lenOf,hn,h63',h48',Question.forced,hf,hfo,newRow,grownCap]
 congr 2
 apply Array.ext'
 simp [List.append_assoc]
theorem run_app_room {P:Program} (w:World) (t tx ty e:TypeId) (i:TypeInfo) (ht:P.underlying t=some (.slice e)) (htx:P.underlying tx=some (.slice e)) (hi:P.info? e=some i)
  (g o sLen sCap:Nat) (cur:Array Value) (hg:w.heap[g]? =some (.cells cur e (0,0)))
  (a:Addr) (m c:Nat) (news:List Value) (hf:(Builtin.firstCells i.size m (.slice (some a) m c)).run P w= .ok news.toArray w) (h1:∀u∈news,u.oneCell'=true)
  (hroom:sLen+m≤sCap) (hfit:o+sLen*i.size+news.length≤cur.size):
  (Builtin.append_ #[t,tx] ty #[.slice (some ⟨g,o,none⟩) sLen sCap,.slice (some a) m c]).run P w=
   .ok (.slice (some ⟨g,o,none⟩) (sLen+m) sCap) (w.setRow g (cur.toList.take (o+sLen*i.size)++news++cur.toList.drop (o+sLen*i.size+news.length)).toArray):=by
 have hst:=run_storeCells_at P g (o+sLen*i.size) e news 0 cur w hg (by simpa using hfit) h1
 simp only [Nat.add_zero] at hst
 simp [Builtin.append_,run_underlying ht,run_underlying htx,sizeOf,typeInfo,hi,Builtin.lenOf,hroom,hf,addr_add,hst]
def sOff:Value→Nat
 | .slice (some a) _ _=>a.off
 |_=>0
theorem blt_append {P:Program} {t tx e ty:TypeId} {z bytes:Nat} {zv:Value} (E:ElT P t tx e z bytes zv) {cs:Array Bool} {w:World} {v:Value} {n:Nat} {L:List Value} (hv:SlO w e z v n L)
  {xb xo m c:Nat} {news:List Value} (hl:news.length=m*z) (hx:∀j u,news[j]? =some u→w.cell? ⟨xb,xo+j,none⟩=some u) (h1:allOne news=true) (hm:0<m) (hb:(n+m)*bytes≤140737488355328) (hm':n+m<9223372036854775807) {k:K1}
  (h:∀v' w',SlO w' e z v' (n+m) (L++news)→Frm (fun b=>v.ownBlock=some b) w w'→(∀b,v'.ownBlock=some b→v.ownBlock=some b∨w.heap.size≤b)→(sOff v'=0∨sOff v'=sOff v)→k v' w'):
  bltS P .append #[t,tx] ty cs #[v,.slice (some ⟨xb,xo,none⟩) m c] w k:=by
 obtain ⟨i,hi,rfl,hz,rfl⟩:=E.info
 have ht:=E.un
 have htx:=E.ux
 have hzs:=E.zs
 have hx':∀j u,news[j]? =some u→w.cell? ((⟨xb,xo,none⟩:Addr).add j)=some u:=by intro j u hj;rw [addr_add];exact hx j u hj
 have hf:=run_firstCells_some (P:=P) w i.size m ⟨xb,xo,none⟩ m c news hl hx'
 have hf':=run_firstCells_some (P:=P) w.drew i.size m ⟨xb,xo,none⟩ m c news hl hx'
 unfold bltS builtin
 have grown:∀(old:Nat),old<n+m→SlO (w.drew.alloc (.cells ((L++news).toArray++Builtin.zeroCells zv.cells (grownCap w (n+m) old e-(n+m))) e)) e i.size (.slice (some ⟨w.heap.size,0,none⟩) (n+m) (grownCap w (n+m) old e)) (n+m) (L++news):=by
  intro old ho
  have hge:=grownCap_ge w (n+m) old e
  have hcm:grownCap w (n+m) old e≤maxLen:=grownCap_le_maxLen w (n+m) old e (by simp only [maxLen];omega)
  refine ⟨by rw [List.length_append,hv.1,hl,Nat.add_mul],.inr ⟨w.heap.size,0,_,_,rfl,heap_alloc_eq w.drew _,hge,hcm,?_,?_⟩⟩
  ·simp only [Array.size_append,List.size_toArray,List.length_append,size_zeroCells,hzs,hv.1,hl,←Nat.add_mul,Nat.zero_add]
   exact Nat.mul_le_mul_right _ (by omega)
  ·intro j u hj
   rw [Nat.zero_add,Array.getElem?_append_left]
   ·simpa using hj
   ·have:=(List.getElem?_eq_some_iff.1 hj).1
    simpa using this
 have fresh:∀(o:Obj),Frm (fun b=>v.ownBlock=some b) w (w.drew.alloc o):=fun o=>((Frm.refl _ w).drew).alloc o
 rcases hv.2 with ⟨rfl,rfl⟩|⟨b,o,cap,a,rfl,hh,hnc,hcm,hsz,hc⟩
 ·have hL:L= []:=List.eq_nil_of_length_eq_zero (by simpa using hv.1)
  subst hL
  have hr:=run_app_grow w t tx ty e i zv ht htx hi hz none 0 0 [] (run_firstCells_none _ _ _ _ _) ⟨xb,xo,none⟩ m c news hf' (by omega) (by omega) (growslice_fits (by omega) hb)
  rw [Sem.run_bind,hr]
  exact h _ _ (grown 0 (by omega)) (fresh _) (fun b hb=>by injection hb with hb;subst hb;exact .inr (Nat.le_refl _)) (.inl rfl)
 ·by_cases hroom:n+m≤cap
  ·have hfit:o+n*i.size+news.length≤a.size:=by
    have:=Nat.mul_le_mul_right i.size hroom
    rw [Nat.add_mul] at this;omega
   have hr:=run_app_room w t tx ty e i ht htx hi b o n cap a hh ⟨xb,xo,none⟩ m c news hf (allOne_mem h1) hroom hfit
   rw [Sem.run_bind,hr]
   have hfit':o+n*i.size+news.length≤a.toList.length:=by simpa using hfit
   refine h _ _ ⟨by rw [List.length_append,hv.1,hl,Nat.add_mul],.inr ⟨b,o,cap,_,rfl,setRow_heap_eq hh _,hroom,hcm,?_,?_⟩⟩ ⟨rfl,rfl,rfl,by simp,fun k _ hk=>setRow_heap_ne _ (fun e=>hk (by simp [Value.ownBlock,e]))⟩ (fun b' hb'=> .inl hb') (.inr rfl)
   ·simp;omega
   ·intro j u hj
    rw [List.getElem?_toArray,getElem?_splice hfit']
    by_cases hjL:j<L.length
    ·rw [List.getElem?_append_left hjL] at hj
     have:=hc j u hj
     rw [if_pos (by have:=hv.1;omega)];simpa using this
    ·rw [List.getElem?_append_right (by omega)] at hj
     have hlt:=(List.getElem?_eq_some_iff.1 hj).1
     have hv1:=hv.1
     rw [if_neg (by omega),if_pos (by omega),←hj]
     congr 1;omega
  ·have hxo:∀j u,L[j]? =some u→w.drew.cell? ((⟨b,o,none⟩:Addr).add j)=some u:=by
    intro j u hj;rw [addr_add];exact hv.cell rfl hj
   have hfo:=run_firstCells_some (P:=P) w.drew i.size n ⟨b,o,none⟩ n cap L hv.1 hxo
   have hr:=run_app_grow w t tx ty e i zv ht htx hi hz (some ⟨b,o,none⟩) n cap L hfo ⟨xb,xo,none⟩ m c news hf' (by omega) (by omega) (growslice_fits (by omega) hb)
   rw [Sem.run_bind,hr]
   exact h _ _ (grown cap (by omega)) (fresh _) (fun b hb=>by injection hb with hb;subst hb;exact .inr (Nat.le_refl _)) (.inl rfl)
def zrow (zv:Value) (n:Nat):Array Value:=madeCells zv.cells n
theorem ev_make {P:Program} {t e:TypeId} {z bytes:Nat} {zv:Value} (E:ElT P t t e z bytes zv) (l n:Int) (w:World) (k:K1) (h0:0≤l) (hl:l≤n) (hb:(bytes:Int)*n≤281474976710656) (h63:n≤9223372036854775807):
  ev P (Instr.makeSlice t (.int .i64 l) (.int .i64 n)) w k=k (.slice (some ⟨w.heap.size,0,none⟩) l.toNat n.toNat) (w.alloc (.cells (zrow zv (n.toNat*z)) e)):=by
 obtain ⟨i,hi,rfl,hz,rfl⟩:=E.info
 exact ev_of_run (run_make w t e i zv E.un hi hz .i64 .i64 l n h0 hl hb h63) k
theorem zrow_get {zv:Value} {n i:Nat} (h:i<n):(zrow zv n)[i]? =some (zv.cells[i%zv.cells.size]!):=by
 unfold zrow madeCells;simp [h]
theorem zrow_cells (w:World) (zv:Value) (n:Nat) (t:TypeId):Cells (w.alloc (.cells (zrow zv n) t)) w.heap.size t n (fun i=>zv.cells[i%zv.cells.size]!):=
 ⟨zrow zv n,heap_alloc_eq _ _,by simp [zrow,madeCells],fun i hi=>zrow_get hi⟩
theorem zrow_sl (w:World) (zv:Value) (c z:Nat) (t:TypeId) (hm:c≤maxLen):SlO (w.alloc (.cells (zrow zv (c*z)) t)) t z (.slice (some ⟨w.heap.size,0,none⟩) 0 c) 0 []:=
 ⟨by simp,.inr ⟨w.heap.size,0,c,_,rfl,heap_alloc_eq _ _,Nat.zero_le _,hm,by simp [zrow,madeCells],by intro i u h;simp at h⟩⟩
theorem run_sl {P:Program} {t e:TypeId} {z bytes:Nat} {zv:Value} (E:ElT P t t e z bytes zv) (b o len cap:Nat) (lo hi:Option Value) (l h:Nat) (w:World)
  (hb:(Instr.sliceBounds true len cap lo hi none).run P w= .ok (l,h,cap) w):(Instr.sliceAt t (.slice (some ⟨b,o,none⟩) len cap) lo hi none).run P w= .ok (.slice (some ⟨b,if cap=l then o else o+l*z,none⟩) (h-l) (cap-l)) w:=by
 obtain ⟨i,hi,rfl,hz,rfl⟩:=E.info
 simp only [Instr.sliceAt,Sem.run_bind,run_underlying_some E.un,Result.andThen_ok,Instr.slice,hb]
 simp only [sizeOf,typeInfo,Sem.run_bind,program,Sem.run,hi,Result.andThen_ok,Sem.run_pure,Option.map_some]
 by_cases hc:cap=l
 ·simp [hc]
 ·simp [hc,addr_add]
theorem run_bound {P:Program} (k:IntKind) (n y:Nat) (c:BoundsCode) (w:World) (h:n≤y):(Instr.sliceBound (.int k n) y c).run P w= .ok n w:=by
 simp [Instr.sliceBound,asIntOf,h]
theorem run_hi {P:Program} {t e:TypeId} {z bytes:Nat} {zv:Value} (E:ElT P t t e z bytes zv) (b o len cap:Nat) (k:IntKind) (n:Nat) (w:World) (h:n≤cap):(Instr.sliceAt t (.slice (some ⟨b,o,none⟩) len cap) none (some (.int k n)) none).run P w= .ok (.slice (some ⟨b,o,none⟩) n cap) w:=by
 have:=run_sl E b o len cap none (some (.int k n)) 0 n w (by simp [Instr.sliceBounds,run_bound _ _ _ _ _ h])
 simpa using this
theorem run_lo {P:Program} {t e:TypeId} {z bytes:Nat} {zv:Value} (E:ElT P t t e z bytes zv) (b o len cap:Nat) (k:IntKind) (n:Nat) (w:World) (h:n≤len):(Instr.sliceAt t (.slice (some ⟨b,o,none⟩) len cap) (some (.int k n)) none none).run P w= .ok (.slice (some ⟨b,if cap=n then o else o+n*z,none⟩) (len-n) (cap-n)) w:=
 run_sl E b o len cap (some (.int k n)) none n len w (by simp [Instr.sliceBounds,run_bound _ _ _ _ _ h])
def MapI (w:World) (r:Nat) (es:Array MapEntry) (clock:Nat) (m:Int→Option Value):Prop:=
 w.heap[r]? =some (.map es clock)∧(∀x∈es.toList,x.born<clock)∧(es.toList.map (·.born)).Nodup∧(es.toList.map (·.key)).Nodup∧(∀x∈es.toList,∃i,x.key= .int .i64 i)∧∀i v,m i=some v↔∃x∈es.toList,x.key= .int .i64 i∧x.val=v
theorem MapI.lt {w:World} {r:Nat} {es:Array MapEntry} {clock:Nat} {m:Int→Option Value} (h:MapI w r es clock m):r<w.heap.size:=lt_of_heap h.1
theorem MapI.of_heap {w w':World} {r:Nat} {es:Array MapEntry} {clock:Nat} {m:Int→Option Value} (h:MapI w r es clock m) (e:w'.heap[r]? =w.heap[r]?):MapI w' r es clock m:=⟨e.trans h.1,h.2⟩
theorem MapI.empty {w:World} {r clock:Nat} (h:w.heap[r]? =some (.map #[] clock)):MapI w r #[] clock (fun _=>none):=⟨h,by simp,by simp,by simp,by simp,by simp⟩
theorem ev_makeMap {P:Program} (t:TypeId) (w:World) (k:K1):ev P (Instr.makeMap t none) w k=k (.map (some w.heap.size)) (w.alloc (.map #[] 0)):=rfl
def mapT (P:Program) (t:TypeId):Bool:=
 match P.underlying t with
 |some (.map kt _)=>match P.underlying kt with
  |some (.int .i64)=>true
  |_=>false
 |_=>false
theorem mapT_un {P:Program} {t:TypeId} (h:mapT P t=true):∃kt et,P.underlying t=some (.map kt et)∧P.underlying kt=some (.int .i64):=by
 unfold mapT at h
 split at h
 ·rename_i kt et hu
  split at h
  ·rename_i hk;exact ⟨kt,et,hu,hk⟩
  ·cases h
 ·cases h
def putO (w:World) (r:Nat) (o:Obj):World:={w with heap:=w.heap.setIfInBounds r o}
theorem putO_eq {w:World} {r:Nat} {o o':Obj} (h:w.heap[r]? =some o):(putO w r o').heap[r]? =some o':=(MapKept.heap_set h).1
theorem putO_ne {w:World} {r b:Nat} {o':Obj} (h:b≠r):(putO w r o').heap[b]? =w.heap[b]? :=by
 show (w.heap.setIfInBounds r o')[b]? =_
 rw [Array.getElem?_setIfInBounds_ne (Ne.symm h)]
theorem putO_frm {w:World} {r:Nat} {o':Obj}:Frm (fun b=>b=r) w (putO w r o'):=⟨rfl,rfl,rfl,by simp [putO],fun _ _ hn=>putO_ne hn⟩
theorem isKey_i64 (i:Int):MapKept.IsKey (.int .i64) (.int .i64 i):=by simp [MapKept.IsKey]
theorem ac_mapUpdate {P:Program} {t:TypeId} (ht:mapT P t=true) {w:World} {r:Nat} {es:Array MapEntry} {clock:Nat} {m:Int→Option Value} (hm:MapI w r es clock m) (i:Int) (v:Value) {k:World→Prop}
  (h:∀w' es' clock',MapI w' r es' clock' (fun j=>if j=i then some v else m j)→Frm (fun b=>b=r) w w'→k w'):ac P (Instr.mapUpdate t (.map (some r)) (.int .i64 i) v) w k:=by
 obtain ⟨kt,et,hu,hk⟩:=mapT_un ht
 obtain ⟨hb,hclk,hbn,hkn,hks,hmm⟩:=hm
 have hks':∀x∈es.toList,MapKept.IsKey (.int .i64) x.key:=by
  intro x hx;obtain ⟨i,e⟩:=hks x hx;rw [e];exact isKey_i64 i
 unfold ac
 rcases MapKept.findNow_spec (isKey_i64 i) es.toList 0 hks' with ⟨h1,h2⟩|⟨j,e,h1,h2,h3⟩
 ·have hr:(Instr.mapUpdate t (.map (some r)) (.int .i64 i) v).run P w= .ok () (putO w r (.map (es.push {key:= .int .i64 i,val:=v,born:=clock}) (clock+1))):=by
   simp [Instr.mapUpdate,run_underlying hu,MapKept.run_getObj_map hb,MapKept.run_checkKey hk (isKey_i64 i),MapKept.run_findKey hk h1,MapKept.run_setObj_map _ hb,putO]
  rw [hr]
  refine h _ _ _ ⟨putO_eq hb,?_,?_,?_,?_,?_⟩ putO_frm
  ·intro x hx
   simp only [Array.toList_push,List.mem_append,List.mem_singleton] at hx
   rcases hx with hx|rfl
   ·have:=hclk x hx;omega
   ·exact Nat.lt_succ_self _
  ·simp only [Array.toList_push,List.map_append,List.map_cons,List.map_nil]
   rw [List.nodup_append]
   refine ⟨hbn,by simp,?_⟩
   intro a ha b hb' e
   simp only [List.mem_singleton] at hb'
   obtain ⟨x,hx,rfl⟩:=List.mem_map.1 ha
   have:=hclk x hx
   omega
  ·simp only [Array.toList_push,List.map_append,List.map_cons,List.map_nil]
   rw [List.nodup_append]
   refine ⟨hkn,by simp,?_⟩
   intro a ha b hb' e
   simp only [List.mem_singleton] at hb'
   obtain ⟨x,hx,rfl⟩:=List.mem_map.1 ha
   exact h2 x hx (e.trans hb')
  ·intro x hx
   simp only [Array.toList_push,List.mem_append,List.mem_singleton] at hx
   rcases hx with hx|rfl
   ·exact hks x hx
   ·exact ⟨i,rfl⟩
  ·intro j u
   simp only [Array.toList_push,List.mem_append,List.mem_singleton]
   by_cases hj:j=i
   ·subst hj
    simp only [if_true,Option.some.injEq]
    constructor
    ·rintro rfl;exact ⟨_,.inr rfl,rfl,rfl⟩
    ·rintro ⟨x,hx|rfl,hk,hv⟩
     ·exact absurd hk (h2 x hx)
     ·exact hv
   ·simp only [hj,if_false]
    rw [hmm]
    constructor
    ·rintro ⟨x,hx,hk,hv⟩;exact ⟨x,.inl hx,hk,hv⟩
    ·rintro ⟨x,hx|rfl,hk,hv⟩
     ·exact ⟨x,hx,hk,hv⟩
     ·injection hk with _ hk;exact absurd hk.symm hj
 ·have hj:es[j]? =some e:=by simpa using h2
  have hr:(Instr.mapUpdate t (.map (some r)) (.int .i64 i) v).run P w= .ok () (putO w r (.map (es.modify j fun e=>{e with key:= .int .i64 i,val:=v}) clock)):=by
   simp [Instr.mapUpdate,run_underlying hu,MapKept.run_getObj_map hb,MapKept.run_checkKey hk (isKey_i64 i),MapKept.run_findKey hk h1,hj,h3,MapKept.run_keyThatStays (isKey_i64 i),MapKept.run_setObj_map _ hb,putO]
  rw [hr]
  have hkey:∀e',es[j]? =some e'→({e' with key:= .int .i64 i,val:=v}:MapEntry).key=e'.key:=fun e' he'=>by rw [hj] at he';cases he';exact h3.symm
  have hjl:j<es.size:=(Array.getElem?_eq_some_iff.1 hj).1
  have hst:=MapKept.stamped_modify (es:=es) (clock:=clock) ⟨hclk,hbn,hkn⟩ j (fun e=>{e with key:= .int .i64 i,val:=v}) (fun _ _=>rfl) (fun e' _ he'=>hkey e' he')
  have hmem:∀x,x∈(es.modify j fun e=>{e with key:= .int .i64 i,val:=v}).toList↔(x={e with key:= .int .i64 i,val:=v}∨(x∈es.toList∧x.key≠ .int .i64 i)):=by
   intro x
   rw [Array.mem_toList_iff,Array.mem_iff_getElem?]
   constructor
   ·rintro ⟨q,hq⟩
    rw [Array.getElem?_modify] at hq
    by_cases hqj:j=q
    ·subst hqj;rw [if_pos rfl,hj] at hq;simp at hq;exact .inl hq.symm
    ·rw [if_neg hqj] at hq
     refine .inr ⟨by rw [Array.mem_toList_iff,Array.mem_iff_getElem?];exact ⟨q,hq⟩,?_⟩
     intro hxk
     have hql:q<es.size:=(Array.getElem?_eq_some_iff.1 hq).1
     have h5:(es.toList.map (·.key))[q]? =some (.int .i64 i):=by simp [List.getElem?_map,hq,hxk]
     have h6:(es.toList.map (·.key))[j]? =some (.int .i64 i):=by simp [List.getElem?_map,hj,h3]
     exact hqj ((List.getElem?_inj (by simpa using hjl) hkn).1 (h6.trans h5.symm))
   ·rintro (rfl|⟨hx,hxk⟩)
    ·exact ⟨j,by rw [Array.getElem?_modify,if_pos rfl,hj];rfl⟩
    ·rw [Array.mem_toList_iff,Array.mem_iff_getElem?] at hx
     obtain ⟨q,hq⟩:=hx
     refine ⟨q,?_⟩
     rw [Array.getElem?_modify,if_neg,hq]
     intro hqj;subst hqj;rw [hj] at hq;cases hq;exact hxk h3
  refine h _ _ _ ⟨putO_eq hb,hst.1,hst.2.1,hst.2.2,?_,?_⟩ putO_frm
  ·intro x hx
   rcases (hmem x).1 hx with rfl|⟨hx,_⟩
   ·exact ⟨i,rfl⟩
   ·exact hks x hx
  ·intro q u
   by_cases hq:q=i
   ·subst hq
    simp only [if_true,Option.some.injEq]
    constructor
    ·rintro rfl;exact ⟨_,(hmem _).2 (.inl rfl),rfl,rfl⟩
    ·rintro ⟨x,hx,hk,hv⟩
     rcases (hmem x).1 hx with rfl|⟨_,hn⟩
     ·exact hv
     ·exact absurd hk hn
   ·simp only [hq,if_false]
    rw [hmm]
    constructor
    ·rintro ⟨x,hx,hk,hv⟩;exact ⟨x,(hmem x).2 (.inr ⟨hx,by rw [hk];intro e;injection e with _ e;exact hq e⟩),hk,hv⟩
    ·rintro ⟨x,hx,hk,hv⟩
     rcases (hmem x).1 hx with rfl|⟨hx,_⟩
     ·injection hk with _ hk;exact absurd hk.symm hq
     ·exact ⟨x,hx,hk,hv⟩
theorem ev_range {P:Program} {t:TypeId} (ht:mapT P t=true) {w:World} {r:Nat} {es:Array MapEntry} {clock:Nat} (hb:w.heap[r]? =some (.map es clock)) (k:K1):
  ev P (Instr.range t (.map (some r))) w k=k (.pointer (some ⟨w.heap.size,0,none⟩)) (w.alloc (.mapIter (some r) clock #[] clock)):=by
 obtain ⟨kt,et,hu,hk⟩:=mapT_un ht
 exact ev_of_run (run_range_map w t kt et r es clock hu hb) k
theorem ev_next {P:Program} {ty:TypeId} {w:World} {it m since last clock:Nat} {seen:Array Nat} {es:Array MapEntry} (hit:w.heap[it]? =some (.mapIter (some m) since seen last)) (hm:w.heap[m]? =some (.map es clock)) (hold:∀x∈es.toList,x.born<since) (hsl:since≤last) {k:K1}
  (h0:(∀x∈es.toList,x.born∈seen)→∀w',Ext w w'→k (.tuple #[.bool false]) w')
  (h1:∀x∈es.toList,x.born∉seen→∀w',w'.heap[it]? =some (.mapIter (some m) since (seen.push x.born) clock)→w'.heap.size=w.heap.size→Frm (fun b=>b=it) w w'→k (.tuple #[.bool true,x.key,x.val]) w'):ev P (Instr.next (.pointer (some ⟨it,0,none⟩)) false ty) w k:=by
 unfold ev
 simp only [Instr.next,getObj,Sem.run_bind,Sem.run,hit,hm,Result.andThen,Go.next_test_false seen es since last hold hsl,Bool.false_eq_true,if_false]
 have hmem:∀x∈(Array.filter (fun e=> !seen.contains e.born) es).toList,x∈es.toList∧x.born∉seen:=fun x hx=>by simpa using hx
 have hall:(Array.filter (fun e=> !seen.contains e.born) es).size=0→∀x∈es.toList,x.born∈seen:=by
  intro h x hx
  by_cases hs:x.born∈seen
  ·exact hs
  ·have:x∈Array.filter (fun e=> !seen.contains e.born) es:=by simp [hs];simpa using hx
   rw [Array.eq_empty_of_size_eq_zero h] at this
   simp at this
 generalize Array.filter (fun e=> !seen.contains e.born) es=L at hmem hall ⊢
 have e1:L.filter (fun x=>decide (x.born<since))=L:=Array.filter_eq_self.2 (fun x hx=>by simpa using hold x (hmem x (by simpa using hx)).1)
 have e2:L.filter (fun x=>decide (x.born≥since))= #[]:=by
  rw [Array.filter_eq_empty_iff]
  intro x hx
  have:=hold x (hmem x (by simpa using hx)).1
  simp
  omega
 simp only [e1,e2,Array.append_empty]
 by_cases hz:L.size=0
 ·have:L= #[]:=Array.eq_empty_of_size_eq_zero hz
  subst this
  have hr:(choose (Question.mapNext 1)).run P w= .ok 0 w:=by simp [choose,Sem.run,Question.forced]
  simp only [Array.isEmpty_empty,if_true,Array.map_empty,Array.append_empty,List.size_toArray,List.length_singleton,hr]
  exact h0 (hall hz) w (Ext.refl w)
 ·have hne:L.isEmpty=false:=by simp [Array.isEmpty,hz]
  simp only [hne,Bool.false_eq_true,if_false,Array.empty_append,Array.size_map]
  have hch:∃(j:Nat) (w1:World),j<L.size∧w1.heap=w.heap∧w1.os=w.os∧w1.tape=w.tape∧w1.output=w.output∧(choose (Question.mapNext L.size)).run P w= .ok j w1:=by
   by_cases hf:L.size≤1
   ·exact ⟨0,w,by omega,rfl,rfl,rfl,rfl,by simp [choose,Sem.run,Question.forced,hf]⟩
   ·exact ⟨_,w.drew,Nat.mod_lt _ (by omega),rfl,rfl,rfl,rfl,by
     simp only [choose,Sem.run,Question.forced,decide_eq_true_eq,hf,if_false,Question.cut]
     rfl⟩
  obtain ⟨j,w1,hj,a1,a2,a3,a4,hrun⟩:=hch
  have hit1:w1.heap[it]? =some (.mapIter (some m) since seen last):=by rw [a1];exact hit
  have hset:∀o',(setObj it o').run P w1= .ok () (putO w1 it o'):=fun o'=>by simp [setObj,Sem.run,hit1,putO]
  simp only [hrun,Array.getElem?_map,Array.getElem?_eq_getElem hj,Option.map_some,Sem.run_bind,hset,Result.andThen]
  have hx:=hmem L[j] (by simp)
  refine h1 L[j] hx.1 hx.2 _ (putO_eq hit1) (by simp [putO,a1]) ⟨a2,a3,a4,by simp [putO,a1],?_⟩
  intro b hb hn
  rw [putO_ne hn,a1]
theorem ev_entry {P:Program} {w:World} {it m since clock stamp:Nat} {seen:Array Nat} {es:Array MapEntry} (hit:w.heap[it]? =some (.mapIter (some m) since (seen.push stamp) clock)) (hm:w.heap[m]? =some (.map es clock)) (hn:(es.toList.map (·.born)).Nodup) {x:MapEntry} (hx:x∈es.toList) (hxs:x.born=stamp) (k:K1):
  ev P (Instr.entry (.pointer (some ⟨it,0,none⟩))) w k=k (.tuple #[x.key,x.val]) w:=by
 refine ev_of_run ?_ k
 subst hxs
 have hf:=find_born x es.toList hn hx
 have hf':es.find? (fun e=>e.born==x.born)=some x:=by rw [←Array.find?_toList];exact hf
 simp [Instr.entry,getObj,Sem.run,hit,hm,Sem.run_bind,hf']
theorem blt_clear {P:Program} {t ty:TypeId} (ht:mapT P t=true) {cs:Array Bool} {w:World} {r:Nat} {es:Array MapEntry} {clock:Nat} (hb:w.heap[r]? =some (.map es clock)) (k:K1):
  bltS P .clear #[t] ty cs #[.map (some r)] w k=k (.tuple #[]) (putO w r (.map #[] clock)):=by
 obtain ⟨kt,et,hu,hk⟩:=mapT_un ht
 have hr:(Builtin.clear_ #[t] ty #[.map (some r)]).run P w= .ok (.tuple #[]) (putO w r (.map #[] clock)):=by
  simp [Builtin.clear_,run_underlying hu,MapKept.run_getObj_map hb,MapKept.run_setObj_map _ hb,putO]
 unfold bltS builtin
 rw [Sem.run_bind,hr];rfl
theorem ev_bs0 {P:Program} {t e:TypeId} {z bytes:Nat} {zv:Value} (E:ElT P t t e z bytes zv) (w:World) (k:K1):ev P (Instr.buildSlice t 0 #[]) w k=k (.slice (some ⟨w.heap.size,0,none⟩) 0 0) (w.alloc (.cells #[] e)):=by
 obtain ⟨i,hi,rfl,hz,rfl⟩:=E.info
 refine ev_of_run ?_ k
 unfold Instr.buildSlice
 rw [Sem.run_bind,run_underlying_some E.un,Result.andThen_ok]
 simp only
 simp [sizeOf,typeInfo,program,Sem.run,hi,Sem.run_bind,Instr.fill,newRow,Array.range_zero']
theorem SlO.lit0 (w:World) (t:TypeId) (z:Nat):SlO (w.alloc (.cells #[] t)) t z (.slice (some ⟨w.heap.size,0,none⟩) 0 0) 0 []:=
 ⟨by simp,.inr ⟨w.heap.size,0,0,#[],rfl,heap_alloc_eq _ _,Nat.le_refl _,Nat.zero_le _,by simp,by intro i u h;simp at h⟩⟩
theorem equalIn_sl {P:Program} {t:TypeId} (h:sliceT P t=true) (p:Option Addr) (n c:Nat) (w:World) (d:Nat):(Op.equalIn (d+1) t (.slice p n c) (.slice none 0 0)).run P w= .ok p.isNone w:=by
 unfold sliceT at h
 split at h
 ·rename_i e hu
  unfold Op.equalIn
  rw [Sem.run_bind,run_underlying_some hu,Result.andThen_ok]
  cases p<;>rfl
 ·cases h
theorem run_eq_sl_nil {P:Program} {t:TypeId} (h:sliceT P t=true) (x y:Operand) (p:Option Addr) (n c:Nat) (w:World):(binM .eql t x y (.slice p n c) (.slice none 0 0)).run P w= .ok (.bool p.isNone) w:=
 run_eqM (by cases p<;>rfl) (by cases p<;>rfl) (equalIn_sl h p n c w)
theorem run_neq_sl_nil {P:Program} {t:TypeId} (h:sliceT P t=true) (x y:Operand) (p:Option Addr) (n c:Nat) (w:World):(binM .neq t x y (.slice p n c) (.slice none 0 0)).run P w= .ok (.bool (!p.isNone)) w:=
 run_neM (by cases p<;>rfl) (by cases p<;>rfl) (equalIn_sl h p n c w)
theorem run_shr_i {P:Program} {k:IntKind} (t:TypeId) (x y:Operand) (a:Nat) (n:Int) (w:World) (h0:0≤n) (hn:n≤k.bits):(binM .shr t x y (.int k (a:Int)) (.int .i64 n)).run P w= .ok (.int k ((a/2^n.toNat:Nat):Int)) w:=by
 have:=shr_nat (P:=P) (k:=k) (j:= .i64) t x y a n.toNat w (by omega)
 rwa [Int.toNat_of_nonneg h0] at this
theorem run_shl_i {P:Program} {k:IntKind} (hu:unsg k=true) (t:TypeId) (x y:Operand) (a:Nat) (n:Int) (w:World) (h0:0≤n) (hn:n≤k.bits):(binM .shl t x y (.int k (a:Int)) (.int .i64 n)).run P w= .ok (.int k ((a*2^n.toNat%2^k.bits:Nat):Int)) w:=by
 have:=shl_nat (P:=P) (k:=k) (j:= .i64) hu t x y a n.toNat w (by omega)
 rwa [Int.toNat_of_nonneg h0] at this
end Go.Sh
namespace Go.Proofs.YtifpinhjpbgnoaaGreatDoor
open Go Go.Sh
theorem el_29_29:ElT prog 29 29 42 2 32 (.agg #[.slice none 0 0,.bool false]):=⟨by kernel_rfl,by kernel_rfl,by kernel_rfl,by kernel_rfl,by decide⟩
theorem el_39_39:ElT prog 39 39 30 1 8 (.int .u64 0):=⟨by kernel_rfl,by kernel_rfl,by kernel_rfl,by kernel_rfl,by decide⟩
theorem el_106_106:ElT prog 106 106 112 4 32 (.agg #[.int .i64 0,.int .i64 0,.int .i64 0,.bool false]):=⟨by kernel_rfl,by kernel_rfl,by kernel_rfl,by kernel_rfl,by decide⟩
theorem el_50_50:ElT prog 50 50 3 1 8 (.int .i64 0):=⟨by kernel_rfl,by kernel_rfl,by kernel_rfl,by kernel_rfl,by decide⟩
theorem el_58_58:ElT prog 58 58 5 1 1 (.int .u8 0):=⟨by kernel_rfl,by kernel_rfl,by kernel_rfl,by kernel_rfl,by decide⟩
theorem el_76_76:ElT prog 76 76 80 2 16 (.agg #[.int .u64 0,.int .u64 0]):=⟨by kernel_rfl,by kernel_rfl,by kernel_rfl,by kernel_rfl,by decide⟩
theorem el_124_124:ElT prog 124 124 160 2 32 (.agg #[.int .u64 0,.slice none 0 0]):=⟨by kernel_rfl,by kernel_rfl,by kernel_rfl,by kernel_rfl,by decide⟩
theorem el_132_132:ElT prog 132 132 176 3 24 (.agg #[.int .u8 0,.int .u64 0,.int .u64 0]):=⟨by kernel_rfl,by kernel_rfl,by kernel_rfl,by kernel_rfl,by decide⟩
theorem inv_25_Err (p:Option Addr) (w:World) (k:K1):invS prog (.iface 25 (.pointer p)) "Err" #[] w k=callS prog 19 #[.pointer p] w k:=inv_of_run (by kernel_rfl) k
theorem inv_25_Size (p:Option Addr) (w:World) (k:K1):invS prog (.iface 25 (.pointer p)) "Size" #[] w k=callS prog 167 #[.pointer p] w k:=inv_of_run (by kernel_rfl) k
theorem inv_25_Load (p:Option Addr) (a0:Value) (w:World) (k:K1):invS prog (.iface 25 (.pointer p)) "Load" #[a0] w k=callS prog 46 #[.pointer p,a0] w k:=inv_of_run (by kernel_rfl) k
theorem inv_25_Store (p:Option Addr) (a0 a1:Value) (w:World) (k:K1):invS prog (.iface 25 (.pointer p)) "Store" #[a0,a1] w k=callS prog 11 #[.pointer p,a0,a1] w k:=inv_of_run (by kernel_rfl) k
theorem inv_25_Flush (p:Option Addr) (a0:Value) (w:World) (k:K1):invS prog (.iface 25 (.pointer p)) "Flush" #[a0] w k=callS prog 54 #[.pointer p,a0] w k:=inv_of_run (by kernel_rfl) k
theorem inv_25_Fence (p:Option Addr) (w:World) (k:K1):invS prog (.iface 25 (.pointer p)) "Fence" #[] w k=callS prog 55 #[.pointer p] w k:=inv_of_run (by kernel_rfl) k
def RQ0:=
 And.intro (@ev_make prog 39 _ _ _ _ el_39_39)<|
 And.intro (@ev_make prog 124 _ _ _ _ el_124_124)<|
 And.intro (@ev_make prog 58 _ _ _ _ el_58_58)<|
 And.intro (@ev_bs0 prog 39 _ _ _ _ el_39_39)<|
 And.intro (fun x y p n c w k=>ev_of_run (@Go.Sh.run_eq_sl_nil prog 39 (by kernel_rfl) x y p n c w) k)<|
 And.intro (fun x y p n c w k=>ev_of_run (@Go.Sh.run_neq_sl_nil prog 39 (by kernel_rfl) x y p n c w) k)<|
 And.intro (fun ty a n c w k=>rd_of_run (@Go.Sh.run_len prog 22 (by kernel_rfl) ty a n c w) k)<|
 And.intro (fun ty a n c w u=>ag_of_run (@Go.Sh.run_len prog 22 (by kernel_rfl) ty a n c w) u)<|
 And.intro (fun ty a n c w k=>rd_of_run (@Go.Sh.run_len prog 48 (by kernel_rfl) ty a n c w) k)<|
 And.intro (fun ty a n c w u=>ag_of_run (@Go.Sh.run_len prog 48 (by kernel_rfl) ty a n c w) u)<|
 And.intro (fun ty a n c w k=>rd_of_run (@Go.Sh.run_len prog 29 (by kernel_rfl) ty a n c w) k)<|
 (fun ty a n c w u=>ag_of_run (@Go.Sh.run_len prog 29 (by kernel_rfl) ty a n c w) u)
def RQ1:=
 And.intro (fun ty a n c w k=>rd_of_run (@Go.Sh.run_len prog 58 (by kernel_rfl) ty a n c w) k)<|
 And.intro (fun ty a n c w u=>ag_of_run (@Go.Sh.run_len prog 58 (by kernel_rfl) ty a n c w) u)<|
 And.intro (fun ty a n c w k=>rd_of_run (@Go.Sh.run_len prog 62 (by kernel_rfl) ty a n c w) k)<|
 And.intro (fun ty a n c w u=>ag_of_run (@Go.Sh.run_len prog 62 (by kernel_rfl) ty a n c w) u)<|
 And.intro (fun ty a n c w k=>rd_of_run (@Go.Sh.run_len prog 76 (by kernel_rfl) ty a n c w) k)<|
 And.intro (fun ty a n c w u=>ag_of_run (@Go.Sh.run_len prog 76 (by kernel_rfl) ty a n c w) u)<|
 And.intro (fun ty a n c w k=>rd_of_run (@Go.Sh.run_len prog 50 (by kernel_rfl) ty a n c w) k)<|
 And.intro (fun ty a n c w u=>ag_of_run (@Go.Sh.run_len prog 50 (by kernel_rfl) ty a n c w) u)<|
 And.intro (fun ty a n c w k=>rd_of_run (@Go.Sh.run_len prog 39 (by kernel_rfl) ty a n c w) k)<|
 And.intro (fun ty a n c w u=>ag_of_run (@Go.Sh.run_len prog 39 (by kernel_rfl) ty a n c w) u)<|
 And.intro (fun ty a n c w k=>rd_of_run (@Go.Sh.run_len prog 106 (by kernel_rfl) ty a n c w) k)<|
 (fun ty a n c w u=>ag_of_run (@Go.Sh.run_len prog 106 (by kernel_rfl) ty a n c w) u)
def RQ2:=
 And.intro (fun ty a n c w k=>rd_of_run (@Go.Sh.run_len prog 132 (by kernel_rfl) ty a n c w) k)<|
 And.intro (fun ty a n c w u=>ag_of_run (@Go.Sh.run_len prog 132 (by kernel_rfl) ty a n c w) u)<|
 And.intro (fun ty a n c w k=>rd_of_run (@Go.Sh.run_len prog 180 (by kernel_rfl) ty a n c w) k)<|
 And.intro (fun ty a n c w u=>ag_of_run (@Go.Sh.run_len prog 180 (by kernel_rfl) ty a n c w) u)<|
 And.intro (fun ty a n c w k=>rd_of_run (@Go.Sh.run_len prog 124 (by kernel_rfl) ty a n c w) k)<|
 And.intro (fun ty a n c w u=>ag_of_run (@Go.Sh.run_len prog 124 (by kernel_rfl) ty a n c w) u)<|
 And.intro (fun ty a n c w k=>rd_of_run (@Go.Sh.run_len prog 195 (by kernel_rfl) ty a n c w) k)<|
 And.intro (fun ty a n c w u=>ag_of_run (@Go.Sh.run_len prog 195 (by kernel_rfl) ty a n c w) u)<|
 And.intro (fun b o len cap kd n w (k:K1) h=>ev_of_run (run_hi el_76_76 b o len cap kd n w h) k)<|
 And.intro (fun b o len cap kd n w (k:K1) h=>ev_of_run (run_lo el_76_76 b o len cap kd n w h) k)<|
 And.intro (fun b o len cap kd n w (k:Value→Prop) h=>rd_of_run (run_hi el_76_76 b o len cap kd n w h) k)<|
 (fun b o len cap kd n w (k:Value→Prop) h=>rd_of_run (run_lo el_76_76 b o len cap kd n w h) k)
def RQ3:=
 And.intro (fun b o len cap kd n w (k:K1) h=>ev_of_run (run_hi el_39_39 b o len cap kd n w h) k)<|
 And.intro (fun b o len cap kd n w (k:K1) h=>ev_of_run (run_lo el_39_39 b o len cap kd n w h) k)<|
 And.intro (fun b o len cap kd n w (k:Value→Prop) h=>rd_of_run (run_hi el_39_39 b o len cap kd n w h) k)<|
 And.intro (fun b o len cap kd n w (k:Value→Prop) h=>rd_of_run (run_lo el_39_39 b o len cap kd n w h) k)<|
 And.intro (fun b o len cap kd n w (k:K1) h=>ev_of_run (run_hi el_132_132 b o len cap kd n w h) k)<|
 And.intro (fun b o len cap kd n w (k:K1) h=>ev_of_run (run_lo el_132_132 b o len cap kd n w h) k)<|
 And.intro (fun b o len cap kd n w (k:Value→Prop) h=>rd_of_run (run_hi el_132_132 b o len cap kd n w h) k)<|
 And.intro (fun b o len cap kd n w (k:Value→Prop) h=>rd_of_run (run_lo el_132_132 b o len cap kd n w h) k)<|
 And.intro (fun t x y (a:Nat) (n:Int) w (k:K1) (h0:0≤n) (hn:n≤8)=>ev_of_run (Go.Sh.run_shr_i (P:=prog) (k:= .u8) t x y a n w h0 hn) k)<|
 And.intro (fun t x y (a:Nat) (n:Int) w (k:K1) (h0:0≤n) (hn:n≤8)=>ev_of_run (show (binM .shl t x y (.int .u8 (a:Int)) (.int .i64 n)).run prog w= .ok (.int .u8 ((a*2^n.toNat%256:Nat):Int)) w from Go.Sh.run_shl_i (k:= .u8) rfl t x y a n w h0 hn) k)<|
 And.intro (fun t x y (a:Nat) (n:Int) w (k:Value→Prop) (h0:0≤n) (hn:n≤8)=>rd_of_run (Go.Sh.run_shr_i (P:=prog) (k:= .u8) t x y a n w h0 hn) k)<|
 (fun t x y (a:Nat) (n:Int) w (k:Value→Prop) (h0:0≤n) (hn:n≤8)=>rd_of_run (show (binM .shl t x y (.int .u8 (a:Int)) (.int .i64 n)).run prog w= .ok (.int .u8 ((a*2^n.toNat%256:Nat):Int)) w from Go.Sh.run_shl_i (k:= .u8) rfl t x y a n w h0 hn) k)
def RQ4:=
 And.intro (fun t x y (a:Nat) (n:Int) w (k:K1) (h0:0≤n) (hn:n≤16)=>ev_of_run (Go.Sh.run_shr_i (P:=prog) (k:= .u16) t x y a n w h0 hn) k)<|
 And.intro (fun t x y (a:Nat) (n:Int) w (k:K1) (h0:0≤n) (hn:n≤16)=>ev_of_run (show (binM .shl t x y (.int .u16 (a:Int)) (.int .i64 n)).run prog w= .ok (.int .u16 ((a*2^n.toNat%65536:Nat):Int)) w from Go.Sh.run_shl_i (k:= .u16) rfl t x y a n w h0 hn) k)<|
 And.intro (fun t x y (a:Nat) (n:Int) w (k:Value→Prop) (h0:0≤n) (hn:n≤16)=>rd_of_run (Go.Sh.run_shr_i (P:=prog) (k:= .u16) t x y a n w h0 hn) k)<|
 And.intro (fun t x y (a:Nat) (n:Int) w (k:Value→Prop) (h0:0≤n) (hn:n≤16)=>rd_of_run (show (binM .shl t x y (.int .u16 (a:Int)) (.int .i64 n)).run prog w= .ok (.int .u16 ((a*2^n.toNat%65536:Nat):Int)) w from Go.Sh.run_shl_i (k:= .u16) rfl t x y a n w h0 hn) k)<|
 And.intro (fun t x y (a:Nat) (n:Int) w (k:K1) (h0:0≤n) (hn:n≤32)=>ev_of_run (Go.Sh.run_shr_i (P:=prog) (k:= .u32) t x y a n w h0 hn) k)<|
 And.intro (fun t x y (a:Nat) (n:Int) w (k:K1) (h0:0≤n) (hn:n≤32)=>ev_of_run (show (binM .shl t x y (.int .u32 (a:Int)) (.int .i64 n)).run prog w= .ok (.int .u32 ((a*2^n.toNat%4294967296:Nat):Int)) w from Go.Sh.run_shl_i (k:= .u32) rfl t x y a n w h0 hn) k)<|
 And.intro (fun t x y (a:Nat) (n:Int) w (k:Value→Prop) (h0:0≤n) (hn:n≤32)=>rd_of_run (Go.Sh.run_shr_i (P:=prog) (k:= .u32) t x y a n w h0 hn) k)<|
 And.intro (fun t x y (a:Nat) (n:Int) w (k:Value→Prop) (h0:0≤n) (hn:n≤32)=>rd_of_run (show (binM .shl t x y (.int .u32 (a:Int)) (.int .i64 n)).run prog w= .ok (.int .u32 ((a*2^n.toNat%4294967296:Nat):Int)) w from Go.Sh.run_shl_i (k:= .u32) rfl t x y a n w h0 hn) k)<|
 And.intro (fun t x y (a:Nat) (n:Int) w (k:K1) (h0:0≤n) (hn:n≤64)=>ev_of_run (Go.Sh.run_shr_i (P:=prog) (k:= .u64) t x y a n w h0 hn) k)<|
 And.intro (fun t x y (a:Nat) (n:Int) w (k:K1) (h0:0≤n) (hn:n≤64)=>ev_of_run (show (binM .shl t x y (.int .u64 (a:Int)) (.int .i64 n)).run prog w= .ok (.int .u64 ((a*2^n.toNat%18446744073709551616:Nat):Int)) w from Go.Sh.run_shl_i (k:= .u64) rfl t x y a n w h0 hn) k)<|
 And.intro (fun t x y (a:Nat) (n:Int) w (k:Value→Prop) (h0:0≤n) (hn:n≤64)=>rd_of_run (Go.Sh.run_shr_i (P:=prog) (k:= .u64) t x y a n w h0 hn) k)<|
 (fun t x y (a:Nat) (n:Int) w (k:Value→Prop) (h0:0≤n) (hn:n≤64)=>rd_of_run (show (binM .shl t x y (.int .u64 (a:Int)) (.int .i64 n)).run prog w= .ok (.int .u64 ((a*2^n.toNat%18446744073709551616:Nat):Int)) w from Go.Sh.run_shl_i (k:= .u64) rfl t x y a n w h0 hn) k)
def RQ5:=
 And.intro (@ev_makeMap prog 97)<|
 And.intro (fun b o kd i w k h0 h1=>rd_of_run (@Go.Sh.run_indexArr prog 125 8 1 (by kernel_rfl) b o kd i w h0 h1) k)<|
 And.intro (fun b o kd i w k h0 h1=>rd_of_run (@Go.Sh.run_indexArr prog 187 5 1 (by kernel_rfl) b o kd i w h0 h1) k)<|
 And.intro (fun b o kd i w k h0 h1=>rd_of_run (@Go.Sh.run_indexArr prog 217 16 1 (by kernel_rfl) b o kd i w h0 h1) k)<|
 And.intro inv_25_Err<|
 And.intro inv_25_Size<|
 And.intro inv_25_Load<|
 And.intro inv_25_Store<|
 And.intro inv_25_Flush<|
 inv_25_Fence
def RA2:=And.intro RQ0<|And.intro RQ1<|And.intro RQ2<|And.intro RQ3<|And.intro RQ4<|RQ5
def ltN (x y:Nat):Bool:=decide (x<y)
theorem ltN_swo:Go.Sort.SWO ltN:=⟨fun x=>by simp [ltN],fun x y z=>by simp [ltN];omega,fun x y z=>by simp [ltN];omega⟩
def Ar (w:World) (b o:Nat) (d:Array Nat):Prop:=∃a:Array Value,w.heap[b]? =some (.cells a 30 (0,0))∧o+d.size≤a.size∧∀i,i<d.size→a[o+i]? =some (.int .u64 ((d[i]! :Nat):Int))
section
variable {w w':World} {b o:Nat} {d:Array Nat}
theorem Ar.lt (h:Ar w b o d):b<w.heap.size:=by obtain ⟨a,h,_⟩:=h;exact lt_of_heap h
theorem Ar.drew (h:Ar w b o d):Ar w.drew b o d:=h
theorem Ar.cell (h:Ar w b o d) (i:Nat) (hi:i<d.size):w.cell? ⟨b,o+i,none⟩=some (.int .u64 ((d[i]! :Nat):Int)):=by
 obtain ⟨a,h,_,h2⟩:=h
 rw [cell_of_blk h];exact h2 i hi
theorem Ar.frz (h:Ar w b o d) (i:Nat):w.frozen? ⟨b,i,none⟩=false:=by
 obtain ⟨a,h,_⟩:=h
 unfold World.frozen?;simp only [h];simp
theorem Ar.set (h:Ar w b o d) (i x:Nat) (hi:i<d.size):Ar (w.setCell ⟨b,o+i,none⟩ (.int .u64 (x:Int))) b o (d.setIfInBounds i x):=by
 obtain ⟨a,h,hs,hf⟩:=h
 refine ⟨a.setIfInBounds (o+i) (.int .u64 (x:Int)),?_,by simpa using hs,?_⟩
 ·simp only [World.setCell,Array.getElem?_modify,h];simp
 ·intro j hj
  rw [Array.size_setIfInBounds] at hj
  rw [Array.getElem?_setIfInBounds]
  by_cases e:i=j
  ·subst e
   have:o+i<a.size:=by omega
   simp [this,hi]
  ·have e':¬o+i=o+j:=by omega
   rw [if_neg e',hf j hj]
   simp [Array.getElem!_eq_getD,Array.getD_eq_getD_getElem?,Array.getElem?_setIfInBounds,e]
theorem Ar.set_ne (h:Ar w b o d) (b' i:Nat) (v:Value) (hb:b'≠b):Ar (w.setCell ⟨b',i,none⟩ v) b o d:=by
 obtain ⟨a,h,h2⟩:=h
 exact ⟨a,by rw [heap_set_ne v (Ne.symm hb)];exact h,h2⟩
theorem Ar.alloc (h:Ar w b o d) (x:Obj):Ar (w.alloc x) b o d:=by
 have hl:=h.lt
 obtain ⟨a,h,h2⟩:=h
 exact ⟨a,by rw [heap_alloc_lt _ hl];exact h,h2⟩
theorem Ar.frm {F:Nat→Prop} (h:Ar w b o d) (e:Frm F w w') (hF:¬F b):Ar w' b o d:=by
 have hl:=h.lt
 obtain ⟨a,h,h2⟩:=h
 exact ⟨a,by rw [e.block b hl hF];exact h,h2⟩
theorem swp_eq (d:Array Nat) (i j:Nat):Go.Sort.swp d i j=(d.setIfInBounds i d[j]!).setIfInBounds j d[i]! :=rfl
theorem swp_size (d:Array Nat) (i j:Nat):(Go.Sort.swp d i j).size=d.size:=by simp [swp_eq]
structure SW (w0 w:World) (b o:Nat) (d:Array Nat):Prop where
 ar:Ar w b o d
 frm:Frm (fun x=>x=b) w0 w
theorem SW.refl (h:Ar w b o d):SW w w b o d:=⟨h,Frm.refl _ _⟩
theorem SW.drew {w0:World} (h:SW w0 w b o d):SW w0 w.drew b o d:=⟨h.ar,h.frm.drew⟩
theorem SW.trans {w0 w1 w2:World} {d1 d2:Array Nat} (h:SW w0 w1 b o d1) (k:SW w1 w2 b o d2):SW w0 w2 b o d2:=⟨k.ar,h.frm.trans k.frm (fun _ _ h=>h)⟩
theorem SW.swp {w0:World} (h:SW w0 w b o d) (i j:Nat) (hi:i<d.size) (hj:j<d.size):SW w0 ((w.setCell ⟨b,o+i,none⟩ (.int .u64 ((d[j]! :Nat):Int))).setCell ⟨b,o+j,none⟩ (.int .u64 ((d[i]! :Nat):Int))) b o (Go.Sort.swp d i j):=by
 refine ⟨?_,(h.frm.set _ (fun _=>rfl)).set _ (fun _=>rfl)⟩
 have:=(h.ar.set i d[j]! hi).set j d[i]! (by simpa using hj)
 rw [swp_eq];exact this
theorem SW.set1 {w0:World} (h:SW w0 w b o d) (i x:Nat) (hi:i<d.size):SW w0 (w.setCell ⟨b,o+i,none⟩ (.int .u64 (x:Int))) b o (d.setIfInBounds i x):=⟨h.ar.set i x hi,h.frm.set _ (fun _=>rfl)⟩
end
theorem c_nan (x:Nat) (w:World) (K:K1):callS prog 149 #[.int .u64 (x:Int)] w K=K (.bool false) w:=by
 refine callS_det (by kernel_rfl) (f149_call _ _ _ ?_) K
 unfold f149_t
 (repeat' (first|(with_reducible first|refine brS_mk (fun _=> ?_) (fun _=> ?_)|refine And.intro ?_ ?_)|(simp (disch:=first|omega|simp only [RO]|(simp only [RZ]<;>omega)|fail) only [↓RBp,↓RA,↓reduceIte,Nat.reduceAdd,Nat.reduceMul,Nat.reduceEqDiff,RB,RX,RA2])))
theorem c_Less (x y:Nat) (w:World) (K:K1):callS prog 137 #[.int .u64 (x:Int),.int .u64 (y:Int)] w K=K (.bool (ltN x y)) w:=by
 refine callS_det (by kernel_rfl) (f137_call _ _ _ _ ?_) K
 unfold f137_t ltN
 (repeat' (first|(with_reducible first|refine brS_mk (fun _=> ?_) (fun _=> ?_)|refine And.intro ?_ ?_)|(simp (disch:=first|omega|simp only [RO]|(simp only [RZ]<;>omega)|fail) only [↓RBp,↓RA,↓reduceIte,Nat.reduceAdd,Nat.reduceMul,Nat.reduceEqDiff,RB,RX,RA2,c_nan])))
theorem insInner_zero (a:Nat) (d:Array Nat):Go.Sort.insInner ltN a 0 d=d:=rfl
theorem insInner_succ (a j:Nat) (d:Array Nat):Go.Sort.insInner ltN a (j+1) d=if (decide (j+1>a)&&ltN d[j+1]! d[j]!)=true then Go.Sort.insInner ltN a j (Go.Sort.swp d (j+1) j) else d:=rfl
theorem insOuter_eq (a b i:Nat) (d:Array Nat):Go.Sort.insOuter ltN a b i d=if i<b then Go.Sort.insOuter ltN a b (i+1) (Go.Sort.insInner ltN a i d) else d:=by rw [Go.Sort.insOuter]
section
variable {w w':World} {q o cap:Nat} {d:Array Nat}
theorem k_ins (h:Ar w q o d) (hd:d.size<1099511627776) (a b:Nat) (hab:a≤b) (hb:b≤d.size) (K:K1) (hK:∀w',SW w w' q o (Go.Sort.insertionSort ltN d a b)→(Go.Sort.insertionSort ltN d a b).size=d.size→K (.tuple #[]) w'):
  callS prog 131 #[.slice (some ⟨q,o,none⟩) d.size cap,.int .i64 (a:Int),.int .i64 (b:Int)] w K:=by
 refine f131_call _ _ _ _ _ ?_
 unfold f131_t
 simp (disch:=first|omega|simp only [RO]|(simp only [RZ]<;>omega)|fail) only [↓RBp,↓RA,↓reduceIte,Nat.reduceAdd,Nat.reduceMul,Nat.reduceEqDiff,RB,RX,RA2]
 apply f131_l1_rule (I:=fun x w'=>∃(i:Nat) (d':Array Nat),x= .int .i64 (i:Int)∧a+1≤i∧i≤b+1∧d'.size=d.size∧SW w w' q o d'∧Go.Sort.insOuter ltN a b i d'=Go.Sort.insertionSort ltN d a b) (μ:=fun x _=>b+1-(intOf x).toNat)
 ·exact ⟨a+1,d,by simp,by omega,by omega,rfl,SW.refl h,rfl⟩
 ·intros;rename_i w1 hI E1 hE
  obtain ⟨i,d1,rfl,hi1,hi2,hs1,sw1,e1⟩:=hI
  unfold f131_l1_t
  rw [insOuter_eq] at e1
  by_cases hib:i<b
  ·rw [if_pos hib] at e1
   simp (disch:=first|omega|simp only [RO]|(simp only [RZ]<;>omega)|fail) only [↓RBp,↓RA,↓reduceIte,Nat.reduceAdd,Nat.reduceMul,Nat.reduceEqDiff,RB,RX,RA2]
   apply f131_l2_rule (I:=fun x w'=>∃(j:Nat) (d':Array Nat),x= .int .i64 (j:Int)∧a≤j∧j≤i∧d'.size=d.size∧SW w w' q o d'∧Go.Sort.insInner ltN a j d'=Go.Sort.insInner ltN a i d1) (μ:=fun x _=>(intOf x).toNat)
   ·exact ⟨i,d1,rfl,by omega,by omega,hs1,sw1,rfl⟩
   ·intros;rename_i w2 hI2 E2 hE2
    obtain ⟨j,d2,rfl,hj1,hj2,hs2,sw2,e2⟩:=hI2
    unfold f131_l2_t
    have ar:=sw2.ar
    cases j with
    |zero=>
     rw [insInner_zero] at e2
     simp (disch:=first|omega|simp only [RO]|(simp only [RZ]<;>omega)|fail) only [↓RBp,↓RA,↓reduceIte,Nat.reduceAdd,Nat.reduceMul,Nat.reduceEqDiff,RB,RX,RA2,f131_k1_eq,f131_k1_t]
     apply hE
     ·exact ⟨i+1,d2,by simp,by omega,by omega,hs2,sw2.drew,by rw [e2,e1]⟩
     ·simp [intOf];omega
    |succ j=>
     rw [insInner_succ] at e2
     have ej:((j+1:Nat):Int)-1=(j:Int):=by omega
     by_cases hja:a<j+1
     ·have c1:=ar.cell (j+1) (by omega)
      have c2:=ar.cell j (by omega)
      by_cases hlt:ltN d2[j+1]! d2[j]! =true
      ·have ar2:=ar.set (j+1) d2[j]! (by omega)
       have c3:=ar2.cell j (by simp;omega)
       have ssw:=sw2.swp (j+1) j (by omega) (by omega)
       (repeat' (first|(with_reducible first|refine brS_mk (fun _=> ?_) (fun _=> ?_)|refine And.intro ?_ ?_)|(simp (disch:=first|omega|simp only [RO]|(simp only [RZ]<;>omega)|fail) only [↓RBp,↓RA,↓reduceIte,Nat.reduceAdd,Nat.reduceMul,Nat.reduceEqDiff,RB,RX,RA2,ej,c1,c2,ar.frz,c_Less,hlt,c3,ar2.frz])))
       apply hE2
       ·exact ⟨j,_,rfl,by omega,by omega,(swp_size _ _ _).trans hs2,ssw.drew.drew,by rw [if_pos (by simp [hlt];omega)] at e2;exact e2⟩
       ·simp [intOf]
      ·have hlt':ltN d2[j+1]! d2[j]! =false:=by simpa using hlt
       (repeat' (first|(with_reducible first|refine brS_mk (fun _=> ?_) (fun _=> ?_)|refine And.intro ?_ ?_)|(simp (disch:=first|omega|simp only [RO]|(simp only [RZ]<;>omega)|fail) only [↓RBp,↓RA,↓reduceIte,Nat.reduceAdd,Nat.reduceMul,Nat.reduceEqDiff,RB,RX,RA2,ej,c1,c2,ar.frz,c_Less,hlt',f131_k1_eq,f131_k1_t])))
       apply hE
       ·exact ⟨i+1,d2,by simp,by omega,by omega,hs2,sw2.drew,by rw [if_neg (by simp [hlt'])] at e2;rw [e2,e1]⟩
       ·simp [intOf];omega
     ·simp (disch:=first|omega|simp only [RO]|(simp only [RZ]<;>omega)|fail) only [↓RBp,↓RA,↓reduceIte,Nat.reduceAdd,Nat.reduceMul,Nat.reduceEqDiff,RB,RX,RA2,f131_k1_eq,f131_k1_t]
      apply hE
      ·exact ⟨i+1,d2,by simp,by omega,by omega,hs2,sw2.drew,by rw [if_neg (by simp;omega)] at e2;rw [e2,e1]⟩
      ·simp [intOf];omega
  ·rw [if_neg hib] at e1
   simp (disch:=first|omega|simp only [RO]|(simp only [RZ]<;>omega)|fail) only [↓RBp,↓RA,↓reduceIte,Nat.reduceAdd,Nat.reduceMul,Nat.reduceEqDiff,RB,RX,RA2]
   rw [←e1] at hK
   exact hK _ sw1 hs1
end
section
variable {w w':World} {q o cap:Nat} {d:Array Nat}
def Sp (w:World) (s k:Nat):Prop:=Cells w s 3 1 (fun _=> .int .i64 (k:Int))
theorem Sp.cell {s k:Nat} (h:Sp w s k):w.cell? ⟨s,0,none⟩=some (.int .i64 (k:Int)):=Cells.cell h (by omega)
theorem Sp.frz {s k:Nat} (h:Sp w s k):w.frozen? ⟨s,0,none⟩=false:=Cells.frz h 0
structure CW (w0 w:World) (q o s:Nat) (d:Array Nat) (k:Nat):Prop where
 ar:Ar w q o d
 sp:Sp w s k
 frm:Frm (fun x=>x=s) w0 w
theorem ne_sq {s k:Nat} (h:Ar w q o d) (hs:Sp w s k):s≠q:=by
 intro e;subst e
 obtain ⟨a,h,_⟩:=h
 obtain ⟨a',h',_⟩:=hs
 rw [h] at h';injection h' with h';injection h' with _ h';exact absurd h' (by decide)
theorem k_order2 {s k:Nat} (h:Ar w q o d) (hs:Sp w s k) (hd:d.size<1099511627776) (hk:k<1099511627776) (a b:Nat) (ha:a<d.size) (hb:b<d.size) (K:K1)
  (hK:∀w',CW w w' q o s d (Go.Sort.order2 ltN d a b k).2.2→K (.tuple #[.int .i64 (((Go.Sort.order2 ltN d a b k).1:Nat):Int),.int .i64 (((Go.Sort.order2 ltN d a b k).2.1:Nat):Int)]) w'):
  callS prog 150 #[.slice (some ⟨q,o,none⟩) d.size cap,.int .i64 (a:Int),.int .i64 (b:Int),.pointer (some ⟨s,0,none⟩)] w K:=by
 refine f150_call _ _ _ _ _ _ ?_
 unfold f150_t
 have c1:=h.cell a ha
 have c2:=h.cell b hb
 have ns:=ne_sq h hs
 unfold Go.Sort.order2 at hK
 by_cases hl:ltN d[b]! d[a]! =true
 ·rw [if_pos hl] at hK
  (repeat' (first|(with_reducible first|refine brS_mk (fun _=> ?_) (fun _=> ?_)|refine And.intro ?_ ?_)|(simp (disch:=first|omega|simp only [RO]|(simp only [RZ]<;>omega)|fail) only [↓RBp,↓RA,↓reduceIte,Nat.reduceAdd,Nat.reduceMul,Nat.reduceEqDiff,RB,RX,RA2,c1,c2,c_Less,hl,hs.cell,hs.frz])))
  have hs2:Sp (w.setCell ⟨s,0,none⟩ (.int .i64 ((k:Int)+1))) s (k+1):=by
   refine (Cells.set hs (i:=0) (.int .i64 ((k:Int)+1)) (by omega)).congr ?_
   intro i hi
   have e:i=0:=by omega
   rw [if_pos e];simp
  exact hK _ ⟨(h.set_ne s 0 _ ns).drew,hs2,((Frm.refl (fun x=>x=s) w).set _ (fun _=>rfl)).drew⟩
 ·rw [if_neg hl] at hK
  have hl':ltN d[b]! d[a]! =false:=by simpa using hl
  (repeat' (first|(with_reducible first|refine brS_mk (fun _=> ?_) (fun _=> ?_)|refine And.intro ?_ ?_)|(simp (disch:=first|omega|simp only [RO]|(simp only [RZ]<;>omega)|fail) only [↓RBp,↓RA,↓reduceIte,Nat.reduceAdd,Nat.reduceMul,Nat.reduceEqDiff,RB,RX,RA2,c1,c2,c_Less,hl'])))
  exact hK _ ⟨h.drew,hs,(Frm.refl _ w).drew⟩
theorem CW.trans {w0 w1 w2:World} {s k k':Nat} (h:CW w0 w1 q o s d k) (h':CW w1 w2 q o s d k'):CW w0 w2 q o s d k':=⟨h'.ar,h'.sp,h.frm.trans h'.frm (fun _ _ h=>h)⟩
theorem o2_lt (a b k n:Nat) (ha:a<n) (hb:b<n):(Go.Sort.order2 ltN d a b k).1<n∧(Go.Sort.order2 ltN d a b k).2.1<n∧(Go.Sort.order2 ltN d a b k).2.2≤k+1:=by
 unfold Go.Sort.order2;split<;>simp<;>omega
theorem k_median {s k:Nat} (h:Ar w q o d) (hs:Sp w s k) (hd:d.size<1099511627776) (hk:k<1099511627770) (a b c:Nat) (ha:a<d.size) (hb:b<d.size) (hc:c<d.size) (K:K1)
  (hK:∀w',CW w w' q o s d (Go.Sort.median ltN d a b c k).2→K (.int .i64 (((Go.Sort.median ltN d a b c k).1:Nat):Int)) w'):
  callS prog 148 #[.slice (some ⟨q,o,none⟩) d.size cap,.int .i64 (a:Int),.int .i64 (b:Int),.int .i64 (c:Int),.pointer (some ⟨s,0,none⟩)] w K:=by
 refine f148_call _ _ _ _ _ _ _ ?_
 unfold f148_t
 have l1:=o2_lt (d:=d) a b k _ ha hb
 have l2:=o2_lt (d:=d) (Go.Sort.order2 ltN d a b k).2.1 c (Go.Sort.order2 ltN d a b k).2.2 _ l1.2.1 hc
 have l3:=o2_lt (d:=d) (Go.Sort.order2 ltN d a b k).1 (Go.Sort.order2 ltN d (Go.Sort.order2 ltN d a b k).2.1 c (Go.Sort.order2 ltN d a b k).2.2).1 (Go.Sort.order2 ltN d (Go.Sort.order2 ltN d a b k).2.1 c (Go.Sort.order2 ltN d a b k).2.2).2.2 _ l1.1 l2.1
 simp (disch:=first|omega|simp only [RO]|(simp only [RZ]<;>omega)|fail) only [↓RBp,↓RA,↓reduceIte,Nat.reduceAdd,Nat.reduceMul,Nat.reduceEqDiff,RB,RX,RA2]
 refine k_order2 h hs hd (by omega) a b ha hb _ (fun w1 h1=> ?_)
 simp (disch:=first|omega|simp only [RO]|(simp only [RZ]<;>omega)|fail) only [↓RBp,↓RA,↓reduceIte,Nat.reduceAdd,Nat.reduceMul,Nat.reduceEqDiff,RB,RX,RA2]
 refine k_order2 h1.ar h1.sp hd (by omega) _ c l1.2.1 hc _ (fun w2 h2=> ?_)
 simp (disch:=first|omega|simp only [RO]|(simp only [RZ]<;>omega)|fail) only [↓RBp,↓RA,↓reduceIte,Nat.reduceAdd,Nat.reduceMul,Nat.reduceEqDiff,RB,RX,RA2]
 refine k_order2 h2.ar h2.sp hd (by omega) _ _ l1.1 l2.1 _ (fun w3 h3=> ?_)
 simp (disch:=first|omega|simp only [RO]|(simp only [RZ]<;>omega)|fail) only [↓RBp,↓RA,↓reduceIte,Nat.reduceAdd,Nat.reduceMul,Nat.reduceEqDiff,RB,RX,RA2]
 exact hK _ ((h1.trans h2).trans h3)
theorem k_medadj {s k:Nat} (h:Ar w q o d) (hs:Sp w s k) (hd:d.size<1099511627776) (hk:k<1099511627770) (a:Nat) (h0:0<a) (ha:a+1<d.size) (K:K1)
  (hK:∀w',CW w w' q o s d (Go.Sort.medianAdjacent ltN d a k).2→K (.int .i64 (((Go.Sort.medianAdjacent ltN d a k).1:Nat):Int)) w'):
  callS prog 147 #[.slice (some ⟨q,o,none⟩) d.size cap,.int .i64 (a:Int),.pointer (some ⟨s,0,none⟩)] w K:=by
 refine f147_call _ _ _ _ _ ?_
 unfold f147_t
 have e1:(a:Int)-1=((a-1:Nat):Int):=by omega
 have e2:(a:Int)+1=((a+1:Nat):Int):=by omega
 simp (disch:=first|omega|simp only [RO]|(simp only [RZ]<;>omega)|fail) only [↓RBp,↓RA,↓reduceIte,Nat.reduceAdd,Nat.reduceMul,Nat.reduceEqDiff,RB,RX,RA2,e1,e2]
 refine k_median h hs hd hk (a-1) a (a+1) (by omega) (by omega) ha _ (fun w1 h1=> ?_)
 exact hK _ h1
def hintN:Go.Sort.Hint→Int
 | .unknown=>0
 | .increasing=>1
 | .decreasing=>2
theorem k_reverse (h:Ar w q o d) (hd:d.size<1099511627776) (a b:Nat) (hab:a<b) (hb:b≤d.size) (K:K1) (hK:∀w',SW w w' q o (Go.Sort.reverseRange d a b)→(Go.Sort.reverseRange d a b).size=d.size→K (.tuple #[]) w'):
  callS prog 135 #[.slice (some ⟨q,o,none⟩) d.size cap,.int .i64 (a:Int),.int .i64 (b:Int)] w K:=by
 refine f135_call _ _ _ _ _ ?_
 unfold f135_t
 have e1:(b:Int)-1=((b-1:Nat):Int):=by omega
 simp (disch:=first|omega|simp only [RO]|(simp only [RZ]<;>omega)|fail) only [↓RBp,↓RA,↓reduceIte,Nat.reduceAdd,Nat.reduceMul,Nat.reduceEqDiff,RB,RX,RA2,e1]
 apply f135_l1_rule (I:=fun x y w'=>∃(i j:Nat) (d':Array Nat),x= .int .i64 (i:Int)∧y= .int .i64 (j:Int)∧j<d.size∧d'.size=d.size∧SW w w' q o d'∧Go.Sort.reverseLoop i j d'=Go.Sort.reverseRange d a b) (μ:=fun x y _=>(intOf y).toNat-(intOf x).toNat)
 ·exact ⟨a,b-1,d,rfl,rfl,by omega,rfl,SW.refl h,rfl⟩
 ·intros;rename_i w1 hI E1 hE
  obtain ⟨i,j,d1,rfl,rfl,hj,hs,sw,e⟩:=hI
  unfold f135_l1_t
  rw [Go.Sort.reverseLoop] at e
  by_cases hij:i<j
  ·rw [if_pos hij] at e
   have ar:=sw.ar
   have c1:=ar.cell i (by omega)
   have c2:=ar.cell j (by omega)
   have ar2:=ar.set i d1[j]! (by omega)
   have c3:=ar2.cell j (by simp;omega)
   have ssw:=sw.swp i j (by omega) (by omega)
   have e2:(j:Int)-1=((j-1:Nat):Int):=by omega
   have e3:(i:Int)+1=((i+1:Nat):Int):=by omega
   (repeat' (first|(with_reducible first|refine brS_mk (fun _=> ?_) (fun _=> ?_)|refine And.intro ?_ ?_)|(simp (disch:=first|omega|simp only [RO]|(simp only [RZ]<;>omega)|fail) only [↓RBp,↓RA,↓reduceIte,Nat.reduceAdd,Nat.reduceMul,Nat.reduceEqDiff,RB,RX,RA2,c1,c2,c3,ar.frz,ar2.frz,e2,e3])))
   apply hE
   ·exact ⟨i+1,j-1,_,rfl,rfl,by omega,(swp_size _ _ _).trans hs,ssw.drew,e⟩
   ·simp [intOf];omega
  ·rw [if_neg hij] at e
   simp (disch:=first|omega|simp only [RO]|(simp only [RZ]<;>omega)|fail) only [↓RBp,↓RA,↓reduceIte,Nat.reduceAdd,Nat.reduceMul,Nat.reduceEqDiff,RB,RX,RA2]
   rw [←e] at hK
   exact hK _ sw hs
theorem med_k (d:Array Nat) (a b c k:Nat):(Go.Sort.median ltN d a b c k).2≤k+3:=Go.Sort.median_count ltN d a b c k
def pkH (r:Nat×Nat):Nat×Go.Sort.Hint:=(r.1,if r.2=0 then .increasing else if r.2=12 then .decreasing else .unknown)
theorem k_choose (h:Ar w q o d) (hd:d.size<1099511627776) (a b:Nat) (hab:a+12<b) (hb:b≤d.size) (K:K1)
  (hK:∀w',Ext w w'→K (.tuple #[.int .i64 (((Go.Sort.choosePivot ltN d a b).1:Nat):Int),.int .i64 (hintN (Go.Sort.choosePivot ltN d a b).2)]) w'):
  callS prog 134 #[.slice (some ⟨q,o,none⟩) d.size cap,.int .i64 (a:Int),.int .i64 (b:Int)] w K:=by
 have e0:(b:Int)-(a:Int)=((b-a:Nat):Int):=by omega
 have e1:(a:Int)+((b-a:Nat):Int)/4*1=((a+(b-a)/4*1:Nat):Int):=by omega
 have e2:(a:Int)+((b-a:Nat):Int)/4*2=((a+(b-a)/4*2:Nat):Int):=by omega
 have e3:(a:Int)+((b-a:Nat):Int)/4*3=((a+(b-a)/4*3:Nat):Int):=by omega
 have hsp:Sp (w.alloc (.cells #[.int .i64 0] 3)) w.heap.size 0:=(Cells.new w [.int .i64 0] 3).congr (fun i hi=>by have e:i=0:=(by simpa using hi);subst e;rfl)
 have h':=h.alloc (.cells #[.int .i64 0] 3)
 have fin:∀w1 p k,CW (w.alloc (.cells #[.int .i64 0] 3)) w1 q o w.heap.size d k→k<1099511627776→p=(Go.Sort.choosePivot ltN d a b).1→hintN (if k=0 then Go.Sort.Hint.increasing else if k=12 then Go.Sort.Hint.decreasing else Go.Sort.Hint.unknown)=hintN (Go.Sort.choosePivot ltN d a b).2→
   f134_k1_t (.pointer (some ⟨w.heap.size,0,none⟩)) (.int .i64 (p:Int)) K w1:=by
  intro w1 p k hc hk hp hh
  unfold f134_k1_t
  rw [←hh,←hp] at hK
  have he:Ext w w1:=Frm.to_ext (F:=fun x=>x=w.heap.size) ((Frm.of_ext (Ext.alloc_self w _)).trans hc.frm (fun _ _ h=>h)) (fun x hx=>by omega)
  by_cases hk0:k=0
  ·subst hk0
   simp (disch:=first|omega|simp only [RO]|(simp only [RZ]<;>omega)|fail) only [↓RBp,↓RA,↓reduceIte,Nat.reduceAdd,Nat.reduceMul,Nat.reduceEqDiff,RB,RX,RA2,hc.sp.cell]
   exact hK _ he
  ·rw [if_neg hk0] at hK
   by_cases hk2:k=12
   ·subst hk2
    simp (disch:=first|omega|simp only [RO]|(simp only [RZ]<;>omega)|fail) only [↓RBp,↓RA,↓reduceIte,Nat.reduceAdd,Nat.reduceMul,Nat.reduceEqDiff,RB,RX,RA2,hc.sp.cell]
    exact hK _ he
   ·rw [if_neg hk2] at hK
    simp (disch:=first|omega|simp only [RO]|(simp only [RZ]<;>omega)|fail) only [↓RBp,↓RA,↓reduceIte,Nat.reduceAdd,Nat.reduceMul,Nat.reduceEqDiff,RB,RX,RA2,hc.sp.cell]
    exact hK _ he
 have hcp:Go.Sort.choosePivot ltN d a b=pkH (if b-a≥50 then Go.Sort.median ltN d (Go.Sort.medianAdjacent ltN d (a+(b-a)/4*1) 0).1 (Go.Sort.medianAdjacent ltN d (a+(b-a)/4*2) (Go.Sort.medianAdjacent ltN d (a+(b-a)/4*1) 0).2).1 (Go.Sort.medianAdjacent ltN d (a+(b-a)/4*3) (Go.Sort.medianAdjacent ltN d (a+(b-a)/4*2) (Go.Sort.medianAdjacent ltN d (a+(b-a)/4*1) 0).2).2).1 (Go.Sort.medianAdjacent ltN d (a+(b-a)/4*3) (Go.Sort.medianAdjacent ltN d (a+(b-a)/4*2) (Go.Sort.medianAdjacent ltN d (a+(b-a)/4*1) 0).2).2).2
   else Go.Sort.median ltN d (a+(b-a)/4*1) (a+(b-a)/4*2) (a+(b-a)/4*3) 0):=by
  unfold Go.Sort.choosePivot pkH;simp only [if_pos (show b-a≥8 by omega)]
 have bi1:0<a+(b-a)/4*1∧a+(b-a)/4*1+1<d.size:=by omega
 have bi2:0<a+(b-a)/4*2∧a+(b-a)/4*2+1<d.size:=by omega
 have bi3:0<a+(b-a)/4*3∧a+(b-a)/4*3+1<d.size:=by omega
 generalize a+(b-a)/4*1=i1 at*
 generalize a+(b-a)/4*2=i2 at*
 generalize a+(b-a)/4*3=i3 at*
 by_cases h50:b-a≥50
 ·rw [if_pos h50] at hcp
  have m1:=Go.Sort.medianAdjacent_count ltN d i1 0
  have a1:=Go.Sort.medianAdjacent_mem ltN d i1 0
  have kk1:=fun K hK=>k_medadj (cap:=cap) (K:=K) h' hsp hd (by omega) i1 bi1.1 bi1.2 hK
  generalize Go.Sort.medianAdjacent ltN d i1 0=r1 at*
  have m2:=Go.Sort.medianAdjacent_count ltN d i2 r1.2
  have a2:=Go.Sort.medianAdjacent_mem ltN d i2 r1.2
  have kk2:=fun w1 (h1:CW (w.alloc (.cells #[.int .i64 0] 3)) w1 q o w.heap.size d r1.2) K hK=>k_medadj (cap:=cap) (K:=K) h1.ar h1.sp hd (by omega) i2 bi2.1 bi2.2 hK
  generalize Go.Sort.medianAdjacent ltN d i2 r1.2=r2 at*
  have m3:=Go.Sort.medianAdjacent_count ltN d i3 r2.2
  have a3:=Go.Sort.medianAdjacent_mem ltN d i3 r2.2
  have kk3:=fun w1 (h1:CW (w.alloc (.cells #[.int .i64 0] 3)) w1 q o w.heap.size d r2.2) K hK=>k_medadj (cap:=cap) (K:=K) h1.ar h1.sp hd (by omega) i3 bi3.1 bi3.2 hK
  generalize Go.Sort.medianAdjacent ltN d i3 r2.2=r3 at*
  have m4:=med_k d r1.1 r2.1 r3.1 r3.2
  have kk4:=fun w1 (h1:CW (w.alloc (.cells #[.int .i64 0] 3)) w1 q o w.heap.size d r3.2) K hK=>k_median (cap:=cap) (K:=K) h1.ar h1.sp hd (by omega) r1.1 r2.1 r3.1 (by omega) (by omega) (by omega) hK
  generalize Go.Sort.median ltN d r1.1 r2.1 r3.1 r3.2=r4 at*
  refine f134_call _ _ _ _ _ ?_
  unfold f134_t
  simp (disch:=first|omega|simp only [RO]|(simp only [RZ]<;>omega)|fail) only [↓RBp,↓RA,↓reduceIte,Nat.reduceAdd,Nat.reduceMul,Nat.reduceEqDiff,RB,RX,RA2,e0,e1,e2,e3]
  refine kk1 _ (fun w1 h1=> ?_)
  simp (disch:=first|omega|simp only [RO]|(simp only [RZ]<;>omega)|fail) only [↓RBp,↓RA,↓reduceIte,Nat.reduceAdd,Nat.reduceMul,Nat.reduceEqDiff,RB,RX,RA2,e0,e1,e2,e3]
  refine kk2 _ h1 _ (fun w2 h2=> ?_)
  simp (disch:=first|omega|simp only [RO]|(simp only [RZ]<;>omega)|fail) only [↓RBp,↓RA,↓reduceIte,Nat.reduceAdd,Nat.reduceMul,Nat.reduceEqDiff,RB,RX,RA2,e0,e1,e2,e3]
  refine kk3 _ (h1.trans h2) _ (fun w3 h3=> ?_)
  simp (disch:=first|omega|simp only [RO]|(simp only [RZ]<;>omega)|fail) only [↓RBp,↓RA,↓reduceIte,Nat.reduceAdd,Nat.reduceMul,Nat.reduceEqDiff,RB,RX,RA2,e0,e1,e2,e3,f134_k2_eq,f134_k2_t]
  refine kk4 _ ((h1.trans h2).trans h3) _ (fun w4 h4=> ?_)
  simp (disch:=first|omega|simp only [RO]|(simp only [RZ]<;>omega)|fail) only [↓RBp,↓RA,↓reduceIte,Nat.reduceAdd,Nat.reduceMul,Nat.reduceEqDiff,RB,RX,RA2,f134_k1_eq]
  exact fin _ _ _ (((h1.trans h2).trans h3).trans h4) (by omega) (by rw [hcp];rfl) (by rw [hcp];rfl)
 ·rw [if_neg h50] at hcp
  have m4:=med_k d i1 i2 i3 0
  have kk4:=fun K hK=>k_median (cap:=cap) (K:=K) h' hsp hd (by omega) i1 i2 i3 (by omega) (by omega) (by omega) hK
  generalize Go.Sort.median ltN d i1 i2 i3 0=r4 at*
  refine f134_call _ _ _ _ _ ?_
  unfold f134_t
  simp (disch:=first|omega|simp only [RO]|(simp only [RZ]<;>omega)|fail) only [↓RBp,↓RA,↓reduceIte,Nat.reduceAdd,Nat.reduceMul,Nat.reduceEqDiff,RB,RX,RA2,e0,e1,e2,e3,f134_k2_eq,f134_k2_t]
  refine kk4 _ (fun w4 h4=> ?_)
  simp (disch:=first|omega|simp only [RO]|(simp only [RZ]<;>omega)|fail) only [↓RBp,↓RA,↓reduceIte,Nat.reduceAdd,Nat.reduceMul,Nat.reduceEqDiff,RB,RX,RA2,f134_k1_eq]
  exact fin _ _ _ h4 (by omega) (by rw [hcp];rfl) (by rw [hcp];rfl)
end
theorem bitsLen_div (n k:Nat) (h:2^k≤n):Go.Sort.bitsLen n=k+Go.Sort.bitsLen (n/2^k):=by
 apply Nat.le_antisymm
 ·rw [Go.Sort.bitsLen_le_iff,Nat.pow_add]
  have:=Go.Sort.lt_two_pow_bitsLen (n/2^k)
  have h3:=(Nat.div_lt_iff_lt_mul (Nat.two_pow_pos k)).1 this
  rw [Nat.mul_comm];exact h3
 ·have h1:=Go.Sort.lt_two_pow_bitsLen n
  have hk:k≤Go.Sort.bitsLen n:=by
   rcases Nat.lt_or_ge (Go.Sort.bitsLen n) k with h2|h2
   ·have:=Nat.pow_le_pow_right (show 0<2 by omega) (Nat.le_of_lt h2)
    omega
   ·exact h2
  have h2:Go.Sort.bitsLen (n/2^k)≤Go.Sort.bitsLen n-k:=by
   rw [Go.Sort.bitsLen_le_iff,Nat.div_lt_iff_lt_mul (Nat.two_pow_pos k),←Nat.pow_add]
   rw [Nat.sub_add_cancel hk];exact h1
  omega
def strT (P:Program) (t:TypeId):Bool:=
 match P.underlying t with
 |some .string=>true
 |_=>false
theorem ev_strIdx {P:Program} {t:TypeId} (ht:strT P t=true) (s:ByteArray) (k:IntKind) (i:Nat) (b:UInt8) (w:World) (kk:K1) (h:s[i]? =some b):ev P (Instr.index t (.string s) (.int k (i:Int))) w kk=kk (.int .u8 ((b.toNat:Nat):Int)) w:=by
 unfold strT at ht
 split at ht
 ·rename_i hu
  refine ev_of_run ?_ kk
  simp [Instr.index,asIntOf,run_underlying_some hu,h]
 ·cases ht
def tab8:ByteArray:={data:= #[0,1,2,2,3,3,3,3,4,4,4,4,4,4,4,4,5,5,5,5,5,5,5,5,5,5,5,5,5,5,5,5,6,6,6,6,6,6,6,6,6,6,6,6,6,6,6,6,6,6,6,6,6,6,6,6,6,6,6,6,6,6,6,6,7,7,7,7,7,7,7,7,7,7,7,7,7,7,7,7,7,7,7,7,7,7,7,7,7,7,7,7,7,7,7,7,7,7,7,7,7,7,7,7,7,7,7,7,7,7,7,7,7,7,7,7,7,7,7,7,7,7,7,7,7,7,7,7,8,8,8,8,8,8,8,8,8,8,8,8,8,8,8,8,8,8,8,8,8,8,8,8,8,8,8,8,8,8,8,8,8,8,8,8,8,8,8,8,8,8,8,8,8,8,8,8,8,8,8,8,8,8,8,8,8,8,8,8,8,8,8,8,8,8,8,8,8,8,8,8,8,8,8,8,8,8,8,8,8,8,8,8,8,8,8,8,8,8,8,8,8,8,8,8,8,8,8,8,8,8,8,8,8,8,8,8,8,8,8,8,8,8,8,8,8,8,8,8,8,8,8,8,8,8,8,8]}
theorem tab8_get:∀i:Nat,i<256→tab8[i]? =some (UInt8.ofNat (Go.Sort.bitsLen i)):=by decide+kernel
theorem bitsLen_8 {i:Nat} (h:i<256):(UInt8.ofNat (Go.Sort.bitsLen i)).toNat=Go.Sort.bitsLen i:=by
 have:Go.Sort.bitsLen i≤8:=(Go.Sort.bitsLen_le_iff i 8).2 h
 rw [UInt8.toNat_ofNat'];omega
theorem strT_s:strT prog 9=true:=by kernel_rfl
theorem c_Len64 (n:Nat) (hn:n<18446744073709551616) (w:World) (K:K1):callS prog 141 #[.int .u64 (n:Int)] w K=K (.int .i64 ((Go.Sort.bitsLen n:Nat):Int)) w:=by
 refine callS_det (by kernel_rfl) (f141_call _ _ _ ?_) K
 unfold f141_t
 have fin:∀(m:Nat) (k:Int),m<256→0≤k→k<100→((Go.Sort.bitsLen n:Nat):Int)=k+((Go.Sort.bitsLen m:Nat):Int)→f141_k3_t (.int .u64 (m:Int)) (.int .i64 k) (fun v w'=>v= .int .i64 ((Go.Sort.bitsLen n:Nat):Int)∧w'=w) w:=by
  intro m k hm hk0 hk e
  unfold f141_k3_t
  have hb:=(Go.Sort.bitsLen_le_iff m 8).2 hm
  have e2:=bitsLen_8 hm
  have em:m%256=m:=by omega
  have r1:=fun k w kk=>ev_strIdx strT_s tab8 k m _ w kk (tab8_get m hm)
  simp (disch:=first|omega|simp only [RO]|(simp only [RZ]<;>omega)|fail) only [↓RBp,↓RA,↓reduceIte,Nat.reduceAdd,Nat.reduceMul,Nat.reduceEqDiff,RB,RX,RA2,em]
  refine (r1 .u8 w _).symm▸ ?_
  simp (disch:=first|omega|simp only [RO]|(simp only [RZ]<;>omega)|fail) only [↓RBp,↓RA,↓reduceIte,Nat.reduceAdd,Nat.reduceMul,Nat.reduceEqDiff,RB,RX,RA2,e2,e]
 have b0:∀m k:Nat,2^k≤m→((Go.Sort.bitsLen m:Nat):Int)=(k:Int)+((Go.Sort.bitsLen (m/2^k):Nat):Int):=fun m k h=>by rw [bitsLen_div m k h];omega
 by_cases h1:4294967296≤n
 ·have q1:=b0 n 32 h1
  by_cases h2:65536≤n/2^32
  ·have q2:=b0 (n/2^32) 16 h2
   by_cases h3:256≤n/2^32/2^16
   ·have q3:=b0 (n/2^32/2^16) 8 h3
    simp (disch:=first|omega|simp only [RO]|(simp only [RZ]<;>omega)|fail) only [↓RBp,↓RA,↓reduceIte,Nat.reduceAdd,Nat.reduceMul,Nat.reduceEqDiff,RB,RX,RA2,f141_k1_eq,f141_k1_t,f141_k2_eq,f141_k2_t,f141_k3_eq]
    exact fin _ _ (by omega) (by omega) (by omega) (by omega)
   ·simp (disch:=first|omega|simp only [RO]|(simp only [RZ]<;>omega)|fail) only [↓RBp,↓RA,↓reduceIte,Nat.reduceAdd,Nat.reduceMul,Nat.reduceEqDiff,RB,RX,RA2,f141_k1_eq,f141_k1_t,f141_k2_eq,f141_k2_t,f141_k3_eq]
    exact fin _ _ (by omega) (by omega) (by omega) (by omega)
  ·by_cases h3:256≤n/2^32
   ·have q3:=b0 (n/2^32) 8 h3
    simp (disch:=first|omega|simp only [RO]|(simp only [RZ]<;>omega)|fail) only [↓RBp,↓RA,↓reduceIte,Nat.reduceAdd,Nat.reduceMul,Nat.reduceEqDiff,RB,RX,RA2,f141_k1_eq,f141_k1_t,f141_k2_eq,f141_k2_t,f141_k3_eq]
    exact fin _ _ (by omega) (by omega) (by omega) (by omega)
   ·simp (disch:=first|omega|simp only [RO]|(simp only [RZ]<;>omega)|fail) only [↓RBp,↓RA,↓reduceIte,Nat.reduceAdd,Nat.reduceMul,Nat.reduceEqDiff,RB,RX,RA2,f141_k1_eq,f141_k1_t,f141_k2_eq,f141_k2_t,f141_k3_eq]
    exact fin _ _ (by omega) (by omega) (by omega) (by omega)
 ·by_cases h2:65536≤n
  ·have q2:=b0 n 16 h2
   by_cases h3:256≤n/2^16
   ·have q3:=b0 (n/2^16) 8 h3
    simp (disch:=first|omega|simp only [RO]|(simp only [RZ]<;>omega)|fail) only [↓RBp,↓RA,↓reduceIte,Nat.reduceAdd,Nat.reduceMul,Nat.reduceEqDiff,RB,RX,RA2,f141_k1_eq,f141_k1_t,f141_k2_eq,f141_k2_t,f141_k3_eq]
    exact fin _ _ (by omega) (by omega) (by omega) (by omega)
   ·simp (disch:=first|omega|simp only [RO]|(simp only [RZ]<;>omega)|fail) only [↓RBp,↓RA,↓reduceIte,Nat.reduceAdd,Nat.reduceMul,Nat.reduceEqDiff,RB,RX,RA2,f141_k1_eq,f141_k1_t,f141_k2_eq,f141_k2_t,f141_k3_eq]
    exact fin _ _ (by omega) (by omega) (by omega) (by omega)
  ·by_cases h3:256≤n
   ·have q3:=b0 n 8 h3
    simp (disch:=first|omega|simp only [RO]|(simp only [RZ]<;>omega)|fail) only [↓RBp,↓RA,↓reduceIte,Nat.reduceAdd,Nat.reduceMul,Nat.reduceEqDiff,RB,RX,RA2,f141_k1_eq,f141_k1_t,f141_k2_eq,f141_k2_t,f141_k3_eq]
    exact fin _ _ (by omega) (by omega) (by omega) (by omega)
   ·simp (disch:=first|omega|simp only [RO]|(simp only [RZ]<;>omega)|fail) only [↓RBp,↓RA,↓reduceIte,Nat.reduceAdd,Nat.reduceMul,Nat.reduceEqDiff,RB,RX,RA2,f141_k1_eq,f141_k1_t,f141_k2_eq,f141_k2_t,f141_k3_eq]
    exact fin _ _ (by omega) (by omega) (by omega) (by omega)
theorem c_Len (n:Nat) (hn:n<18446744073709551616) (w:World) (K:K1):callS prog 126 #[.int .u64 (n:Int)] w K=K (.int .i64 ((Go.Sort.bitsLen n:Nat):Int)) w:=by
 refine callS_det (by kernel_rfl) (f126_call _ _ _ ?_) K
 unfold f126_t
 simp (disch:=first|omega|simp only [RO]|(simp only [RZ]<;>omega)|fail) only [↓RBp,↓RA,↓reduceIte,Nat.reduceAdd,Nat.reduceMul,Nat.reduceEqDiff,RB,RX,RA2,c_Len64]
theorem c_npow (n:Nat) (hn:n<1099511627776) (w:World) (K:K1):callS prog 145 #[.int .i64 (n:Int)] w K=K (.int .u64 ((2^Go.Sort.bitsLen n:Nat):Int)) w:=by
 refine callS_det (by kernel_rfl) (f145_call _ _ _ ?_) K
 unfold f145_t
 have hb:Go.Sort.bitsLen n≤40:=(Go.Sort.bitsLen_le_iff n 40).2 (by omega)
 have e:1*2^Go.Sort.bitsLen n%18446744073709551616=2^Go.Sort.bitsLen n:=by
  rw [Nat.one_mul]
  exact Nat.mod_eq_of_lt (Nat.lt_of_le_of_lt (Nat.pow_le_pow_right (by omega) hb) (by decide))
 simp (disch:=first|omega|simp only [RO]|(simp only [RZ]<;>omega)|fail) only [↓RBp,↓RA,↓reduceIte,Nat.reduceAdd,Nat.reduceMul,Nat.reduceEqDiff,RB,RX,RA2,c_Len,e]
section
variable {w w':World} {q o cap:Nat} {d:Array Nat}
def Rn (w:World) (s x:Nat):Prop:=Cells w s 212 1 (fun _=> .int .u64 (x:Int))
theorem Rn.cell {s k:Nat} (h:Rn w s k):w.cell? ⟨s,0,none⟩=some (.int .u64 (k:Int)):=Cells.cell h (by omega)
theorem Rn.frz {s k:Nat} (h:Rn w s k):w.frozen? ⟨s,0,none⟩=false:=Cells.frz h 0
theorem Rn.set {s k:Nat} (h:Rn w s k) (x:Nat):Rn (w.setCell ⟨s,0,none⟩ (.int .u64 (x:Int))) s x:=by
 refine (Cells.set h (i:=0) (.int .u64 (x:Int)) (by omega)).congr ?_
 intro i hi
 have e:i=0:=by omega
 rw [if_pos e]
theorem k_xor {s x:Nat} (h:Rn w s x) (hx:x<18446744073709551616) (K:K1) (hK:∀w',Rn w' s (Go.Sort.xorNextN x)→Frm (fun b=>b=s) w w'→K (.int .u64 ((Go.Sort.xorNextN x:Nat):Int)) w'):callS prog 146 #[.pointer (some ⟨s,0,none⟩)] w K:=by
 refine f146_call _ _ _ ?_
 unfold f146_t
 have p:(18446744073709551616:Nat)=2^64:=by decide
 have g1:x^^^(x*2^13%18446744073709551616)<18446744073709551616:=Nat.xor_lt_two_pow (n:=64) (by omega) (by omega)
 have h1:=h.set (x^^^(x*2^13%18446744073709551616))
 have g2:(x^^^(x*2^13%18446744073709551616))^^^((x^^^(x*2^13%18446744073709551616))/2^7)<18446744073709551616:=Nat.xor_lt_two_pow (n:=64) g1 (by omega)
 have h2:=h1.set ((x^^^(x*2^13%18446744073709551616))^^^((x^^^(x*2^13%18446744073709551616))/2^7))
 have h3:=h2.set (((x^^^(x*2^13%18446744073709551616))^^^((x^^^(x*2^13%18446744073709551616))/2^7))^^^(((x^^^(x*2^13%18446744073709551616))^^^((x^^^(x*2^13%18446744073709551616))/2^7))*2^17%18446744073709551616))
 have m1:∀y:Nat,y%18446744073709551616<18446744073709551616:=fun y=>Nat.mod_lt _ (by omega)
 have m2:(x^^^(x*2^13%18446744073709551616))/2^7<18446744073709551616:=by omega
 have m3:=m1 (x*2^13)
 have m4:=m1 (((x^^^(x*2^13%18446744073709551616))^^^((x^^^(x*2^13%18446744073709551616))/2^7))*2^17)
 have e:Go.Sort.xorNextN x=((x^^^(x*2^13%18446744073709551616))^^^((x^^^(x*2^13%18446744073709551616))/2^7))^^^(((x^^^(x*2^13%18446744073709551616))^^^((x^^^(x*2^13%18446744073709551616))/2^7))*2^17%18446744073709551616):=rfl
 rw [←e] at h3
 simp (disch:=first|assumption|decide|simp only [RO]|fail) only [↓RBp,↓RA,↓reduceIte,Nat.reduceAdd,Nat.reduceMul,Nat.reduceEqDiff,RB,RX,RA2,h.cell,h.frz,h1.cell,h1.frz,h2.cell,h2.frz,h3.cell,←e]
 refine hK _ h3 ?_
 exact (((((Frm.refl (fun b=>b=s) w).set _ (fun _=>rfl)).set _ (fun _=>rfl)).set _ (fun _=>rfl)).drew.drew).drew
def bst (a len m:Nat) (st:UInt64×Array Nat) (idx:Nat):Nat→UInt64×Array Nat
 |0=>st
 |k+1=>Go.Sort.breakStep a len m (bst a len m st idx k) (idx+k)
theorem bst_size (a len m:Nat) (st:UInt64×Array Nat) (idx:Nat):∀k,(bst a len m st idx k).2.size=st.2.size:=by
 intro k
 induction k with
 |zero=>rfl
 |succ k ih=>show (Go.Sort.swp _ _ _).size=_;rw [swp_size,ih]
theorem break_eq (d:Array Nat) (a b:Nat) (h:b-a≥8):Go.Sort.breakPatterns d a b=(bst a (b-a) (1<<<Go.Sort.bitsLen (b-a)) (UInt64.ofNat (b-a),d) (a+(b-a)/4*2-1) 3).2:=by
 unfold Go.Sort.breakPatterns;simp only [if_pos h];rfl
theorem k_break (h:Ar w q o d) (hd:d.size<1099511627776) (a b:Nat) (hab:a+12<b) (hb:b≤d.size) (K:K1) (hK:∀w',SW w w' q o (Go.Sort.breakPatterns d a b)→(Go.Sort.breakPatterns d a b).size=d.size→K (.tuple #[]) w'):
  callS prog 133 #[.slice (some ⟨q,o,none⟩) d.size cap,.int .i64 (a:Int),.int .i64 (b:Int)] w K:=by
 have h8:b-a≥8:=by omega
 rw [break_eq d a b h8] at hK
 have e0:(b:Int)-(a:Int)=((b-a:Nat):Int):=by omega
 have e1:(a:Int)+((b-a:Nat):Int)/4*2=((a+(b-a)/4*2:Nat):Int):=by omega
 have e2:((a+(b-a)/4*2:Nat):Int)-1=((a+(b-a)/4*2-1:Nat):Int):=by omega
 have e3:((a+(b-a)/4*2:Nat):Int)+1=((a+(b-a)/4*2+1:Nat):Int):=by omega
 have hm:1<<<Go.Sort.bitsLen (b-a)=2^Go.Sort.bitsLen (b-a):=by rw [Nat.shiftLeft_eq,Nat.one_mul]
 have hm2:=Go.Sort.two_pow_bitsLen_le (n:=b-a) (by omega)
 have hm0:=Nat.two_pow_pos (Go.Sort.bitsLen (b-a))
 have hlen:b-a<1099511627776:=by omega
 have cn:=fun w K=>c_npow (b-a) hlen w K
 rw [hm] at hK
 generalize 2^Go.Sort.bitsLen (b-a)=m at*
 have hidx:a+(b-a)/4*2-1+2<b∧a≤a+(b-a)/4*2-1∧a+(b-a)/4*2+1=a+(b-a)/4*2-1+2:=by omega
 rw [hidx.2.2] at e3
 generalize a+(b-a)/4*2-1=ix at*
 have hu:(UInt64.ofNat (b-a)).toNat=b-a:=by rw [UInt64.toNat_ofNat'];omega
 refine f133_call _ _ _ _ _ ?_
 unfold f133_t
 simp (disch:=first|omega|simp only [RO]|(simp only [RZ]<;>omega)|fail) only [↓RBp,↓RA,↓reduceIte,Nat.reduceAdd,Nat.reduceMul,Nat.reduceEqDiff,RB,RX,RA2,e0,e1,e2,cn]
 have hrn:Rn (w.alloc (.cells #[.int .u64 ((b-a:Nat):Int)] 212)) w.heap.size (b-a):=(Cells.new w [.int .u64 ((b-a:Nat):Int)] 212).congr (fun i hi=>by have e:i=0:=(by simpa using hi);subst e;rfl)
 have h':=h.alloc (.cells #[.int .u64 ((b-a:Nat):Int)] 212)
 have hqs:=h.lt
 apply f133_l1_rule (I:=fun x w'=>∃k:Nat,x= .int .i64 ((ix+k:Nat):Int)∧k≤3∧Rn w' w.heap.size (bst a (b-a) m (UInt64.ofNat (b-a),d) ix k).1.toNat∧Ar w' q o (bst a (b-a) m (UInt64.ofNat (b-a),d) ix k).2∧Frm (fun x=>x=q∨x=w.heap.size) (w.alloc (.cells #[.int .u64 ((b-a:Nat):Int)] 212)) w') (μ:=fun x _=>ix+3-(intOf x).toNat)
 ·exact ⟨0,rfl,by omega,by rw [show (bst a (b-a) m (UInt64.ofNat (b-a),d) ix 0).1.toNat=b-a from hu];exact hrn,h',Frm.refl _ _⟩
 ·intros;rename_i w1 hI E1 hE
  obtain ⟨k,rfl,hk,hr,ar,hf⟩:=hI
  have hsz:(bst a (b-a) m (UInt64.ofNat (b-a),d) ix k).2.size=d.size:=bst_size a (b-a) m (UInt64.ofNat (b-a),d) ix k
  by_cases hk3:k<3
  ·have hst:bst a (b-a) m (UInt64.ofNat (b-a),d) ix (k+1)=Go.Sort.breakStep a (b-a) m (bst a (b-a) m (UInt64.ofNat (b-a),d) ix k) (ix+k):=rfl
   generalize hB:bst a (b-a) m (UInt64.ofNat (b-a),d) ix k=B at*
   have hlt:B.1.toNat<18446744073709551616:=B.1.toNat_lt
   have hxl:=Go.Sort.xorNextN_lt _ hlt
   have hxe:=Go.Sort.xorNext_toNat B.1
   unfold f133_l1_t
   simp (disch:=first|omega|simp only [RO]|(simp only [RZ]<;>omega)|fail) only [↓RBp,↓RA,↓reduceIte,Nat.reduceAdd,Nat.reduceMul,Nat.reduceEqDiff,RB,RX,RA2,e1,e3]
   refine k_xor hr hlt _ (fun w2 hr2 hf2=> ?_)
   have hand:Go.Sort.xorNextN B.1.toNat&&&(m-1)≤m-1:=Nat.and_le_right
   have ar2:Ar w2 q o B.2:=ar.frm hf2 (by omega)
   generalize hy:Go.Sort.xorNextN B.1.toNat&&&(m-1)=y at*
   have hstep:∀ot,ot=(if y≥b-a then y-(b-a) else y)→bst a (b-a) m (UInt64.ofNat (b-a),d) ix (k+1)=(Go.Sort.xorNext B.1,Go.Sort.swp B.2 (ix+k) (a+ot)):=by
    intro ot ho
    rw [hst];unfold Go.Sort.breakStep;simp only [hxe,hy,←ho]
   have fin:∀ot,ot=(if y≥b-a then y-(b-a) else y)→a+ot<b→∀(w3:World),w3=((w2.setCell ⟨q,o+(ix+k),none⟩ (.int .u64 ((B.2[a+ot]! :Nat):Int))).setCell ⟨q,o+(a+ot),none⟩ (.int .u64 ((B.2[ix+k]! :Nat):Int))).drew→
     ∃k':Nat,Value.int .i64 (((ix+k:Nat):Int)+1)= .int .i64 ((ix+k':Nat):Int)∧k'≤3∧Rn w3 w.heap.size (bst a (b-a) m (UInt64.ofNat (b-a),d) ix k').1.toNat∧Ar w3 q o (bst a (b-a) m (UInt64.ofNat (b-a),d) ix k').2∧Frm (fun x=>x=q∨x=w.heap.size) (w.alloc (.cells #[.int .u64 ((b-a:Nat):Int)] 212)) w3:=by
    intro ot ho hob w3 hw3
    subst hw3
    refine ⟨k+1,by congr 1,by omega,?_,?_,?_⟩
    ·rw [hstep ot ho]
     show Rn _ _ (Go.Sort.xorNext B.1).toNat
     rw [hxe]
     exact ((Cells.set_ne hr2 _ (by show w.heap.size≠q;omega)).set_ne _ (by show w.heap.size≠q;omega)).drew
    ·rw [hstep ot ho]
     exact ((SW.refl ar2).swp (ix+k) (a+ot) (by rw [hsz];omega) (by rw [hsz];omega)).drew.ar
    ·exact (((hf.trans (hf2.mono (fun x hx=>(.inr hx:x=q∨x=w.heap.size))) (fun _ _ h=>h)).set _ (fun _=> .inl rfl)).set _ (fun _=> .inl rfl)).drew
   by_cases hyl:y≥b-a
   ·have hot:y-(b-a)=(if y≥b-a then y-(b-a) else y):=by rw [if_pos hyl]
    have e4:(y:Int)-((b-a:Nat):Int)=((y-(b-a):Nat):Int):=by omega
    have e5:(a:Int)+((y-(b-a):Nat):Int)=((a+(y-(b-a)):Nat):Int):=by omega
    have hob:a+(y-(b-a))<b:=by omega
    have fin2:=fin _ hot hob _ rfl
    generalize y-(b-a)=ot at*
    have c1:=ar2.cell (a+ot) (by rw [hsz];omega)
    have c2:=ar2.cell (ix+k) (by rw [hsz];omega)
    have ar3:=ar2.set (ix+k) B.2[a+ot]! (by rw [hsz];omega)
    have c3:=ar3.cell (a+ot) (by simp;rw [hsz];omega)
    (repeat' (first|(with_reducible first|refine brS_mk (fun _=> ?_) (fun _=> ?_)|refine And.intro ?_ ?_)|(simp (disch:=first|omega|simp only [RO]|(simp only [RZ]<;>omega)|fail) only [↓RBp,↓RA,↓reduceIte,Nat.reduceAdd,Nat.reduceMul,Nat.reduceEqDiff,RB,RX,RA2,hy,e4,e5,c1,c2,c3,ar2.frz,ar3.frz,f133_k1_eq,f133_k1_t])))
    apply hE
    ·exact fin2
    ·simp [intOf];omega
   ·have hot:y=(if y≥b-a then y-(b-a) else y):=by rw [if_neg hyl]
    have e5:(a:Int)+(y:Int)=((a+y:Nat):Int):=by omega
    have hob:a+y<b:=by omega
    have fin2:=fin _ hot hob _ rfl
    have c1:=ar2.cell (a+y) (by rw [hsz];omega)
    have c2:=ar2.cell (ix+k) (by rw [hsz];omega)
    have ar3:=ar2.set (ix+k) B.2[a+y]! (by rw [hsz];omega)
    have c3:=ar3.cell (a+y) (by simp;rw [hsz];omega)
    (repeat' (first|(with_reducible first|refine brS_mk (fun _=> ?_) (fun _=> ?_)|refine And.intro ?_ ?_)|(simp (disch:=first|omega|simp only [RO]|(simp only [RZ]<;>omega)|fail) only [↓RBp,↓RA,↓reduceIte,Nat.reduceAdd,Nat.reduceMul,Nat.reduceEqDiff,RB,RX,RA2,hy,e5,c1,c2,c3,ar2.frz,ar3.frz,f133_k1_eq,f133_k1_t])))
    apply hE
    ·exact fin2
    ·simp [intOf];omega
  ·have:k=3:=by omega
   subst this
   unfold f133_l1_t
   simp (disch:=first|omega|simp only [RO]|(simp only [RZ]<;>omega)|fail) only [↓RBp,↓RA,↓reduceIte,Nat.reduceAdd,Nat.reduceMul,Nat.reduceEqDiff,RB,RX,RA2,e1,e3]
   refine hK _ ⟨ar,?_⟩ hsz
   have hf3:=(Frm.of_ext (F:=fun x=>x=q∨x=w.heap.size) (Ext.alloc_self w (.cells #[.int .u64 ((b-a:Nat):Int)] 212))).trans hf (fun _ _ h=>h)
   exact ⟨hf3.os,hf3.tape,hf3.output,hf3.size,fun x hx hn=>hf3.block x hx (by rintro (h|h);exact hn h;omega)⟩
end
section
variable {w w':World} {q o cap:Nat} {d:Array Nat}
theorem sift_eq (hi first root:Nat) (d:Array Nat):Go.Sort.siftDown ltN hi first root d=if 2*root+1≥hi then d else
  if (decide (2*root+1+1<hi)&&ltN d[first+(2*root+1)]! d[first+(2*root+1)+1]!)=true then
   (if ltN d[first+root]! d[first+(2*root+2)]! =true then Go.Sort.siftDown ltN hi first (2*root+2) (Go.Sort.swp d (first+root) (first+(2*root+2))) else d)
  else (if ltN d[first+root]! d[first+(2*root+1)]! =true then Go.Sort.siftDown ltN hi first (2*root+1) (Go.Sort.swp d (first+root) (first+(2*root+1))) else d):=by
 rw [Go.Sort.siftDown]
 by_cases h1:2*root+1≥hi
 ·rw [dif_pos h1,if_pos h1]
 ·rw [dif_neg h1,if_neg h1]
  by_cases h2:(decide (2*root+1+1<hi)&&ltN d[first+(2*root+1)]! d[first+(2*root+1)+1]!)=true
  ·rw [if_pos h2,if_pos h2]
   have h3:2*root+2<hi:=by simp at h2;omega
   cases h4:ltN d[first+root]! d[first+(2*root+2)]! with
   |true=>simp [h3]
   |false=>simp
  ·rw [if_neg h2,if_neg h2]
   cases h4:ltN d[first+root]! d[first+(2*root+1)]! with
   |true=>simp
   |false=>simp
theorem k_sift (h:Ar w q o d) (hd:d.size<1099511627776) (lo hi first:Nat) (hlo:lo≤hi+1) (hb:first+hi≤d.size) (K:K1) (hK:∀w',SW w w' q o (Go.Sort.siftDown ltN hi first lo d)→(Go.Sort.siftDown ltN hi first lo d).size=d.size→K (.tuple #[]) w'):
  callS prog 144 #[.slice (some ⟨q,o,none⟩) d.size cap,.int .i64 (lo:Int),.int .i64 (hi:Int),.int .i64 (first:Int)] w K:=by
 refine f144_call _ _ _ _ _ _ ?_
 unfold f144_t
 apply f144_l1_rule (I:=fun x w'=>∃(root:Nat) (d':Array Nat),x= .int .i64 (root:Int)∧root≤hi+1∧d'.size=d.size∧SW w w' q o d'∧Go.Sort.siftDown ltN hi first root d'=Go.Sort.siftDown ltN hi first lo d) (μ:=fun x _=>hi+1-(intOf x).toNat)
 ·exact ⟨lo,d,rfl,hlo,rfl,SW.refl h,rfl⟩
 ·intros;rename_i w1 hI E1 hE
  obtain ⟨root,d1,rfl,hr,hs,sw,e⟩:=hI
  rw [sift_eq] at e
  have ar:=sw.ar
  have g1:2*(root:Int)+1=((2*root+1:Nat):Int):=by omega
  have g2:((2*root+1:Nat):Int)+1=((2*root+2:Nat):Int):=by omega
  have g3:(first:Int)+((2*root+1:Nat):Int)=((first+(2*root+1):Nat):Int):=by omega
  have g4:((first+(2*root+1):Nat):Int)+1=((first+(2*root+1)+1:Nat):Int):=by omega
  have g5:(first:Int)+((2*root+2:Nat):Int)=((first+(2*root+2):Nat):Int):=by omega
  have g6:(first:Int)+(root:Int)=((first+root:Nat):Int):=by omega
  by_cases h1:2*root+1≥hi
  ·rw [if_pos h1] at e
   unfold f144_l1_t
   simp (disch:=first|omega|simp only [RO]|(simp only [RZ]<;>omega)|fail) only [↓RBp,↓RA,↓reduceIte,Nat.reduceAdd,Nat.reduceMul,Nat.reduceEqDiff,RB,RX,RA2,g1]
   rw [←e] at hK
   exact hK _ sw hs
  ·rw [if_neg h1] at e
   have c1:=ar.cell (first+(2*root+1)) (by omega)
   have c0:=ar.cell (first+root) (by omega)
   have r12:first+(2*root+1)+1=first+(2*root+2):=by omega
   by_cases h2:2*root+1+1<hi
   ·have c2:=ar.cell (first+(2*root+2)) (by omega)
    rw [r12] at g4 e
    cases h3:ltN d1[first+(2*root+1)]! d1[first+(2*root+2)]! with
    |true=>
     rw [h3,if_pos (by simp;omega)] at e
     cases h4:ltN d1[first+root]! d1[first+(2*root+2)]! with
     |true=>
      rw [h4,if_pos rfl] at e
      have ar2:=ar.set (first+root) d1[first+(2*root+2)]! (by omega)
      have c3:=ar2.cell (first+(2*root+2)) (by simp;omega)
      have ssw:=sw.swp (first+root) (first+(2*root+2)) (by omega) (by omega)
      unfold f144_l1_t
      (repeat' (first|(with_reducible first|refine brS_mk (fun _=> ?_) (fun _=> ?_)|refine And.intro ?_ ?_)|(simp (disch:=first|omega|simp only [RO]|(simp only [RZ]<;>omega)|fail) only [↓RBp,↓RA,↓reduceIte,Nat.reduceAdd,Nat.reduceMul,Nat.reduceEqDiff,RB,RX,RA2,g1,g2,g3,g4,g5,g6,c0,c1,c2,c_Less,h3,h4,c3,ar.frz,ar2.frz,f144_k1_eq,f144_k1_t])))
      apply hE
      ·exact ⟨2*root+2,_,rfl,by omega,(swp_size _ _ _).trans hs,ssw.drew.drew.drew,e⟩
      ·simp [intOf];omega
     |false=>
      rw [h4,if_neg (by simp)] at e
      unfold f144_l1_t
      (repeat' (first|(with_reducible first|refine brS_mk (fun _=> ?_) (fun _=> ?_)|refine And.intro ?_ ?_)|(simp (disch:=first|omega|simp only [RO]|(simp only [RZ]<;>omega)|fail) only [↓RBp,↓RA,↓reduceIte,Nat.reduceAdd,Nat.reduceMul,Nat.reduceEqDiff,RB,RX,RA2,g1,g2,g3,g4,g5,g6,c0,c1,c2,c_Less,h3,h4,f144_k1_eq,f144_k1_t])))
      rw [←e] at hK
      exact hK _ sw.drew.drew hs
    |false=>
     rw [h3,if_neg (by simp)] at e
     cases h4:ltN d1[first+root]! d1[first+(2*root+1)]! with
     |true=>
      rw [h4,if_pos rfl] at e
      have ar2:=ar.set (first+root) d1[first+(2*root+1)]! (by omega)
      have c3:=ar2.cell (first+(2*root+1)) (by simp;omega)
      have ssw:=sw.swp (first+root) (first+(2*root+1)) (by omega) (by omega)
      unfold f144_l1_t
      (repeat' (first|(with_reducible first|refine brS_mk (fun _=> ?_) (fun _=> ?_)|refine And.intro ?_ ?_)|(simp (disch:=first|omega|simp only [RO]|(simp only [RZ]<;>omega)|fail) only [↓RBp,↓RA,↓reduceIte,Nat.reduceAdd,Nat.reduceMul,Nat.reduceEqDiff,RB,RX,RA2,g1,g2,g3,g4,g5,g6,c0,c1,c2,c_Less,h3,h4,c3,ar.frz,ar2.frz,f144_k1_eq,f144_k1_t])))
      apply hE
      ·exact ⟨2*root+1,_,rfl,by omega,(swp_size _ _ _).trans hs,ssw.drew.drew.drew,e⟩
      ·simp [intOf];omega
     |false=>
      rw [h4,if_neg (by simp)] at e
      unfold f144_l1_t
      (repeat' (first|(with_reducible first|refine brS_mk (fun _=> ?_) (fun _=> ?_)|refine And.intro ?_ ?_)|(simp (disch:=first|omega|simp only [RO]|(simp only [RZ]<;>omega)|fail) only [↓RBp,↓RA,↓reduceIte,Nat.reduceAdd,Nat.reduceMul,Nat.reduceEqDiff,RB,RX,RA2,g1,g2,g3,g4,g5,g6,c0,c1,c2,c_Less,h3,h4,f144_k1_eq,f144_k1_t])))
      rw [←e] at hK
      exact hK _ sw.drew.drew hs
   ·rw [if_neg (by simp;omega)] at e
    have h3:True:=trivial
    cases h4:ltN d1[first+root]! d1[first+(2*root+1)]! with
    |true=>
     rw [h4,if_pos rfl] at e
     have ar2:=ar.set (first+root) d1[first+(2*root+1)]! (by omega)
     have c3:=ar2.cell (first+(2*root+1)) (by simp;omega)
     have ssw:=sw.swp (first+root) (first+(2*root+1)) (by omega) (by omega)
     unfold f144_l1_t
     (repeat' (first|(with_reducible first|refine brS_mk (fun _=> ?_) (fun _=> ?_)|refine And.intro ?_ ?_)|(simp (disch:=first|omega|simp only [RO]|(simp only [RZ]<;>omega)|fail) only [↓RBp,↓RA,↓reduceIte,Nat.reduceAdd,Nat.reduceMul,Nat.reduceEqDiff,RB,RX,RA2,g1,g2,g3,g4,g5,g6,c0,c1,c_Less,h4,c3,ar.frz,ar2.frz,f144_k1_eq,f144_k1_t])))
     apply hE
     ·exact ⟨2*root+1,_,rfl,by omega,(swp_size _ _ _).trans hs,ssw.drew.drew.drew,e⟩
     ·simp [intOf];omega
    |false=>
     rw [h4,if_neg (by simp)] at e
     unfold f144_l1_t
     (repeat' (first|(with_reducible first|refine brS_mk (fun _=> ?_) (fun _=> ?_)|refine And.intro ?_ ?_)|(simp (disch:=first|omega|simp only [RO]|(simp only [RZ]<;>omega)|fail) only [↓RBp,↓RA,↓reduceIte,Nat.reduceAdd,Nat.reduceMul,Nat.reduceEqDiff,RB,RX,RA2,g1,g2,g3,g4,g5,g6,c0,c1,c_Less,h4,f144_k1_eq,f144_k1_t])))
     rw [←e] at hK
     exact hK _ sw.drew.drew hs
theorem k_heap (h:Ar w q o d) (hd:d.size<1099511627776) (a b:Nat) (hab:a<b) (hb:b≤d.size) (K:K1) (hK:∀w',SW w w' q o (Go.Sort.heapSort ltN d a b)→(Go.Sort.heapSort ltN d a b).size=d.size→K (.tuple #[]) w'):
  callS prog 132 #[.slice (some ⟨q,o,none⟩) d.size cap,.int .i64 (a:Int),.int .i64 (b:Int)] w K:=by
 have e0:(b:Int)-(a:Int)=((b-a:Nat):Int):=by omega
 have e1:(((b-a:Nat):Int)-1)/2=(((b-a-1)/2+1:Nat):Int)-1:=by omega
 refine f132_call _ _ _ _ _ ?_
 unfold f132_t
 simp (disch:=first|omega|simp only [RO]|(simp only [RZ]<;>omega)|fail) only [↓RBp,↓RA,↓reduceIte,Nat.reduceAdd,Nat.reduceMul,Nat.reduceEqDiff,RB,RX,RA2,e0,e1]
 apply f132_l1_rule (I:=fun x w'=>∃(k:Nat) (d':Array Nat),x= .int .i64 ((k:Int)-1)∧k≤(b-a-1)/2+1∧d'.size=d.size∧SW w w' q o d'∧Go.Sort.heapPop ltN a (b-a) (Go.Sort.heapBuild ltN (b-a) a k d')=Go.Sort.heapSort ltN d a b) (μ:=fun x _=>((intOf x)+1).toNat)
 ·exact ⟨(b-a-1)/2+1,d,rfl,by omega,rfl,SW.refl h,rfl⟩
 ·intros;rename_i w1 hI E1 hE
  obtain ⟨k,d1,rfl,hk,hs,sw,e⟩:=hI
  cases k with
  |zero=>
   unfold f132_l1_t
   have e2:((b-a:Nat):Int)-1=((b-a:Nat):Int)-1:=rfl
   simp (disch:=first|omega|simp only [RO]|(simp only [RZ]<;>omega)|fail) only [↓RBp,↓RA,↓reduceIte,Nat.reduceAdd,Nat.reduceMul,Nat.reduceEqDiff,RB,RX,RA2,f132_k1_eq,f132_k1_t]
   apply f132_l2_rule (I:=fun x w'=>∃(k:Nat) (d':Array Nat),x= .int .i64 ((k:Int)-1)∧k≤b-a∧d'.size=d.size∧SW w w' q o d'∧Go.Sort.heapPop ltN a k d'=Go.Sort.heapSort ltN d a b) (μ:=fun x _=>((intOf x)+1).toNat)
   ·exact ⟨b-a,d1,rfl,by omega,hs,sw,e⟩
   ·intros;rename_i w2 hI2 E2 hE2
    obtain ⟨k,d2,rfl,hk2,hs2,sw2,e3⟩:=hI2
    cases k with
    |zero=>
     unfold f132_l2_t
     have e4:Go.Sort.heapPop ltN a 0 d2=d2:=rfl
     rw [e4] at e3
     simp (disch:=first|omega|simp only [RO]|(simp only [RZ]<;>omega)|fail) only [↓RBp,↓RA,↓reduceIte,Nat.reduceAdd,Nat.reduceMul,Nat.reduceEqDiff,RB,RX,RA2]
     rw [←e3] at hK
     exact hK _ sw2 hs2
    |succ k=>
     have e4:Go.Sort.heapPop ltN a (k+1) d2=Go.Sort.heapPop ltN a k (Go.Sort.siftDown ltN k a 0 (Go.Sort.swp d2 a (a+k))):=rfl
     rw [e4] at e3
     have g1:((k+1:Nat):Int)-1=(k:Int):=by omega
     have g2:(a:Int)+(k:Int)=((a+k:Nat):Int):=by omega
     have ar:=sw2.ar
     have c0:=ar.cell a (by omega)
     have c1:=ar.cell (a+k) (by omega)
     have ar2:=ar.set a d2[a+k]! (by omega)
     have c3:=ar2.cell (a+k) (by simp;omega)
     have ssw:=sw2.swp a (a+k) (by omega) (by omega)
     have hsz:=swp_size d2 a (a+k)
     unfold f132_l2_t
     (repeat' (first|(with_reducible first|refine brS_mk (fun _=> ?_) (fun _=> ?_)|refine And.intro ?_ ?_)|(simp (disch:=first|omega|simp only [RO]|(simp only [RZ]<;>omega)|fail) only [↓RBp,↓RA,↓reduceIte,Nat.reduceAdd,Nat.reduceMul,Nat.reduceEqDiff,RB,RX,RA2,g1,g2,c0,c1,c3,ar.frz,ar2.frz])))
     have hb2:d.size=(Go.Sort.swp d2 a (a+k)).size:=by rw [hsz,hs2]
     rw [hb2]
     refine k_sift (cap:=cap) ssw.drew.ar (by omega) 0 k a (by omega) (by omega) _ (fun w3 h3 hz3=> ?_)
     rw [←hb2] at hz3;try rw [←hb2]
     simp (disch:=first|omega|simp only [RO]|(simp only [RZ]<;>omega)|fail) only [↓RBp,↓RA,↓reduceIte,Nat.reduceAdd,Nat.reduceMul,Nat.reduceEqDiff,RB,RX,RA2]
     apply hE2
     ·exact ⟨k,_,by rw [g1],by omega,hz3,ssw.drew.trans h3,e3⟩
     ·simp [intOf]
  |succ k=>
   have e4:Go.Sort.heapBuild ltN (b-a) a (k+1) d1=Go.Sort.heapBuild ltN (b-a) a k (Go.Sort.siftDown ltN (b-a) a k d1):=rfl
   rw [e4] at e
   have g1:((k+1:Nat):Int)-1=(k:Int):=by omega
   unfold f132_l1_t
   simp (disch:=first|omega|simp only [RO]|(simp only [RZ]<;>omega)|fail) only [↓RBp,↓RA,↓reduceIte,Nat.reduceAdd,Nat.reduceMul,Nat.reduceEqDiff,RB,RX,RA2,g1]
   rw [←hs]
   refine k_sift (cap:=cap) sw.ar (by omega) k (b-a) a (by omega) (by omega) _ (fun w3 h3 hz3=> ?_)
   rw [hs] at hz3;try rw [hs]
   simp (disch:=first|omega|simp only [RO]|(simp only [RZ]<;>omega)|fail) only [↓RBp,↓RA,↓reduceIte,Nat.reduceAdd,Nat.reduceMul,Nat.reduceEqDiff,RB,RX,RA2]
   apply hE
   ·exact ⟨k,_,by rw [g1],by omega,hz3,sw.trans h3,e⟩
   ·simp [intOf]
end
section
variable {w w':World} {q o cap:Nat} {d:Array Nat}
theorem scanUp_eq (p:Nat→Bool) (d:Array Nat) (j i:Nat):Go.Sort.scanUp p d j i=if (decide (i≤j)&&p d[i]!)=true then Go.Sort.scanUp p d j (i+1) else i:=by rw [Go.Sort.scanUp]
theorem scanDown_succ (p:Nat→Bool) (d:Array Nat) (i j:Nat):Go.Sort.scanDown p d i (j+1)=if (decide (i≤j+1)&&p d[j+1]!)=true then Go.Sort.scanDown p d i j else j+1:=rfl
theorem k_part (h:Ar w q o d) (hd:d.size<1099511627776) (a b pv:Nat) (hab:a+1<b) (hb:b≤d.size) (hp:a≤pv) (hp2:pv<b) (K:K1) (hK:∀w',SW w w' q o (Go.Sort.partition ltN d a b pv).2.2→(Go.Sort.partition ltN d a b pv).2.2.size=d.size→K (.tuple #[.int .i64 (((Go.Sort.partition ltN d a b pv).1:Nat):Int),.bool (Go.Sort.partition ltN d a b pv).2.1]) w'):
  callS prog 139 #[.slice (some ⟨q,o,none⟩) d.size cap,.int .i64 (a:Int),.int .i64 (b:Int),.int .i64 (pv:Int)] w K:=by
 have c0:=h.cell a (by omega)
 have cp:=h.cell pv (by omega)
 have ar0:=h.set a d[pv]! (by omega)
 have cq:=ar0.cell pv (by simp;omega)
 have sw0:=(SW.refl h).swp a pv (by omega) (by omega)
 have hz0:=swp_size d a pv
 unfold Go.Sort.partition at hK
 simp only at hK
 generalize hD:Go.Sort.swp d a pv=D at*
 have e1:(a:Int)+1=((a+1:Nat):Int):=by omega
 have e2:(b:Int)-1=((b-1:Nat):Int):=by omega
 have t3:∀(i0 j0:Nat) (D0:Array Nat),D0.size=d.size→(∀w',SW w w' q o (Go.Sort.swp (Go.Sort.partLoop ltN a i0 j0 D0).2 (Go.Sort.partLoop ltN a i0 j0 D0).1 a)→(Go.Sort.swp (Go.Sort.partLoop ltN a i0 j0 D0).2 (Go.Sort.partLoop ltN a i0 j0 D0).1 a).size=d.size→K (.tuple #[.int .i64 (((Go.Sort.partLoop ltN a i0 j0 D0).1:Nat):Int),.bool false]) w')→a+1≤i0→i0≤b→i0≤j0+2→a≤j0→j0<b→∀w0,SW w w0 q o D0→
   f139_l3 K (.slice (some ⟨q,o,none⟩) d.size cap) (.int .i64 ((a:Nat):Int)) (.int .i64 ((i0:Nat):Int)) (.int .i64 ((j0:Nat):Int)) w0:=by
  intro i0 j0 D0 hz hK3 b1 b2 b0 b3 b4 w0 s0
  apply f139_l3_rule (I:=fun x y w'=>∃(i j:Nat) (D1:Array Nat),x= .int .i64 (i:Int)∧y= .int .i64 (j:Int)∧a+1≤i∧i≤b∧i≤j+2∧a≤j∧j<b∧D1.size=d.size∧SW w w' q o D1∧Go.Sort.partLoop ltN a i j D1=Go.Sort.partLoop ltN a i0 j0 D0) (μ:=fun x y _=>(intOf y).toNat+1-(intOf x).toNat)
  ·exact ⟨i0,j0,D0,rfl,rfl,b1,b2,b0,b3,b4,hz,s0,rfl⟩
  ·intros;rename_i w1 hI E1 hE
   obtain ⟨i1,j1,D1,rfl,rfl,b5,b6,b9,b7,b8,hz1,sw1,eP⟩:=hI
   rw [Go.Sort.partLoop] at eP
   have t5:∀(i j:Nat) wB,SW w wB q o D1→i1≤i→i≤b→j≤j1→a≤j→Go.Sort.scanUp (fun x=>ltN x D1[a]!) D1 j1 i1=i→Go.Sort.scanDown (fun x=> !ltN x D1[a]!) D1 i j1=j→f139_k5 K E1 (.slice (some ⟨q,o,none⟩) d.size cap) (.int .i64 ((a:Nat):Int)) (.int .i64 ((i:Nat):Int)) (.int .i64 ((j:Nat):Int)) wB:=by
    intro i j wB swB h1 h2 h3 h4 eu ed
    simp only [eu,ed] at eP
    by_cases hij:i>j
    ·rw [if_pos hij] at eP
     rw [←eP] at hK3
     have arB:=swB.ar
     have d1:=arB.cell a (by omega)
     have d2:=arB.cell j (by omega)
     have ar2:=arB.set j D1[a]! (by omega)
     have d3:=ar2.cell a (by simp;omega)
     have ssw:=swB.swp j a (by omega) (by omega)
     (repeat' (first|(with_reducible first|refine brS_mk (fun _=> ?_) (fun _=> ?_)|refine And.intro ?_ ?_)|(simp (disch:=first|omega|simp only [RO]|(simp only [RZ]<;>omega)|fail) only [↓RBp,↓RA,↓reduceIte,Nat.reduceAdd,Nat.reduceMul,Nat.reduceEqDiff,RB,RX,RA2,f139_k5_eq,f139_k5_t,f139_k3_eq,f139_k3_t,d1,d2,d3,arB.frz,ar2.frz])))
     exact hK3 _ ssw.drew ((swp_size _ _ _).trans hz1)
    ·rw [if_neg hij,dif_pos (by omega)] at eP
     have arB:=swB.ar
     have d1:=arB.cell i (by omega)
     have d2:=arB.cell j (by omega)
     have ar2:=arB.set i D1[j]! (by omega)
     have d3:=ar2.cell j (by simp;omega)
     have ssw:=swB.swp i j (by omega) (by omega)
     have g1:(i:Int)+1=((i+1:Nat):Int):=by omega
     have g2:(j:Int)-1=((j-1:Nat):Int):=by omega
     (repeat' (first|(with_reducible first|refine brS_mk (fun _=> ?_) (fun _=> ?_)|refine And.intro ?_ ?_)|(simp (disch:=first|omega|simp only [RO]|(simp only [RZ]<;>omega)|fail) only [↓RBp,↓RA,↓reduceIte,Nat.reduceAdd,Nat.reduceMul,Nat.reduceEqDiff,RB,RX,RA2,f139_k5_eq,f139_k5_t,d1,d2,d3,arB.frz,ar2.frz,g1,g2])))
     apply hE
     ·exact ⟨i+1,j-1,_,rfl,rfl,by omega,by omega,by omega,by omega,by omega,(swp_size _ _ _).trans hz1,ssw.drew,eP⟩
     ·simp [intOf];omega
   have t4:∀(i:Nat) wB,SW w wB q o D1→i1≤i→i≤b→Go.Sort.scanUp (fun x=>ltN x D1[a]!) D1 j1 i1=i→f139_l5 K E1 (.slice (some ⟨q,o,none⟩) d.size cap) (.int .i64 ((a:Nat):Int)) (.int .i64 ((i:Nat):Int)) (.int .i64 ((j1:Nat):Int)) wB:=by
    intro i wB swB h1 h2 eu
    apply f139_l5_rule (I:=fun x w'=>∃j:Nat,x= .int .i64 (j:Int)∧j≤j1∧a≤j∧SW w w' q o D1∧Go.Sort.scanDown (fun x=> !ltN x D1[a]!) D1 i j=Go.Sort.scanDown (fun x=> !ltN x D1[a]!) D1 i j1) (μ:=fun x _=>(intOf x).toNat)
    ·exact ⟨j1,rfl,by omega,by omega,swB,rfl⟩
    ·intros;rename_i wA hIA EA hEA
     obtain ⟨j,rfl,hj1,hj2,swA,eA⟩:=hIA
     have arA:=swA.ar
     cases j with
     |zero=>
      have e0:Go.Sort.scanDown (fun x=> !ltN x D1[a]!) D1 i 0=0:=rfl
      rw [e0] at eA
      unfold f139_l5_t
      (repeat' (first|(with_reducible first|refine brS_mk (fun _=> ?_) (fun _=> ?_)|refine And.intro ?_ ?_)|(simp (disch:=first|omega|simp only [RO]|(simp only [RZ]<;>omega)|fail) only [↓RBp,↓RA,↓reduceIte,Nat.reduceAdd,Nat.reduceMul,Nat.reduceEqDiff,RB,RX,RA2])))
      apply t5 i 0 _ swA.drew (by omega) (by omega) (by omega) (by omega) eu eA.symm
     |succ j=>
      rw [scanDown_succ] at eA
      have gj:((j+1:Nat):Int)-1=(j:Int):=by omega
      by_cases hij:i≤j+1
      ·have c1:=arA.cell (j+1) (by omega)
       have c2:=arA.cell a (by omega)
       cases hl:ltN D1[j+1]! D1[a]! with
       |false=>
        rw [if_pos (by simp [hl];omega)] at eA
        unfold f139_l5_t
        (repeat' (first|(with_reducible first|refine brS_mk (fun _=> ?_) (fun _=> ?_)|refine And.intro ?_ ?_)|(simp (disch:=first|omega|simp only [RO]|(simp only [RZ]<;>omega)|fail) only [↓RBp,↓RA,↓reduceIte,Nat.reduceAdd,Nat.reduceMul,Nat.reduceEqDiff,RB,RX,RA2,gj,c1,c2,c_Less,hl])))
        apply hEA
        ·exact ⟨j,rfl,by omega,by omega,swA.drew,eA⟩
        ·simp [intOf]
       |true=>
        rw [if_neg (by simp [hl])] at eA
        unfold f139_l5_t
        (repeat' (first|(with_reducible first|refine brS_mk (fun _=> ?_) (fun _=> ?_)|refine And.intro ?_ ?_)|(simp (disch:=first|omega|simp only [RO]|(simp only [RZ]<;>omega)|fail) only [↓RBp,↓RA,↓reduceIte,Nat.reduceAdd,Nat.reduceMul,Nat.reduceEqDiff,RB,RX,RA2,gj,c1,c2,c_Less,hl])))
        apply t5 i (j+1) _ swA.drew (by omega) (by omega) (by omega) (by omega) eu eA.symm
      ·rw [if_neg (by simp;omega)] at eA
       unfold f139_l5_t
       (repeat' (first|(with_reducible first|refine brS_mk (fun _=> ?_) (fun _=> ?_)|refine And.intro ?_ ?_)|(simp (disch:=first|omega|simp only [RO]|(simp only [RZ]<;>omega)|fail) only [↓RBp,↓RA,↓reduceIte,Nat.reduceAdd,Nat.reduceMul,Nat.reduceEqDiff,RB,RX,RA2])))
       apply t5 i (j+1) _ swA.drew (by omega) (by omega) (by omega) (by omega) eu eA.symm
   unfold f139_l3_t
   apply f139_l4_rule (I:=fun x w'=>∃i:Nat,x= .int .i64 (i:Int)∧i1≤i∧i≤j1+2∧i≤b∧SW w w' q o D1∧Go.Sort.scanUp (fun x=>ltN x D1[a]!) D1 j1 i=Go.Sort.scanUp (fun x=>ltN x D1[a]!) D1 j1 i1) (μ:=fun x _=>j1+3-(intOf x).toNat)
   ·exact ⟨i1,rfl,by omega,by omega,by omega,sw1,rfl⟩
   ·intros;rename_i wA hIA EA hEA
    obtain ⟨i,rfl,hi1,hi2,hi3,swA,eA⟩:=hIA
    rw [scanUp_eq] at eA
    have arA:=swA.ar
    have gi:(i:Int)+1=((i+1:Nat):Int):=by omega
    by_cases hij:i≤j1
    ·have c1:=arA.cell i (by omega)
     have c2:=arA.cell a (by omega)
     cases hl:ltN D1[i]! D1[a]! with
     |true=>
      rw [if_pos (by simp [hl];omega)] at eA
      unfold f139_l4_t
      (repeat' (first|(with_reducible first|refine brS_mk (fun _=> ?_) (fun _=> ?_)|refine And.intro ?_ ?_)|(simp (disch:=first|omega|simp only [RO]|(simp only [RZ]<;>omega)|fail) only [↓RBp,↓RA,↓reduceIte,Nat.reduceAdd,Nat.reduceMul,Nat.reduceEqDiff,RB,RX,RA2,gi,c1,c2,c_Less,hl])))
      apply hEA
      ·exact ⟨i+1,rfl,by omega,by omega,by omega,swA.drew,eA⟩
      ·simp [intOf];omega
     |false=>
      rw [if_neg (by simp [hl])] at eA
      unfold f139_l4_t
      (repeat' (first|(with_reducible first|refine brS_mk (fun _=> ?_) (fun _=> ?_)|refine And.intro ?_ ?_)|(simp (disch:=first|omega|simp only [RO]|(simp only [RZ]<;>omega)|fail) only [↓RBp,↓RA,↓reduceIte,Nat.reduceAdd,Nat.reduceMul,Nat.reduceEqDiff,RB,RX,RA2,gi,c1,c2,c_Less,hl,f139_k4_eq,f139_k4_t])))
      apply t4 i _ swA.drew (by omega) (by omega) eA.symm
    ·rw [if_neg (by simp;omega)] at eA
     unfold f139_l4_t
     (repeat' (first|(with_reducible first|refine brS_mk (fun _=> ?_) (fun _=> ?_)|refine And.intro ?_ ?_)|(simp (disch:=first|omega|simp only [RO]|(simp only [RZ]<;>omega)|fail) only [↓RBp,↓RA,↓reduceIte,Nat.reduceAdd,Nat.reduceMul,Nat.reduceEqDiff,RB,RX,RA2,gi,f139_k4_eq,f139_k4_t])))
     apply t4 i _ swA.drew (by omega) (by omega) eA.symm
 have t2:∀(i j:Nat) wB,SW w wB q o D→a+1≤i→i≤b→j≤b-1→a≤j→Go.Sort.scanUp (fun x=>ltN x D[a]!) D (b-1) (a+1)=i→Go.Sort.scanDown (fun x=> !ltN x D[a]!) D i (b-1)=j→f139_k2 K (.slice (some ⟨q,o,none⟩) d.size cap) (.int .i64 ((a:Nat):Int)) (.int .i64 ((i:Nat):Int)) (.int .i64 ((j:Nat):Int)) wB:=by
  intro i j wB swB h1 h2 h3 h4 eu ed
  simp only [eu,ed] at hK
  by_cases hij:i>j
  ·simp only [if_pos hij] at hK
   have arB:=swB.ar
   have d1:=arB.cell a (by omega)
   have d2:=arB.cell j (by omega)
   have ar2:=arB.set j D[a]! (by omega)
   have d3:=ar2.cell a (by simp;omega)
   have ssw:=swB.swp j a (by omega) (by omega)
   (repeat' (first|(with_reducible first|refine brS_mk (fun _=> ?_) (fun _=> ?_)|refine And.intro ?_ ?_)|(simp (disch:=first|omega|simp only [RO]|(simp only [RZ]<;>omega)|fail) only [↓RBp,↓RA,↓reduceIte,Nat.reduceAdd,Nat.reduceMul,Nat.reduceEqDiff,RB,RX,RA2,f139_k2_eq,f139_k2_t,d1,d2,d3,arB.frz,ar2.frz])))
   exact hK _ ssw.drew ((swp_size _ _ _).trans hz0)
  ·simp only [if_neg hij] at hK
   have arB:=swB.ar
   have d1:=arB.cell i (by omega)
   have d2:=arB.cell j (by omega)
   have ar2:=arB.set i D[j]! (by omega)
   have d3:=ar2.cell j (by simp;omega)
   have ssw:=swB.swp i j (by omega) (by omega)
   have g1:(i:Int)+1=((i+1:Nat):Int):=by omega
   have g2:(j:Int)-1=((j-1:Nat):Int):=by omega
   (repeat' (first|(with_reducible first|refine brS_mk (fun _=> ?_) (fun _=> ?_)|refine And.intro ?_ ?_)|(simp (disch:=first|omega|simp only [RO]|(simp only [RZ]<;>omega)|fail) only [↓RBp,↓RA,↓reduceIte,Nat.reduceAdd,Nat.reduceMul,Nat.reduceEqDiff,RB,RX,RA2,f139_k2_eq,f139_k2_t,d1,d2,d3,arB.frz,ar2.frz,g1,g2])))
   apply t3 (i+1) (j-1) _ ((swp_size _ _ _).trans hz0) hK (by omega) (by omega) (by omega) (by omega) (by omega) _ ssw.drew
 have t1:∀(i:Nat) wB,SW w wB q o D→a+1≤i→i≤b→Go.Sort.scanUp (fun x=>ltN x D[a]!) D (b-1) (a+1)=i→f139_l2 K (.slice (some ⟨q,o,none⟩) d.size cap) (.int .i64 ((a:Nat):Int)) (.int .i64 ((i:Nat):Int)) (.int .i64 ((b-1:Nat):Int)) wB:=by
  intro i wB swB h1 h2 eu
  apply f139_l2_rule (I:=fun x w'=>∃j:Nat,x= .int .i64 (j:Int)∧j≤b-1∧a≤j∧SW w w' q o D∧Go.Sort.scanDown (fun x=> !ltN x D[a]!) D i j=Go.Sort.scanDown (fun x=> !ltN x D[a]!) D i (b-1)) (μ:=fun x _=>(intOf x).toNat)
  ·exact ⟨b-1,rfl,by omega,by omega,swB,rfl⟩
  ·intros;rename_i wA hIA EA hEA
   obtain ⟨j,rfl,hj1,hj2,swA,eA⟩:=hIA
   have arA:=swA.ar
   cases j with
   |zero=>
    have e0:Go.Sort.scanDown (fun x=> !ltN x D[a]!) D i 0=0:=rfl
    rw [e0] at eA
    unfold f139_l2_t
    (repeat' (first|(with_reducible first|refine brS_mk (fun _=> ?_) (fun _=> ?_)|refine And.intro ?_ ?_)|(simp (disch:=first|omega|simp only [RO]|(simp only [RZ]<;>omega)|fail) only [↓RBp,↓RA,↓reduceIte,Nat.reduceAdd,Nat.reduceMul,Nat.reduceEqDiff,RB,RX,RA2])))
    apply t2 i 0 _ swA.drew (by omega) (by omega) (by omega) (by omega) eu eA.symm
   |succ j=>
    rw [scanDown_succ] at eA
    have gj:((j+1:Nat):Int)-1=(j:Int):=by omega
    by_cases hij:i≤j+1
    ·have c1:=arA.cell (j+1) (by omega)
     have c2:=arA.cell a (by omega)
     cases hl:ltN D[j+1]! D[a]! with
     |false=>
      rw [if_pos (by simp [hl];omega)] at eA
      unfold f139_l2_t
      (repeat' (first|(with_reducible first|refine brS_mk (fun _=> ?_) (fun _=> ?_)|refine And.intro ?_ ?_)|(simp (disch:=first|omega|simp only [RO]|(simp only [RZ]<;>omega)|fail) only [↓RBp,↓RA,↓reduceIte,Nat.reduceAdd,Nat.reduceMul,Nat.reduceEqDiff,RB,RX,RA2,gj,c1,c2,c_Less,hl])))
      apply hEA
      ·exact ⟨j,rfl,by omega,by omega,swA.drew,eA⟩
      ·simp [intOf]
     |true=>
      rw [if_neg (by simp [hl])] at eA
      unfold f139_l2_t
      (repeat' (first|(with_reducible first|refine brS_mk (fun _=> ?_) (fun _=> ?_)|refine And.intro ?_ ?_)|(simp (disch:=first|omega|simp only [RO]|(simp only [RZ]<;>omega)|fail) only [↓RBp,↓RA,↓reduceIte,Nat.reduceAdd,Nat.reduceMul,Nat.reduceEqDiff,RB,RX,RA2,gj,c1,c2,c_Less,hl])))
      apply t2 i (j+1) _ swA.drew (by omega) (by omega) (by omega) (by omega) eu eA.symm
    ·rw [if_neg (by simp;omega)] at eA
     unfold f139_l2_t
     (repeat' (first|(with_reducible first|refine brS_mk (fun _=> ?_) (fun _=> ?_)|refine And.intro ?_ ?_)|(simp (disch:=first|omega|simp only [RO]|(simp only [RZ]<;>omega)|fail) only [↓RBp,↓RA,↓reduceIte,Nat.reduceAdd,Nat.reduceMul,Nat.reduceEqDiff,RB,RX,RA2])))
     apply t2 i (j+1) _ swA.drew (by omega) (by omega) (by omega) (by omega) eu eA.symm
 refine f139_call _ _ _ _ _ _ ?_
 unfold f139_t
 (repeat' (first|(with_reducible first|refine brS_mk (fun _=> ?_) (fun _=> ?_)|refine And.intro ?_ ?_)|(simp (disch:=first|omega|simp only [RO]|(simp only [RZ]<;>omega)|fail) only [↓RBp,↓RA,↓reduceIte,Nat.reduceAdd,Nat.reduceMul,Nat.reduceEqDiff,RB,RX,RA2,e1,e2,c0,cp,cq,h.frz,ar0.frz])))
 apply f139_l1_rule (I:=fun x w'=>∃i:Nat,x= .int .i64 (i:Int)∧(a+1)≤i∧i≤(b-1)+2∧i≤b∧SW w w' q o D∧Go.Sort.scanUp (fun x=>ltN x D[a]!) D (b-1) i=Go.Sort.scanUp (fun x=>ltN x D[a]!) D (b-1) (a+1)) (μ:=fun x _=>(b-1)+3-(intOf x).toNat)
 ·exact ⟨(a+1),rfl,by omega,by omega,by omega,sw0.drew,rfl⟩
 ·intros;rename_i wA hIA EA hEA
  obtain ⟨i,rfl,hi1,hi2,hi3,swA,eA⟩:=hIA
  rw [scanUp_eq] at eA
  have arA:=swA.ar
  have gi:(i:Int)+1=((i+1:Nat):Int):=by omega
  by_cases hij:i≤(b-1)
  ·have c1:=arA.cell i (by omega)
   have c2:=arA.cell a (by omega)
   cases hl:ltN D[i]! D[a]! with
   |true=>
    rw [if_pos (by simp [hl];omega)] at eA
    unfold f139_l1_t
    (repeat' (first|(with_reducible first|refine brS_mk (fun _=> ?_) (fun _=> ?_)|refine And.intro ?_ ?_)|(simp (disch:=first|omega|simp only [RO]|(simp only [RZ]<;>omega)|fail) only [↓RBp,↓RA,↓reduceIte,Nat.reduceAdd,Nat.reduceMul,Nat.reduceEqDiff,RB,RX,RA2,gi,c1,c2,c_Less,hl])))
    apply hEA
    ·exact ⟨i+1,rfl,by omega,by omega,by omega,swA.drew,eA⟩
    ·simp [intOf];omega
   |false=>
    rw [if_neg (by simp [hl])] at eA
    unfold f139_l1_t
    (repeat' (first|(with_reducible first|refine brS_mk (fun _=> ?_) (fun _=> ?_)|refine And.intro ?_ ?_)|(simp (disch:=first|omega|simp only [RO]|(simp only [RZ]<;>omega)|fail) only [↓RBp,↓RA,↓reduceIte,Nat.reduceAdd,Nat.reduceMul,Nat.reduceEqDiff,RB,RX,RA2,gi,c1,c2,c_Less,hl,f139_k1_eq,f139_k1_t])))
    apply t1 i _ swA.drew (by omega) (by omega) eA.symm
  ·rw [if_neg (by simp;omega)] at eA
   unfold f139_l1_t
   (repeat' (first|(with_reducible first|refine brS_mk (fun _=> ?_) (fun _=> ?_)|refine And.intro ?_ ?_)|(simp (disch:=first|omega|simp only [RO]|(simp only [RZ]<;>omega)|fail) only [↓RBp,↓RA,↓reduceIte,Nat.reduceAdd,Nat.reduceMul,Nat.reduceEqDiff,RB,RX,RA2,gi,f139_k1_eq,f139_k1_t])))
   apply t1 i _ swA.drew (by omega) (by omega) eA.symm
end
section
variable {w w':World} {q o cap:Nat} {d:Array Nat}
theorem k_partEq (h:Ar w q o d) (hd:d.size<1099511627776) (a b pv:Nat) (hab:a+1<b) (hb:b≤d.size) (hp:a≤pv) (hp2:pv<b) (K:K1) (hK:∀w',SW w w' q o (Go.Sort.partitionEqual ltN d a b pv).2→(Go.Sort.partitionEqual ltN d a b pv).2.size=d.size→a<(Go.Sort.partitionEqual ltN d a b pv).1∧(Go.Sort.partitionEqual ltN d a b pv).1≤b→K (.int .i64 (((Go.Sort.partitionEqual ltN d a b pv).1:Nat):Int)) w'):
  callS prog 138 #[.slice (some ⟨q,o,none⟩) d.size cap,.int .i64 (a:Int),.int .i64 (b:Int),.int .i64 (pv:Int)] w K:=by
 have c0:=h.cell a (by omega)
 have cp:=h.cell pv (by omega)
 have ar0:=h.set a d[pv]! (by omega)
 have cq:=ar0.cell pv (by simp;omega)
 have sw0:=(SW.refl h).swp a pv (by omega) (by omega)
 have hz0:=swp_size d a pv
 unfold Go.Sort.partitionEqual at hK
 generalize hD:Go.Sort.swp d a pv=D at*
 have e1:(a:Int)+1=((a+1:Nat):Int):=by omega
 have e2:(b:Int)-1=((b-1:Nat):Int):=by omega
 have t3:∀(i0 j0:Nat) (D0:Array Nat),D0.size=d.size→(∀w',SW w w' q o (Go.Sort.partEqLoop ltN a i0 j0 D0).2→(Go.Sort.partEqLoop ltN a i0 j0 D0).2.size=d.size→a<(Go.Sort.partEqLoop ltN a i0 j0 D0).1∧(Go.Sort.partEqLoop ltN a i0 j0 D0).1≤b→K (.int .i64 (((Go.Sort.partEqLoop ltN a i0 j0 D0).1:Nat):Int)) w')→a+1≤i0→i0≤b→i0≤j0+2→a≤j0→j0<b→∀w0,SW w w0 q o D0→
   f138_l1 K (.slice (some ⟨q,o,none⟩) d.size cap) (.int .i64 ((a:Nat):Int)) (.int .i64 ((i0:Nat):Int)) (.int .i64 ((j0:Nat):Int)) w0:=by
  intro i0 j0 D0 hz hK3 b1 b2 b0 b3 b4 w0 s0
  apply f138_l1_rule (I:=fun x y w'=>∃(i j:Nat) (D1:Array Nat),x= .int .i64 (i:Int)∧y= .int .i64 (j:Int)∧a+1≤i∧i≤b∧i≤j+2∧a≤j∧j<b∧D1.size=d.size∧SW w w' q o D1∧Go.Sort.partEqLoop ltN a i j D1=Go.Sort.partEqLoop ltN a i0 j0 D0) (μ:=fun x y _=>(intOf y).toNat+1-(intOf x).toNat)
  ·exact ⟨i0,j0,D0,rfl,rfl,b1,b2,b0,b3,b4,hz,s0,rfl⟩
  ·intros;rename_i w1 hI E1 hE
   obtain ⟨i1,j1,D1,rfl,rfl,b5,b6,b9,b7,b8,hz1,sw1,eP⟩:=hI
   rw [Go.Sort.partEqLoop] at eP
   have t5:∀(i j:Nat) wB,SW w wB q o D1→i1≤i→i≤b→j≤j1→a≤j→Go.Sort.scanUp (fun x=> !ltN D1[a]! x) D1 j1 i1=i→Go.Sort.scanDown (fun x=>ltN D1[a]! x) D1 i j1=j→f138_k3 K E1 (.slice (some ⟨q,o,none⟩) d.size cap) (.int .i64 ((a:Nat):Int)) (.int .i64 ((i:Nat):Int)) (.int .i64 ((j:Nat):Int)) wB:=by
    intro i j wB swB h1 h2 h3 h4 eu ed
    simp only [eu,ed] at eP
    by_cases hij:i>j
    ·rw [if_pos hij] at eP
     rw [←eP] at hK3
     (repeat' (first|(with_reducible first|refine brS_mk (fun _=> ?_) (fun _=> ?_)|refine And.intro ?_ ?_)|(simp (disch:=first|omega|simp only [RO]|(simp only [RZ]<;>omega)|fail) only [↓RBp,↓RA,↓reduceIte,Nat.reduceAdd,Nat.reduceMul,Nat.reduceEqDiff,RB,RX,RA2,f138_k3_eq,f138_k3_t,f138_k1_eq,f138_k1_t])))
     exact hK3 _ swB hz1 ⟨by show a<i;omega,h2⟩
    ·rw [if_neg hij,dif_pos (by omega)] at eP
     have arB:=swB.ar
     have d1:=arB.cell i (by omega)
     have d2:=arB.cell j (by omega)
     have ar2:=arB.set i D1[j]! (by omega)
     have d3:=ar2.cell j (by simp;omega)
     have ssw:=swB.swp i j (by omega) (by omega)
     have g1:(i:Int)+1=((i+1:Nat):Int):=by omega
     have g2:(j:Int)-1=((j-1:Nat):Int):=by omega
     (repeat' (first|(with_reducible first|refine brS_mk (fun _=> ?_) (fun _=> ?_)|refine And.intro ?_ ?_)|(simp (disch:=first|omega|simp only [RO]|(simp only [RZ]<;>omega)|fail) only [↓RBp,↓RA,↓reduceIte,Nat.reduceAdd,Nat.reduceMul,Nat.reduceEqDiff,RB,RX,RA2,f138_k3_eq,f138_k3_t,d1,d2,d3,arB.frz,ar2.frz,g1,g2])))
     apply hE
     ·exact ⟨i+1,j-1,_,rfl,rfl,by omega,by omega,by omega,by omega,by omega,(swp_size _ _ _).trans hz1,ssw.drew,eP⟩
     ·simp [intOf];omega
   have t4:∀(i:Nat) wB,SW w wB q o D1→i1≤i→i≤b→Go.Sort.scanUp (fun x=> !ltN D1[a]! x) D1 j1 i1=i→f138_l3 K E1 (.slice (some ⟨q,o,none⟩) d.size cap) (.int .i64 ((a:Nat):Int)) (.int .i64 ((i:Nat):Int)) (.int .i64 ((j1:Nat):Int)) wB:=by
    intro i wB swB h1 h2 eu
    apply f138_l3_rule (I:=fun x w'=>∃j:Nat,x= .int .i64 (j:Int)∧j≤j1∧a≤j∧SW w w' q o D1∧Go.Sort.scanDown (fun x=>ltN D1[a]! x) D1 i j=Go.Sort.scanDown (fun x=>ltN D1[a]! x) D1 i j1) (μ:=fun x _=>(intOf x).toNat)
    ·exact ⟨j1,rfl,by omega,by omega,swB,rfl⟩
    ·intros;rename_i wA hIA EA hEA
     obtain ⟨j,rfl,hj1,hj2,swA,eA⟩:=hIA
     have arA:=swA.ar
     cases j with
     |zero=>
      have e0:Go.Sort.scanDown (fun x=>ltN D1[a]! x) D1 i 0=0:=rfl
      rw [e0] at eA
      unfold f138_l3_t
      (repeat' (first|(with_reducible first|refine brS_mk (fun _=> ?_) (fun _=> ?_)|refine And.intro ?_ ?_)|(simp (disch:=first|omega|simp only [RO]|(simp only [RZ]<;>omega)|fail) only [↓RBp,↓RA,↓reduceIte,Nat.reduceAdd,Nat.reduceMul,Nat.reduceEqDiff,RB,RX,RA2])))
      apply t5 i 0 _ swA.drew (by omega) (by omega) (by omega) (by omega) eu eA.symm
     |succ j=>
      rw [scanDown_succ] at eA
      have gj:((j+1:Nat):Int)-1=(j:Int):=by omega
      by_cases hij:i≤j+1
      ·have c1:=arA.cell (j+1) (by omega)
       have c2:=arA.cell a (by omega)
       cases hl:ltN D1[a]! D1[j+1]! with
       |true=>
        rw [if_pos (by simp [hl];omega)] at eA
        unfold f138_l3_t
        (repeat' (first|(with_reducible first|refine brS_mk (fun _=> ?_) (fun _=> ?_)|refine And.intro ?_ ?_)|(simp (disch:=first|omega|simp only [RO]|(simp only [RZ]<;>omega)|fail) only [↓RBp,↓RA,↓reduceIte,Nat.reduceAdd,Nat.reduceMul,Nat.reduceEqDiff,RB,RX,RA2,gj,c1,c2,c_Less,hl])))
        apply hEA
        ·exact ⟨j,rfl,by omega,by omega,swA.drew,eA⟩
        ·simp [intOf]
       |false=>
        rw [if_neg (by simp [hl])] at eA
        unfold f138_l3_t
        (repeat' (first|(with_reducible first|refine brS_mk (fun _=> ?_) (fun _=> ?_)|refine And.intro ?_ ?_)|(simp (disch:=first|omega|simp only [RO]|(simp only [RZ]<;>omega)|fail) only [↓RBp,↓RA,↓reduceIte,Nat.reduceAdd,Nat.reduceMul,Nat.reduceEqDiff,RB,RX,RA2,gj,c1,c2,c_Less,hl])))
        apply t5 i (j+1) _ swA.drew (by omega) (by omega) (by omega) (by omega) eu eA.symm
      ·rw [if_neg (by simp;omega)] at eA
       unfold f138_l3_t
       (repeat' (first|(with_reducible first|refine brS_mk (fun _=> ?_) (fun _=> ?_)|refine And.intro ?_ ?_)|(simp (disch:=first|omega|simp only [RO]|(simp only [RZ]<;>omega)|fail) only [↓RBp,↓RA,↓reduceIte,Nat.reduceAdd,Nat.reduceMul,Nat.reduceEqDiff,RB,RX,RA2])))
       apply t5 i (j+1) _ swA.drew (by omega) (by omega) (by omega) (by omega) eu eA.symm
   unfold f138_l1_t
   apply f138_l2_rule (I:=fun x w'=>∃i:Nat,x= .int .i64 (i:Int)∧i1≤i∧i≤j1+2∧i≤b∧SW w w' q o D1∧Go.Sort.scanUp (fun x=> !ltN D1[a]! x) D1 j1 i=Go.Sort.scanUp (fun x=> !ltN D1[a]! x) D1 j1 i1) (μ:=fun x _=>j1+3-(intOf x).toNat)
   ·exact ⟨i1,rfl,by omega,by omega,by omega,sw1,rfl⟩
   ·intros;rename_i wA hIA EA hEA
    obtain ⟨i,rfl,hi1,hi2,hi3,swA,eA⟩:=hIA
    rw [scanUp_eq] at eA
    have arA:=swA.ar
    have gi:(i:Int)+1=((i+1:Nat):Int):=by omega
    by_cases hij:i≤j1
    ·have c1:=arA.cell i (by omega)
     have c2:=arA.cell a (by omega)
     cases hl:ltN D1[a]! D1[i]! with
     |false=>
      rw [if_pos (by simp [hl];omega)] at eA
      unfold f138_l2_t
      (repeat' (first|(with_reducible first|refine brS_mk (fun _=> ?_) (fun _=> ?_)|refine And.intro ?_ ?_)|(simp (disch:=first|omega|simp only [RO]|(simp only [RZ]<;>omega)|fail) only [↓RBp,↓RA,↓reduceIte,Nat.reduceAdd,Nat.reduceMul,Nat.reduceEqDiff,RB,RX,RA2,gi,c1,c2,c_Less,hl])))
      apply hEA
      ·exact ⟨i+1,rfl,by omega,by omega,by omega,swA.drew,eA⟩
      ·simp [intOf];omega
     |true=>
      rw [if_neg (by simp [hl])] at eA
      unfold f138_l2_t
      (repeat' (first|(with_reducible first|refine brS_mk (fun _=> ?_) (fun _=> ?_)|refine And.intro ?_ ?_)|(simp (disch:=first|omega|simp only [RO]|(simp only [RZ]<;>omega)|fail) only [↓RBp,↓RA,↓reduceIte,Nat.reduceAdd,Nat.reduceMul,Nat.reduceEqDiff,RB,RX,RA2,gi,c1,c2,c_Less,hl,f138_k2_eq,f138_k2_t])))
      apply t4 i _ swA.drew (by omega) (by omega) eA.symm
    ·rw [if_neg (by simp;omega)] at eA
     unfold f138_l2_t
     (repeat' (first|(with_reducible first|refine brS_mk (fun _=> ?_) (fun _=> ?_)|refine And.intro ?_ ?_)|(simp (disch:=first|omega|simp only [RO]|(simp only [RZ]<;>omega)|fail) only [↓RBp,↓RA,↓reduceIte,Nat.reduceAdd,Nat.reduceMul,Nat.reduceEqDiff,RB,RX,RA2,gi,f138_k2_eq,f138_k2_t])))
     apply t4 i _ swA.drew (by omega) (by omega) eA.symm
 refine f138_call _ _ _ _ _ _ ?_
 unfold f138_t
 (repeat' (first|(with_reducible first|refine brS_mk (fun _=> ?_) (fun _=> ?_)|refine And.intro ?_ ?_)|(simp (disch:=first|omega|simp only [RO]|(simp only [RZ]<;>omega)|fail) only [↓RBp,↓RA,↓reduceIte,Nat.reduceAdd,Nat.reduceMul,Nat.reduceEqDiff,RB,RX,RA2,e1,e2,c0,cp,cq,h.frz,ar0.frz])))
 apply t3 (a+1) (b-1) D hz0 hK (by omega) (by omega) (by omega) (by omega) (by omega) _ sw0.drew
end
section
variable {w w':World} {q o cap:Nat} {d:Array Nat}
theorem scanSorted_eq (d:Array Nat) (b i:Nat):Go.Sort.scanSorted ltN d b i=if (decide (i<b)&& !ltN d[i]! d[i-1]!)=true then Go.Sort.scanSorted ltN d b (i+1) else i:=by rw [Go.Sort.scanSorted]
theorem shiftDown_succ (j:Nat) (d:Array Nat):Go.Sort.shiftDown ltN (j+1) d=if (!ltN d[j+1]! d[j]!)=true then d else Go.Sort.shiftDown ltN j (Go.Sort.swp d (j+1) j):=rfl
theorem shiftUp_eq (b j:Nat) (d:Array Nat):Go.Sort.shiftUp ltN b j d=if j<b then (if (!ltN d[j]! d[j-1]!)=true then d else Go.Sort.shiftUp ltN b (j+1) (Go.Sort.swp d j (j-1))) else d:=by rw [Go.Sort.shiftUp]
theorem partialIns_succ (a b s i:Nat) (d:Array Nat):Go.Sort.partialIns ltN a b (s+1) i d=(if Go.Sort.scanSorted ltN d b i=b then (d,true) else if b-a<50 then (d,false) else
  Go.Sort.partialIns ltN a b s (Go.Sort.scanSorted ltN d b i) (if b-Go.Sort.scanSorted ltN d b i≥2 then Go.Sort.shiftUp ltN b (Go.Sort.scanSorted ltN d b i+1) (if Go.Sort.scanSorted ltN d b i-a≥2 then Go.Sort.shiftDown ltN (Go.Sort.scanSorted ltN d b i-1) (Go.Sort.swp d (Go.Sort.scanSorted ltN d b i) (Go.Sort.scanSorted ltN d b i-1)) else Go.Sort.swp d (Go.Sort.scanSorted ltN d b i) (Go.Sort.scanSorted ltN d b i-1)) else (if Go.Sort.scanSorted ltN d b i-a≥2 then Go.Sort.shiftDown ltN (Go.Sort.scanSorted ltN d b i-1) (Go.Sort.swp d (Go.Sort.scanSorted ltN d b i) (Go.Sort.scanSorted ltN d b i-1)) else Go.Sort.swp d (Go.Sort.scanSorted ltN d b i) (Go.Sort.scanSorted ltN d b i-1)))):=rfl
theorem k_pis (h:Ar w q o d) (hd:d.size<1099511627776) (a b:Nat) (hab:a+1<b) (hb:b≤d.size) (K:K1) (hK:∀w',SW w w' q o (Go.Sort.partialInsertionSort ltN d a b).1→(Go.Sort.partialInsertionSort ltN d a b).1.size=d.size→K (.bool (Go.Sort.partialInsertionSort ltN d a b).2) w'):
  callS prog 136 #[.slice (some ⟨q,o,none⟩) d.size cap,.int .i64 (a:Int),.int .i64 (b:Int)] w K:=by
 have e1:(a:Int)+1=((a+1:Nat):Int):=by omega
 refine f136_call _ _ _ _ _ ?_
 unfold f136_t
 simp (disch:=first|omega|simp only [RO]|(simp only [RZ]<;>omega)|fail) only [↓RBp,↓RA,↓reduceIte,Nat.reduceAdd,Nat.reduceMul,Nat.reduceEqDiff,RB,RX,RA2,e1]
 generalize hT:Go.Sort.partialInsertionSort ltN d a b=T at*
 apply f136_l1_rule (I:=fun x y w'=>∃(i j:Nat) (D:Array Nat),x= .int .i64 (i:Int)∧y= .int .i64 (j:Int)∧j≤5∧a+1≤i∧i≤b∧D.size=d.size∧SW w w' q o D∧Go.Sort.partialIns ltN a b (5-j) i D=T) (μ:=fun _ y _=>6-(intOf y).toNat)
 ·exact ⟨a+1,0,d,rfl,rfl,by omega,by omega,by omega,rfl,SW.refl h,hT⟩
 ·intro x7 x8 w1 hI E1 hE
  obtain ⟨i0,jj,D,rfl,rfl,hj5,b1,b2,hz,sw,eT⟩:=hI
  by_cases hj:jj<5
  ·obtain ⟨s,hs⟩:∃s,5-jj=s+1:=⟨4-jj,by omega⟩
   rw [hs,partialIns_succ] at eT
   have es:5-(jj+1)=s:=by omega
   have gj:(jj:Int)+1=((jj+1:Nat):Int):=by omega
   have t2:∀(i:Nat) (D3:Array Nat) wB,a+1≤i→i≤b→D3.size=d.size→SW w wB q o D3→Go.Sort.partialIns ltN a b s i D3=T→f136_k2 K E1 (.slice (some ⟨q,o,none⟩) d.size cap) (.int .i64 ((a:Nat):Int)) (.int .i64 ((b:Nat):Int)) (.int .i64 ((i:Nat):Int)) (.int .i64 ((jj:Nat):Int)) wB:=by
    intro i D3 wB h1 h2 hz3 sw3 e3
    simp (disch:=first|omega|simp only [RO]|(simp only [RZ]<;>omega)|fail) only [↓RBp,↓RA,↓reduceIte,Nat.reduceAdd,Nat.reduceMul,Nat.reduceEqDiff,RB,RX,RA2,f136_k2_eq,f136_k2_t,gj]
    apply hE
    ·exact ⟨i,jj+1,D3,rfl,rfl,by omega,h1,h2,hz3,sw3,by rw [es];exact e3⟩
    ·simp [intOf];omega
   have t4:∀(i:Nat) (D2:Array Nat) wB,a+1≤i→i<b→D2.size=d.size→SW w wB q o D2→Go.Sort.partialIns ltN a b s i (if b-i≥2 then Go.Sort.shiftUp ltN b (i+1) D2 else D2)=T→f136_k4 K E1 (.slice (some ⟨q,o,none⟩) d.size cap) (.int .i64 ((a:Nat):Int)) (.int .i64 ((b:Nat):Int)) (.int .i64 ((i:Nat):Int)) (.int .i64 ((jj:Nat):Int)) wB:=by
    intro i D2 wB h1 h2 hz2 sw2 e2
    have g1:(b:Int)-(i:Int)=((b-i:Nat):Int):=by omega
    have g2:(i:Int)+1=((i+1:Nat):Int):=by omega
    by_cases hbi:b-i≥2
    ·rw [if_pos hbi] at e2
     simp (disch:=first|omega|simp only [RO]|(simp only [RZ]<;>omega)|fail) only [↓RBp,↓RA,↓reduceIte,Nat.reduceAdd,Nat.reduceMul,Nat.reduceEqDiff,RB,RX,RA2,f136_k4_eq,f136_k4_t,g1,g2]
     apply f136_l4_rule (I:=fun x w'=>∃(j:Nat) (D3:Array Nat),x= .int .i64 (j:Int)∧i+1≤j∧j≤b∧D3.size=d.size∧SW w w' q o D3∧Go.Sort.shiftUp ltN b j D3=Go.Sort.shiftUp ltN b (i+1) D2) (μ:=fun x _=>b+1-(intOf x).toNat)
     ·exact ⟨i+1,D2,rfl,by omega,by omega,hz2,sw2,rfl⟩
     ·intros;rename_i wA hIA EA hEA
      obtain ⟨j,D3,rfl,h3,h4,hz3,swA,eA⟩:=hIA
      rw [shiftUp_eq] at eA
      have arA:=swA.ar
      have q1:(j:Int)-1=((j-1:Nat):Int):=by omega
      have q2:(j:Int)+1=((j+1:Nat):Int):=by omega
      by_cases hjb:j<b
      ·rw [if_pos hjb] at eA
       have c1:=arA.cell j (by omega)
       have c2:=arA.cell (j-1) (by omega)
       cases hl:ltN D3[j]! D3[j-1]! with
       |true=>
        rw [hl,if_neg (by simp)] at eA
        have ar2:=arA.set j D3[j-1]! (by omega)
        have c3:=ar2.cell (j-1) (by simp;omega)
        have ssw:=swA.swp j (j-1) (by omega) (by omega)
        unfold f136_l4_t
        (repeat' (first|(with_reducible first|refine brS_mk (fun _=> ?_) (fun _=> ?_)|refine And.intro ?_ ?_)|(simp (disch:=first|omega|simp only [RO]|(simp only [RZ]<;>omega)|fail) only [↓RBp,↓RA,↓reduceIte,Nat.reduceAdd,Nat.reduceMul,Nat.reduceEqDiff,RB,RX,RA2,q1,q2,c1,c2,c3,c_Less,hl,arA.frz,ar2.frz])))
        apply hEA
        ·exact ⟨j+1,_,rfl,by omega,by omega,(swp_size _ _ _).trans hz3,ssw.drew.drew,eA⟩
        ·simp [intOf];omega
       |false=>
        rw [hl,if_pos (by simp)] at eA
        unfold f136_l4_t
        (repeat' (first|(with_reducible first|refine brS_mk (fun _=> ?_) (fun _=> ?_)|refine And.intro ?_ ?_)|(simp (disch:=first|omega|simp only [RO]|(simp only [RZ]<;>omega)|fail) only [↓RBp,↓RA,↓reduceIte,Nat.reduceAdd,Nat.reduceMul,Nat.reduceEqDiff,RB,RX,RA2,q1,q2,c1,c2,c_Less,hl])))
        apply t2 i D3 _ h1 (by omega) hz3 swA.drew (by rw [eA];exact e2)
      ·rw [if_neg hjb] at eA
       unfold f136_l4_t
       (repeat' (first|(with_reducible first|refine brS_mk (fun _=> ?_) (fun _=> ?_)|refine And.intro ?_ ?_)|(simp (disch:=first|omega|simp only [RO]|(simp only [RZ]<;>omega)|fail) only [↓RBp,↓RA,↓reduceIte,Nat.reduceAdd,Nat.reduceMul,Nat.reduceEqDiff,RB,RX,RA2,q1,q2])))
       apply t2 i D3 _ h1 (by omega) hz3 swA (by rw [eA];exact e2)
    ·rw [if_neg hbi] at e2
     simp (disch:=first|omega|simp only [RO]|(simp only [RZ]<;>omega)|fail) only [↓RBp,↓RA,↓reduceIte,Nat.reduceAdd,Nat.reduceMul,Nat.reduceEqDiff,RB,RX,RA2,f136_k4_eq,f136_k4_t,g1,g2]
     apply t2 i D2 _ h1 (by omega) hz2 sw2 e2
   have t3:∀(i:Nat) wB,a+1≤i→i≤b→SW w wB q o D→Go.Sort.scanSorted ltN D b i0=i→f136_k3 K E1 (.slice (some ⟨q,o,none⟩) d.size cap) (.int .i64 ((a:Nat):Int)) (.int .i64 ((b:Nat):Int)) (.int .i64 ((i:Nat):Int)) (.int .i64 ((jj:Nat):Int)) wB:=by
    intro i wB h1 h2 swB ei
    rw [ei] at eT
    by_cases hib:i=b
    ·rw [if_pos hib] at eT
     rw [←eT] at hK
     subst hib
     simp (disch:=first|omega|simp only [RO]|(simp only [RZ]<;>omega)|fail) only [↓RBp,↓RA,↓reduceIte,Nat.reduceAdd,Nat.reduceMul,Nat.reduceEqDiff,RB,RX,RA2,f136_k3_eq,f136_k3_t]
     exact hK _ swB hz
    ·rw [if_neg hib] at eT
     have g1:(b:Int)-(a:Int)=((b-a:Nat):Int):=by omega
     have g2:(i:Int)-1=((i-1:Nat):Int):=by omega
     have g3:(i:Int)-(a:Int)=((i-a:Nat):Int):=by omega
     by_cases h50:b-a<50
     ·rw [if_pos h50] at eT
      rw [←eT] at hK
      simp (disch:=first|omega|simp only [RO]|(simp only [RZ]<;>omega)|fail) only [↓RBp,↓RA,↓reduceIte,Nat.reduceAdd,Nat.reduceMul,Nat.reduceEqDiff,RB,RX,RA2,f136_k3_eq,f136_k3_t,g1]
      exact hK _ swB hz
     ·rw [if_neg h50] at eT
      have arB:=swB.ar
      have c1:=arB.cell i (by omega)
      have c2:=arB.cell (i-1) (by omega)
      have ar2:=arB.set i D[i-1]! (by omega)
      have c3:=ar2.cell (i-1) (by simp;omega)
      have ssw:=swB.swp i (i-1) (by omega) (by omega)
      have hz1:=(swp_size D i (i-1)).trans hz
      by_cases hia:i-a≥2
      ·rw [if_pos hia] at eT
       (repeat' (first|(with_reducible first|refine brS_mk (fun _=> ?_) (fun _=> ?_)|refine And.intro ?_ ?_)|(simp (disch:=first|omega|simp only [RO]|(simp only [RZ]<;>omega)|fail) only [↓RBp,↓RA,↓reduceIte,Nat.reduceAdd,Nat.reduceMul,Nat.reduceEqDiff,RB,RX,RA2,f136_k3_eq,f136_k3_t,g1,g2,g3,c1,c2,c3,arB.frz,ar2.frz])))
       apply f136_l3_rule (I:=fun x w'=>∃(j:Nat) (D2:Array Nat),x= .int .i64 (j:Int)∧j≤i-1∧D2.size=d.size∧SW w w' q o D2∧Go.Sort.shiftDown ltN j D2=Go.Sort.shiftDown ltN (i-1) (Go.Sort.swp D i (i-1))) (μ:=fun x _=>(intOf x).toNat)
       ·exact ⟨i-1,_,rfl,by omega,hz1,ssw.drew,rfl⟩
       ·intros;rename_i wA hIA EA hEA
        obtain ⟨j,D2,rfl,h3,hz2,swA,eA⟩:=hIA
        have arA:=swA.ar
        cases j with
        |zero=>
         have e0:Go.Sort.shiftDown ltN 0 D2=D2:=rfl
         rw [e0] at eA
         unfold f136_l3_t
         (repeat' (first|(with_reducible first|refine brS_mk (fun _=> ?_) (fun _=> ?_)|refine And.intro ?_ ?_)|(simp (disch:=first|omega|simp only [RO]|(simp only [RZ]<;>omega)|fail) only [↓RBp,↓RA,↓reduceIte,Nat.reduceAdd,Nat.reduceMul,Nat.reduceEqDiff,RB,RX,RA2])))
         apply t4 i D2 _ h1 (by omega) hz2 swA (by rw [eA];exact eT)
        |succ j=>
         rw [shiftDown_succ] at eA
         have q1:((j+1:Nat):Int)-1=(j:Int):=by omega
         have d1:=arA.cell (j+1) (by omega)
         have d2:=arA.cell j (by omega)
         cases hl:ltN D2[j+1]! D2[j]! with
         |true=>
          rw [hl,if_neg (by simp)] at eA
          have ar3:=arA.set (j+1) D2[j]! (by omega)
          have d3:=ar3.cell j (by simp;omega)
          have ssw2:=swA.swp (j+1) j (by omega) (by omega)
          unfold f136_l3_t
          (repeat' (first|(with_reducible first|refine brS_mk (fun _=> ?_) (fun _=> ?_)|refine And.intro ?_ ?_)|(simp (disch:=first|omega|simp only [RO]|(simp only [RZ]<;>omega)|fail) only [↓RBp,↓RA,↓reduceIte,Nat.reduceAdd,Nat.reduceMul,Nat.reduceEqDiff,RB,RX,RA2,q1,d1,d2,d3,c_Less,hl,arA.frz,ar3.frz])))
          apply hEA
          ·exact ⟨j,_,rfl,by omega,(swp_size _ _ _).trans hz2,ssw2.drew.drew,eA⟩
          ·simp [intOf]
         |false=>
          rw [hl,if_pos (by simp)] at eA
          unfold f136_l3_t
          (repeat' (first|(with_reducible first|refine brS_mk (fun _=> ?_) (fun _=> ?_)|refine And.intro ?_ ?_)|(simp (disch:=first|omega|simp only [RO]|(simp only [RZ]<;>omega)|fail) only [↓RBp,↓RA,↓reduceIte,Nat.reduceAdd,Nat.reduceMul,Nat.reduceEqDiff,RB,RX,RA2,q1,d1,d2,c_Less,hl])))
          apply t4 i D2 _ h1 (by omega) hz2 swA.drew (by rw [eA];exact eT)
      ·rw [if_neg hia] at eT
       (repeat' (first|(with_reducible first|refine brS_mk (fun _=> ?_) (fun _=> ?_)|refine And.intro ?_ ?_)|(simp (disch:=first|omega|simp only [RO]|(simp only [RZ]<;>omega)|fail) only [↓RBp,↓RA,↓reduceIte,Nat.reduceAdd,Nat.reduceMul,Nat.reduceEqDiff,RB,RX,RA2,f136_k3_eq,f136_k3_t,g1,g2,g3,c1,c2,c3,arB.frz,ar2.frz])))
       apply t4 i _ _ h1 (by omega) hz1 ssw.drew eT
   unfold f136_l1_t
   simp (disch:=first|omega|simp only [RO]|(simp only [RZ]<;>omega)|fail) only [↓RBp,↓RA,↓reduceIte,Nat.reduceAdd,Nat.reduceMul,Nat.reduceEqDiff,RB,RX,RA2]
   apply f136_l2_rule (I:=fun x w'=>∃i:Nat,x= .int .i64 (i:Int)∧a+1≤i∧i≤b∧SW w w' q o D∧Go.Sort.scanSorted ltN D b i=Go.Sort.scanSorted ltN D b i0) (μ:=fun x _=>b+1-(intOf x).toNat)
   ·exact ⟨i0,rfl,b1,b2,sw,rfl⟩
   ·intros;rename_i wA hIA EA hEA
    obtain ⟨i,rfl,h1,h2,swA,eA⟩:=hIA
    rw [scanSorted_eq] at eA
    have arA:=swA.ar
    have q1:(i:Int)-1=((i-1:Nat):Int):=by omega
    have q2:(i:Int)+1=((i+1:Nat):Int):=by omega
    by_cases hib:i<b
    ·have c1:=arA.cell i (by omega)
     have c2:=arA.cell (i-1) (by omega)
     cases hl:ltN D[i]! D[i-1]! with
     |false=>
      rw [if_pos (by simp [hl];omega)] at eA
      unfold f136_l2_t
      (repeat' (first|(with_reducible first|refine brS_mk (fun _=> ?_) (fun _=> ?_)|refine And.intro ?_ ?_)|(simp (disch:=first|omega|simp only [RO]|(simp only [RZ]<;>omega)|fail) only [↓RBp,↓RA,↓reduceIte,Nat.reduceAdd,Nat.reduceMul,Nat.reduceEqDiff,RB,RX,RA2,q1,q2,c1,c2,c_Less,hl])))
      apply hEA
      ·exact ⟨i+1,rfl,by omega,by omega,swA.drew,eA⟩
      ·simp [intOf];omega
     |true=>
      rw [if_neg (by simp [hl])] at eA
      unfold f136_l2_t
      (repeat' (first|(with_reducible first|refine brS_mk (fun _=> ?_) (fun _=> ?_)|refine And.intro ?_ ?_)|(simp (disch:=first|omega|simp only [RO]|(simp only [RZ]<;>omega)|fail) only [↓RBp,↓RA,↓reduceIte,Nat.reduceAdd,Nat.reduceMul,Nat.reduceEqDiff,RB,RX,RA2,q1,q2,c1,c2,c_Less,hl])))
      apply t3 i _ h1 h2 swA.drew eA.symm
    ·rw [if_neg (by simp;omega)] at eA
     unfold f136_l2_t
     (repeat' (first|(with_reducible first|refine brS_mk (fun _=> ?_) (fun _=> ?_)|refine And.intro ?_ ?_)|(simp (disch:=first|omega|simp only [RO]|(simp only [RZ]<;>omega)|fail) only [↓RBp,↓RA,↓reduceIte,Nat.reduceAdd,Nat.reduceMul,Nat.reduceEqDiff,RB,RX,RA2])))
     apply t3 i _ h1 h2 swA.drew eA.symm
  ·have:jj=5:=by omega
   subst this
   have e0:Go.Sort.partialIns ltN a b (5-5) i0 D=(D,false):=rfl
   rw [e0] at eT
   rw [←eT] at hK
   unfold f136_l1_t
   simp (disch:=first|omega|simp only [RO]|(simp only [RZ]<;>omega)|fail) only [↓RBp,↓RA,↓reduceIte,Nat.reduceAdd,Nat.reduceMul,Nat.reduceEqDiff,RB,RX,RA2,f136_k1_eq,f136_k1_t]
   exact hK _ sw hz
end
section
variable {w w':World} {q o cap:Nat} {d:Array Nat}
def pd3 (D:Array Nat) (a b lim pv:Nat) (wb wp:Bool):Array Nat:=
 if (decide (a>0)&& !ltN D[a-1]! D[pv]!)=true then
  match Go.Sort.partitionEqual ltN D a b pv with
  |(mid,d4)=>if _h:a<mid∧mid≤b then Go.Sort.pdq ltN d4 mid b lim wb wp else d4
 else
  match Go.Sort.partition ltN D a b pv with
  |(mid,ap,d4)=>
   if _h:a≤mid∧mid<b then
    if mid-a<b-mid then Go.Sort.pdq ltN (Go.Sort.pdq ltN d4 a mid lim true true) (mid+1) b lim (decide (mid-a≥(b-a)/8)) ap
    else Go.Sort.pdq ltN (Go.Sort.pdq ltN d4 (mid+1) b lim true true) a mid lim (decide (b-mid≥(b-a)/8)) ap
   else d4
def pd2 (D:Array Nat) (a b lim pv:Nat) (hint:Go.Sort.Hint) (wb wp:Bool):Array Nat:=
 let pi:=if wb&&wp&&hint= .increasing then Go.Sort.partialInsertionSort ltN D a b else (D,false)
 if pi.2 then pi.1 else pd3 pi.1 a b lim pv wb wp
def pd1 (D:Array Nat) (a b lim:Nat) (wb wp:Bool):Array Nat:=
 let c:=Go.Sort.choosePivot ltN D a b
 pd2 (if c.2= .decreasing then Go.Sort.reverseRange D a b else D) a b lim (if c.2= .decreasing then (b-1)-(c.1-a) else c.1) (if c.2= .decreasing then Go.Sort.Hint.increasing else c.2) wb wp
theorem pdq_eq (D:Array Nat) (a b lim:Nat) (wb wp:Bool):Go.Sort.pdq ltN D a b lim wb wp=if b-a≤12 then Go.Sort.insertionSort ltN D a b else if lim=0 then Go.Sort.heapSort ltN D a b else pd1 (if !wb then Go.Sort.breakPatterns D a b else D) a b (if !wb then lim-1 else lim) wb wp:=by
 rw [Go.Sort.pdq]
 rfl
theorem k_pdq:∀(N:Nat) (w:World) (d:Array Nat) (a0 b0 lim0:Nat) (K:K1),b0-a0≤N→Ar w q o d→d.size<1099511627776→a0≤b0→b0≤d.size→lim0<1099511627776→(∀w',SW w w' q o (Go.Sort.pdq ltN d a0 b0 lim0 true true)→(Go.Sort.pdq ltN d a0 b0 lim0 true true).size=d.size→K (.tuple #[]) w')→
  callS prog 125 #[.slice (some ⟨q,o,none⟩) d.size cap,.int .i64 (a0:Int),.int .i64 (b0:Int),.int .i64 (lim0:Int)] w K:=by
 intro N
 induction N using Nat.strongRecOn with
 |ind N ih=>
 intro w d a0 b0 lim0 K hN h hd hab hb hlim hK
 refine f125_call _ _ _ _ _ _ ?_
 unfold f125_t
 generalize hT:Go.Sort.pdq ltN d a0 b0 lim0 true true=T at*
 apply f125_l1_rule (I:=fun x1 x2 x3 x8 x9 w'=>∃(a b lim:Nat) (wb wp:Bool) (D:Array Nat),x1= .int .i64 (a:Int)∧x2= .int .i64 (b:Int)∧x3= .int .i64 (lim:Int)∧x8= .bool wb∧x9= .bool wp∧b-a≤b0-a0∧a≤b∧b≤d.size∧lim≤lim0∧D.size=d.size∧SW w w' q o D∧Go.Sort.pdq ltN D a b lim wb wp=T) (μ:=fun x1 x2 _ _ _ _=>(intOf x2).toNat-(intOf x1).toNat)
 ·exact ⟨a0,b0,lim0,true,true,d,rfl,rfl,rfl,rfl,rfl,Nat.le_refl _,hab,hb,Nat.le_refl _,rfl,SW.refl h,hT⟩
 ·intro x1 x2 x3 x8 x9 w1 hI E1 hE
  obtain ⟨a,b,lim0',wb,wp,D,rfl,rfl,rfl,rfl,rfl,hba,hab1,hb1,hl1,hz,sw,eT⟩:=hI
  rw [pdq_eq] at eT
  have g0:(b:Int)-(a:Int)=((b-a:Nat):Int):=by omega
  by_cases h12:b-a≤12
  ·rw [if_pos h12] at eT
   unfold f125_l1_t
   simp (disch:=first|omega|simp only [RO]|(simp only [RZ]<;>omega)|fail) only [↓RBp,↓RA,↓reduceIte,Nat.reduceAdd,Nat.reduceMul,Nat.reduceEqDiff,RB,RX,RA2,g0]
   rw [←hz]
   refine k_ins sw.ar (by omega) a b hab1 (by omega) _ (fun w2 h2 hz2=> ?_)
   rw [eT] at h2 hz2
   exact hK _ (sw.trans h2) (hz2.trans hz)
  ·rw [if_neg h12] at eT
   by_cases hl0:lim0'=0
   ·rw [if_pos hl0] at eT
    subst hl0
    unfold f125_l1_t
    simp (disch:=first|omega|simp only [RO]|(simp only [RZ]<;>omega)|fail) only [↓RBp,↓RA,↓reduceIte,Nat.reduceAdd,Nat.reduceMul,Nat.reduceEqDiff,RB,RX,RA2,g0]
    rw [←hz]
    refine k_heap sw.ar (by omega) a b (by omega) (by omega) _ (fun w2 h2 hz2=> ?_)
    rw [eT] at h2 hz2
    exact hK _ (sw.trans h2) (hz2.trans hz)
   ·rw [if_neg hl0] at eT
    have t3:∀(lim pv:Nat) (D3:Array Nat) wB,lim≤lim0'→a≤pv→pv<b→D3.size=d.size→SW w wB q o D3→pd3 D3 a b lim pv wb wp=T→f125_k3 K E1 (.slice (some ⟨q,o,none⟩) d.size cap) (.int .i64 ((a:Nat):Int)) (.int .i64 ((b:Nat):Int)) (.int .i64 ((lim:Nat):Int)) (.bool wb) (.bool wp) (.int .i64 (((b-a):Nat):Int)) (.int .i64 ((pv:Nat):Int)) wB:=by
     intro lim pv D3 wB hl hp1 hp2 hz3 sw3 e3
     unfold pd3 at e3
     have ar3:=sw3.ar
     have cc:=ar3.cell pv (by omega)
     by_cases ha:a>0
     ·have ga:(a:Int)-1=((a-1:Nat):Int):=by omega
      have ca:=ar3.cell (a-1) (by omega)
      cases hlt:ltN D3[a-1]! D3[pv]! with
      |false=>
       rw [hlt,if_pos (by simp;omega)] at e3
       have kk:=fun K hK=>k_partEq (cap:=cap) (K:=K) sw3.drew.ar (by omega) a b pv (by omega) (by omega) hp1 hp2 hK
       generalize Go.Sort.partitionEqual ltN D3 a b pv=R at*
       obtain ⟨mid,d4⟩:=R
       simp only at e3 kk
       (repeat' (first|(with_reducible first|refine brS_mk (fun _=> ?_) (fun _=> ?_)|refine And.intro ?_ ?_)|(simp (disch:=first|omega|simp only [RO]|(simp only [RZ]<;>omega)|fail) only [↓RBp,↓RA,↓reduceIte,Nat.reduceAdd,Nat.reduceMul,Nat.reduceEqDiff,RB,RX,RA2,f125_k3_eq,f125_k3_t,ga,ca,cc,c_Less,hlt])))
       rw [←hz3]
       refine kk _ (fun w4 h4 hz4 hr4=> ?_)
       rw [dif_pos hr4] at e3
       try rw [hz3]
       apply hE
       ·exact ⟨mid,b,lim,wb,wp,d4,rfl,rfl,rfl,rfl,rfl,by omega,by omega,by omega,by omega,hz4.trans hz3,sw3.drew.trans h4,e3⟩
       ·simp [intOf];omega
      |true=>
       rw [hlt,if_neg (by simp)] at e3
       (repeat' (first|(with_reducible first|refine brS_mk (fun _=> ?_) (fun _=> ?_)|refine And.intro ?_ ?_)|(simp (disch:=first|omega|simp only [RO]|(simp only [RZ]<;>omega)|fail) only [↓RBp,↓RA,↓reduceIte,Nat.reduceAdd,Nat.reduceMul,Nat.reduceEqDiff,RB,RX,RA2,f125_k3_eq,f125_k3_t,ga,ca,cc,c_Less,hlt])))
       have hst:=Go.Sort.partition_holds ltN ltN_swo D3 a b pv hp1 hp2 (by omega)
       have kk:=fun K hK=>k_part (cap:=cap) (K:=K) sw3.drew.ar (by omega) a b pv (by omega) (by omega) hp1 hp2 hK
       generalize Go.Sort.partition ltN D3 a b pv=R at*
       obtain ⟨mid,ap,d4⟩:=R
       simp only at e3 hst kk
       obtain ⟨m1,m2,_⟩:=hst
       rw [dif_pos ⟨m1,m2⟩] at e3
       rw [←hz3]
       refine kk _ (fun w4 h4 hz4=> ?_)
       have g1:(mid:Int)-(a:Int)=((mid-a:Nat):Int):=by omega
       have g2:(b:Int)-(mid:Int)=((b-mid:Nat):Int):=by omega
       have g3:(mid:Int)+1=((mid+1:Nat):Int):=by omega
       have g4:((b-a:Nat):Int)/8=(((b-a)/8:Nat):Int):=by omega
       have hz5:d4.size=d.size:=hz4.trans hz3
       have f1:decide (((b-a:Nat):Int)/8≤(mid:Int)-(a:Int))=decide (mid-a≥(b-a)/8):=by
        have:(((b-a:Nat):Int)/8≤(mid:Int)-(a:Int))=(mid-a≥(b-a)/8):=propext (by omega)
        simp only [this]
       have f2:decide (((b-a:Nat):Int)/8≤(b:Int)-(mid:Int))=decide (b-mid≥(b-a)/8):=by
        have:(((b-a:Nat):Int)/8≤(b:Int)-(mid:Int))=(b-mid≥(b-a)/8):=propext (by omega)
        simp only [this]
       by_cases hmm:mid-a<b-mid
       ·rw [if_pos hmm] at e3
        simp (disch:=first|omega|simp only [RO]|(simp only [RZ]<;>omega)|fail) only [↓RBp,↓RA,↓reduceIte,Nat.reduceAdd,Nat.reduceMul,Nat.reduceEqDiff,RB,RX,RA2,g0,f1,f2,g1,g2,g4]
        rw [hz3,←hz5]
        refine ih (mid-a) (by omega) w4 d4 a mid lim _ (Nat.le_refl _) h4.ar (by omega) m1 (by omega) (by omega) (fun w5 h5 hz6=> ?_)
        try rw [hz5]
        simp (disch:=first|omega|simp only [RO]|(simp only [RZ]<;>omega)|fail) only [↓RBp,↓RA,↓reduceIte,Nat.reduceAdd,Nat.reduceMul,Nat.reduceEqDiff,RB,RX,RA2,g3]
        apply hE
        ·exact ⟨mid+1,b,lim,decide (mid-a≥(b-a)/8),ap,_,rfl,rfl,rfl,by rw [f1],rfl,by omega,by omega,by omega,by omega,hz6.trans hz5,(sw3.drew.trans h4).trans h5,e3⟩
        ·simp [intOf];omega
       ·rw [if_neg hmm] at e3
        simp (disch:=first|omega|simp only [RO]|(simp only [RZ]<;>omega)|fail) only [↓RBp,↓RA,↓reduceIte,Nat.reduceAdd,Nat.reduceMul,Nat.reduceEqDiff,RB,RX,RA2,g0,f1,f2,g1,g2,g3,g4]
        rw [hz3,←hz5]
        refine ih (b-(mid+1)) (by omega) w4 d4 (mid+1) b lim _ (Nat.le_refl _) h4.ar (by omega) (by omega) (by omega) (by omega) (fun w5 h5 hz6=> ?_)
        try rw [hz5]
        apply hE
        ·exact ⟨a,mid,lim,decide (b-mid≥(b-a)/8),ap,_,rfl,rfl,rfl,by rw [f2],rfl,by omega,by omega,by omega,by omega,hz6.trans hz5,(sw3.drew.trans h4).trans h5,e3⟩
        ·simp [intOf];omega
     ·rw [if_neg (by simp [ha])] at e3
      (repeat' (first|(with_reducible first|refine brS_mk (fun _=> ?_) (fun _=> ?_)|refine And.intro ?_ ?_)|(simp (disch:=first|omega|simp only [RO]|(simp only [RZ]<;>omega)|fail) only [↓RBp,↓RA,↓reduceIte,Nat.reduceAdd,Nat.reduceMul,Nat.reduceEqDiff,RB,RX,RA2,f125_k3_eq,f125_k3_t])))
      have hst:=Go.Sort.partition_holds ltN ltN_swo D3 a b pv hp1 hp2 (by omega)
      have kk:=fun K hK=>k_part (cap:=cap) (K:=K) sw3.drew.ar (by omega) a b pv (by omega) (by omega) hp1 hp2 hK
      generalize Go.Sort.partition ltN D3 a b pv=R at*
      obtain ⟨mid,ap,d4⟩:=R
      simp only at e3 hst kk
      obtain ⟨m1,m2,_⟩:=hst
      rw [dif_pos ⟨m1,m2⟩] at e3
      rw [←hz3]
      refine kk _ (fun w4 h4 hz4=> ?_)
      have g1:(mid:Int)-(a:Int)=((mid-a:Nat):Int):=by omega
      have g2:(b:Int)-(mid:Int)=((b-mid:Nat):Int):=by omega
      have g3:(mid:Int)+1=((mid+1:Nat):Int):=by omega
      have g4:((b-a:Nat):Int)/8=(((b-a)/8:Nat):Int):=by omega
      have hz5:d4.size=d.size:=hz4.trans hz3
      have f1:decide (((b-a:Nat):Int)/8≤(mid:Int)-(a:Int))=decide (mid-a≥(b-a)/8):=by
       have:(((b-a:Nat):Int)/8≤(mid:Int)-(a:Int))=(mid-a≥(b-a)/8):=propext (by omega)
       simp only [this]
      have f2:decide (((b-a:Nat):Int)/8≤(b:Int)-(mid:Int))=decide (b-mid≥(b-a)/8):=by
       have:(((b-a:Nat):Int)/8≤(b:Int)-(mid:Int))=(b-mid≥(b-a)/8):=propext (by omega)
       simp only [this]
      by_cases hmm:mid-a<b-mid
      ·rw [if_pos hmm] at e3
       simp (disch:=first|omega|simp only [RO]|(simp only [RZ]<;>omega)|fail) only [↓RBp,↓RA,↓reduceIte,Nat.reduceAdd,Nat.reduceMul,Nat.reduceEqDiff,RB,RX,RA2,g0,f1,f2,g1,g2,g4]
       rw [hz3,←hz5]
       refine ih (mid-a) (by omega) w4 d4 a mid lim _ (Nat.le_refl _) h4.ar (by omega) m1 (by omega) (by omega) (fun w5 h5 hz6=> ?_)
       try rw [hz5]
       simp (disch:=first|omega|simp only [RO]|(simp only [RZ]<;>omega)|fail) only [↓RBp,↓RA,↓reduceIte,Nat.reduceAdd,Nat.reduceMul,Nat.reduceEqDiff,RB,RX,RA2,g3]
       apply hE
       ·exact ⟨mid+1,b,lim,decide (mid-a≥(b-a)/8),ap,_,rfl,rfl,rfl,by rw [f1],rfl,by omega,by omega,by omega,by omega,hz6.trans hz5,(sw3.drew.trans h4).trans h5,e3⟩
       ·simp [intOf];omega
      ·rw [if_neg hmm] at e3
       simp (disch:=first|omega|simp only [RO]|(simp only [RZ]<;>omega)|fail) only [↓RBp,↓RA,↓reduceIte,Nat.reduceAdd,Nat.reduceMul,Nat.reduceEqDiff,RB,RX,RA2,g0,f1,f2,g1,g2,g3,g4]
       rw [hz3,←hz5]
       refine ih (b-(mid+1)) (by omega) w4 d4 (mid+1) b lim _ (Nat.le_refl _) h4.ar (by omega) (by omega) (by omega) (by omega) (fun w5 h5 hz6=> ?_)
       try rw [hz5]
       apply hE
       ·exact ⟨a,mid,lim,decide (b-mid≥(b-a)/8),ap,_,rfl,rfl,rfl,by rw [f2],rfl,by omega,by omega,by omega,by omega,hz6.trans hz5,(sw3.drew.trans h4).trans h5,e3⟩
       ·simp [intOf];omega
    have t2:∀(lim pv:Nat) (hh:Go.Sort.Hint) (D2:Array Nat) wB,lim≤lim0'→a≤pv→pv<b→D2.size=d.size→SW w wB q o D2→pd2 D2 a b lim pv hh wb wp=T→f125_k2 K E1 (.slice (some ⟨q,o,none⟩) d.size cap) (.int .i64 ((a:Nat):Int)) (.int .i64 ((b:Nat):Int)) (.int .i64 ((lim:Nat):Int)) (.bool wb) (.bool wp) (.int .i64 (((b-a):Nat):Int)) (.int .i64 ((pv:Nat):Int)) (.int .i64 (hintN hh)) wB:=by
     intro lim pv hh D2 wB hl hp1 hp2 hz2 sw2 e2
     unfold pd2 at e2
     have nopi:(wb&&wp&&decide (hh= .increasing))=false→pd3 D2 a b lim pv wb wp=T:=by
      intro hc
      simpa [hc] using e2
     cases hwb:wb with
     |false=>
      rw [hwb] at nopi t3
      simp (disch:=first|omega|simp only [RO]|(simp only [RZ]<;>omega)|fail) only [↓RBp,↓RA,↓reduceIte,Nat.reduceAdd,Nat.reduceMul,Nat.reduceEqDiff,RB,RX,RA2,f125_k2_eq,f125_k2_t]
      apply t3 lim pv D2 _ hl hp1 hp2 hz2 sw2 (nopi (by simp))
     |true=>
      cases hwp:wp with
      |false=>
       rw [hwb,hwp] at nopi t3
       simp (disch:=first|omega|simp only [RO]|(simp only [RZ]<;>omega)|fail) only [↓RBp,↓RA,↓reduceIte,Nat.reduceAdd,Nat.reduceMul,Nat.reduceEqDiff,RB,RX,RA2,f125_k2_eq,f125_k2_t]
       apply t3 lim pv D2 _ hl hp1 hp2 hz2 sw2 (nopi (by simp))
      |true=>
       rw [hwb,hwp] at nopi t3 e2
       by_cases hi:hh= .increasing
       ·have e2':(if (Go.Sort.partialInsertionSort ltN D2 a b).2=true then (Go.Sort.partialInsertionSort ltN D2 a b).1 else pd3 (Go.Sort.partialInsertionSort ltN D2 a b).1 a b lim pv true true)=T:=by simpa [hi] using e2
        have kk:=fun K hK=>k_pis (cap:=cap) (K:=K) sw2.ar (by omega) a b (by omega) (by omega) hK
        generalize Go.Sort.partialInsertionSort ltN D2 a b=R at*
        obtain ⟨d5,r5⟩:=R
        simp only at e2' kk
        subst hi
        have hn1:hintN .increasing=1:=rfl
        simp (disch:=first|omega|simp only [RO]|(simp only [RZ]<;>omega)|fail) only [↓RBp,↓RA,↓reduceIte,Nat.reduceAdd,Nat.reduceMul,Nat.reduceEqDiff,RB,RX,RA2,f125_k2_eq,f125_k2_t,hn1]
        rw [←hz2]
        refine kk _ (fun w4 h4 hz4=> ?_)
        try rw [hz2]
        cases r5 with
        |true=>
         rw [if_pos rfl] at e2'
         rw [←e2'] at hK
         simp (disch:=first|omega|simp only [RO]|(simp only [RZ]<;>omega)|fail) only [↓RBp,↓RA,↓reduceIte,Nat.reduceAdd,Nat.reduceMul,Nat.reduceEqDiff,RB,RX,RA2]
         exact hK _ (sw2.trans h4) (hz4.trans hz2)
        |false=>
         rw [if_neg (by simp)] at e2'
         simp (disch:=first|omega|simp only [RO]|(simp only [RZ]<;>omega)|fail) only [↓RBp,↓RA,↓reduceIte,Nat.reduceAdd,Nat.reduceMul,Nat.reduceEqDiff,RB,RX,RA2]
         apply t3 lim pv d5 _ hl hp1 hp2 (hz4.trans hz2) (sw2.trans h4) e2'
       ·have hn1:¬hintN hh=1:=by cases hh<;>simp_all [hintN]
        simp (disch:=first|omega|simp only [RO]|(simp only [RZ]<;>omega)|fail) only [↓RBp,↓RA,↓reduceIte,Nat.reduceAdd,Nat.reduceMul,Nat.reduceEqDiff,RB,RX,RA2,f125_k2_eq,f125_k2_t,dec_false hn1]
        apply t3 lim pv D2 _ hl hp1 hp2 hz2 sw2 (nopi (by simp [hi]))
    have t1:∀(lim:Nat) (D1:Array Nat) wB,lim≤lim0'→D1.size=d.size→SW w wB q o D1→pd1 D1 a b lim wb wp=T→f125_k1 K E1 (.slice (some ⟨q,o,none⟩) d.size cap) (.int .i64 ((a:Nat):Int)) (.int .i64 ((b:Nat):Int)) (.int .i64 ((lim:Nat):Int)) (.bool wb) (.bool wp) (.int .i64 (((b-a):Nat):Int)) wB:=by
     intro lim D1 wB hl hz1 sw1 e1
     unfold pd1 at e1
     have hcp:=Go.Sort.choosePivot_holds ltN D1 a b (by omega)
     have kk:=fun K hK=>k_choose (cap:=cap) (K:=K) sw1.ar (by omega) a b (by omega) (by omega) hK
     generalize Go.Sort.choosePivot ltN D1 a b=C at*
     obtain ⟨pv,hh⟩:=C
     simp only at e1 hcp kk
     simp (disch:=first|omega|simp only [RO]|(simp only [RZ]<;>omega)|fail) only [↓RBp,↓RA,↓reduceIte,Nat.reduceAdd,Nat.reduceMul,Nat.reduceEqDiff,RB,RX,RA2,f125_k1_eq,f125_k1_t]
     rw [←hz1]
     refine kk _ (fun w2 h2=> ?_)
     try rw [hz1]
     have sw2:SW w w2 q o D1:=⟨sw1.ar.frm (Frm.of_ext (F:=fun _=>False) h2) (fun h=>h),sw1.frm.ext h2⟩
     by_cases hdec:hh= .decreasing
     ·subst hdec
      simp only [if_true] at e1
      have hn1:hintN .decreasing=2:=rfl
      have g1:(b:Int)-1=((b-1:Nat):Int):=by omega
      have g2:(pv:Int)-(a:Int)=((pv-a:Nat):Int):=by omega
      have g3:((b-1:Nat):Int)-((pv-a:Nat):Int)=((b-1-(pv-a):Nat):Int):=by omega
      simp (disch:=first|omega|simp only [RO]|(simp only [RZ]<;>omega)|fail) only [↓RBp,↓RA,↓reduceIte,Nat.reduceAdd,Nat.reduceMul,Nat.reduceEqDiff,RB,RX,RA2,hn1]
      rw [←hz1]
      refine k_reverse sw2.ar (by omega) a b (by omega) (by omega) _ (fun w3 h3 hz3=> ?_)
      try rw [hz1]
      simp (disch:=first|omega|simp only [RO]|(simp only [RZ]<;>omega)|fail) only [↓RBp,↓RA,↓reduceIte,Nat.reduceAdd,Nat.reduceMul,Nat.reduceEqDiff,RB,RX,RA2,g1,g2,g3]
      have tt:=t2 lim (b-1-(pv-a)) .increasing (Go.Sort.reverseRange D1 a b) w3 hl (by omega) (by omega) (hz3.trans hz1) (sw2.trans h3) e1
      rw [show hintN .increasing=1 from rfl] at tt
      apply tt
     ·simp only [hdec,if_false] at e1
      have hn1:¬hintN hh=2:=by cases hh<;>simp_all [hintN]
      simp (disch:=first|omega|simp only [RO]|(simp only [RZ]<;>omega)|fail) only [↓RBp,↓RA,↓reduceIte,Nat.reduceAdd,Nat.reduceMul,Nat.reduceEqDiff,RB,RX,RA2,dec_false hn1]
      apply t2 lim pv hh D1 _ hl hcp.1 hcp.2 hz1 sw2 e1
    have gl:(lim0':Int)-1=((lim0'-1:Nat):Int):=by omega
    unfold f125_l1_t
    (repeat' (first|(with_reducible first|refine brS_mk (fun _=> ?_) (fun _=> ?_)|refine And.intro ?_ ?_)|(simp (disch:=first|omega|simp only [RO]|(simp only [RZ]<;>omega)|fail) only [↓RBp,↓RA,↓reduceIte,Nat.reduceAdd,Nat.reduceMul,Nat.reduceEqDiff,RB,RX,RA2,g0])))
    ·rename_i hw
     have i1:(if (!wb)=true then Go.Sort.breakPatterns D a b else D)=D:=if_neg (by simp [hw])
     have i2:(if (!wb)=true then lim0'-1 else lim0')=lim0':=if_neg (by simp [hw])
     rw [i1,i2] at eT
     apply t1 lim0' D _ (Nat.le_refl _) hz sw eT
    ·rename_i hw
     have hw':wb=false:=by simpa using hw
     have i1:(if (!wb)=true then Go.Sort.breakPatterns D a b else D)=Go.Sort.breakPatterns D a b:=if_pos (by simp [hw'])
     have i2:(if (!wb)=true then lim0'-1 else lim0')=lim0'-1:=if_pos (by simp [hw'])
     rw [i1,i2] at eT
     rw [←hz]
     refine k_break sw.ar (by omega) a b (by omega) (by omega) _ (fun w2 h2 hz2=> ?_)
     try rw [hz]
     simp (disch:=first|omega|simp only [RO]|(simp only [RZ]<;>omega)|fail) only [↓RBp,↓RA,↓reduceIte,Nat.reduceAdd,Nat.reduceMul,Nat.reduceEqDiff,RB,RX,RA2,gl,g0]
     apply t1 (lim0'-1) _ _ (by omega) (hz2.trans hz) (sw.trans h2) eT
end
end Go.Proofs.YtifpinhjpbgnoaaGreatDoor
