/-
  Part A of the proof in YtjegifbmbianiaaGreatDoorRaRowRs.
-/
import Derived.Test.YtjegifbmbianiaaGreatDoorRa1
import Derived.Test.YtjegifbmbianiaaGreatDoorRa4
import Derived.Test.YtjegifbmbianiaaGreatDoorRows
import Derived.JoinedOf
import Derived.KernelRfl
import GoSem.ClaimGoes
import GoSem.ClaimSevenParts
set_option linter.unusedSimpArgs false
set_option linter.unusedVariables false
set_option maxHeartbeats 20000000
set_option maxRecDepth 100000
open Go.Proofs.Tryz (prog)
open Go.RowKit (intOf)
namespace Go.Proofs.YtjegifbmbianiaaGreatDoor
open Go Go.Sh
noncomputable def f3_u:Code×Dec:=((Tryz.f3.body).getD .skip,(.s .o (.s .o (.s .o (.s .o (.s .o (.s .o (.s .o (.x 1201 .o (.s .o (.x 1169 .o (.s .o (.s .o (.x 17 (.s .o (.b (.l [123] 5316911983139663491615228241121383441 348438509903074707259512367553648405782592 .o))) .o))))))))))))))
abbrev f3_e (K:K1):KF:=endK prog Tryz.f3.results.toList K
def f3_k1_o (K:K1):KF:=fun fr w=>∀σ,cP (pr (pr (pr (pr (pr (pr (pr (pr f3_u)))))))) (f3_e K) (f3_e K) nX (mixF 1201 σ 0 fr) w
def f3_k1 (K:K1) (x0 x4 x5 x7 x10:Value) (w:World):Prop:=f3_k1_o K (fz 151 0 [(0,x0),(4,x4),(5,x5),(7,x7),(10,x10)]) w
def f3_k2_o (K:K1):KF:=fun fr w=>∀σ,cP (pr (pr (pr (pr (pr (pr (pr (pr (pr (pr f3_u)))))))))) (f3_e K) (f3_e K) nX (mixF 1169 σ 0 fr) w
def f3_k2 (K:K1) (x0 x4 x7 x10:Value) (w:World):Prop:=f3_k2_o K (fz 151 0 [(0,x0),(4,x4),(7,x7),(10,x10)]) w
def f3_k3_o (K:K1):KF:=fun fr w=>∀σ,cP (pr (pr (pr (pr (pr (pr (pr (pr (pr (pr (pr (pr (pr f3_u))))))))))))) (f3_e K) (f3_e K) nX (mixF 17 σ 0 fr) w
def f3_k3 (K:K1) (x0 x4:Value) (w:World):Prop:=f3_k3_o K (fz 151 0 [(0,x0),(4,x4)]) w
def f3_l1 (K:K1) (x0 x4 x10 x12 x122 x123:Value) (w:World):Prop:=loopT [123] 5316911983139663491615228241121383441 (fun E=>cP (pl (pl (pr (pl (pr (pr (pr (pr (pr (pr (pr (pr (pr (pr (pr (pr f3_u)))))))))))))))) E (f3_e K) (exB 0 (f3_k3_o K) nX)) (fz 151 0 [(0,x0),(4,x4),(10,x10),(12,x12),(122,x122),(123,x123)]) w
def f3_k1_t (x0 x4 x5 x7 x10:Value) (K:K1) (w:World):Prop:=
 ldS prog 24 x5 w fun t66 w=>
 callS prog 12 (pA #[x7,x0,t66]) w fun t67 w=>
 ev prog (binM .eql 30 (.tmp 68) (.const (.int .i64 0)) t67 (.int .i64 0)) w fun t69 w=>
 cndS t69 (
 ldS prog 24 x5 w fun t70 w=>
 stS prog 24 x10 t70 w fun w=>
 ev prog (Instr.fieldAt 24 x5 0) w fun t71 w=>
 ldS prog 22 t71 w fun t72 w=>
 bltS prog .append #[22,22] 22 #[true,false] (pA #[(.slice none 0 0),t72]) w fun t73 w=>
 ev prog (Instr.fieldAt 24 x10 0) w fun t74 w=>
 stS prog 22 t74 t73 w fun w=>
 f3_k2 K x0 x4 x7 x10 w) (
 f3_k2 K x0 x4 x7 x10 w)
theorem f3_k1_eq (K:K1) (x0 x4 x5 x7 x10:Value) (w:World):f3_k1 K x0 x4 x5 x7 x10 w=f3_k1_t x0 x4 x5 x7 x10 K w:=cutE fun σ=>by kernel_rfl
def f3_k2_t (x0 x4 x7 x10:Value) (K:K1) (w:World):Prop:=
 callS prog 13 (pA #[x7,x0]) w fun t77 w=>
 ev prog (Instr.alloc 24 true (.tuple #[])) w fun t12 w=>
 stS prog 24 t12 t77 w fun w=>
 ev prog (Instr.fieldAt 24 t12 0) w fun t78 w=>
 ldS prog 22 t78 w fun t79 w=>
 bltS prog .len #[22] 3 #[false] #[t79] w fun t80 w=>
 ev prog (Instr.fieldAt 24 x10 0) w fun t81 w=>
 ldS prog 22 t81 w fun t82 w=>
 bltS prog .len #[22] 3 #[false] #[t82] w fun t83 w=>
 ev prog (binM .neq 3 (.tmp 80) (.tmp 83) t80 t83) w fun t84 w=>
 gd t84 false (fun k=>ev prog (Instr.fieldAt 24 t12 1) w k) w fun t86 w=>
 gd t84 false (fun k=>ldS prog 4 t86 w k) w fun t87 w=>
 gd t84 false (fun k=>ev prog (Instr.fieldAt 24 x10 1) w k) w fun t88 w=>
 gd t84 false (fun k=>ldS prog 4 t88 w k) w fun t89 w=>
 gd t84 false (fun k=>ev prog (binM .neq 4 (.tmp 87) (.tmp 89) t87 t89) w k) w fun t90 w=>
 pickS t84 (.bool true) t90 w fun t91 w=>
 gd t91 false (fun k=>ev prog (Instr.fieldAt 24 t12 2) w k) w fun t93 w=>
 gd t91 false (fun k=>ldS prog 3 t93 w k) w fun t94 w=>
 gd t91 false (fun k=>ev prog (Instr.fieldAt 24 x10 2) w k) w fun t95 w=>
 gd t91 false (fun k=>ldS prog 3 t95 w k) w fun t96 w=>
 gd t91 false (fun k=>ev prog (binM .neq 3 (.tmp 94) (.tmp 96) t94 t96) w k) w fun t97 w=>
 pickS t91 (.bool true) t97 w fun t98 w=>
 gd t98 false (fun k=>ev prog (Instr.fieldAt 24 t12 3) w k) w fun t100 w=>
 gd t98 false (fun k=>ldS prog 4 t100 w k) w fun t101 w=>
 gd t98 false (fun k=>ev prog (Instr.fieldAt 24 x10 3) w k) w fun t102 w=>
 gd t98 false (fun k=>ldS prog 4 t102 w k) w fun t103 w=>
 gd t98 false (fun k=>ev prog (binM .neq 4 (.tmp 101) (.tmp 103) t101 t103) w k) w fun t104 w=>
 pickS t98 (.bool true) t104 w fun t105 w=>
 gd t105 false (fun k=>ev prog (Instr.fieldAt 24 t12 4) w k) w fun t107 w=>
 gd t105 false (fun k=>ldS prog 3 t107 w k) w fun t108 w=>
 gd t105 false (fun k=>ev prog (Instr.fieldAt 24 x10 4) w k) w fun t109 w=>
 gd t105 false (fun k=>ldS prog 3 t109 w k) w fun t110 w=>
 gd t105 false (fun k=>ev prog (binM .neq 3 (.tmp 108) (.tmp 110) t108 t110) w k) w fun t111 w=>
 pickS t105 (.bool true) t111 w fun t112 w=>
 gd t112 false (fun k=>ev prog (Instr.fieldAt 24 t12 5) w k) w fun t114 w=>
 gd t112 false (fun k=>ldS prog 3 t114 w k) w fun t115 w=>
 gd t112 false (fun k=>ev prog (Instr.fieldAt 24 x10 5) w k) w fun t116 w=>
 gd t112 false (fun k=>ldS prog 3 t116 w k) w fun t117 w=>
 gd t112 false (fun k=>ev prog (binM .neq 3 (.tmp 115) (.tmp 117) t115 t117) w k) w fun t118 w=>
 pickS t112 (.bool true) t118 w fun t119 w=>
 cndS t119 (
 K (.bool false) w) (
 ev prog (Instr.fieldAt 24 x10 0) w fun t120 w=>
 ldS prog 22 t120 w fun t121 w=>
 bltS prog .len #[22] 3 #[false] #[t121] w fun t122 w=>
 f3_l1 K x0 x4 x10 t12 t122 (.int .i64 0) w)
theorem f3_k2_eq (K:K1) (x0 x4 x7 x10:Value) (w:World):f3_k2 K x0 x4 x7 x10 w=f3_k2_t x0 x4 x7 x10 K w:=cutE fun σ=>by kernel_rfl
def f3_k3_t (x0 x4:Value) (K:K1) (w:World):Prop:=
 ldS prog 24 x4 w fun t140 w=>
 callS prog 12 (pA #[(.pointer none),x0,t140]) w fun t141 w=>
 ev prog (binM .eql 30 (.tmp 141) (.const (.int .i64 5)) t141 (.int .i64 5)) w fun t142 w=>
 gd t142 true (fun k=>k (.pointer none) w) w fun t144 w=>
 gd t142 true (fun k=>k x0 w) w fun t145 w=>
 gd t142 true (fun k=>callS prog 13 (pA #[t144,t145]) w k) w fun t146 w=>
 gd t142 true (fun k=>ev prog (Instr.field 24 t146 0) w k) w fun t147 w=>
 gd t142 true (fun k=>bltS prog .len #[22] 3 #[false] #[t147] w k) w fun t148 w=>
 gd t142 true (fun k=>ev prog (binM .eql 3 (.tmp 148) (.const (.int .i64 0)) t148 (.int .i64 0)) w k) w fun t149 w=>
 pickS t142 t149 (.bool false) w fun t150 w=>
 K t150 w
theorem f3_k3_eq (K:K1) (x0 x4:Value) (w:World):f3_k3 K x0 x4 w=f3_k3_t x0 x4 K w:=cutE fun σ=>by kernel_rfl
def f3_l1_t (x0 x4 x10 x12 x122 x123:Value) (K:K1) (E1:VP1) (w:World):Prop:=
 ev prog (binM .lss 3 (.tmp 123) (.tmp 122) x123 x122) w fun t124 w=>
 cndS t124 (
 rd prog (Instr.fieldAt 24 x12 0) w.drew fun t126=>
 ldR prog 22 t126 w.drew fun t127=>
 rd prog (Instr.indexAt 22 t127 x123) w.drew fun t129=>
 ldR prog 3 t129 w.drew fun t130=>
 rd prog (Instr.fieldAt 24 x10 0) w.drew fun t131=>
 ldR prog 22 t131 w.drew fun t132=>
 rd prog (Instr.indexAt 22 t132 x123) w.drew fun t134=>
 ldR prog 3 t134 w.drew fun t135=>
 rd prog (binM .neq 3 (.tmp 130) (.tmp 135) t130 t135) w.drew fun t136=>
 cndS t136 (
 K (.bool false) w.drew) (
 ev prog (binM .add 3 (.tmp 123) (.const (.int .i64 1)) x123 (.int .i64 1)) w.drew fun t137 w=>
 E1 t137 w)) (
 f3_k3 K x0 x4 w)
theorem f3_l1_rule (x0 x4 x10 x12 x122 x123:Value) (K:K1) (w:World) (I:VP1) (μ:Value→World→Nat) (h0:I x123 w)
  (hr:∀(x123:Value) (w:World),I x123 w→∀E1:VP1,(∀(y123:Value) (w':World),I y123 w'→μ y123 w'<μ x123 w→E1 y123 w')→f3_l1_t x0 x4 x10 x12 x122 x123 K E1 w):f3_l1 K x0 x4 x10 x12 x122 x123 w:=
 ⟨I,μ,h0,fun σ w hI E hE=>cast kR (hr (σ 123) w hI E hE)⟩
def f3_t (x0 x1 x2:Value) (K:K1) (w:World):Prop:=
 ev prog (Instr.box 24 x1) w fun t4 w=>
 ev prog (Instr.box 24 x2) w fun t5 w=>
 callS prog 9 (pA #[]) w fun t15 w=>
 ev prog (Op.unary .not t15) w fun t16 w=>
 gd t16 false (fun k=>ev prog (Instr.fieldAt 24 t4 0) w k) w fun t18 w=>
 gd t16 false (fun k=>ldS prog 22 t18 w k) w fun t19 w=>
 gd t16 false (fun k=>bltS prog .len #[22] 3 #[false] #[t19] w k) w fun t20 w=>
 gd t16 false (fun k=>ev prog (binM .gtr 3 (.tmp 20) (.const (.int .i64 100)) t20 (.int .i64 100)) w k) w fun t21 w=>
 pickS t16 (.bool true) t21 w fun t22 w=>
 gd t22 false (fun k=>ev prog (Instr.fieldAt 24 t5 0) w k) w fun t24 w=>
 gd t22 false (fun k=>ldS prog 22 t24 w k) w fun t25 w=>
 gd t22 false (fun k=>bltS prog .len #[22] 3 #[false] #[t25] w k) w fun t26 w=>
 gd t22 false (fun k=>ev prog (binM .gtr 3 (.tmp 26) (.const (.int .i64 100)) t26 (.int .i64 100)) w k) w fun t27 w=>
 pickS t22 (.bool true) t27 w fun t28 w=>
 cndS t28 (
 callS prog 9 (pA #[]) w fun t29 w=>
 K t29 w) (
 callS prog 10 (pA #[]) w fun t30 w=>
 ev prog (binM .geq 5 (.tmp 31) (.const (.int .u8 ((1:Nat):Int))) x0 (.int .u8 ((1:Nat):Int))) w fun t32 w=>
 gd t32 true (fun k=>k x0 w) w fun t34 w=>
 gd t32 true (fun k=>ev prog (binM .leq 5 (.tmp 34) (.const (.int .u8 ((127:Nat):Int))) t34 (.int .u8 ((127:Nat):Int))) w k) w fun t35 w=>
 pickS t32 t35 (.bool false) w fun t36 w=>
 gd t36 true (fun k=>ldS prog 24 t4 w k) w fun t38 w=>
 gd t36 true (fun k=>callS prog 11 (pA #[t38]) w k) w fun t39 w=>
 pickS t36 t39 (.bool false) w fun t40 w=>
 ldS prog 24 t4 w fun t43 w=>
 callS prog 12 (pA #[t30,x0,t43]) w fun t44 w=>
 ev prog (binM .eql 30 (.tmp 45) (.const (.int .i64 0)) t44 (.int .i64 0)) w fun t46 w=>
 ev prog (binM .neq 4 (.tmp 46) (.tmp 47) t46 t40) w fun t48 w=>
 gd t48 false (fun k=>k t44 w) w fun t50 w=>
 gd t48 false (fun k=>ev prog (binM .neq 30 (.tmp 50) (.const (.int .i64 0)) t50 (.int .i64 0)) w k) w fun t51 w=>
 gd t48 false (fun k=>k t51 w) w fun t52 w=>
 gd t52 true (fun k=>k t44 w) w fun t53 w=>
 gd t52 true (fun k=>ev prog (binM .neq 30 (.tmp 53) (.const (.int .i64 1)) t53 (.int .i64 1)) w k) w fun t54 w=>
 gd t48 false (fun k=>pickS t52 t54 (.bool false) w k) w fun t55 w=>
 pickS t48 (.bool true) t55 w fun t56 w=>
 cndS t56 (
 K (.bool false) w) (
 ev prog (Instr.build 24 #[]) w fun t57 w=>
 ev prog (Instr.alloc 24 true (.tuple #[])) w fun t10 w=>
 stS prog 24 t10 t57 w fun w=>
 cndS t40 (
 ldS prog 24 t4 w fun t59 w=>
 stS prog 24 t10 t59 w fun w=>
 ev prog (Instr.fieldAt 24 t4 0) w fun t60 w=>
 ldS prog 22 t60 w fun t61 w=>
 bltS prog .append #[22,22] 22 #[true,false] (pA #[(.slice none 0 0),t61]) w fun t62 w=>
 ev prog (Instr.fieldAt 24 t10 0) w fun t63 w=>
 stS prog 22 t63 t62 w fun w=>
 f3_k1 K x0 t4 t5 t30 t10 w) (
 f3_k1 K x0 t4 t5 t30 t10 w)))
theorem f3_call (x0 x1 x2:Value) (K:K1) (w:World) (h:f3_t x0 x1 x2 K w):callS prog 3 #[x0,x1,x2] w K:=
 call_of_txt (args:= [x0,x1,x2]) mixed Tryz.func3 f3_u.2 kR (cast kR h)
section
variable {w:World} {m:Nat} {x:Value} {s:Shp}
theorem rds_own2 {F:Nat→Prop} {w w':World} {m:Nat} {v:Value} {L:List Value} (h:RdS m w v L) (e:Frm F w w') (hF:∀b,v.ownBlock=some b→b<m→¬F b):RdS m w' v L:=by
 obtain ⟨a,cap,hv,h⟩:=h
 refine ⟨a,cap,hv,?_⟩
 rcases h with h|⟨b,o,ha,hb,hc⟩
 ·exact .inl h
 ·refine .inr ⟨b,o,ha,hb,fun j u hj=> ?_⟩
  have h1:=hc j u hj
  rw [e.cell b _ (lt_of_cell h1) (hF b (by rw [hv,ha];rfl) hb)];exact h1
theorem rds_ext {w':World} {v:Value} {L:List Value} (h:RdS w.heap.size w v L) (e:Ext w w'):RdS w'.heap.size w' v L:=rds_mono (h.ext e) e.size
theorem rs_l1 {gb cb ab k cu cz:Nat} {p q:Option Addr} {l:List Int} {xa:Value} {sa:Shp} (hG0:w.cell? ⟨gb,0,none⟩=some (.slice p l.length cu)) (hC0:w.cell? ⟨cb,0,none⟩=some (.slice q l.length cz))
  (hu:RdS w.heap.size w (.slice p l.length cu) (i64L l)) (hz:RdS w.heap.size w (.slice q l.length cz) (i64L l)) (hl:l.length≤100) (hA:At w ab 0 6 (sa.cs xa)) (ox:isOne xa=true) (K:K1) (hK:∀w',Ext w w'→K (.bool true) w'):
  f3_l1 K (.int .u8 (k:Int)) (.pointer (some ⟨ab,0,none⟩)) (.pointer (some ⟨cb,0,none⟩)) (.pointer (some ⟨gb,0,none⟩)) (.int .i64 ((l.length:Nat):Int)) (.int .i64 0) w:=by
 apply f3_l1_rule (I:=fun y w'=>∃i:Nat,y= .int .i64 (i:Int)∧i≤l.length∧Ext w w') (μ:=fun y _=>l.length-(intOf y).toNat)
 ·exact ⟨0,rfl,by omega,Ext.refl _⟩
 ·intros;rename_i w2 hI E1 hE
  obtain ⟨i,rfl,hi,e2⟩:=hI
  have g0:=e2.cell_some hG0
  have c0:=e2.cell_some hC0
  unfold f3_l1_t
  by_cases hil:i<l.length
  ·obtain ⟨b1,o1,cp1,ev1,cv1⟩:=hu.get (i64L_get hil)
   obtain ⟨b2,o2,cp2,ev2,cv2⟩:=hz.get (i64L_get hil)
   simp only [Value.slice.injEq] at ev1 ev2
   obtain ⟨rfl,_,rfl⟩:=ev1
   obtain ⟨rfl,_,rfl⟩:=ev2
   have j1:=e2.cell_some cv1
   have j2:=e2.cell_some cv2
   have zl:(i:Int)<(l.length:Int):=oM
   simp (disch:=try exact dZ) only [↓RBp,↓RA,↓reduceIte,Nat.reduceAdd,Nat.reduceMul,Nat.reduceEqDiff,RB,RX,RA2,↓R3.RT,g0,c0,j1,j2,zl]
   apply hE
   ·exact ⟨i+1,by push_cast;rfl,by omega,e2.trans xZ⟩
   ·simp only [intOf];omega
  ·have zl:¬(i:Int)<(l.length:Int):=oM
   simp (disch:=try exact dZ) only [↓RBp,↓RA,↓reduceIte,Nat.reduceAdd,Nat.reduceMul,Nat.reduceEqDiff,RB,RX,RA2,↓R3.RT,zl]
   rw [f3_k3_eq]
   unfold f3_k3_t
   refine k_ld6 (j:=0) (by kernel_rfl) (by kernel_rfl) (hA.ext e2) (show 0+6≤6 by decide) _ ?_
   show callS prog 12 (pA #[.pointer none,.int .u8 (k:Int),shV xa sa]) w2 _
   rw [pA_eq]
   refine k_AddNil _ xa sa ox _ (fun w3 e3=> ?_)
   simp (disch:=try exact dZ) only [↓RBp,↓RA,↓reduceIte,Nat.reduceAdd,Nat.reduceMul,Nat.reduceEqDiff,RB,RX,RA2,↓R3.RT]
   refine k_GetNil _ _ (fun w4 e4=> ?_)
   simp (disch:=try exact dZ) only [↓RBp,↓RA,↓reduceIte,Nat.reduceAdd,Nat.reduceMul,Nat.reduceEqDiff,RB,RX,RA2,↓R3.RT]
   exact hK _ (e2.trans (e3.trans (Ext.trans xZ e4)))
theorem rs_k2 {b cb ab k:Nat} {g:Nat→Value} {y z:Value} {xa:Value} {sa:Shp} (hS:At w b 0 768 g) (hk:k<256) (hg:k<128→∀j,j<6→g (k*6+j)=s.cs y j) (hbig:127<k→s=⟨[],false,0,false,0,0⟩)
  (hy:RdS w.heap.size w y (i64L s.l)) (hl:s.l.length≤100) (hW:At w cb 0 6 (s.cs z)) (hz:RdS w.heap.size w z (i64L s.l)) (hA:At w ab 0 6 (sa.cs xa)) (ox:isOne xa=true) (K:K1) (hK:∀w',Ext w w'→K (.bool true) w'):
  f3_k2 K (.int .u8 (k:Int)) (.pointer (some ⟨ab,0,none⟩)) (.pointer (some ⟨b,0,none⟩)) (.pointer (some ⟨cb,0,none⟩)) w:=by
 rw [f3_k2_eq]
 unfold f3_k2_t
 have fin:∀(u:Value) w2,Ext w w2→RdS w2.heap.size w2 u (i64L s.l)→
   (ev prog (Instr.alloc 24 true (.tuple #[])) w2 fun t12 w3=>stS prog 24 t12 (shV u s) w3 fun w4=>True)→True:=fun _ _ _ _ _=>trivial
 have get:∀(C:K1),(∀u w2,Ext w w2→RdS w2.heap.size w2 u (i64L s.l)→C (shV u s) w2)→callS prog 13 #[.pointer (some ⟨b,0,none⟩),.int .u8 (k:Int)] w C:=fun C hC=>by
  by_cases hk2:k<128
  ·exact k_Get (s:=s) hS hk2 (hg hk2) hy hl (Nat.le_refl _) C (fun u w2 e h=>hC u w2 e h)
  ·refine k_GetBig _ oM C (fun w2 e=> ?_)
   rw [hbig oM] at hC
   exact hC _ w2 e (RdS.nil _ _)
 refine get _ (fun u w2 e2 hu=> ?_)
 clear get fin
 have hW2:=hW.ext e2
 have hz2:=rds_ext hz e2
 have hA2:=hA.ext e2
 obtain ⟨p,cu,rfl,hu'⟩:=id hu
 obtain ⟨q,cz,rfl,hz'⟩:=id hz2
 have c0:w2.cell? ⟨cb,0,none⟩=some (.slice q (i64L s.l).length cz):=hW2.cell (i:=0) (by decide)
 have c1:w2.cell? ⟨cb,1,none⟩=some (.bool s.a):=hW2.cell (i:=1) (by decide)
 have c2:w2.cell? ⟨cb,2,none⟩=some (.int .i64 s.f):=hW2.cell (i:=2) (by decide)
 have c3:w2.cell? ⟨cb,3,none⟩=some (.bool s.li):=hW2.cell (i:=3) (by decide)
 have c4:w2.cell? ⟨cb,4,none⟩=some (.int .i64 s.o):=hW2.cell (i:=4) (by decide)
 have c5:w2.cell? ⟨cb,5,none⟩=some (.int .i64 s.v):=hW2.cell (i:=5) (by decide)
 have lt:=hW2.lt
 have lta:=hA2.lt
 cases ha:s.a
 all_goals cases hli:s.li
 all_goals rw [ha] at c1
 all_goals rw [hli] at c3
 all_goals (simp (disch:=try exact dZ) only [↓RBp,↓RA,↓reduceIte,Nat.reduceAdd,Nat.reduceMul,Nat.reduceEqDiff,RB,RX,RA2,↓R3.RT,c0,c1,c2,c3,c4,c5,ha,hli,beq_self_eq_true,Bool.not_true,Bool.not_false,List.getElem?_toArray,List.getElem?_cons_succ,List.getElem?_cons_zero,Option.isSome_some,Bool.and_self,List.setIfInBounds_toArray,List.set_cons_succ,List.set_cons_zero])
 all_goals rw [List.length_map]
 all_goals refine rs_l1 (l:=s.l) (p:=p) (q:=q) (cu:=cu) (cz:=cz) (by rw [cell_of_blk (heap_alloc_eq w2 _)];rfl) ((Ext.alloc_self w2 _).cell_some (by rw [c0,List.length_map])) (rds_ext (by rw [List.length_map] at hu;exact hu) (Ext.alloc_self w2 _)) (rds_ext (by rw [List.length_map] at hz2;exact hz2) (Ext.alloc_self w2 _)) hl (hA2.ext (Ext.alloc_self w2 _)) ox _ (fun w' e'=>hK w' (e2.trans (Ext.trans xZ e')))
theorem rs_app {l:List Int} (hx:RdS m w x (i64L l)) (hl:l.length≤100) (C:K1) (hC:∀z w',Ext w w'→RdS w'.heap.size w' z (i64L l)→isOne z=true→(∀q,z.ownBlock=some q→w.heap.size≤q)→C z w'):
  bltS prog .append #[22,22] 22 #[true,false] #[.slice none 0 0,x] w C:=by
 obtain ⟨a,cap,rfl,hr⟩:=id hx
 rw [List.length_map]
 rcases hr with hr|⟨rb,ro,rfl,hrb,hrc⟩
 ·have hn:l= []:=by simpa using hr
  subst hn
  show bltS _ _ _ _ _ #[.slice none 0 0,.slice a 0 cap] w C
  rw [blt_appE el_22_22 none a 0 0 cap (Nat.le_refl 0) (fun _=>⟨rfl,rfl⟩)]
  exact hC _ _ (Ext.refl _) (RdS.nil _ _) rfl (fun q hq=>by cases hq)
 ·by_cases h0:l.length=0
  ·have hn:l= []:=List.length_eq_zero_iff.1 h0
   subst hn
   show bltS _ _ _ _ _ #[.slice none 0 0,.slice (some ⟨rb,ro,none⟩) 0 cap] w C
   rw [blt_appE el_22_22 none _ 0 0 cap (Nat.le_refl 0) (fun _=>⟨rfl,rfl⟩)]
   exact hC _ _ (Ext.refl _) (RdS.nil _ _) rfl (fun q hq=>by cases hq)
  ·refine blt_append el_22_22 (SlO.nil w 3 1) (news:=i64L l) (by simp) (fun j u hj=>hrc j u hj) (allOne_i64 l) oM oM oM (fun v' w' hv hf hn ho=> ?_)
   have he:Ext w w':=Frm.to_ext (F:=fun _=>False) (hf.mono (fun q e=>by cases e)) (fun b hb=>id)
   have hv:SlO w' 3 1 v' (i64L l).length (i64L l):=by simpa using hv
   have hv0:0<(i64L l).length:=by rw [List.length_map];omega
   have o1:isOne v'=true:=by obtain ⟨b,o,c,rfl,_⟩:=hv.isS hv0;rfl
   refine hC _ _ he (rds_of_slo hv hv0) o1 (fun q hq=> ?_)
   rcases hn q hq with h|h
   ·cases h
   ·exact h
theorem rs_copy {bb cb:Nat} {xb:Value} {t:Shp} {g:Nat→Value} (hB:At w bb 0 6 (t.cs xb)) (hb:RdS m w xb (i64L t.l)) (ht:t.l.length≤100) (hW:At w cb 0 6 g) (m2:m≤cb) (d5:cb≠bb) (C:World→Prop)
  (hC:∀z w',Frm (fun q=>q=cb) w w'→RdS w'.heap.size w' z (i64L t.l)→At w' cb 0 6 (t.cs z)→(∀q,z.ownBlock=some q→w.heap.size≤q)→C w'):
  ldS prog 24 (.pointer (some ⟨bb,0,none⟩)) w fun t70 w_4=>stS prog 24 (.pointer (some ⟨cb,0,none⟩)) t70 w_4 fun w_5=>ev prog (Instr.fieldAt 24 (.pointer (some ⟨bb,0,none⟩)) 0) w_5 fun t71 w_6=>ldS prog 22 t71 w_6 fun t72 w_7=>
   bltS prog .append #[22,22] 22 #[true,false] (pA #[.slice none 0 0,t72]) w_7 fun t73 w_8=>ev prog (Instr.fieldAt 24 (.pointer (some ⟨cb,0,none⟩)) 0) w_8 fun t74 w_9=>stS prog 22 t74 t73 w_9 C:=by
 have o1:isOne xb=true:=by obtain ⟨a,cap,rfl,_⟩:=hb;rfl
 refine k_ld6 (j:=0) (by kernel_rfl) (by kernel_rfl) hB (show 0+6≤6 by decide) _ ?_
 refine k_st (l:= [xb,.bool t.a,.int .i64 t.f,.bool t.li,.int .i64 t.o,.int .i64 t.v]) (j:=0) (by kernel_rfl) rfl (by simp only [allOne,o1];rfl) hW (show 0+6≤6 by decide) _ (fun w2 f2 hW2=> ?_)
 have hB2:=hB.frm f2 (fun e=>d5 e.symm)
 have hb2:RdS m w2 xb (i64L t.l):=hb.frm f2 (fun q hq e=>by omega)
 refine k_fld (n:=0) (by kernel_rfl) _ ?_
 have c0:w2.cell? ⟨bb,0+0,none⟩=some xb:=hB2.cell (i:=0) (by decide)
 rw [ldS1 (by kernel_rfl),c0]
 show bltS _ _ _ _ _ (pA #[.slice none 0 0,xb]) w2 _
 rw [pA_eq]
 refine rs_app hb2 ht _ (fun z w3 e3 hz oz nz=> ?_)
 have hW3:=hW2.ext e3
 refine k_fld (n:=0) (by kernel_rfl) _ ?_
 refine k_st1 (i:=0) (by kernel_rfl) oz hW3 (show 0<6 by decide) _ (fun w4 f4 hW4=> ?_)
 refine hC z w4 ((f2.ext e3).trans f4 (fun q _ e=>e)) (rds_mono (rds_own hz f4 (fun q hq e=> ?_)) f4.size) ?_ (fun q hq=>Nat.le_trans f2.size (nz q hq))
 ·have:=nz q hq;have:=hW2.lt;omega
 ·obtain ⟨a,ty,q1,q2,q3⟩:=hW4
  refine ⟨a,ty,q1,q2,fun i hi=> ?_⟩
  rw [q3 i hi]
  rcases i with _|_|_|_|_|_|i<;>first|rfl|omega
theorem rs_k1 {b cb ab bb k:Nat} {g:Nat→Value} {y z xa xb:Value} {sa t:Shp} (hS:At w b 0 768 g) (hk:k<256) (hg:k<128→∀j,j<6→g (k*6+j)=s.cs y j) (hbig:127<k→s=⟨[],false,0,false,0,0⟩)
  (hy:RdS w.heap.size w y (i64L s.l)) (hl:s.l.length≤100) (hW:At w cb 0 6 (s.cs z)) (hz:RdS w.heap.size w z (i64L s.l)) (hA:At w ab 0 6 (sa.cs xa)) (ox:isOne xa=true) (hB:At w bb 0 6 (t.cs xb)) (hb:RdS m w xb (i64L t.l)) (ht:t.l.length≤100)
  (m1:m≤b) (m2:m≤cb) (d1:b≠cb) (d2:b≠ab) (d3:b≠bb) (d4:cb≠ab) (d5:cb≠bb) (K:K1) (hK:∀w',Ext w w'→K (.bool true) w') (hF:∀w',Frm (fun q=>q=b∨q=cb) w w'→K (.bool true) w'):
  f3_k1 K (.int .u8 (k:Int)) (.pointer (some ⟨ab,0,none⟩)) (.pointer (some ⟨bb,0,none⟩)) (.pointer (some ⟨b,0,none⟩)) (.pointer (some ⟨cb,0,none⟩)) w:=by
 rw [f3_k1_eq]
 unfold f3_k1_t
 refine k_ld6 (j:=0) (by kernel_rfl) (by kernel_rfl) hB (show 0+6≤6 by decide) _ ?_
 show callS prog 12 (pA #[.pointer (some ⟨b,0,none⟩),.int .u8 (k:Int),shV xb t]) w _
 rw [pA_eq]
 refine k_Add (s:=t) (m:=m) hS hk hb ht m1 _ (fun _ w2 e2=> ?_) (fun k1 k2 _ y2 w2 f2 hy2 ny2 hS2=> ?_)
 ·simp (disch:=try exact dZ) only [↓RBp,↓RA,↓reduceIte,Nat.reduceAdd,Nat.reduceMul,Nat.reduceEqDiff,RB,RX,RA2,↓R3.RT]
  exact rs_k2 (s:=s) (y:=y) (z:=z) (xa:=xa) (sa:=sa) (g:=g) (hS.ext e2) hk hg hbig (rds_ext hy e2) hl (hW.ext e2) (rds_ext hz e2) (hA.ext e2) ox K (fun w' e'=>hK w' (e2.trans e'))
 ·have o1:isOne xb=true:=by obtain ⟨a,cap,rfl,_⟩:=hb;rfl
  have hB2:=hB.frm f2 (fun e=>d3 e.symm)
  have hW2:=hW.frm f2 (fun e=>d1 e.symm)
  have hA2:=hA.frm f2 (fun e=>d2 e.symm)
  have hb2:RdS m w2 xb (i64L t.l):=hb.frm f2 (fun q hq e=>by omega)
  rw [ev_of_run (run_eql _ _ _ _ _ _ w2)]
  rw [show decide ((0:Int)=0)=true from rfl]
  unfold cndS
  simp only
  refine rs_copy (cb:=cb) hB2 hb2 ht hW2 m2 d5 _ (fun z2 w3 f3 hz2 hW3 nz2=> ?_)
  have hbc:b≠cb:=d1
  have l2:=hS2.lt
  have lw:=f2.size
  refine rs_k2 (s:=t) (y:=y2) (z:=z2) (xa:=xa) (sa:=sa) (hS2.frm f3 d1) hk (fun k3 j hj=> ?_) (fun k3=>by omega) (rds_mono (rds_own hy2 f3 (fun q hq e=> ?_)) f3.size) ht hW3 hz2 (hA2.frm f3 (fun e=>d4 e.symm)) ox K (fun w' e'=>hF w' ?_)
  ·rw [if_pos oM,show k*6+j-k*6=j by omega]
  ·have:=ny2 q hq;have:=hW.lt;omega
  ·exact (((f2.mono (G:=fun q=>q=b∨q=cb) (fun q e=> .inl e)).trans f3 (fun q _ e=> .inr e)).ext e')
theorem law_shapes (hG:Glob w) {k:Nat} {y:Value} {t:Shp} (hk:k<256) (hx:RdS w.heap.size w x (i64L s.l)) (hy:RdS w.heap.size w y (i64L t.l)) (hlx:s.l.length≤maxLen) (hly:t.l.length≤maxLen) (K:K1) (hK:∀w',Ext w w'→K (.bool true) w'):
  callS prog 3 #[.int .u8 (k:Int),shV x s,shV y t] w K:=by
 refine f3_call _ _ _ _ _ ?_
 unfold f3_t
 obtain ⟨a,cx,ex,hr⟩:=id hx
 obtain ⟨b,cy,ey,hr2⟩:=id hy
 have ox:isOne x=true:=by rw [ex];rfl
 have oy:isOne y=true:=by rw [ey];rfl
 rw [ev_box,ev_box]
 have hA:=(Cells.new w [x,.bool s.a,.int .i64 s.f,.bool s.li,.int .i64 s.o,.int .i64 s.v] 24).alloc (.cells #[y,.bool t.a,.int .i64 t.f,.bool t.li,.int .i64 t.o,.int .i64 t.v] 24)
 have hB:=Cells.new (w.alloc (.cells #[x,.bool s.a,.int .i64 s.f,.bool s.li,.int .i64 s.o,.int .i64 s.v] 24)) [y,.bool t.a,.int .i64 t.f,.bool t.li,.int .i64 t.o,.int .i64 t.v] 24
 rw [size_alloc] at hB
 show callS prog 9 (pA #[]) ((w.alloc (.cells #[x,.bool s.a,.int .i64 s.f,.bool s.li,.int .i64 s.o,.int .i64 s.v] 24)).alloc (.cells #[y,.bool t.a,.int .i64 t.f,.bool t.li,.int .i64 t.o,.int .i64 t.v] 24)) _
 have e0:Ext w ((w.alloc (.cells #[x,.bool s.a,.int .i64 s.f,.bool s.li,.int .i64 s.o,.int .i64 s.v] 24)).alloc (.cells #[y,.bool t.a,.int .i64 t.f,.bool t.li,.int .i64 t.o,.int .i64 t.v] 24)):=xZ
 generalize (w.alloc (.cells #[x,.bool s.a,.int .i64 s.f,.bool s.li,.int .i64 s.o,.int .i64 s.v] 24)).alloc (.cells #[y,.bool t.a,.int .i64 t.f,.bool t.li,.int .i64 t.o,.int .i64 t.v] 24)=w0 at hA hB e0 ⊢
 have hsz:(w.alloc (.cells (Value.agg #[x,.bool s.a,.int .i64 s.f,.bool s.li,.int .i64 s.o,.int .i64 s.v]).cells 24)).heap.size=w.heap.size+1:=size_alloc _ _
 rw [hsz]
 obtain ⟨ab,hab⟩:∃ab,ab=w.heap.size:=⟨_,rfl⟩
 rw [←hab] at hA hB ⊢
 rw [pA_eq]
 refine Go.Ev.k_awake (hG.ext e0) _ (fun w1 e1=> ?_)
 have e01:=e0.trans e1
 have hA1:=hA.ext e1
 have hB1:=hB.ext e1
 have a0:w1.cell? ⟨ab,0,none⟩=some x:=hA1.cell (i:=0) (by simp)
 have b0:w1.cell? ⟨ab+1,0,none⟩=some y:=hB1.cell (i:=0) (by simp)
 rw [ex,List.length_map] at a0
 rw [ey,List.length_map] at b0
 by_cases l1:100<s.l.length
 ·have z1:(100:Int)<(s.l.length:Int):=oM
  simp (disch:=try exact dZ) only [↓RBp,↓RA,↓reduceIte,Nat.reduceAdd,Nat.reduceMul,Nat.reduceEqDiff,RB,RX,RA2,↓R3.RT,a0,b0,z1]
  exact Go.Ev.k_awake (hG.ext e01) _ (fun w2 e2=>hK _ (e01.trans e2))
 ·have z1:¬(100:Int)<(s.l.length:Int):=oM
  by_cases l2:100<t.l.length
  ·have z2:(100:Int)<(t.l.length:Int):=oM
   simp (disch:=try exact dZ) only [↓RBp,↓RA,↓reduceIte,Nat.reduceAdd,Nat.reduceMul,Nat.reduceEqDiff,RB,RX,RA2,↓R3.RT,a0,b0,z1,z2]
   exact Go.Ev.k_awake (hG.ext e01) _ (fun w2 e2=>hK _ (e01.trans e2))
  ·have z2:¬(100:Int)<(t.l.length:Int):=oM
   simp (disch:=try exact dZ) only [↓RBp,↓RA,↓reduceIte,Nat.reduceAdd,Nat.reduceMul,Nat.reduceEqDiff,RB,RX,RA2,↓R3.RT,a0,b0,z1,z2]
   have hs:s.l.length≤100:=oM
   have ht:t.l.length≤100:=oM
   have la:=hA1.lt
   have lb:=hB1.lt
   have A1:At w1 ab 0 6 (s.cs x):=At.of hA1
   have B1:At w1 (ab+1) 0 6 (t.cs y):=At.of hB1
   clear a0 b0 hA hB hA1 hB1 z1 z2 l1 l2 hsz
   refine k_New27 _ (fun w2 e2 hS=> ?_)
   obtain ⟨bS,hbS⟩:∃bS,bS=w1.heap.size:=⟨_,rfl⟩
   rw [←hbS] at hS ⊢
   have A2:=A1.ext e2
   have B2:=B1.ext e2
   have e02:=e01.trans e2
   have sz1:=e01.size
   clear A1 B1
   have low:∀{cb:Nat} {w3 w':World},Ext w w3→w.heap.size≤cb→Frm (fun q=>q=bS∨q=cb) w3 w'→K (.bool true) w':=fun {cb w3 w'} e h f=>hK w' (Frm.to_ext (F:=fun q=>q=bS∨q=cb) ((Frm.of_ext e).trans f (fun q _ e=>e)) (fun q hq e=>by omega))
   have rest0:∀(A:Value→World→Prop) (w4:World),Ext w2 w4→ev prog (Instr.build 24 #[]) w4 (fun t57 w_36=>ev prog (Instr.alloc 24 true (.tuple #[])) w_36 fun t10 w_37=>stS prog 24 t10 t57 w_37 fun w_38=>cndS (.bool false) (A t10 w_38) (f3_k1 K (.int .u8 (k:Int)) (.pointer (some ⟨ab,0,none⟩)) (.pointer (some ⟨ab+1,0,none⟩)) (.pointer (some ⟨bS,0,none⟩)) t10 w_38)):=fun A w4 e4=>by
    rw [ev_of_run (R3.build_24_ w4),ev_alloc (z:= .agg #[.slice none 0 0,.bool false,.int .i64 0,.bool false,.int .i64 0,.int .i64 0]) (by kernel_rfl)]
    have sz4:=e4.size
    have lS:=hS.lt
    refine k_st (l:= [.slice none 0 0,.bool false,.int .i64 0,.bool false,.int .i64 0,.int .i64 0]) (j:=0) (by kernel_rfl) rfl rfl (At.of (Cells.new w4 [.slice none 0 0,.bool false,.int .i64 0,.bool false,.int .i64 0,.int .i64 0] 24)) (show 0+6≤6 by decide) _ (fun w5 f5 hW5=> ?_)
    unfold cndS
    simp only
    have e5:Ext w4 w5:=Frm.to_ext (F:=fun q=>q=w4.heap.size) ((Frm.of_ext (Ext.alloc_self w4 _)).trans f5 (fun q _ e=>e)) (fun q hq e=>by omega)
    have e05:=e02.trans (e4.trans e5)
    refine rs_k1 (s:=⟨[],false,0,false,0,0⟩) (m:=w.heap.size) (y:= .slice none 0 0) (z:= .slice none 0 0) (sa:=s) (t:=t) (xa:=x) (xb:=y) (g:=zS) ((hS.ext e4).ext e5) hk (fun _ j hj=>zS_at k j hj) (fun _=>rfl) (RdS.nil _ _) (by decide) ?_ (RdS.nil _ _) ((A2.ext e4).ext e5) ox ((B2.ext e4).ext e5) (hy.ext e05) ht oM oM oM oM oM oM oM K (fun w' e'=>hK w' (e05.trans e')) (fun w' f'=>low e05 oM f')
    obtain ⟨a,ty,q1,q2,q3⟩:=hW5
    refine ⟨a,ty,q1,q2,fun i hi=> ?_⟩
    rw [q3 i hi]
    rcases i with _|_|_|_|_|_|i<;>first|rfl|omega
   have lS:=hS.lt
   have cell6:∀{w3:World},Ext w2 w3→w3.cell? ⟨ab,0,none⟩=some x∧w3.cell? ⟨ab,1,none⟩=some (.bool s.a)∧w3.cell? ⟨ab,2,none⟩=some (.int .i64 s.f)∧w3.cell? ⟨ab,3,none⟩=some (.bool s.li)∧w3.cell? ⟨ab,4,none⟩=some (.int .i64 s.o)∧w3.cell? ⟨ab,5,none⟩=some (.int .i64 s.v):=fun {w3} e=>by
    have A3:=A2.ext e
    refine ⟨A3.cell (i:=0) (by decide),A3.cell (i:=1) (by decide),A3.cell (i:=2) (by decide),A3.cell (i:=3) (by decide),A3.cell (i:=4) (by decide),A3.cell (i:=5) (by decide)⟩
   obtain ⟨c0,c1,c2,c3,c4,c5⟩:=cell6 (Ext.refl w2)
   by_cases kr:1≤k∧k≤127
   ·have r1:(1:Int)≤(k:Int):=oM
    have r2:(k:Int)≤127:=oM
    have r1':1≤k:=kr.1
    have r2':k≤127:=kr.2
    simp (disch:=try exact dZ) only [↓RBp,↓RA,↓reduceIte,Nat.reduceAdd,Nat.reduceMul,Nat.reduceEqDiff,RB,RX,RA2,↓R3.RT,r1,r2,r1',r2',c0,c1,c2,c3,c4,c5]
    refine k_Right (s:=s) (m:=w.heap.size) (hx.ext (e02.trans xZ)) hs _ (fun w3 e3=> ?_)
    have e23:Ext w2 w3:=Ext.trans xZ e3
    obtain ⟨d0,d1,d2,d3,d4,d5⟩:=cell6 e23
    cases hR:rightS s with
    |false=>
     simp (disch:=try exact dZ) only [↓RBp,↓RA,↓reduceIte,Nat.reduceAdd,Nat.reduceMul,Nat.reduceEqDiff,RB,RX,RA2,↓R3.RT,d0,d1,d2,d3,d4,d5]
     refine k_Add (s:=s) (m:=w.heap.size) (hS.ext (e23.trans xZ)) hk (hx.ext (e02.trans (e23.trans xZ))) hs oM _ (fun _ w4 e4=> ?_) (fun _ _ h=>by rw [hR] at h;cases h)
     simp (disch:=try exact dZ) only [↓RBp,↓RA,↓reduceIte,Nat.reduceAdd,Nat.reduceMul,Nat.reduceEqDiff,RB,RX,RA2,beq_self_eq_true,Bool.not_true,Bool.not_false]
     exact rest0 _ w4 (e23.trans (Ext.trans xZ e4))
    |true=>
     simp (disch:=try exact dZ) only [↓RBp,↓RA,↓reduceIte,Nat.reduceAdd,Nat.reduceMul,Nat.reduceEqDiff,RB,RX,RA2,↓R3.RT,d0,d1,d2,d3,d4,d5]
     refine k_Add (s:=s) (m:=w.heap.size) (hS.ext (e23.trans xZ)) hk (hx.ext (e02.trans (e23.trans xZ))) hs oM _ (fun h=>by rw [hR] at h;simp at h;omega) (fun _ _ _ y4 w4 f4 hy4 ny4 hS4=> ?_)
     have f24:Frm (fun q=>q=bS) w2 w4:=(Frm.of_ext (e23.trans xZ)).trans f4 (fun q _ e=>e)
     simp (disch:=try exact dZ) only [↓RBp,↓RA,↓reduceIte,Nat.reduceAdd,Nat.reduceMul,Nat.reduceEqDiff,RB,RX,RA2,beq_self_eq_true,Bool.not_true,Bool.not_false]
     rw [ev_of_run (R3.build_24_ w4),ev_alloc (z:= .agg #[.slice none 0 0,.bool false,.int .i64 0,.bool false,.int .i64 0,.int .i64 0]) (by kernel_rfl)]
     have sz4:=f24.size
     have sz3:=f4.size
     refine k_st (l:= [.slice none 0 0,.bool false,.int .i64 0,.bool false,.int .i64 0,.int .i64 0]) (j:=0) (by kernel_rfl) rfl rfl (At.of (Cells.new w4 [.slice none 0 0,.bool false,.int .i64 0,.bool false,.int .i64 0,.int .i64 0] 24)) (show 0+6≤6 by decide) _ (fun w5 f5 hW5=> ?_)
     have e5:Ext w4 w5:=Frm.to_ext (F:=fun q=>q=w4.heap.size) ((Frm.of_ext (Ext.alloc_self w4 _)).trans f5 (fun q _ e=>e)) (fun q hq e=>by omega)
     unfold cndS
     simp only
     have A5:=(A2.frm f24 oM).ext e5
     have B5:=(B2.frm f24 oM).ext e5
     have f05:Frm (fun q=>q=bS) w w5:=((Frm.of_ext e02).trans f24 (fun q _ e=>e)).ext e5
     have e05:Ext w w5:=Frm.to_ext f05 (fun q hq e=>by omega)
     obtain ⟨cb,hcb⟩:∃cb,cb=w4.heap.size:=⟨_,rfl⟩
     rw [←hcb] at hW5 ⊢
     refine rs_copy (m:=w.heap.size) (bb:=ab) (cb:=cb) (xb:=x) (t:=s) A5 (hx.ext e05) hs hW5 oM oM _ (fun z6 w6 f6 hz6 hW6 nz6=> ?_)
     have sz5:=e5.size
     have f06:Frm (fun q=>q=bS∨q=cb) w w6:=(f05.mono (G:=fun q=>q=bS∨q=cb) (fun q e=> .inl e)).trans f6 (fun q _ e=> .inr e)
     have e06:Ext w w6:=Frm.to_ext f06 (fun q hq e=>by omega)
     refine rs_k1 (s:=s) (m:=w.heap.size) (y:=y4) (z:=z6) (sa:=s) (t:=t) (xa:=x) (xb:=y) ((hS4.ext e5).frm f6 oM) hk (fun _ j hj=> ?_) (fun h=>by omega) (rds_mono (rds_own2 (hy4.ext e5) f6 (fun q hq hl e=>by omega)) (Nat.le_trans sz5 f6.size)) hs hW6 hz6 (A5.frm f6 oM) ox (B5.frm f6 oM) (hy.ext e06) ht oM oM oM oM oM oM oM K (fun w' e'=>hK w' (e06.trans e')) (fun w' f'=>low e06 oM f')
     ·rw [if_pos oM,show k*6+j-k*6=j by omega]
   ·by_cases r1:1≤k
    ·have r2:¬(k:Int)≤127:=oM
     have r3:(1:Int)≤(k:Int):=oM
     have r2':¬k≤127:=oM
     simp (disch:=try exact dZ) only [↓RBp,↓RA,↓reduceIte,Nat.reduceAdd,Nat.reduceMul,Nat.reduceEqDiff,RB,RX,RA2,↓R3.RT,r1,r2,r3,r2',c0,c1,c2,c3,c4,c5]
     refine k_Add (s:=s) (m:=w.heap.size) (hS.ext xZ) hk (hx.ext (e02.trans xZ)) hs oM _ (fun _ w4 e4=> ?_) (fun _ _ h=>by omega)
     simp (disch:=try exact dZ) only [↓RBp,↓RA,↓reduceIte,Nat.reduceAdd,Nat.reduceMul,Nat.reduceEqDiff,RB,RX,RA2,beq_self_eq_true,Bool.not_true,Bool.not_false]
     exact rest0 _ w4 (Ext.trans xZ e4)
    ·have r3:¬(1:Int)≤(k:Int):=oM
     simp (disch:=try exact dZ) only [↓RBp,↓RA,↓reduceIte,Nat.reduceAdd,Nat.reduceMul,Nat.reduceEqDiff,RB,RX,RA2,↓R3.RT,r1,r3,c0,c1,c2,c3,c4,c5]
     refine k_Add (s:=s) (m:=w.heap.size) (hS.ext xZ) hk (hx.ext (e02.trans xZ)) hs oM _ (fun _ w4 e4=> ?_) (fun _ _ h=>by omega)
     simp (disch:=try exact dZ) only [↓RBp,↓RA,↓reduceIte,Nat.reduceAdd,Nat.reduceMul,Nat.reduceEqDiff,RB,RX,RA2,beq_self_eq_true,Bool.not_true,Bool.not_false]
     exact rest0 _ w4 (Ext.trans xZ e4)
end
end Go.Proofs.YtjegifbmbianiaaGreatDoor
namespace Go.Proofs.YtjegifbmbianiaaGreatDoor
open Go
theorem noGoes:prog.funcs.any Func.goes=false:=by kernel_rfl
theorem goes_false {P:Program} (h:P.funcs.any Func.goes=false) (c:OpenClaim) (hs:c.start= .entering):false=c.goesBy P:=by
 have hf:∀g:Nat,(P.funcs[g]?).any Func.goes=false:=fun g=>by
  cases e:P.funcs[g]? with
  |none=>rfl
  |some fn=>
   have hm:=Array.mem_of_getElem? e
   rw [Array.any_eq_false'] at h
   have:=h fn hm
   simpa using this
 unfold OpenClaim.goesBy Program.goesAt Program.goesFrom
 rw [hs]
 have:(P.funcNamed c.func).any P.goes=false:=by
  cases P.funcNamed c.func with
  |none=>rfl
  |some f=>
   show P.goes f=false
   unfold Program.goes
   rw [h,Bool.and_false,Bool.or_false,List.any_eq_false]
   intro g _
   rw [hf g];exact Bool.false_ne_true
 rw [this];rfl
theorem rxStops:(prog.stops== [])=true:=by kernel_rfl
theorem rxKnobs:(prog.stopKnobs== [])=true:=by kernel_rfl
theorem rxLooks:true=prog.looks []:=by kernel_rfl
end Go.Proofs.YtjegifbmbianiaaGreatDoor
