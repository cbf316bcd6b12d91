/-
  ChunkLooks: for every word, line and choice the law returns true, and its arguments read as before. Condition: the two listed package variables hold at the call's start what the program's text lays (the card ties them to that text).
-/
import Derived.Test.YtaeopkhdokaaoaaGreatDoorPb4
import Derived.Test.YtaeopkhdokaaoaaGreatDoorRows
import Derived.ProofKit
import Derived.LaidMore
import Derived.OpenShut
import Derived.Stop.Joined
import Derived.Lib.SmallJoins
import Derived.Test.YtaeopkhdokaaoaaGreatDoorPb1
import Derived.Test.YtaeopkhdokaaoaaGreatDoorCards
import Derived.Test.YtaeopkhdokaaoaaGreatDoorTie
namespace Go.Proofs.YtaeopkhdokaaoaaGreatDoor
open Go Go.Sh
set_option maxRecDepth 100000
set_option maxHeartbeats 4000000
set_option linter.unusedSimpArgs false
set_option linter.unusedVariables false
section
variable {w w' : World} {Y Y' : Lay} {D D' : DS}
theorem Lv.cx {w0 : World} {l : Nat} {c : Int} (h : Lv w0 w Y D) (hG : Glob w0) (on : D.off = false) (hl : l + 32 ≤ D.n) (c0 : 0 ≤ c) (c5 : c < 5) : Cx w Y D l c := ⟨h.dv, h.gd, hG.ext h.ex, on, hl, c0, c5⟩
theorem wr_get {ws : List (Nat × Nat)} {j : Nat} (h : j < ws.length) : ws[j]? = some ws[j] := List.getElem?_eq_getElem h
theorem wr_cells {v : Value} {ws : List (Nat × Nat)} (s : SlO w 37 2 v ws.length (wrL ws)) {j : Nat} (h : j < ws.length) : ∃ b o cap, v = .slice (some ⟨b, o, none⟩) ws.length cap ∧ w.cell? ⟨b, o + j * 2, none⟩ = some (.int .u64 (ws[j].1 : Int)) ∧ w.cell? ⟨b, o + j * 2 + 1, none⟩ = some (.int .u64 (ws[j].2 : Int)) := by
  obtain ⟨b, o, cap, rfl, _⟩ := s.isS (by omega)
  have hg := wrL_get ws j ws[j] (wr_get h)
  refine ⟨b, o, cap, rfl, s.cell rfl hg.1, ?_⟩
  have := s.cell rfl hg.2
  rw [← Nat.add_assoc] at this; exact this
theorem strs_zero (D : DS) (ws : List (Nat × Nat)) : D.strs (ws.take 0) = D := by simp [DS.strs, DS.run]
theorem one_get {x u : Value} {j : Nat} (h : [x][j]? = some u) : j = 0 ∧ u = x := by
  rcases j with _ | j
  · simp at h; exact ⟨rfl, h.symm⟩
  · simp at h
theorem aw_exe (j : Nat) : (awD.strs (awW.take j)).exe ≤ 402 := by
  have h1 := strs_exe awD (awW.take j)
  have h2 : awD.exe ≤ 400 := (opened_exe (l := 0) (c := 4) (by omega) (by omega) (by omega) 0 1).1
  have h3 : (awW.take j).length ≤ 2 := by rw [List.length_take]; exact Nat.min_le_right _ _
  omega
theorem aw_goodT (j : Nat) : Good (awD.strs (awW.take j)) := strs_good aw_good (fun x hx => (aw_ok x (mem_take hx)).2.2)
theorem k_fopen4 (hG : Glob w) (K : K1) (hK : ∀ w' Y, Lv w w' Y awD → K (.tuple #[chV Y 0 4 0 1, .pointer (some ⟨Y.d, 0, none⟩), .pointer (some ⟨Y.tb 0, 0, none⟩)]) w') :
    callS Tryz.prog 33 #[.agg #[.int .u8 ((0 : Nat) : Int), .int .u8 ((4 : Nat) : Int), .int .u8 ((0 : Nat) : Int), .int .u16 ((0 : Nat) : Int)]] w K :=
  k_fopen hG 0 4 0 0 (by omega) (by omega) (by omega) (by omega) K (fun w' Y L => hK w' Y L)
theorem k_awake (hG : Glob w) (K : K1) (hK : ∀ w', Ext w w' → K (.bool true) w') : callS Tryz.prog 12 #[] w K := by
  refine f12_call _ _ ?_
  unfold f12_t
  simp (disch := first | omega | simp only [RO] | (simp only [RZ] <;> omega) | fail) only [↓RBp, ↓RA, ↓reduceIte, Nat.reduceAdd, Nat.reduceMul, Nat.reduceEqDiff, RB, RBr, RW, RS, RA2]
  refine k_fopen4 hG _ (fun w1 Y L1 => ?_)
  have e1 := L1.ex
  have x1 := L1.cx hG aw_on.off (l := 0) (c := 4) (by rw [opened_n]; omega) (by omega) (by omega)
  have nt1 : ¬ Y.F w1.heap.size := fun hf => by have := L1.dv.lt hf; omega
  simp (disch := first | omega | simp only [RO] | (simp only [RZ] <;> omega) | fail) only [↓RBp, ↓RA, ↓reduceIte, Nat.reduceAdd, Nat.reduceMul, Nat.reduceEqDiff, RB, RBr, RW, RS, RA2]
  refine k_Free (x1.ext (by repeat (first | (with_reducible first | refine eB ?_ (by omega) _ | refine eB ?_ (by simp only [RZ] <;> omega) _ | assumption | exact eR _ | refine eA ?_ _ | refine eD ?_ | refine eT ?_ (by assumption)) | exact eR _))) 0 1 0 _ (fun w2 he2 => ?_)
  rw [aw_fr]
  have e12 : Ext w1 w2 := Ext.trans (by repeat (first | (with_reducible first | refine eB ?_ (by omega) _ | refine eB ?_ (by simp only [RZ] <;> omega) _ | assumption | exact eR _ | refine eA ?_ _ | refine eD ?_ | refine eT ?_ (by assumption)) | exact eR _)) he2
  have e2 := e1.trans e12
  have x2 := x1.ext e12
  have ob1 := chCells he2; have q0 := ob1.1; have q1 := ob1.2.1; have q2 := ob1.2.2.1; have q3 := ob1.2.2.2.1; have q4 := ob1.2.2.2.2
  simp (disch := first | omega | simp only [RO] | (simp only [RZ] <;> omega) | fail) only [↓RBp, ↓RA, ↓reduceIte, Nat.reduceAdd, Nat.reduceMul, Nat.reduceEqDiff, RB, RBr, RW, RS, RA2, q0, q1, q2, q3, q4]
  refine k_Next x2 0 1 _ (fun w3 he3 => ?_)
  rw [per4, show (4 : Int).toNat = 4 from rfl, aw_alF, if_pos rfl, aw_mxG]
  have e13 := he2.trans he3
  have x3 := x2.ext he3
  have e3 := e2.trans he3
  have L3 := L1.ext (e12.trans he3)
  have ob2 := chCells e13; have r0 := ob2.1; have r1 := ob2.2.1; have r2 := ob2.2.2.1; have r3 := ob2.2.2.2.1; have r4 := ob2.2.2.2.2
  have lt3 : w1.heap.size < w3.heap.size := lt_of_cell r0
  simp (disch := first | omega | simp only [RO] | (simp only [RZ] <;> omega) | fail) only [↓RBp, ↓RA, ↓reduceIte, Nat.reduceAdd, Nat.reduceMul, Nat.reduceEqDiff, RB, RBr, RW, RS, RA2, r0, r1, r2, r3, r4]
  refine k_Actions (m := w3.heap.size + 2) (x3.ext (by repeat (first | (with_reducible first | refine eB ?_ (by omega) _ | refine eB ?_ (by simp only [RZ] <;> omega) _ | assumption | exact eR _ | refine eA ?_ _ | refine eD ?_ | refine eT ?_ (by assumption)) | exact eR _))) aw_on.err 0 1 [0] [] [64] _ _ _ ⟨some ⟨w3.heap.size, 0, none⟩, 1, rfl, .inr ⟨_, _, rfl, by omega, ?_⟩⟩ ⟨some ⟨w3.heap.size + 1, 0, none⟩, 1, rfl, .inr ⟨_, _, rfl, by omega, ?_⟩⟩ (RdS.nil _ _) (by simp) (by simp) (by simp) (by simp) _ (fun hn => absurd awActA hn) (fun _ hn => by rw [aw_act] at hn; cases hn) (fun _ ws hws v' w4 he4 hnv sl => ?_)
  · intro j u hj
    obtain ⟨rfl, rfl⟩ := one_get hj
    simp (disch := first | omega | simp only [RO] | (simp only [RZ] <;> omega) | fail) only [↓RBp, ↓RA, ↓reduceIte, Nat.reduceAdd, Nat.reduceMul, Nat.reduceEqDiff, RB, RBr, RW, RS, RA2]
  · intro j u hj
    obtain ⟨rfl, rfl⟩ := one_get hj
    simp (disch := first | omega | simp only [RO] | (simp only [RZ] <;> omega) | fail) only [↓RBp, ↓RA, ↓reduceIte, Nat.reduceAdd, Nat.reduceMul, Nat.reduceEqDiff, RB, RBr, RW, RS, RA2]
  rw [aw_act] at hws
  injection hws with hws
  subst hws
  have e34 : Ext w3 w4 := Ext.trans (by repeat (first | (with_reducible first | refine eB ?_ (by omega) _ | refine eB ?_ (by simp only [RZ] <;> omega) _ | assumption | exact eR _ | refine eA ?_ _ | refine eD ?_ | refine eT ?_ (by assumption)) | exact eR _)) he4
  have L4 := L3.ext e34
  have e14 := e13.trans e34
  have ob3 := chCells e14; have s0 := ob3.1; have s1 := ob3.2.1; have s2 := ob3.2.2.1; have s3 := ob3.2.2.2.1; have s4 := ob3.2.2.2.2
  have lt4 : w1.heap.size < w4.heap.size := lt_of_cell s0
  have out : ∀ b, v'.ownBlock = some b → ¬ Y.F b := L3.out (fun b hb => Nat.le_trans (by simp only [RZ]; omega) (hnv b hb))
  obtain ⟨pa, pc, rfl, hpc⟩ := sl.isS'
  have hlen : awW.length = 2 := rfl
  simp (disch := first | omega | simp only [RO] | (simp only [RZ] <;> omega) | fail) only [↓RBp, ↓RA, ↓reduceIte, Nat.reduceAdd, Nat.reduceMul, Nat.reduceEqDiff, RB, RBr, RW, RS, RA2, hlen]
  apply f12_l1_rule (I := fun z w' => ∃ (j : Nat) (Y' : Lay), z = .int .i64 (j : Int) ∧ j ≤ 2 ∧ Stp w4 Y w' Y' (awD.strs (awW.take j))) (μ := fun z _ => 2 - (Go.RowKit.intOf z).toNat)
  · exact ⟨0, Y, rfl, by omega, (Stp.refl L4.dv).to (strs_zero _ _).symm⟩
  · intros; rename_i w5 hI E1 hE
    obtain ⟨j, Y5, rfl, hj, st⟩ := hI
    have tb : Y5.tb 0 = Y.tb 0 := by rw [st.tb]
    have L5 := L4.step st (aw_goodT j)
    have lt5 : w1.heap.size < w5.heap.size := Nat.lt_of_lt_of_le lt4 st.frm.size
    have fc : ∀ i, w5.cell? ⟨w1.heap.size, i, none⟩ = w4.cell? ⟨w1.heap.size, i, none⟩ := fun i => st.frm.cell _ i lt4 nt1
    by_cases hj2 : j < 2
    · have hx := aw_exe j
      have hxm := aw_ok awW[j] (List.getElem_mem (by omega))
      have htk := strs_take (D := awD) (wr_get (ws := awW) (j := j) (by omega))
      obtain ⟨b, o, cap, ev1, hc1, hc2⟩ := wr_cells (sl.frm st.frm out) (j := j) (by omega)
      injection ev1 with ev1 _ ev2; subst ev1; subst ev2
      generalize awW[j] = x at hc1 hc2 hxm htk
      obtain ⟨xo, xv⟩ := x
      simp only at hc1 hc2 hxm htk
      unfold f12_l1_t
      simp (disch := first | omega | simp only [RO] | (simp only [RZ] <;> omega) | fail) only [↓RBp, ↓RA, ↓reduceIte, Nat.reduceAdd, Nat.reduceMul, Nat.reduceEqDiff, RB, RBr, RW, RS, RA2, hc1, hc2]
      have stg := st.grow (Ext.alloc_self w5 (.cells #[.int .u64 (xo : Int), .int .u64 (xv : Int)] 37))
      rw [← tb]
      refine k_Store stg.dv (aw_goodT j) 0 (by omega) xo xv (by omega) _ (fun w6 Y6 st6 => ?_)
      simp (disch := first | omega | simp only [RO] | (simp only [RZ] <;> omega) | fail) only [↓RBp, ↓RA, ↓reduceIte, Nat.reduceAdd, Nat.reduceMul, Nat.reduceEqDiff, RB, RBr, RW, RS, RA2]
      apply hE
      · exact ⟨j + 1, Y6, by simp, by omega, by rw [htk]; exact stg.trans st6⟩
      · simp [Go.RowKit.intOf]; omega
    · have : j = 2 := by omega
      subst this
      have L5' : Lv w w5 Y5 awE := L5
      have x5 := L5'.cx hG awE_on.1.off (l := 0) (c := 4) (by rw [awE_n]; omega) (by omega) (by omega)
      have e5 := L5'.ex
      rw [← fc] at s0 s1 s2 s3 s4
      rw [← tb] at s0
      unfold f12_l1_t
      simp (disch := first | omega | simp only [RO] | (simp only [RZ] <;> omega) | fail) only [↓RBp, ↓RA, ↓reduceIte, Nat.reduceAdd, Nat.reduceMul, Nat.reduceEqDiff, RB, RBr, RW, RS, RA2, s0, s1, s2, s3, s4, f12_k1_eq, f12_k1_t]
      refine k_Taken x5 0 1 0 _ (fun w6 e56 => ?_)
      rw [awE_mk0]
      have a0 := e56.cell_some s0
      have a1 := e56.cell_some s1
      have a2 := e56.cell_some s2
      have a3 := e56.cell_some s3
      have a4 := e56.cell_some s4
      simp (disch := first | omega | simp only [RO] | (simp only [RZ] <;> omega) | fail) only [↓RBp, ↓RA, ↓reduceIte, Nat.reduceAdd, Nat.reduceMul, Nat.reduceEqDiff, RB, RBr, RW, RS, RA2, a0, a1, a2, a3, a4]
      refine k_Count (x5.ext e56) 0 1 _ (fun w7 e67 => ?_)
      rw [per4, show (4 : Int).toNat = 4 from rfl, awE_cnt]
      have b0 := e67.cell_some a0
      have b1 := e67.cell_some a1
      have b2 := e67.cell_some a2
      have b3 := e67.cell_some a3
      have b4 := e67.cell_some a4
      have z1 : (((1 : Nat) : Int) = 1) := rfl
      simp (disch := first | omega | simp only [RO] | (simp only [RZ] <;> omega) | fail) only [↓RBp, ↓RA, ↓reduceIte, Nat.reduceAdd, Nat.reduceMul, Nat.reduceEqDiff, RB, RBr, RW, RS, RA2, b0, b1, b2, b3, b4, z1]
      refine k_Free (x5.ext (e56.trans e67)) 0 1 0 _ (fun w8 e78 => ?_)
      rw [awE_fr]
      simp (disch := first | omega | simp only [RO] | (simp only [RZ] <;> omega) | fail) only [↓RBp, ↓RA, ↓reduceIte, Nat.reduceAdd, Nat.reduceMul, Nat.reduceEqDiff, RB, RBr, RW, RS, RA2]
      exact hK _ (e5.trans (e56.trans (e67.trans e78)))
end
end Go.Proofs.YtaeopkhdokaaoaaGreatDoor
namespace Go.Proofs.YtaeopkhdokaaoaaGreatDoor
open Go Go.Sh Go.ChangeShapes Go.WideShapes Go.ChangeAt Go.RowKit Go.Joins
set_option maxRecDepth 100000
set_option linter.unusedVariables false
theorem Tryz.own : ownKnob Tryz.prog.godebug = none := by kernel_rfl
theorem Tryz.laidOut : laidOutB Tryz.prog = true := by kernel_rfl
abbrev laidL : List (String × DataW Unit) := [("bedrock/crc.nibbles", Rows.laid_bedrock_crc_nibbles), ("bedrock/sizeclass.payload", Rows.laid_bedrock_sizeclass_payload)]
theorem gNib : Tryz.prog.globalNamed "bedrock/crc.nibbles" = some 1 := by kernel_rfl
theorem gPay : Tryz.prog.globalNamed "bedrock/sizeclass.payload" = some 0 := by kernel_rfl
theorem tNib : (Tryz.prog.globals[1]?).map (·.type) = some 204 := by kernel_rfl
theorem tPay : (Tryz.prog.globals[0]?).map (·.type) = some 165 := by kernel_rfl
theorem arr_ints {H : Type} {enc : TypeId × Value → H} {P : Program} {w : World} {base : Nat} {spare : Nat → Bool} {held : Bool} {fuel : Nat} {t e : TypeId} {n : Nat} {k : IntKind} {cs : List Value} {l : List Int} {ps : List MemPlace} (hu : P.underlying t = some (.array n e)) (he : P.underlying e = some (.int k)) (hc : P.cellsOf e = 1)
    (h : DataW.trod enc P w base spare held fuel t cs = some (.agg (l.map fun z => .lit (.int k z)), ps)) (i : Nat) (hi : i < n) : ∃ z, l[i]? = some z ∧ cs[i]? = some (.int k z) := by
  obtain ⟨xs, m, rfl, hx, hlen, hn, hel⟩ := DataW.trod_array hu h
  have h1 := hel i hi
  have hxi : xs[i]? = some xs[i] := List.getElem?_eq_getElem (by omega)
  rw [hxi, hc, Nat.mul_one] at h1
  obtain ⟨z, e1, e2, _⟩ := DataW.trod_int he h1
  refine ⟨z, ?_, ?_⟩
  · simp only [Prod.mk.injEq, DataW.agg.injEq] at hx
    have h2 : (l.map fun z => (DataW.lit (.int k z) : DataW H))[i]? = (xs.map (·.1))[i]? := by rw [hx.1]
    rw [List.getElem?_map, List.getElem?_map, hxi, e2] at h2
    cases hl : l[i]? with
    | none => rw [hl] at h2; cases h2
    | some z' =>
      rw [hl] at h2
      simp only [Option.map_some, Option.some.injEq, DataW.lit.injEq, Lit.int.injEq, true_and] at h2
      rw [h2]
  · have h3 : ((cs.drop i).take 1)[0]? = some (.int k z) := by rw [e1]; rfl
    rw [List.getElem?_take, List.getElem?_drop] at h3
    simpa using h3
theorem glob_of_laid {W : World} (h : laidMetH Tryz.prog laidL W) : Glob W := by
  rw [MakeChecks.laidMetH_plain _ _ _ (by kernel_rfl)] at h
  obtain ⟨ps, ⟨g0, t0, cs0, f0, p0, q0, hg0, ht0, hv0, hd0, ⟨g1, t1, cs1, f1, p1, q1, hg1, ht1, hv1, hd1, _, _⟩, _⟩, _, _⟩ := h
  obtain rfl := Option.some.inj (gNib.symm.trans hg0)
  obtain rfl := Option.some.inj (gPay.symm.trans hg1)
  obtain rfl := Option.some.inj (tNib.symm.trans ht0)
  obtain rfl := Option.some.inj (tPay.symm.trans ht1)
  refine ⟨fun i hi => ?_, fun i hi => ?_⟩
  · obtain ⟨z, hz, hc⟩ := arr_ints (l := [3, 7, 15, 31, 60]) (show Tryz.prog.underlying 165 = some (.array 5 3) by kernel_rfl) (show Tryz.prog.underlying 3 = some (.int .i64) by kernel_rfl) (by kernel_rfl) hd1 i hi
    rw [World.var?_cell hg1 hv1 i]
    have : payN i = z := by unfold payN; rw [List.getD_eq_getElem?_getD, hz]; rfl
    rw [this]; simpa using hc
  · obtain ⟨z, hz, hc⟩ := arr_ints (l := [0, 274646895, 549293790, 820201905, 1098587580, 1361435347, 1640403810, 1905808397, 2197175160, 2460548119, 2722870694, 2987750089, 3280807620, 3553878443, 3811616794, 4084100981]) (show Tryz.prog.underlying 204 = some (.array 16 44) by kernel_rfl) (show Tryz.prog.underlying 44 = some (.int .u32) by kernel_rfl) (by kernel_rfl) hd0 i hi
    rw [World.var?_cell hg0 hv0 i]
    have : ((nibN i : Nat) : Int) = z := by
      have hq : ∀ q : Fin 16, ([0, 274646895, 549293790, 820201905, 1098587580, 1361435347, 1640403810, 1905808397, 2197175160, 2460548119, 2722870694, 2987750089, 3280807620, 3553878443, 3811616794, 4084100981] : List Int)[q.1]? = some ((nibN q.1 : Nat) : Int) := by decide
      exact Option.some.inj ((hq ⟨i, hi⟩).symm.trans hz)
    rw [this]; simpa using hc
theorem door_met (os : Os) (args : Array Value) : laidMetH Tryz.prog laidL ((World.doorLaid Tryz.prog 400 os).forCall (fun _ _ => 0) ⟨#[], args, []⟩).memory :=
  laidMetH_of_parts3 (fuel := 8) (laidMet_of_run' 8 (by kernel_rfl) (by kernel_rfl)) (by kernel_rfl) (by kernel_rfl)
section
variable {H : Type} {enc : TypeId × Value → H}
theorem trodAll_lt {P : Program} {W : World} {ts : List TypeId} {apart : Bool} {vs : List Value} {ds gs : List (DataW H)} {before : List MemPlace} {vars : List String} (hW : DataW.Whole enc P ts vars apart W vs ds gs before) : ∀ x ∈ before, x.block < W.heap.size := fun x hx => by simpa using hW.lt x hx
theorem trodAll_ext {P : Program} (hl : laidOutB P = true) {W W' : World} (hb : Ext W W') : ∀ {ts : List TypeId} {vs : List Value} {ds : List (DataW H)} {ps : List MemPlace}, (∀ t ∈ ts, P.readableRec t = true ∧ t < P.types.size) → DataW.TrodAll enc P W 0 (fun _ => true) true ts vs ds ps → (∀ x ∈ ps, x.block < W.heap.size) → DataW.TrodAll enc P W' 0 (fun b => decide (b < W.heap.size)) true ts vs ds ps := by
  intro ts
  induction ts with
  | nil => intro vs ds ps _ h _; cases vs <;> cases ds <;> first | exact h | exact h.elim
  | cons t ts ih =>
    intro vs ds ps hr h hlt
    cases vs with
    | nil => exact h.elim
    | cons v vs =>
      cases ds with
      | nil => exact h.elim
      | cons d ds =>
        obtain ⟨p, q, h0, h1, rfl⟩ := h
        refine ⟨p, q, Below.trod hl (hr t (by simp)).1 (hr t (by simp)).2 h0 hb (fun x hx => hlt x (by simp [hx])), ih (fun u hu => hr u (by simp [hu])) h1 (fun x hx => hlt x (by simp [hx])), rfl⟩
theorem post_ext {f : Func} {s : ChangeSpec} {W W' : World} {args : Array Value} {ds : List (DataW H)} {before : List MemPlace} (hv : s.vars = []) (hr : f.resultTypes = #[4]) (hrd : ∀ t ∈ f.params.toList, Tryz.prog.readableRec t = true ∧ t < Tryz.prog.types.size)
    (hW : DataW.Whole enc Tryz.prog f.params.toList s.vars false W args.toList ds [] before) (hs : s.fn H (ds ++ []) = { results := [.lit (.bool true)], args := ds }) (hb : Ext W W') : s.post enc Tryz.prog f false true false false W args (.bool true) W' := by
  have hW' := hW
  obtain ⟨p, q, hA, hV, rfl, hfz, hnd⟩ := hW
  rw [hv] at hV
  have hq : q = [] := hV
  subst hq
  have hlt := trodAll_lt hW'
  refine ⟨ds, [], p ++ [], [], p, [], hW', ?_, ?_, ?_, Below.frame hb _, fun h => by cases h⟩
  · rw [hs, hr]
    exact trodAll_mk1 (shut_bool (show Tryz.prog.underlying 4 = some .bool by kernel_rfl) true)
  · rw [hs]; exact trodAll_ext Tryz.laidOut hb hrd hA (fun x hx => hlt x (by simp [hx]))
  · rw [hs, hv]; rfl
end
end Go.Proofs.YtaeopkhdokaaoaaGreatDoor
namespace Go.Proofs.YtaeopkhdokaaoaaGreatDoor
open Go Go.Sh
set_option maxRecDepth 100000
set_option maxHeartbeats 4000000
set_option linter.unusedSimpArgs false
set_option linter.unusedVariables false
section
variable {w w' : World} {Y Y' : Lay} {D D' : DS}
theorem in_cells {v : Value} {p : List Ins} (s : SlO w 133 3 v p.length (inL p)) {j : Nat} (h : j < p.length) : ∃ b o cap, v = .slice (some ⟨b, o, none⟩) p.length cap ∧ w.cell? ⟨b, o + j * 3, none⟩ = some (.int .u8 (p[j].op : Int)) ∧ w.cell? ⟨b, o + j * 3 + 1, none⟩ = some (.int .u64 (p[j].off : Int)) ∧ w.cell? ⟨b, o + j * 3 + 2, none⟩ = some (.int .u64 (p[j].val : Int)) := by
  obtain ⟨b, o, cap, rfl, _⟩ := s.isS (by omega)
  have hg := inL_get p j p[j] (List.getElem?_eq_getElem h)
  refine ⟨b, o, cap, rfl, s.cell rfl hg.1, ?_, ?_⟩
  · have := s.cell rfl hg.2.1
    rw [← Nat.add_assoc] at this; exact this
  · have := s.cell rfl hg.2.2
    rw [← Nat.add_assoc] at this; exact this
theorem ne_instr (x y : Operand) (a b c : Nat) (w : World) (k : Value → Prop) : rd Tryz.prog (binM .neq 133 x y (.agg #[.int .u8 (a : Int), .int .u64 (b : Int), .int .u64 (c : Int)]) (.agg #[.int .u8 (a : Int), .int .u64 (b : Int), .int .u64 (c : Int)])) w k = k (.bool false) := by
  have h := run_st_neq (P := Tryz.prog) (t := 133) (n := 3) (by kernel_rfl) x y [.int .u8 (a : Int), .int .u64 (b : Int), .int .u64 (c : Int)] [.int .u8 (a : Int), .int .u64 (b : Int), .int .u64 (c : Int)] rfl (by simp [kin]) w
  have e : eqL [Value.int .u8 (a : Int), .int .u64 (b : Int), .int .u64 (c : Int)] [.int .u8 (a : Int), .int .u64 (b : Int), .int .u64 (c : Int)] = true := by simp [eqL]
  rw [e] at h
  exact rd_of_run h k
theorem k_equal (p : List Ins) (v u : Value) (hv : SlO w 133 3 v p.length (inL p)) (hu : SlO w 133 3 u p.length (inL p)) (hl : p.length < 1099511627776) (K : K1) (hK : ∀ w', Ext w w' → K (.bool true) w') : callS Tryz.prog 17 #[v, u] w K := by
  obtain ⟨va, vc, rfl, _⟩ := hv.isS'
  obtain ⟨ua, uc, rfl, _⟩ := hu.isS'
  refine f17_call _ _ _ _ ?_
  unfold f17_t
  simp (disch := first | omega | simp only [RO] | (simp only [RZ] <;> omega) | fail) only [↓RBp, ↓RA, ↓reduceIte, Nat.reduceAdd, Nat.reduceMul, Nat.reduceEqDiff, RB, RBr, RW, RS, RA2]
  apply f17_l1_rule (I := fun z w' => ∃ j : Nat, z = .int .i64 (j : Int) ∧ j ≤ p.length ∧ Ext w w') (μ := fun z _ => p.length - (Go.RowKit.intOf z).toNat)
  · exact ⟨0, rfl, by omega, (by repeat (first | (with_reducible first | refine eB ?_ (by omega) _ | refine eB ?_ (by simp only [RZ] <;> omega) _ | assumption | exact eR _ | refine eA ?_ _ | refine eD ?_ | refine eT ?_ (by assumption)) | exact eR _))⟩
  · intros; rename_i w1 hI E1 hE
    obtain ⟨j, rfl, hj, e1⟩ := hI
    by_cases hjl : j < p.length
    · obtain ⟨b, o, cap, ev1, a0, a1, a2⟩ := in_cells (hv.ext e1) hjl
      obtain ⟨b', o', cap', ev1', b0, b1, b2⟩ := in_cells (hu.ext e1) hjl
      injection ev1 with ev1 _ ev2; subst ev1; subst ev2
      injection ev1' with ev1' _ ev2'; subst ev1'; subst ev2'
      generalize p[j] = x at a0 a1 a2 b0 b1 b2
      obtain ⟨xo, xf, xv⟩ := x
      simp only at a0 a1 a2 b0 b1 b2
      unfold f17_l1_t
      simp (disch := first | omega | simp only [RO] | (simp only [RZ] <;> omega) | fail) only [↓RBp, ↓RA, ↓reduceIte, Nat.reduceAdd, Nat.reduceMul, Nat.reduceEqDiff, RB, RBr, RW, RS, RA2, a0, a1, a2, b0, b1, b2, ne_instr]
      apply hE
      · exact ⟨j + 1, by simp, by omega, (by repeat (first | (with_reducible first | refine eB ?_ (by omega) _ | refine eB ?_ (by simp only [RZ] <;> omega) _ | assumption | exact eR _ | refine eA ?_ _ | refine eD ?_ | refine eT ?_ (by assumption)) | exact eR _))⟩
      · simp [Go.RowKit.intOf]; omega
    · unfold f17_l1_t
      simp (disch := first | omega | simp only [RO] | (simp only [RZ] <;> omega) | fail) only [↓RBp, ↓RA, ↓reduceIte, Nat.reduceAdd, Nat.reduceMul, Nat.reduceEqDiff, RB, RBr, RW, RS, RA2, f17_k1_eq, f17_k1_t]
      exact hK _ e1
variable {c o : Int} {g : Nat}
theorem hdCells {w1 : World} (he : Ext (w.alloc (hdO c o g)) w1) : w1.cell? ⟨w.heap.size, 0, none⟩ = some (.int .i64 c) ∧ w1.cell? ⟨w.heap.size, 1, none⟩ = some (.int .i64 o) ∧ w1.cell? ⟨w.heap.size, 2, none⟩ = some (.int .u16 (g : Int)) := by
  have : ∀ i, w1.cell? ⟨w.heap.size, i, none⟩ = _ := fun i => he.cell _ i (by simp only [RZ]; omega)
  refine ⟨?_, ?_, ?_⟩ <;> (rw [this]; unfold hdO; rw [cell_new _ _ _ _ _ rfl]; rfl)
theorem rhCells {w1 : World} (he : Ext (w.alloc (rhO c o g)) w1) : w1.cell? ⟨w.heap.size, 0, none⟩ = some (.int .i64 c) ∧ w1.cell? ⟨w.heap.size, 1, none⟩ = some (.int .i64 o) ∧ w1.cell? ⟨w.heap.size, 2, none⟩ = some (.int .u16 (g : Int)) := by
  have : ∀ i, w1.cell? ⟨w.heap.size, i, none⟩ = _ := fun i => he.cell _ i (by simp only [RZ]; omega)
  refine ⟨?_, ?_, ?_⟩ <;> (rw [this]; unfold rhO; rw [cell_new _ _ _ _ _ rfl]; rfl)
end
end Go.Proofs.YtaeopkhdokaaoaaGreatDoor
namespace Go.Proofs.YtaeopkhdokaaoaaGreatDoor
open Go Go.Sh
set_option maxRecDepth 100000
set_option linter.unusedVariables false
noncomputable def f4_u : Code × Dec := ((Tryz.f4.body).getD .skip, (.s .o (.s .o (.s .o (.x 259 .o (.s .o (.x 771 .o .o)))))))
abbrev f4_e (K : K1) : KF := endK Tryz.prog Tryz.f4.results.toList K
def f4_k1_o (K : K1) : KF := fun fr w => ∀ σ, cP (pr (pr (pr (pr f4_u)))) (f4_e K) (f4_e K) nX (mixF 259 σ 0 fr) w
def f4_k1 (K : K1) (x0 x1 x8 : Value) (w : World) : Prop := f4_k1_o K (fz 155 0 [(0, x0), (1, x1), (8, x8)]) w
def f4_k2_o (K : K1) : KF := fun fr w => ∀ σ, cP (pr (pr (pr (pr (pr (pr f4_u)))))) (f4_e K) (f4_e K) nX (mixF 771 σ 0 fr) w
def f4_k2 (K : K1) (x0 x1 x8 x9 : Value) (w : World) : Prop := f4_k2_o K (fz 155 0 [(0, x0), (1, x1), (8, x8), (9, x9)]) w
def f4_k1_t (x0 x1 x8 : Value) (K : K1) (w : World) : Prop :=
 ev Tryz.prog (binM .geq 3 (.tmp 32) (.const (.int .i64 0)) x1 (.int .i64 0)) w fun t33 w_1 =>
 gd t33 true (fun k => k x1 w_1) w_1 fun t35 w_2 =>
 gd t33 true (fun k => ev Tryz.prog (binM .leq 3 (.tmp 35) (.const (.int .i64 8)) t35 (.int .i64 8)) w_2 k) w_2 fun t36 w_3 =>
 pickS t33 t36 (.bool false) w_3 fun t37 w_4 =>
 cndS t37 (
 ev Tryz.prog (convert 3 33 x1) w_4 fun t41 w_5 =>
 ev Tryz.prog (binM .mul 33 (.const (.int .u64 ((64 : Nat) : Int))) (.tmp 41) (.int .u64 ((64 : Nat) : Int)) t41) w_5 fun t42 w_6 =>
 callS Tryz.prog 25 (pA #[x8, t42, x0]) w_6 fun t44 w_7 =>
 f4_k2 K x0 x1 x8 t37 w_7) (
 f4_k2 K x0 x1 x8 t37 w_4)
theorem f4_k1_eq (K : K1) (x0 x1 x8 : Value) (w : World) : f4_k1 K x0 x1 x8 w = f4_k1_t x0 x1 x8 K w := cutE fun σ => by kernel_rfl
def f4_k2_t (x0 x1 x8 x9 : Value) (K : K1) (w : World) : Prop :=
 ev Tryz.prog (Instr.makeInterface 48 x8) w fun t47 w_1 =>
 callS Tryz.prog 26 (pA #[t47, x1]) w_1 fun t49 w_2 =>
 ev Tryz.prog (Instr.extract t49 0) w_2 fun t50 w_3 =>
 ev Tryz.prog (Instr.extract t49 1) w_3 fun t51 w_4 =>
 ev Tryz.prog (Instr.alloc 24 true (.tuple #[])) w_4 fun t10 w_5 =>
 stS Tryz.prog 24 t10 t50 w_5 fun w_6 =>
 ev Tryz.prog (Instr.makeInterface 48 x8) w_6 fun t54 w_7 =>
 callS Tryz.prog 27 (pA #[t54, x1]) w_7 fun t56 w_8 =>
 ev Tryz.prog (Instr.extract t56 0) w_8 fun t57 w_9 =>
 ev Tryz.prog (Instr.extract t56 1) w_9 fun t58 w_10 =>
 ev Tryz.prog (Instr.alloc 58 true (.tuple #[])) w_10 fun t12 w_11 =>
 stS Tryz.prog 58 t12 t57 w_11 fun w_12 =>
 callS Tryz.prog 26 (pA #[.nilIface, x1]) w_12 fun t61 w_13 =>
 ev Tryz.prog (Instr.extract t61 0) w_13 fun t62 w_14 =>
 ev Tryz.prog (Instr.extract t61 1) w_14 fun t63 w_15 =>
 ev Tryz.prog (Instr.alloc 24 true (.tuple #[])) w_15 fun t14 w_16 =>
 stS Tryz.prog 24 t14 t62 w_16 fun w_17 =>
 ev Tryz.prog (binM .neq 28 (.tmp 64) (.const (.int .i64 1)) t63 (.int .i64 1)) w_17 fun t65 w_18 =>
 gd t65 false (fun k => k x8 w_18) w_18 fun t67 w_19 =>
 gd t65 false (fun k => callS Tryz.prog 28 (pA #[t67]) w_19 k) w_19 fun t68 w_20 =>
 gd t65 false (fun k => ev Tryz.prog (binM .neq 28 (.tmp 68) (.const (.int .i64 0)) t68 (.int .i64 0)) w_20 k) w_20 fun t69 w_21 =>
 pickS t65 (.bool true) t69 w_21 fun t70 w_22 =>
 cndS t70 (
 K (.bool false) w_22) (
 callS Tryz.prog 29 (pA #[x0]) w_22 fun t73 w_23 =>
 ev Tryz.prog (Instr.extract t73 0) w_23 fun t74 w_24 =>
 ev Tryz.prog (Instr.extract t73 1) w_24 fun t75 w_25 =>
 ev Tryz.prog (Instr.alloc 35 true (.tuple #[])) w_25 fun t16 w_26 =>
 stS Tryz.prog 35 t16 t74 w_26 fun w_27 =>
 ev Tryz.prog (Op.unary .not x9) w_27 fun t78 w_28 =>
 cndS t78 (
 ev Tryz.prog (binM .eql 28 (.tmp 79) (.const (.int .i64 1)) t51 (.int .i64 1)) w_28 fun t80 w_29 =>
 gd t80 true (fun k => k t58 w_29) w_29 fun t82 w_30 =>
 gd t80 true (fun k => ev Tryz.prog (binM .eql 28 (.tmp 82) (.const (.int .i64 1)) t82 (.int .i64 1)) w_30 k) w_30 fun t83 w_31 =>
 pickS t80 t83 (.bool false) w_31 fun t84 w_32 =>
 gd t84 true (fun k => ldS Tryz.prog 24 t10 w_32 k) w_32 fun t86 w_33 =>
 gd t84 true (fun k => ev Tryz.prog (Instr.build 24 #[]) w_33 k) w_33 fun t87 w_34 =>
 gd t84 true (fun k => ev Tryz.prog (binM .eql 24 (.tmp 86) (.tmp 87) t86 t87) w_34 k) w_34 fun t88 w_35 =>
 pickS t84 t88 (.bool false) w_35 fun t89 w_36 =>
 K t89 w_36) (
 ev Tryz.prog (Op.unary .not t75) w_28 fun t92 w_37 =>
 cndS t92 (
 ev Tryz.prog (binM .eql 28 (.tmp 93) (.const (.int .i64 11)) t51 (.int .i64 11)) w_37 fun t94 w_38 =>
 gd t94 true (fun k => k t58 w_38) w_38 fun t96 w_39 =>
 gd t94 true (fun k => ev Tryz.prog (binM .eql 28 (.tmp 96) (.const (.int .i64 11)) t96 (.int .i64 11)) w_39 k) w_39 fun t97 w_40 =>
 pickS t94 t97 (.bool false) w_40 fun t98 w_41 =>
 gd t98 true (fun k => ldS Tryz.prog 24 t10 w_41 k) w_41 fun t100 w_42 =>
 gd t98 true (fun k => ev Tryz.prog (Instr.build 24 #[]) w_42 k) w_42 fun t101 w_43 =>
 gd t98 true (fun k => ev Tryz.prog (binM .eql 24 (.tmp 100) (.tmp 101) t100 t101) w_43 k) w_43 fun t102 w_44 =>
 pickS t98 t102 (.bool false) w_44 fun t103 w_45 =>
 K t103 w_45) (
 ev Tryz.prog (Instr.fieldAt 35 t16 0) w_37 fun t105 w_46 =>
 ldS Tryz.prog 3 t105 w_46 fun t106 w_47 =>
 ev Tryz.prog (binM .lss 3 (.tmp 106) (.const (.int .i64 0)) t106 (.int .i64 0)) w_47 fun t107 w_48 =>
 cndS t107 (
 ev Tryz.prog (binM .eql 28 (.tmp 108) (.const (.int .i64 0)) t51 (.int .i64 0)) w_48 fun t109 w_49 =>
 gd t109 true (fun k => k t58 w_49) w_49 fun t111 w_50 =>
 gd t109 true (fun k => ev Tryz.prog (binM .eql 28 (.tmp 111) (.const (.int .i64 8)) t111 (.int .i64 8)) w_50 k) w_50 fun t112 w_51 =>
 pickS t109 t112 (.bool false) w_51 fun t113 w_52 =>
 gd t113 true (fun k => ldS Tryz.prog 24 t10 w_52 k) w_52 fun t115 w_53 =>
 gd t113 true (fun k => ldS Tryz.prog 35 t16 w_53 k) w_53 fun t116 w_54 =>
 gd t113 true (fun k => ev Tryz.prog (binM .eql 35 (.tmp 115) (.tmp 116) t115 t116) w_54 k) w_54 fun t117 w_55 =>
 pickS t113 t117 (.bool false) w_55 fun t118 w_56 =>
 gd t118 true (fun k => ldS Tryz.prog 58 t12 w_56 k) w_56 fun t120 w_57 =>
 gd t118 true (fun k => callS Tryz.prog 30 (pA #[t120]) w_57 k) w_57 fun t121 w_58 =>
 gd t118 true (fun k => ev Tryz.prog (binM .eql 3 (.tmp 121) (.const (.int .i64 0)) t121 (.int .i64 0)) w_58 k) w_58 fun t122 w_59 =>
 pickS t118 t122 (.bool false) w_59 fun t123 w_60 =>
 K t123 w_60) (
 rd Tryz.prog (binM .eql 28 (.tmp 124) (.const (.int .i64 0)) t51 (.int .i64 0)) w_48.drew fun t125 =>
 gdR t125 true (fun k => k t58) fun t127 =>
 gdR t125 true (fun k => rd Tryz.prog (binM .eql 28 (.tmp 127) (.const (.int .i64 0)) t127 (.int .i64 0)) w_48.drew k) fun t128 =>
 pickV t125 t128 (.bool false) fun t129 =>
 gdR t129 true (fun k => ldR Tryz.prog 24 t10 w_48.drew k) fun t131 =>
 gdR t129 true (fun k => ldR Tryz.prog 35 t16 w_48.drew k) fun t132 =>
 gdR t129 true (fun k => rd Tryz.prog (binM .eql 35 (.tmp 131) (.tmp 132) t131 t132) w_48.drew k) fun t133 =>
 pickV t129 t133 (.bool false) fun t134 =>
 gdR t134 true (fun k => ldR Tryz.prog 58 t12 w_48.drew k) fun t136 =>
 gdR t134 true (fun k => k x1) fun t138 =>
 gd t134 true (fun k => callS Tryz.prog 30 (pA #[t136]) w_48.drew k) w_48.drew fun t137 w_61 =>
 gdR t134 true (fun k => rd Tryz.prog (binM .eql 3 (.tmp 137) (.tmp 138) t137 t138) w_61 k) fun t139 =>
 pickV t134 t139 (.bool false) fun t140 =>
 gdR t140 true (fun k => ldR Tryz.prog 58 t12 w_61 k) fun t142 =>
 gdR t140 true (fun k => rd Tryz.prog (Instr.fieldAt 35 t16 0) w_61 k) fun t144 =>
 gdR t140 true (fun k => ldR Tryz.prog 3 t144 w_61 k) fun t145 =>
 gd t140 true (fun k => callS Tryz.prog 31 (pA #[t142]) w_61 k) w_61 fun t143 w_62 =>
 (gq t140 true (ag Tryz.prog (Instr.fieldAt 35 t16 0) w_62 t144)) ∧
 (gq t140 true (ldG Tryz.prog 3 t144 w_62 t145)) ∧
 gdR t140 true (fun k => rd Tryz.prog (binM .eql 3 (.tmp 143) (.tmp 145) t143 t145) w_62 k) fun t146 =>
 pickV t140 t146 (.bool false) fun t147 =>
 gdR t147 true (fun k => ldR Tryz.prog 58 t12 w_62 k) fun t149 =>
 gdR t147 true (fun k => rd Tryz.prog (Instr.fieldAt 35 t16 1) w_62 k) fun t151 =>
 gdR t147 true (fun k => ldR Tryz.prog 3 t151 w_62 k) fun t152 =>
 gd t147 true (fun k => callS Tryz.prog 32 (pA #[t149]) w_62 k) w_62 fun t150 w_63 =>
 (gq t147 true (ag Tryz.prog (Instr.fieldAt 35 t16 1) w_63 t151)) ∧
 (gq t147 true (ldG Tryz.prog 3 t151 w_63 t152)) ∧
 gdR t147 true (fun k => rd Tryz.prog (binM .eql 3 (.tmp 150) (.tmp 152) t150 t152) w_63 k) fun t153 =>
 pickV t147 t153 (.bool false) fun t154 =>
 K t154 w_63))))
theorem f4_k2_eq (K : K1) (x0 x1 x8 x9 : Value) (w : World) : f4_k2 K x0 x1 x8 x9 w = f4_k2_t x0 x1 x8 x9 K w := cutE fun σ => by kernel_rfl
def f4_t (x0 x1 x2 : Value) (K : K1) (w : World) : Prop :=
 callS Tryz.prog 23 (pA #[]) w fun t19 w_1 =>
 ev Tryz.prog (Instr.extract t19 0) w_1 fun t20 w_2 =>
 ev Tryz.prog (Instr.extract t19 1) w_2 fun t21 w_3 =>
 callS Tryz.prog 12 (pA #[]) w_3 fun t22 w_4 =>
 ev Tryz.prog (Op.unary .not t22) w_4 fun t23 w_5 =>
 gd t23 false (fun k => k t21 w_5) w_5 fun t25 w_6 =>
 gd t23 false (fun k => ev Tryz.prog (binM .eql 48 (.tmp 25) (.const (.pointer none)) t25 (.pointer none)) w_6 k) w_6 fun t26 w_7 =>
 pickS t23 (.bool true) t26 w_7 fun t27 w_8 =>
 cndS t27 (
 K (.bool false) w_8) (
 cndS x2 (
 ev Tryz.prog (convert 33 44 x0) w_8 fun t30 w_9 =>
 callS Tryz.prog 24 (pA #[t30]) w_9 fun t31 w_10 =>
 f4_k1 K t31 x1 t21 w_10) (
 f4_k1 K x0 x1 t21 w_8))
theorem f4_call (x0 x1 x2 : Value) (K : K1) (w : World) (h : f4_t x0 x1 x2 K w) : callS Tryz.prog 4 #[x0, x1, x2] w K :=
  call_of_txt (args := [x0, x1, x2]) mixed Tryz.func4 f4_u.2 (by kernel_rfl) (cast (by kernel_rfl) h)
end Go.Proofs.YtaeopkhdokaaoaaGreatDoor
namespace Go.Proofs.YtaeopkhdokaaoaaGreatDoor
open Go Go.Sh
set_option maxRecDepth 100000
set_option maxHeartbeats 8000000
set_option linter.unusedSimpArgs false
set_option linter.unusedVariables false
section
variable {w w' : World} {Y Y' : Lay} {D D' : DS} {c o : Int} {g : Nat}
theorem eqHd (x y : Operand) (a b : Int) (c : Nat) (w : World) : (binM .eql 24 x y (.agg #[.int .i64 a, .int .i64 b, .int .u16 (c : Int)]) (.agg #[.int .i64 a, .int .i64 b, .int .u16 (c : Int)])).run Tryz.prog w = .ok (.bool true) w := by
  have h := run_st_eql (P := Tryz.prog) (t := 24) (n := 3) (by kernel_rfl) x y [.int .i64 a, .int .i64 b, .int .u16 (c : Int)] [.int .i64 a, .int .i64 b, .int .u16 (c : Int)] rfl (by simp [kin]) w
  have e : eqL [Value.int .i64 a, .int .i64 b, .int .u16 (c : Int)] [.int .i64 a, .int .i64 b, .int .u16 (c : Int)] = true := by simp [eqL]
  rw [e] at h
  exact h
theorem eqRh (x y : Operand) (a b : Int) (c : Nat) (w : World) : (binM .eql 35 x y (.agg #[.int .i64 a, .int .i64 b, .int .u16 (c : Int)]) (.agg #[.int .i64 a, .int .i64 b, .int .u16 (c : Int)])).run Tryz.prog w = .ok (.bool true) w := by
  have h := run_st_eql (P := Tryz.prog) (t := 35) (n := 3) (by kernel_rfl) x y [.int .i64 a, .int .i64 b, .int .u16 (c : Int)] [.int .i64 a, .int .i64 b, .int .u16 (c : Int)] rfl (by simp [kin]) w
  have e : eqL [Value.int .i64 a, .int .i64 b, .int .u16 (c : Int)] [.int .i64 a, .int .i64 b, .int .u16 (c : Int)] = true := by simp [eqL]
  rw [e] at h
  exact h
theorem evHd (x y : Operand) (a b : Int) (c : Nat) (w : World) (k : K1) : ev Tryz.prog (binM .eql 24 x y (.agg #[.int .i64 a, .int .i64 b, .int .u16 (c : Int)]) (.agg #[.int .i64 a, .int .i64 b, .int .u16 (c : Int)])) w k = k (.bool true) w := ev_of_run (eqHd x y a b c w) k
theorem evRh (x y : Operand) (a b : Int) (c : Nat) (w : World) (k : K1) : ev Tryz.prog (binM .eql 35 x y (.agg #[.int .i64 a, .int .i64 b, .int .u16 (c : Int)]) (.agg #[.int .i64 a, .int .i64 b, .int .u16 (c : Int)])) w k = k (.bool true) w := ev_of_run (eqRh x y a b c w) k
theorem rdRh (x y : Operand) (a b : Int) (c : Nat) (w : World) (k : Value → Prop) : rd Tryz.prog (binM .eql 35 x y (.agg #[.int .i64 a, .int .i64 b, .int .u16 (c : Int)]) (.agg #[.int .i64 a, .int .i64 b, .int .u16 (c : Int)])) w k = k (.bool true) := rd_of_run (eqRh x y a b c w) k
theorem rl_eq (x : Nat) (hx : x < 18446744073709551616) : hdOk x = (rightB (hC x) (hO x) (gX x) && decide (x = sealN (hdX (hC x) (hO x) (gX x)))) := by
  have hg : gX x < 65536 := by unfold gX; omega
  have hc : -1 ≤ hC x ∧ hC x ≤ 14 := by unfold hC; omega
  have ho : -1 ≤ hO x ∧ hO x ≤ 14 := by unfold hO; omega
  cases hb : (rightB (hC x) (hO x) (gX x) && decide (x = sealN (hdX (hC x) (hO x) (gX x)))) with
  | true =>
    simp only [Bool.and_eq_true, decide_eq_true_eq] at hb
    obtain ⟨hr, hs⟩ := hb
    simp only [rightB, Bool.and_eq_true, Bool.not_eq_true', decide_eq_false_iff_not, Bool.or_eq_true, decide_eq_true_eq] at hr
    obtain ⟨hg0, hr⟩ := hr
    rw [hs]
    rcases hr with ⟨h1, h2⟩ | h
    · rw [h1, h2]; exact (hd_free hg0 hg).1
    · simp only [fmtB, Bool.and_eq_true, decide_eq_true_eq] at h
      exact (hd_ok h.1.1.1 h.1.1.2 h.1.2 h.2 hg0 hg).1
  | false =>
    cases hh : hdOk x with
    | false => rfl
    | true =>
      exfalso
      simp only [hdOk, Bool.and_eq_true, Bool.not_eq_true', decide_eq_false_iff_not, Bool.or_eq_true, decide_eq_true_eq] at hh
      obtain ⟨⟨⟨h1, h2⟩, h3⟩, h4⟩ := hh
      have hS : sealN (x % 4294967296) = x := by simpa [isS] using h1
      have hy : x % 4294967296 = hdX (hC x) (hO x) (gX x) := by
        unfold hdX
        rcases h4 with ⟨a, b⟩ | h
        · rw [if_neg (by omega)]
          unfold hC at a; unfold hO at b; unfold sX at h2; unfold gX
          omega
        · simp only [fmtB, Bool.and_eq_true, decide_eq_true_eq] at h
          rw [if_pos h.1.1.1]
          unfold sX at h2
          unfold hC hO gX
          omega
      rw [hy] at hS
      have hr : rightB (hC x) (hO x) (gX x) = true := by
        rcases h4 with ⟨a, b⟩ | h
        · have a' : hC x = -1 := by omega
          have b' : hO x = -1 := by omega
          simp [rightB, h3, a', b']
        · simp [rightB, h3, h]
      rw [hr, ← hS] at hb
      simp only [Bool.true_and, decide_eq_false_iff_not] at hb
      apply hb
      rw [hS]; exact hS.symm
theorem k_rLook (x : Nat) (hx : x < 18446744073709551616) (K : K1) (hK : ∀ w', Ext w w' → K (.tuple #[.agg #[.int .i64 (hC x), .int .i64 (hO x), .int .u16 (gX x : Int)], .bool (hdOk x)]) w') : callS Tryz.prog 29 #[.int .u64 (x : Int)] w K := by
  have e1 : ((x / 2 ^ 16 % 16 : Nat) : Int) - 1 = hC x := rfl
  have e2 : ((x / 2 ^ 20 % 16 : Nat) : Int) - 1 = hO x := rfl
  have e3 : x % 65536 = gX x := rfl
  have hg : gX x < 65536 := by unfold gX; omega
  rw [rl_eq x hx] at hK
  have hr : ∀ (w2 : World) (K : K1), callS Tryz.prog 18 #[.agg #[.int .i64 (hC x), .int .i64 (hO x), .int .u16 (gX x : Int)]] w2 K = K (.bool (rightB (hC x) (hO x) (gX x))) (w2.alloc (rhO (hC x) (hO x) (gX x))) := fun w2 K => c_rRight _ _ _ w2 K
  have hf : rightB (hC x) (hO x) (gX x) = true → ∀ (w2 : World) (K : K1), callS Tryz.prog 16 #[.agg #[.int .i64 (hC x), .int .i64 (hO x), .int .u16 (gX x : Int)]] w2 K = K (.int .u64 ((sealN (hdX (hC x) (hO x) (gX x)) : Nat) : Int)) (w2.alloc (rhO (hC x) (hO x) (gX x))) := fun h w2 K => by
    refine c_rFirst _ _ _ w2 K hg ?_
    simp only [rightB, fmtB, Bool.and_eq_true, Bool.not_eq_true', decide_eq_false_iff_not, Bool.or_eq_true, decide_eq_true_eq] at h
    rcases h.2 with h | h
    · exact .inl h
    · exact .inr ⟨h.1.1.1, h.1.1.2, h.1.2, h.2⟩
  have b1 : -1 ≤ hC x ∧ hC x ≤ 14 := by unfold hC; omega
  have b2 : -1 ≤ hO x ∧ hO x ≤ 14 := by unfold hO; omega
  refine f29_call _ _ _ ?_
  unfold f29_t
  generalize hC x = cc at *
  generalize hO x = oo at *
  generalize gX x = gg at *
  cases hrb : rightB cc oo gg with
  | false =>
    rw [hrb] at hr hK
    rw [Bool.false_and] at hK
    (repeat' (first | (with_reducible refine brS_mk (fun _ => ?_) (fun _ => ?_)) | (with_reducible refine And.intro ?_ ?_) | (simp (disch := first | omega | simp only [RO] | (simp only [RZ] <;> omega) | (with_reducible (repeat (first | assumption | exact Ext.refl _ | refine Ext.alloc ?_ _ | refine Ext.drew ?_ | refine Ext.trans ?_ (by assumption)))) | fail) only [↓RBp, ↓RA, ↓reduceIte, Nat.reduceAdd, Nat.reduceMul, Nat.reduceEqDiff, RB, RBr, RW, RS, RA2, e1, e2, e3, hr])))
    exact hK _ (by repeat (first | (with_reducible first | refine eB ?_ (by omega) _ | refine eB ?_ (by simp only [RZ] <;> omega) _ | assumption | exact eR _ | refine eA ?_ _ | refine eD ?_ | refine eT ?_ (by assumption)) | exact eR _))
  | true =>
    have hf := hf hrb
    rw [hrb] at hr hK
    rw [Bool.true_and] at hK
    (repeat' (first | (with_reducible refine brS_mk (fun _ => ?_) (fun _ => ?_)) | (with_reducible refine And.intro ?_ ?_) | (simp (disch := first | omega | simp only [RO] | (simp only [RZ] <;> omega) | (with_reducible (repeat (first | assumption | exact Ext.refl _ | refine Ext.alloc ?_ _ | refine Ext.drew ?_ | refine Ext.trans ?_ (by assumption)))) | fail) only [↓RBp, ↓RA, ↓reduceIte, Nat.reduceAdd, Nat.reduceMul, Nat.reduceEqDiff, RB, RBr, RW, RS, RA2, e1, e2, e3, hr, hf])))
    exact hK _ (by repeat (first | (with_reducible first | refine eB ?_ (by omega) _ | refine eB ?_ (by simp only [RZ] <;> omega) _ | assumption | exact eR _ | refine eA ?_ _ | refine eD ?_ | refine eT ?_ (by assumption)) | exact eR _))
theorem c_Line (Y : Lay) (l : Nat) (c o : Int) (g : Nat) (w : World) (K : K1) : callS Tryz.prog 30 #[chV Y l c o g] w K = K (.int .i64 (l : Int)) (w.alloc (chO Y l c o g)) := by
  refine callS_det (by kernel_rfl) (f30_call _ _ _ ?_) K
  unfold f30_t
  simp (disch := first | omega | simp only [RO] | (simp only [RZ] <;> omega) | fail) only [↓RBp, ↓RA, ↓reduceIte, Nat.reduceAdd, Nat.reduceMul, Nat.reduceEqDiff, RB, RBr, RW, RS, RA2]
theorem c_Owner (Y : Lay) (l : Nat) (c o : Int) (g : Nat) (w : World) (K : K1) : callS Tryz.prog 32 #[chV Y l c o g] w K = K (.int .i64 o) (w.alloc (chO Y l c o g)) := by
  refine callS_det (by kernel_rfl) (f32_call _ _ _ ?_) K
  unfold f32_t
  simp (disch := first | omega | simp only [RO] | (simp only [RZ] <;> omega) | fail) only [↓RBp, ↓RA, ↓reduceIte, Nat.reduceAdd, Nat.reduceMul, Nat.reduceEqDiff, RB, RBr, RW, RS, RA2]
theorem c_LineZ (w : World) (K : K1) : callS Tryz.prog 30 #[chZ] w K = K (.int .i64 0) (w.alloc chzO) := by
  refine callS_det (by kernel_rfl) (f30_call _ _ _ ?_) K
  unfold f30_t
  simp (disch := first | omega | simp only [RO] | (simp only [RZ] <;> omega) | fail) only [↓RBp, ↓RA, ↓reduceIte, Nat.reduceAdd, Nat.reduceMul, Nat.reduceEqDiff, RB, RBr, RW, RS, RA2]
theorem czCells {w1 : World} (he : Ext (w.alloc chzO) w1) : w1.cell? ⟨w.heap.size, 0, none⟩ = some .nilIface ∧ w1.cell? ⟨w.heap.size, 1, none⟩ = some (.int .i64 0) ∧ w1.cell? ⟨w.heap.size, 2, none⟩ = some (.int .i64 0) ∧ w1.cell? ⟨w.heap.size, 3, none⟩ = some (.int .i64 0) ∧ w1.cell? ⟨w.heap.size, 4, none⟩ = some (.int .u16 ((0 : Nat) : Int)) := by
  have : ∀ i, w1.cell? ⟨w.heap.size, i, none⟩ = _ := fun i => he.cell _ i (by simp only [RZ]; omega)
  refine ⟨?_, ?_, ?_, ?_, ?_⟩ <;> (rw [this, cell_new _ _ _ _ _ rfl]; rfl)
abbrev LkS (w : World) (m line : Value) (r : Value) : Prop := ∀ (w1 : World) (K1 : K1), Ext w w1 → (∀ w', Ext w1 w' → K1 r w') → callS Tryz.prog 26 #[m, line] w1 K1
abbrev OpS (w : World) (m line : Value) (r : Value) : Prop := ∀ (w1 : World) (K1 : K1), Ext w w1 → (∀ w', Ext w1 w' → K1 r w') → callS Tryz.prog 27 #[m, line] w1 K1
theorem f4_out (h : Dv w Y D) (he : D.err 0 = 0) (line : Int) (x : Nat) (hx : x < 18446744073709551616) (hL : LkS w (thV Y) (.int .i64 line) (.tuple #[.agg #[.int .i64 0, .int .i64 0, .int .u16 ((0 : Nat) : Int)], .int .i64 1])) (hP : OpS w (thV Y) (.int .i64 line) (.tuple #[chZ, .int .i64 1])) (K : K1) (hK : ∀ w', Ext w w' → K (.bool true) w') :
    f4_k2 K (.int .u64 (x : Int)) (.int .i64 line) (.pointer (some ⟨Y.tb 0, 0, none⟩)) (.bool false) w := by
  have her : ∀ (w1 : World) (K : K1), Ext w w1 → callS Tryz.prog 28 #[.pointer (some ⟨Y.tb 0, 0, none⟩)] w1 K = K (.int .i64 0) w1 := fun w1 K e => by rw [c_Err (h.ext e) 0 (by omega) K, he]
  rw [f4_k2_eq]
  unfold f4_k2_t
  simp (disch := first | omega | simp only [RO] | (simp only [RZ] <;> omega) | fail) only [↓RBp, ↓RA, ↓reduceIte, Nat.reduceAdd, Nat.reduceMul, Nat.reduceEqDiff, RB, RBr, RW, RS, RA2]
  refine hL _ _ (Ext.refl _) (fun w1 e1 => ?_)
  simp (disch := first | omega | simp only [RO] | (simp only [RZ] <;> omega) | fail) only [↓RBp, ↓RA, ↓reduceIte, Nat.reduceAdd, Nat.reduceMul, Nat.reduceEqDiff, RB, RBr, RW, RS, RA2]
  have ea : Ext w1 (w1.alloc (hdO 0 0 0)) := Ext.alloc_self _ _
  refine hP _ _ (Ext.trans e1 ea) (fun w2 e2 => ?_)
  have e2' : Ext (w1.alloc (hdO 0 0 0)) w2 := e2
  have e02 : Ext w w2 := (e1.trans ea).trans e2
  simp (disch := first | omega | simp only [RO] | (simp only [RZ] <;> omega) | fail) only [↓RBp, ↓RA, ↓reduceIte, Nat.reduceAdd, Nat.reduceMul, Nat.reduceEqDiff, RB, RBr, RW, RS, RA2]
  refine k_LookNil line _ (fun w3 e3 => ?_)
  have e3' : Ext (w2.alloc (chzO)) w3 := e3
  have e23 : Ext w2 w3 := Ext.trans (Ext.alloc_self _ _) e3
  have e03 : Ext w w3 := e02.trans e23
  simp (disch := first | omega | simp only [RO] | (simp only [RZ] <;> omega) | (with_reducible (repeat (first | assumption | exact Ext.refl _ | refine Ext.alloc ?_ _ | refine Ext.drew ?_ | refine Ext.trans ?_ (by assumption)))) | fail) only [↓RBp, ↓RA, ↓reduceIte, Nat.reduceAdd, Nat.reduceMul, Nat.reduceEqDiff, RB, RBr, RW, RS, RA2, her]
  refine k_rLook x hx _ (fun w4 e4 => ?_)
  have e34 : Ext w3 w4 := Ext.trans (by repeat (first | (with_reducible first | refine eB ?_ (by omega) _ | refine eB ?_ (by simp only [RZ] <;> omega) _ | assumption | exact eR _ | refine eA ?_ _ | refine eD ?_ | refine eT ?_ (by assumption)) | exact eR _)) e4
  have e04 : Ext w w4 := e03.trans e34
  have ob1 := hdCells (e2'.trans (e23.trans e34)); have a0 := ob1.1; have a1 := ob1.2.1; have a2 := ob1.2.2
  have ob2 := czCells (e3'.trans e34); have b0 := ob2.1; have b1 := ob2.2.1; have b2 := ob2.2.2.1; have b3 := ob2.2.2.2.1; have b4 := ob2.2.2.2.2
  have lta : w1.heap.size < w4.heap.size := lt_of_cell a0
  have ltb : w2.heap.size < w4.heap.size := lt_of_cell b0
  (repeat' (first | (with_reducible refine brS_mk (fun _ => ?_) (fun _ => ?_)) | (with_reducible refine And.intro ?_ ?_) | (simp (disch := first | omega | simp only [RO] | (simp only [RZ] <;> omega) | (with_reducible (repeat (first | assumption | exact Ext.refl _ | refine Ext.alloc ?_ _ | refine Ext.drew ?_ | refine Ext.trans ?_ (by assumption)))) | fail) only [↓RBp, ↓RA, ↓reduceIte, Nat.reduceAdd, Nat.reduceMul, Nat.reduceEqDiff, RB, RBr, RW, RS, RA2, a0, a1, a2, b0, b1, b2, b3, b4, evHd])))
  exact hK _ (by repeat (first | (with_reducible first | refine eB ?_ (by omega) _ | refine eB ?_ (by simp only [RZ] <;> omega) _ | assumption | exact eR _ | refine eA ?_ _ | refine eD ?_ | refine eT ?_ (by assumption)) | exact eR _))
theorem f4_form (h : Dv w Y D) (he : D.err 0 = 0) (line : Int) (x : Nat) (hx : x < 18446744073709551616) (hok : hdOk x = false) (hL : LkS w (thV Y) (.int .i64 line) (.tuple #[.agg #[.int .i64 0, .int .i64 0, .int .u16 ((0 : Nat) : Int)], .int .i64 11])) (hP : OpS w (thV Y) (.int .i64 line) (.tuple #[chZ, .int .i64 11])) (K : K1) (hK : ∀ w', Ext w w' → K (.bool true) w') :
    f4_k2 K (.int .u64 (x : Int)) (.int .i64 line) (.pointer (some ⟨Y.tb 0, 0, none⟩)) (.bool true) w := by
  have her : ∀ (w1 : World) (K : K1), Ext w w1 → callS Tryz.prog 28 #[.pointer (some ⟨Y.tb 0, 0, none⟩)] w1 K = K (.int .i64 0) w1 := fun w1 K e => by rw [c_Err (h.ext e) 0 (by omega) K, he]
  rw [f4_k2_eq]
  unfold f4_k2_t
  simp (disch := first | omega | simp only [RO] | (simp only [RZ] <;> omega) | fail) only [↓RBp, ↓RA, ↓reduceIte, Nat.reduceAdd, Nat.reduceMul, Nat.reduceEqDiff, RB, RBr, RW, RS, RA2]
  refine hL _ _ (Ext.refl _) (fun w1 e1 => ?_)
  simp (disch := first | omega | simp only [RO] | (simp only [RZ] <;> omega) | fail) only [↓RBp, ↓RA, ↓reduceIte, Nat.reduceAdd, Nat.reduceMul, Nat.reduceEqDiff, RB, RBr, RW, RS, RA2]
  have ea : Ext w1 (w1.alloc (hdO 0 0 0)) := Ext.alloc_self _ _
  refine hP _ _ (Ext.trans e1 ea) (fun w2 e2 => ?_)
  have e2' : Ext (w1.alloc (hdO 0 0 0)) w2 := e2
  have e02 : Ext w w2 := (e1.trans ea).trans e2
  simp (disch := first | omega | simp only [RO] | (simp only [RZ] <;> omega) | fail) only [↓RBp, ↓RA, ↓reduceIte, Nat.reduceAdd, Nat.reduceMul, Nat.reduceEqDiff, RB, RBr, RW, RS, RA2]
  refine k_LookNil line _ (fun w3 e3 => ?_)
  have e3' : Ext (w2.alloc (chzO)) w3 := e3
  have e23 : Ext w2 w3 := Ext.trans (Ext.alloc_self _ _) e3
  have e03 : Ext w w3 := e02.trans e23
  simp (disch := first | omega | simp only [RO] | (simp only [RZ] <;> omega) | (with_reducible (repeat (first | assumption | exact Ext.refl _ | refine Ext.alloc ?_ _ | refine Ext.drew ?_ | refine Ext.trans ?_ (by assumption)))) | fail) only [↓RBp, ↓RA, ↓reduceIte, Nat.reduceAdd, Nat.reduceMul, Nat.reduceEqDiff, RB, RBr, RW, RS, RA2, her]
  refine k_rLook x hx _ (fun w4 e4 => ?_)
  have e34 : Ext w3 w4 := Ext.trans (by repeat (first | (with_reducible first | refine eB ?_ (by omega) _ | refine eB ?_ (by simp only [RZ] <;> omega) _ | assumption | exact eR _ | refine eA ?_ _ | refine eD ?_ | refine eT ?_ (by assumption)) | exact eR _)) e4
  have e04 : Ext w w4 := e03.trans e34
  have ob3 := hdCells (e2'.trans (e23.trans e34)); have a0 := ob3.1; have a1 := ob3.2.1; have a2 := ob3.2.2
  have ob4 := czCells (e3'.trans e34); have b0 := ob4.1; have b1 := ob4.2.1; have b2 := ob4.2.2.1; have b3 := ob4.2.2.2.1; have b4 := ob4.2.2.2.2
  have lta : w1.heap.size < w4.heap.size := lt_of_cell a0
  have ltb : w2.heap.size < w4.heap.size := lt_of_cell b0
  (repeat' (first | (with_reducible refine brS_mk (fun _ => ?_) (fun _ => ?_)) | (with_reducible refine And.intro ?_ ?_) | (simp (disch := first | omega | simp only [RO] | (simp only [RZ] <;> omega) | (with_reducible (repeat (first | assumption | exact Ext.refl _ | refine Ext.alloc ?_ _ | refine Ext.drew ?_ | refine Ext.trans ?_ (by assumption)))) | fail) only [↓RBp, ↓RA, ↓reduceIte, Nat.reduceAdd, Nat.reduceMul, Nat.reduceEqDiff, RB, RBr, RW, RS, RA2, a0, a1, a2, b0, b1, b2, b3, b4, evHd, hok])))
  exact hK _ (by repeat (first | (with_reducible first | refine eB ?_ (by omega) _ | refine eB ?_ (by simp only [RZ] <;> omega) _ | assumption | exact eR _ | refine eA ?_ _ | refine eD ?_ | refine eT ?_ (by assumption)) | exact eR _))
theorem f4_free (h : Dv w Y D) (he : D.err 0 = 0) (line : Int) (x : Nat) (hx : x < 18446744073709551616) (hok : hdOk x = true) (hc : hC x < 0) (hL : LkS w (thV Y) (.int .i64 line) (.tuple #[.agg #[.int .i64 (hC x), .int .i64 (hO x), .int .u16 (((gX x) : Nat) : Int)], .int .i64 0])) (hP : OpS w (thV Y) (.int .i64 line) (.tuple #[chZ, .int .i64 8])) (K : K1) (hK : ∀ w', Ext w w' → K (.bool true) w') :
    f4_k2 K (.int .u64 (x : Int)) (.int .i64 line) (.pointer (some ⟨Y.tb 0, 0, none⟩)) (.bool true) w := by
  have her : ∀ (w1 : World) (K : K1), Ext w w1 → callS Tryz.prog 28 #[.pointer (some ⟨Y.tb 0, 0, none⟩)] w1 K = K (.int .i64 0) w1 := fun w1 K e => by rw [c_Err (h.ext e) 0 (by omega) K, he]
  rw [f4_k2_eq]
  unfold f4_k2_t
  simp (disch := first | omega | simp only [RO] | (simp only [RZ] <;> omega) | fail) only [↓RBp, ↓RA, ↓reduceIte, Nat.reduceAdd, Nat.reduceMul, Nat.reduceEqDiff, RB, RBr, RW, RS, RA2]
  refine hL _ _ (Ext.refl _) (fun w1 e1 => ?_)
  simp (disch := first | omega | simp only [RO] | (simp only [RZ] <;> omega) | fail) only [↓RBp, ↓RA, ↓reduceIte, Nat.reduceAdd, Nat.reduceMul, Nat.reduceEqDiff, RB, RBr, RW, RS, RA2]
  have ea : Ext w1 (w1.alloc (hdO (hC x) (hO x) (gX x))) := Ext.alloc_self _ _
  refine hP _ _ (Ext.trans e1 ea) (fun w2 e2 => ?_)
  have e2' : Ext (w1.alloc (hdO (hC x) (hO x) (gX x))) w2 := e2
  have e02 : Ext w w2 := (e1.trans ea).trans e2
  simp (disch := first | omega | simp only [RO] | (simp only [RZ] <;> omega) | fail) only [↓RBp, ↓RA, ↓reduceIte, Nat.reduceAdd, Nat.reduceMul, Nat.reduceEqDiff, RB, RBr, RW, RS, RA2]
  refine k_LookNil line _ (fun w3 e3 => ?_)
  have e3' : Ext (w2.alloc (chzO)) w3 := e3
  have e23 : Ext w2 w3 := Ext.trans (Ext.alloc_self _ _) e3
  have e03 : Ext w w3 := e02.trans e23
  simp (disch := first | omega | simp only [RO] | (simp only [RZ] <;> omega) | (with_reducible (repeat (first | assumption | exact Ext.refl _ | refine Ext.alloc ?_ _ | refine Ext.drew ?_ | refine Ext.trans ?_ (by assumption)))) | fail) only [↓RBp, ↓RA, ↓reduceIte, Nat.reduceAdd, Nat.reduceMul, Nat.reduceEqDiff, RB, RBr, RW, RS, RA2, her]
  refine k_rLook x hx _ (fun w4 e4 => ?_)
  have e34 : Ext w3 w4 := Ext.trans (by repeat (first | (with_reducible first | refine eB ?_ (by omega) _ | refine eB ?_ (by simp only [RZ] <;> omega) _ | assumption | exact eR _ | refine eA ?_ _ | refine eD ?_ | refine eT ?_ (by assumption)) | exact eR _)) e4
  have e04 : Ext w w4 := e03.trans e34
  have ob5 := hdCells (e2'.trans (e23.trans e34)); have a0 := ob5.1; have a1 := ob5.2.1; have a2 := ob5.2.2
  have ob6 := czCells (e3'.trans e34); have b0 := ob6.1; have b1 := ob6.2.1; have b2 := ob6.2.2.1; have b3 := ob6.2.2.2.1; have b4 := ob6.2.2.2.2
  have lta : w1.heap.size < w4.heap.size := lt_of_cell a0
  have ltb : w2.heap.size < w4.heap.size := lt_of_cell b0
  (repeat' (first | (with_reducible refine brS_mk (fun _ => ?_) (fun _ => ?_)) | (with_reducible refine And.intro ?_ ?_) | (simp (disch := first | omega | simp only [RO] | (simp only [RZ] <;> omega) | (with_reducible (repeat (first | assumption | exact Ext.refl _ | refine Ext.alloc ?_ _ | refine Ext.drew ?_ | refine Ext.trans ?_ (by assumption)))) | fail) only [↓RBp, ↓RA, ↓reduceIte, Nat.reduceAdd, Nat.reduceMul, Nat.reduceEqDiff, RB, RBr, RW, RS, RA2, a0, a1, a2, b0, b1, b2, b3, b4, evRh, hok, c_LineZ])))
  exact hK _ (by repeat (first | (with_reducible first | refine eB ?_ (by omega) _ | refine eB ?_ (by simp only [RZ] <;> omega) _ | assumption | exact eR _ | refine eA ?_ _ | refine eD ?_ | refine eT ?_ (by assumption)) | exact eR _))
theorem f4_good (h : Dv w Y D) (he : D.err 0 = 0) (l : Nat) (x : Nat) (hx : x < 18446744073709551616) (hok : hdOk x = true) (hc : ¬ hC x < 0) (hL : LkS w (thV Y) (.int .i64 (l : Int)) (.tuple #[.agg #[.int .i64 (hC x), .int .i64 (hO x), .int .u16 (((gX x) : Nat) : Int)], .int .i64 0])) (hP : OpS w (thV Y) (.int .i64 (l : Int)) (.tuple #[chV Y l (hC x) (hO x) (gX x), .int .i64 0])) (K : K1) (hK : ∀ w', Ext w w' → K (.bool true) w') :
    f4_k2 K (.int .u64 (x : Int)) (.int .i64 (l : Int)) (.pointer (some ⟨Y.tb 0, 0, none⟩)) (.bool true) w := by
  have her : ∀ (w1 : World) (K : K1), Ext w w1 → callS Tryz.prog 28 #[.pointer (some ⟨Y.tb 0, 0, none⟩)] w1 K = K (.int .i64 0) w1 := fun w1 K e => by rw [c_Err (h.ext e) 0 (by omega) K, he]
  rw [f4_k2_eq]
  unfold f4_k2_t
  simp (disch := first | omega | simp only [RO] | (simp only [RZ] <;> omega) | fail) only [↓RBp, ↓RA, ↓reduceIte, Nat.reduceAdd, Nat.reduceMul, Nat.reduceEqDiff, RB, RBr, RW, RS, RA2]
  refine hL _ _ (Ext.refl _) (fun w1 e1 => ?_)
  simp (disch := first | omega | simp only [RO] | (simp only [RZ] <;> omega) | fail) only [↓RBp, ↓RA, ↓reduceIte, Nat.reduceAdd, Nat.reduceMul, Nat.reduceEqDiff, RB, RBr, RW, RS, RA2]
  have ea : Ext w1 (w1.alloc (hdO (hC x) (hO x) (gX x))) := Ext.alloc_self _ _
  refine hP _ _ (Ext.trans e1 ea) (fun w2 e2 => ?_)
  have e2' : Ext (w1.alloc (hdO (hC x) (hO x) (gX x))) w2 := e2
  have e02 : Ext w w2 := (e1.trans ea).trans e2
  simp (disch := first | omega | simp only [RO] | (simp only [RZ] <;> omega) | fail) only [↓RBp, ↓RA, ↓reduceIte, Nat.reduceAdd, Nat.reduceMul, Nat.reduceEqDiff, RB, RBr, RW, RS, RA2]
  refine k_LookNil (l : Int) _ (fun w3 e3 => ?_)
  have e3' : Ext (w2.alloc (chO Y l (hC x) (hO x) (gX x))) w3 := e3
  have e23 : Ext w2 w3 := Ext.trans (Ext.alloc_self _ _) e3
  have e03 : Ext w w3 := e02.trans e23
  simp (disch := first | omega | simp only [RO] | (simp only [RZ] <;> omega) | (with_reducible (repeat (first | assumption | exact Ext.refl _ | refine Ext.alloc ?_ _ | refine Ext.drew ?_ | refine Ext.trans ?_ (by assumption)))) | fail) only [↓RBp, ↓RA, ↓reduceIte, Nat.reduceAdd, Nat.reduceMul, Nat.reduceEqDiff, RB, RBr, RW, RS, RA2, her]
  refine k_rLook x hx _ (fun w4 e4 => ?_)
  have e34 : Ext w3 w4 := Ext.trans (by repeat (first | (with_reducible first | refine eB ?_ (by omega) _ | refine eB ?_ (by simp only [RZ] <;> omega) _ | assumption | exact eR _ | refine eA ?_ _ | refine eD ?_ | refine eT ?_ (by assumption)) | exact eR _)) e4
  have e04 : Ext w w4 := e03.trans e34
  have ob7 := hdCells (e2'.trans (e23.trans e34)); have a0 := ob7.1; have a1 := ob7.2.1; have a2 := ob7.2.2
  have ob8 := chCells (e3'.trans e34); have b0 := ob8.1; have b1 := ob8.2.1; have b2 := ob8.2.2.1; have b3 := ob8.2.2.2.1; have b4 := ob8.2.2.2.2
  have lta : w1.heap.size < w4.heap.size := lt_of_cell a0
  have ltb : w2.heap.size < w4.heap.size := lt_of_cell b0
  (repeat' (first | (with_reducible refine brS_mk (fun _ => ?_) (fun _ => ?_)) | (with_reducible refine And.intro ?_ ?_) | (simp (disch := first | omega | simp only [RO] | (simp only [RZ] <;> omega) | (with_reducible (repeat (first | assumption | exact Ext.refl _ | refine Ext.alloc ?_ _ | refine Ext.drew ?_ | refine Ext.trans ?_ (by assumption)))) | fail) only [↓RBp, ↓RA, ↓reduceIte, Nat.reduceAdd, Nat.reduceMul, Nat.reduceEqDiff, RB, RBr, RW, RS, RA2, a0, a1, a2, b0, b1, b2, b3, b4, rdRh, hok, c_Line, c_Class, c_Owner])))
  exact hK _ (by repeat (first | (with_reducible first | refine eB ?_ (by omega) _ | refine eB ?_ (by simp only [RZ] <;> omega) _ | assumption | exact eR _ | refine eA ?_ _ | refine eD ?_ | refine eT ?_ (by assumption)) | exact eR _))
theorem law_looks (hG : Glob w) (w0 : Nat) (hw0 : w0 < 18446744073709551616) (line : Int) (hl : line < 9223372036854775808) (hl' : -9223372036854775808 ≤ line) (sb : Bool) (K : K1) (hK : ∀ w', Ext w w' → K (.bool true) w') :
    callS Tryz.prog 4 #[.int .u64 (w0 : Int), .int .i64 line, .bool sb] w K := by
  refine f4_call _ _ _ _ _ ?_
  unfold f4_t
  simp (disch := first | omega | simp only [RO] | (simp only [RZ] <;> omega) | fail) only [↓RBp, ↓RA, ↓reduceIte, Nat.reduceAdd, Nat.reduceMul, Nat.reduceEqDiff, RB, RBr, RW, RS, RA2]
  refine k_begin _ (fun w1 Y e1 d1 n1 => ?_)
  simp (disch := first | omega | simp only [RO] | (simp only [RZ] <;> omega) | fail) only [↓RBp, ↓RA, ↓reduceIte, Nat.reduceAdd, Nat.reduceMul, Nat.reduceEqDiff, RB, RBr, RW, RS, RA2]
  refine k_awake (hG.ext e1) _ (fun w2 e2 => ?_)
  have L2 : Lv w w2 Y (DS.zero 40) := ⟨d1.ext e2, Good.zero 40 (by omega) (by omega), e1.trans e2, n1⟩
  have tail : ∀ x : Nat, x < 18446744073709551616 → f4_k1 K (.int .u64 (x : Int)) (.int .i64 line) (.pointer (some ⟨Y.tb 0, 0, none⟩)) w2 := by
    intro x hx
    rw [f4_k1_eq]
    unfold f4_k1_t
    have hn40 : (DS.zero 40).n = 40 := rfl
    by_cases hin : 0 ≤ line ∧ line ≤ 8
    · obtain ⟨l, rfl⟩ : ∃ l : Nat, line = (l : Int) := ⟨line.toNat, by omega⟩
      have e64 : 64 * l = l * 64 := Nat.mul_comm _ _
      have hv : vOff (DS.zero 40) (l * 64) = true := by simp only [vOff, hn40, Bool.and_eq_true, decide_eq_true_eq]; omega
      simp (disch := first | omega | simp only [RO] | (simp only [RZ] <;> omega) | fail) only [↓RBp, ↓RA, ↓reduceIte, Nat.reduceAdd, Nat.reduceMul, Nat.reduceEqDiff, RB, RBr, RW, RS, RA2, e64]
      refine k_Store L2.dv L2.gd 0 (by omega) (l * 64) x (by show (0 : Nat) < _; omega) _ (fun w3 Y3 st => ?_)
      have hD : On ((DS.zero 40).store 0 (l * 64) x) := (On.zero 40).storeOn _ _ hv
      have hc := (On.zero 40).storeCur (l * 64) x hv
      have hn : ((DS.zero 40).store 0 (l * 64) x).n = 40 := store_n _ _ _ _
      have hgd : Good ((DS.zero 40).store 0 (l * 64) x) := L2.gd.store _ _ _ hx
      have L3 := L2.step st hgd
      have hwd : wd ((DS.zero 40).store 0 (l * 64) x) l 0 = x := by unfold wd; rw [hc]; show (if _ then _ else _) = _; rw [if_pos (by omega)]
      generalize (DS.zero 40).store 0 (l * 64) x = D at *
      have tb : Y3.tb 0 = Y.tb 0 := by rw [st.tb]
      rw [← tb]
      simp (disch := first | omega | simp only [RO] | (simp only [RZ] <;> omega) | fail) only [↓RBp, ↓RA, ↓reduceIte, Nat.reduceAdd, Nat.reduceMul, Nat.reduceEqDiff, RB, RBr, RW, RS, RA2]
      have e3 := L3.ex
      have hG3 := hG.ext e3
      have hK3 : ∀ w', Ext w3 w' → K (.bool true) w' := fun w' e => hK w' (e3.trans e)
      cases hok : hdOk x with
      | false =>
        have hLk : LkS w3 (thV Y3) (.int .i64 (l : Int)) (.tuple #[.agg #[.int .i64 0, .int .i64 0, .int .u16 ((0 : Nat) : Int)], .int .i64 11]) := fun w4 K4 e4 h4 => k_LookForm (L3.dv.ext e4) hgd (hG3.ext e4) hD.off hD.err l (by omega) (by rw [hwd]; exact hok) K4 h4
        exact f4_form L3.dv hD.err (l : Int) x hx hok hLk (fun w4 K4 e4 h4 => k_OpenErr _ _ 11 (by omega) K4 (fun w5 K5 e5 h5 => hLk w5 K5 (e4.trans e5) h5) h4) K hK3
      | true =>
        have hLk : LkS w3 (thV Y3) (.int .i64 (l : Int)) (.tuple #[.agg #[.int .i64 (hC x), .int .i64 (hO x), .int .u16 (gX x : Int)], .int .i64 0]) := fun w4 K4 e4 h4 => k_Look (L3.dv.ext e4) hgd (hG3.ext e4) hD.off hD.err l (by omega) (by rw [hwd]; exact hok) K4 (by rw [hwd]; exact h4)
        by_cases hc0 : hC x < 0
        · refine f4_free L3.dv hD.err (l : Int) x hx hok hc0 hLk (fun w4 K4 e4 h4 => k_OpenAt (L3.dv.ext e4) hgd (hG3.ext e4) hD.off hD.err l (by omega) (by rw [hwd]; exact hok) K4 ?_) K hK3
          rw [hwd, if_pos hc0]; exact h4
        · refine f4_good L3.dv hD.err l x hx hok hc0 hLk (fun w4 K4 e4 h4 => k_OpenAt (L3.dv.ext e4) hgd (hG3.ext e4) hD.off hD.err l (by omega) (by rw [hwd]; exact hok) K4 ?_) K hK3
          rw [hwd, if_neg hc0]; exact h4
    · have hLk : LkS w2 (thV Y) (.int .i64 line) (.tuple #[.agg #[.int .i64 0, .int .i64 0, .int .u16 ((0 : Nat) : Int)], .int .i64 1]) := fun w4 K4 e4 h4 => k_LookBad (L2.dv.ext e4) L2.gd line (by rw [hn40]; omega) hl hl' K4 h4
      have hend : f4_k2 K (.int .u64 (x : Int)) (.int .i64 line) (.pointer (some ⟨Y.tb 0, 0, none⟩)) (.bool false) w2 := f4_out L2.dv rfl line x hx hLk (fun w4 K4 e4 h4 => k_OpenErr _ _ 1 (by omega) K4 (fun w5 K5 e5 h5 => hLk w5 K5 (e4.trans e5) h5) h4) K (fun w' e => hK w' (L2.ex.trans e))
      by_cases h0 : 0 ≤ line
      · have h1 : ¬ line ≤ 8 := by omega
        simp (disch := first | omega | simp only [RO] | (simp only [RZ] <;> omega) | fail) only [↓RBp, ↓RA, ↓reduceIte, Nat.reduceAdd, Nat.reduceMul, Nat.reduceEqDiff, RB, RBr, RW, RS, RA2]
        exact hend
      · simp (disch := first | omega | simp only [RO] | (simp only [RZ] <;> omega) | fail) only [↓RBp, ↓RA, ↓reduceIte, Nat.reduceAdd, Nat.reduceMul, Nat.reduceEqDiff, RB, RBr, RW, RS, RA2]
        exact hend
  cases sb with
  | false =>
    simp (disch := first | omega | simp only [RO] | (simp only [RZ] <;> omega) | fail) only [↓RBp, ↓RA, ↓reduceIte, Nat.reduceAdd, Nat.reduceMul, Nat.reduceEqDiff, RB, RBr, RW, RS, RA2]
    exact tail w0 hw0
  | true =>
    have hsl := sealN_lt (w0 % 4294967296) (Nat.mod_lt _ (by omega))
    have hse : ∀ (w2 : World) (K : K1), callS Tryz.prog 24 #[.int .u32 ((w0 % 4294967296 : Nat) : Int)] w2 K = K (.int .u64 ((sealN (w0 % 4294967296) : Nat) : Int)) w2 := fun w2 K => c_rSeal (w0 % 4294967296) w2 K (Nat.mod_lt _ (by omega))
    simp (disch := first | omega | simp only [RO] | (simp only [RZ] <;> omega) | fail) only [↓RBp, ↓RA, ↓reduceIte, Nat.reduceAdd, Nat.reduceMul, Nat.reduceEqDiff, RB, RBr, RW, RS, RA2, hse]
    exact tail _ hsl
end
end Go.Proofs.YtaeopkhdokaaoaaGreatDoor
namespace Go.Proofs.YtaeopkhdokaaoaaGreatDoor
open Go Go.Sh Go.ChangeShapes Go.WideShapes Go.ChangeAt Go.RowKit Go.Joins
set_option maxRecDepth 100000
set_option linter.unusedVariables false
theorem chunkLooks_par : Tryz.f4.params = #[33, 3, 4] := by kernel_rfl
theorem chunkLooks_call {H : Type} {enc : TypeId × Value → H} (W : World) (base : Nat) (args : Array Value) (ds gs : List (DataW H)) (before : List MemPlace)
    (hval0 : ∀ (j : Nat) t v, Tryz.f4.params[j]? = some t → args[j]? = some v → Value.okWide Tryz.prog W .any base t v)
    (hW : DataW.Whole enc Tryz.prog Tryz.f4.params.toList Rows.chunkLooksSpec.vars false W args.toList ds gs before) (hL : laidMetH Tryz.prog laidL W) :
    Calls Tryz.prog 4 args W fun e W' => ∃ v, e = .returned v ∧ Rows.chunkLooksSpec.post enc Tryz.prog Tryz.f4 false true false false W args v W' := by
  have hval := hval0
  have hW' := hW
  obtain ⟨p, q, hA0, hV, rfl, hfz, hnd⟩ := hW
  have hA := hA0
  rw [chunkLooks_par] at hA hval
  obtain ⟨v0, v1, v2, d0, d1, d2, p0, p1, p2, rfl, rfl, rfl, h0, h1, h2⟩ := trodAll_three hA
  obtain ⟨rfl, rfl⟩ := trodVars_none hV
  have hG := glob_of_laid hL
  obtain ⟨x, rfl, hd0, hp0, w0⟩ := open_int (show Tryz.prog.underlying 33 = some (.int .u64) by kernel_rfl) (hval 0 33 v0 rfl rfl) h0
  have bd0 := bounds_u64 w0
  obtain ⟨xn, rfl⟩ : ∃ n : Nat, x = (n : Int) := ⟨x.toNat, by omega⟩
  obtain ⟨line, rfl, hd1, hp1, w1⟩ := open_int (show Tryz.prog.underlying 3 = some (.int .i64) by kernel_rfl) (hval 1 3 v1 rfl rfl) h1
  have bd1 := bounds_i64 w1
  obtain ⟨sb, rfl, hd2, hp2⟩ := open_bool (show Tryz.prog.underlying 4 = some .bool by kernel_rfl) (hval 2 4 v2 rfl rfl) h2
  simp only [List.append_nil] at hW'
  have hrun := law_looks hG xn (by omega) line (by omega) (by omega) sb (fun v w' => v = .bool true ∧ Ext W w') (fun w' he => ⟨rfl, he⟩)
  refine Calls.mono hrun (fun e W' hh => ?_)
  cases e with
  | returned v =>
    obtain ⟨rfl, he⟩ := hh
    exact ⟨_, rfl, post_ext rfl (by kernel_rfl) (by rw [chunkLooks_par]; intro t ht; simp only [List.mem_cons, List.not_mem_nil, or_false] at ht; rcases ht with rfl | rfl | rfl <;> exact ⟨by kernel_rfl, of_decide_eq_true (by kernel_rfl)⟩) hW' rfl he⟩
  | _ => exact hh.elim
theorem chunkLooks_lifted (os : Os) (started : os.Started) (H : Type) (enc : TypeId × Value → H) :
    ReturnsInHanded {} Tryz.checked os 4 .any (fun w args => (Rows.chunkLooksSpec.pre enc Tryz.prog Tryz.f4 [] false w args ∧ laidMetH Tryz.prog laidL w) ∧ sizedMet enc Tryz.prog Tryz.f4 (OpenSpec.ofChange Rows.chunkLooksSpec) false w args)
      (Rows.chunkLooksSpec.post enc Tryz.prog Tryz.f4 false true false false) :=
  returnsInHanded_of_change_and (C := Tryz.checked) (X := fun w _ => laidMetH Tryz.prog laidL w) (fun _ _ _ hh h => h.of_heap hh) Tryz.own started (by kernel_rfl) Tryz.func4
    (ChangeSpec.witness_shaped (enc := enc) (C := Tryz.checked) (os := os) (X := fun w _ => laidMetH Tryz.prog laidL w) false (World.doorLaid Tryz.prog 400 os) #[.int .u64 0, .int .i64 0, .bool false] 8 rfl (World.shaped_of_RefB (by kernel_rfl) (by kernel_rfl)) (by kernel_rfl) (by kernel_rfl) (by kernel_rfl) (door_met os _))
    (fun W base args ds gs before hval hW _ _ hL _ => chunkLooks_call W base args ds gs before hval hW hL)
theorem chunkLooks_said : Rows.ChunkLooksSaid :=
  OpenClaim.holds_of_wide 4 Tryz.f4 rfl rfl rfl rfl rfl rfl rfl ⟨rfl, rfl, rfl, rfl, rfl⟩ rfl rfl rfl rfl rfl (by kernel_rfl) Tryz.func4 (by kernel_rfl)
    (of_decide_eq_true (by kernel_rfl)) (by unfold Func.isWrapper; first | (rw [if_pos (by decide +kernel)]; kernel_rfl) | (rw [if_neg (by decide +kernel)]; exact ⟨rfl, rfl⟩))
    (fun os started H enc _ => chunkLooks_lifted os started H enc)
theorem chunkLooks_holds : Rows.ChunkLooksCardSaid :=
  Claim7.holds_tied_plain_at .later [] [.data, .data] true (true, "24470021dd94d15a10437493892302ffd2cce9043b76962bff25473f24497a03") false
    chunkLooks_said (fun _ h => by cases h) (by kernel_rfl) (fun _ h => by cases h) chunkLooks_row_tie rfl ⟨rfl, rfl⟩ (by kernel_rfl) rfl
    (fun f fn hf hfn => by
      obtain rfl : f = 4 := Option.some.inj ((show Tryz.prog.funcNamed "bedrock/bedrocklaw21.ChunkLooks" = some 4 by kernel_rfl).symm.trans hf) |>.symm
      obtain rfl : fn = Tryz.f4 := (Option.some.inj (Tryz.func4.symm.trans hfn)).symm
      exact ⟨by kernel_rfl, fun j t ht => by
        rw [chunkLooks_par] at ht
        have hm : t ∈ [33, 3, 4] := by simpa using Array.mem_of_getElem? ht
        have hall : ([33, 3, 4].all fun u => !Tryz.prog.wantsStandIn u) = true := by kernel_rfl
        exact (show Tryz.prog.wantsStandIn t = false by simpa using List.all_eq_true.1 hall t hm)⟩)
    (by kernel_rfl)
#print axioms chunkLooks_holds
end Go.Proofs.YtaeopkhdokaaoaaGreatDoor
