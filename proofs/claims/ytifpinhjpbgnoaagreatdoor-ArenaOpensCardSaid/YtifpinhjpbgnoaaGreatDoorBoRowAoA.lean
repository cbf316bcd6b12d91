/-
  Part of the proof in YtifpinhjpbgnoaaGreatDoorBoRowAo.
-/
import Derived.Test.YtifpinhjpbgnoaaGreatDoorBo4
import Derived.Test.YtifpinhjpbgnoaaGreatDoorBo5
import Derived.Test.YtifpinhjpbgnoaaGreatDoorBo1
namespace Go.Proofs.YtifpinhjpbgnoaaGreatDoor
open Go Go.Sh
set_option maxRecDepth 100000
set_option maxHeartbeats 4000000
set_option linter.unusedSimpArgs false
set_option linter.unusedVariables false
def okP (x : Nat) : Bool := goodB (gX x) (kX x) (sX x) && isS x
structure Wm (w : World) (b o : Nat) (W : Nat → Nat) : Prop where
  cell : ∀ {i : Nat}, i < 256 → w.cell? ⟨b, o + i, none⟩ = some (u64 (W i))
  frz : ∀ i, w.frozen? ⟨b, i, none⟩ = false
abbrev wsV (b o cap : Nat) : Value := .slice (some ⟨b, o, none⟩) 256 cap
section
variable {w w' : World} {W : Nat → Nat} {b ob cap : Nat} {c : Int}
end
end Go.Proofs.YtifpinhjpbgnoaaGreatDoor
namespace Go.Proofs.YtifpinhjpbgnoaaGreatDoor
open Go Go.Sh
set_option maxRecDepth 100000
set_option maxHeartbeats 4000000
set_option linter.unusedSimpArgs false
set_option linter.unusedVariables false
def ActsR (m : Nat) (w : World) (v : Value) (al : List (List Int × List Nat × List Int)) : Prop := ∃ a cap, v = .slice a al.length cap ∧ ∀ j x, al[j]? = some x → ∃ b o s1 s2 s3, a = some ⟨b, o, none⟩ ∧ b < m ∧ w.cell? ⟨b, o + j * 3, none⟩ = some s1 ∧ w.cell? ⟨b, o + j * 3 + 1, none⟩ = some s2 ∧ w.cell? ⟨b, o + j * 3 + 2, none⟩ = some s3 ∧ RdS m w s1 (i64L x.1) ∧ RdS m w s2 (u8L x.2.1) ∧ RdS m w s3 (i64L x.2.2)
section
variable {w w' : World} {Y : Lay} {D : DS} {l m : Nat} {v : Value} {al : List (List Int × List Nat × List Int)}
theorem ActsR.ext (h : ActsR m w v al) (e : Ext w w') : ActsR m w' v al := by
  obtain ⟨a, cap, hv, h⟩ := h
  refine ⟨a, cap, hv, fun j x hx => ?_⟩
  obtain ⟨b, o, s1, s2, s3, ha, hb, c1, c2, c3, r1, r2, r3⟩ := h j x hx
  exact ⟨b, o, s1, s2, s3, ha, hb, e.cell_some c1, e.cell_some c2, e.cell_some c3, r1.ext e, r2.ext e, r3.ext e⟩
theorem elU64 : ElT Tryz.prog 39 39 30 1 8 (.int .u64 0) := el_39_39
def wdL (W : Nat → Nat) (n : Nat) : List Value := (List.range n).map fun j => u64 (W j)
theorem wdL_snoc (W : Nat → Nat) (n : Nat) : wdL W (n + 1) = wdL W n ++ [u64 (W n)] := by simp [wdL, List.range_succ]
theorem wdL_get {W : Nat → Nat} {n j : Nat} (h : j < n) : (wdL W n)[j]? = some (u64 (W j)) := by simp [wdL, h]
theorem Wm.of_sl {W : Nat → Nat} {b o n cap : Nat} (h : SlO w 30 1 (.slice (some ⟨b, o, none⟩) n cap) 256 (wdL W 256)) : Wm w b o W := ⟨fun hi => h.cell rfl (wdL_get hi), fun i => h.frz rfl i⟩
end
end Go.Proofs.YtifpinhjpbgnoaaGreatDoor
namespace Go.Proofs.YtifpinhjpbgnoaaGreatDoor
open Go Go.Sh
set_option linter.unusedSimpArgs false
set_option linter.unusedVariables false
end Go.Proofs.YtifpinhjpbgnoaaGreatDoor
namespace Go.Proofs.YtifpinhjpbgnoaaGreatDoor
open Go Go.Sh
set_option maxRecDepth 100000
set_option maxHeartbeats 4000000
set_option linter.unusedSimpArgs false
set_option linter.unusedVariables false
section
variable {w0 w w' : World} {Y Y' : Lay} {D D' : DS} {B l k : Nat} {c o : Int} {g : Nat} {K : K1} {E1 : VP1}
theorem Wm.ext {b ob : Nat} {W : Nat → Nat} (h : Wm w b ob W) (e : Ext w w') : Wm w' b ob W := ⟨fun hi => e.cell_some (h.cell hi), fun i => by
  have hc := h.cell (i := 0) (by omega)
  have hlt := lt_of_cell hc
  have := h.frz i
  unfold World.frozen? at this ⊢
  simp only at this ⊢
  rw [e.blk b hlt]; exact this⟩
theorem Loc.base {wI : World} (h : Loc w0 w Y D B l c o g) (e : Ext wI w0) (hG : Glob wI) : Loc wI w Y D B l c o g := ⟨⟨h.L.dv, h.L.gd, e.trans h.L.ex, fun x hx => Nat.le_trans e.size (h.L.nw x hx)⟩, h.bx, h.nb, h.on, h.lt, hG, h.c0, h.c5⟩
theorem Snd.parts (h : Snd D l c o) {k : Nat} (hk : (k : Int) < perS c) : okP (wd D l (offN c k)) = true ∧ bG (wd D l (offN c k)) = gX (wd D l (offN c k)) ∧ bK (wd D l (offN c k)) = kX (wd D l (offN c k)) ∧ bS (wd D l (offN c k)) = sX (wd D l (offN c k)) := by
  have h1 := h.sl k hk
  have h2 := h.gd k hk
  have e1 : bG (wd D l (offN c k)) = gX (wd D l (offN c k)) := by unfold bG; rw [if_pos h1]
  have e2 : bK (wd D l (offN c k)) = kX (wd D l (offN c k)) := by unfold bK; rw [if_pos h1]
  have e3 : bS (wd D l (offN c k)) = sX (wd D l (offN c k)) := by unfold bS; rw [if_pos h1]
  refine ⟨?_, e1, e2, e3⟩
  rw [e1, e2, e3] at h2
  unfold okP; rw [h1, h2]; rfl
end
end Go.Proofs.YtifpinhjpbgnoaaGreatDoor
namespace Go.Proofs.YtifpinhjpbgnoaaGreatDoor
open Go Go.Sh
set_option maxRecDepth 100000
set_option maxHeartbeats 4000000
set_option linter.unusedSimpArgs false
set_option linter.unusedVariables false
section
variable {w w' : World} {D : DS} {l bw ow cw : Nat} {c o : Int}
end
end Go.Proofs.YtifpinhjpbgnoaaGreatDoor
namespace Go.Proofs.YtifpinhjpbgnoaaGreatDoor
open Go Go.Sh
set_option maxRecDepth 100000
set_option maxHeartbeats 4000000
set_option linter.unusedSimpArgs false
set_option linter.unusedVariables false
theorem SlO.upd {w : World} {t : TypeId} {b o n cap : Nat} {L : List Value} (h : SlO w t 1 (.slice (some ⟨b, o, none⟩) n cap) n L) {i : Nat} (u : Value) (hi : i < n) : SlO (w.setCell ⟨b, o + i, none⟩ u) t 1 (.slice (some ⟨b, o, none⟩) n cap) n (L.set i u) := by
  obtain ⟨hl, h | ⟨b', o', cap', a, hv, hh, hnc, hcm, hsz, hg⟩⟩ := h
  · cases h.1
  · injection hv with hv h2 h3
    injection hv with hv
    injection hv with h4 h5 _
    subst h4; subst h5; subst h3
    have hC : Cells w b t a.size (fun j => (a[j]?).getD undef) := ⟨a, hh, Nat.le_refl _, fun j hj => by simp only [Array.getElem?_eq_getElem hj, Option.getD_some]⟩
    have hC2 := hC.set (i := o + i) u (by omega)
    obtain ⟨a', hh', hs', hg'⟩ := hC2
    refine ⟨by rw [List.length_set]; exact hl, .inr ⟨b, o, cap, a', rfl, hh', hnc, hcm, by omega, fun j x hj => ?_⟩⟩
    have hjn : j < n := by
      have := (List.getElem?_eq_some_iff.1 hj).1
      rw [List.length_set] at this; omega
    rw [hg' (o + j) (by omega)]
    simp only
    rw [List.getElem?_set] at hj
    by_cases e : i = j
    · subst e
      rw [if_pos rfl, if_pos (by omega)] at hj
      rw [if_pos rfl]; exact hj
    · rw [if_neg e] at hj
      rw [if_neg (by omega), hg j x hj, Option.getD_some]
section
variable {w w' : World} {D : DS} {l bw ow cw : Nat} {c o : Int}
theorem wdL_congr {W V : Nat → Nat} {n : Nat} (h : ∀ i, i < n → W i = V i) : wdL W n = wdL V n := by
  unfold wdL
  rw [List.map_inj_left]
  intro i hi
  rw [h i (List.mem_range.1 hi)]
end
end Go.Proofs.YtifpinhjpbgnoaaGreatDoor
namespace Go.Proofs.YtifpinhjpbgnoaaGreatDoor
open Go Go.Sh
set_option maxRecDepth 100000
set_option maxHeartbeats 4000000
set_option linter.unusedSimpArgs false
set_option linter.unusedVariables false
section
variable {w w' : World} {D : DS} {l bw ow cw : Nat} {c o : Int}
end
end Go.Proofs.YtifpinhjpbgnoaaGreatDoor
namespace Go.Proofs.YtifpinhjpbgnoaaGreatDoor
open Go Go.Sh
set_option maxRecDepth 100000
set_option maxHeartbeats 8000000
set_option linter.unusedSimpArgs false
set_option linter.unusedVariables false
section
variable {w w' : World} {Y Y' : Lay} {D D' : DS} {c o : Int} {g : Nat}
theorem rl_eq (x : Nat) (hx : x < 18446744073709551616) : hdOk x = (rightB (hC x) (hO x) (gX x) && decide (x = sealN (hdX (hC x) (hO x) (gX x)))) := by
  have hg : gX x < 65536 := by unfold gX; omega
  have hc : -1 ≤ hC x ∧ hC x ≤ 14 := by unfold hC; omega
  have ho : -1 ≤ hO x ∧ hO x ≤ 14 := by unfold hO; omega
  cases hb : (rightB (hC x) (hO x) (gX x) && decide (x = sealN (hdX (hC x) (hO x) (gX x)))) with
  | true =>
    simp only [Bool.and_eq_true, decide_eq_true_eq] at hb
    obtain ⟨hr, hs⟩ := hb
    simp only [rightB, Bool.and_eq_true, Bool.not_eq_true', decide_eq_false_iff_not, Bool.or_eq_true, decide_eq_true_eq] at hr
    obtain ⟨hg0, hr⟩ := hr
    rw [hs]
    rcases hr with ⟨h1, h2⟩ | h
    · rw [h1, h2]; exact (hd_free hg0 hg).1
    · simp only [fmtB, Bool.and_eq_true, decide_eq_true_eq] at h
      exact (hd_ok h.1.1.1 h.1.1.2 h.1.2 h.2 hg0 hg).1
  | false =>
    cases hh : hdOk x with
    | false => rfl
    | true =>
      exfalso
      simp only [hdOk, Bool.and_eq_true, Bool.not_eq_true', decide_eq_false_iff_not, Bool.or_eq_true, decide_eq_true_eq] at hh
      obtain ⟨⟨⟨h1, h2⟩, h3⟩, h4⟩ := hh
      have hS : sealN (x % 4294967296) = x := by simpa [isS] using h1
      have hy : x % 4294967296 = hdX (hC x) (hO x) (gX x) := by
        unfold hdX
        rcases h4 with ⟨a, b⟩ | h
        · rw [if_neg (by omega)]
          unfold hC at a; unfold hO at b; unfold sX at h2; unfold gX
          omega
        · simp only [fmtB, Bool.and_eq_true, decide_eq_true_eq] at h
          rw [if_pos h.1.1.1]
          unfold sX at h2
          unfold hC hO gX
          omega
      rw [hy] at hS
      have hr : rightB (hC x) (hO x) (gX x) = true := by
        rcases h4 with ⟨a, b⟩ | h
        · have a' : hC x = -1 := by omega
          have b' : hO x = -1 := by omega
          simp [rightB, h3, a', b']
        · simp [rightB, h3, h]
      rw [hr, ← hS] at hb
      simp only [Bool.true_and, decide_eq_false_iff_not] at hb
      apply hb
      rw [hS]; exact hS.symm
theorem k_rLook (x : Nat) (hx : x < 18446744073709551616) (K : K1) (hK : ∀ w', Ext w w' → K (.tuple #[.agg #[.int .i64 (hC x), .int .i64 (hO x), .int .u16 (gX x : Int)], .bool (hdOk x)]) w') : callS Tryz.prog 12 #[.int .u64 (x : Int)] w K := by
  have e1 : ((x / 2 ^ 16 % 16 : Nat) : Int) - 1 = hC x := rfl
  have e2 : ((x / 2 ^ 20 % 16 : Nat) : Int) - 1 = hO x := rfl
  have e3 : x % 65536 = gX x := rfl
  have hg : gX x < 65536 := by unfold gX; omega
  rw [rl_eq x hx] at hK
  have hr : ∀ (w2 : World) (K : K1), callS Tryz.prog 44 #[.agg #[.int .i64 (hC x), .int .i64 (hO x), .int .u16 (gX x : Int)]] w2 K = K (.bool (rightB (hC x) (hO x) (gX x))) (w2.alloc (rhO (hC x) (hO x) (gX x))) := fun w2 K => c_rRight _ _ _ w2 K
  have hf : rightB (hC x) (hO x) (gX x) = true → ∀ (w2 : World) (K : K1), callS Tryz.prog 45 #[.agg #[.int .i64 (hC x), .int .i64 (hO x), .int .u16 (gX x : Int)]] w2 K = K (.int .u64 ((sealN (hdX (hC x) (hO x) (gX x)) : Nat) : Int)) (w2.alloc (rhO (hC x) (hO x) (gX x))) := fun h w2 K => by
    refine c_rFirst _ _ _ w2 K hg ?_
    simp only [rightB, fmtB, Bool.and_eq_true, Bool.not_eq_true', decide_eq_false_iff_not, Bool.or_eq_true, decide_eq_true_eq] at h
    rcases h.2 with h | h
    · exact .inl h
    · exact .inr ⟨h.1.1.1, h.1.1.2, h.1.2, h.2⟩
  have b1 : -1 ≤ hC x ∧ hC x ≤ 14 := by unfold hC; omega
  have b2 : -1 ≤ hO x ∧ hO x ≤ 14 := by unfold hO; omega
  refine f12_call _ _ _ ?_
  unfold f12_t
  generalize hC x = cc at *
  generalize hO x = oo at *
  generalize gX x = gg at *
  cases hrb : rightB cc oo gg with
  | false =>
    rw [hrb] at hr hK
    rw [Bool.false_and] at hK
    (repeat' (first | (with_reducible refine brS_mk (fun _ => ?_) (fun _ => ?_)) | (with_reducible refine And.intro ?_ ?_) | (simp (disch := first | omega | simp only [RO] | (simp only [RZ] <;> omega) | (with_reducible (repeat (first | assumption | exact Ext.refl _ | refine Ext.alloc ?_ _ | refine Ext.drew ?_ | refine Ext.trans ?_ (by assumption)))) | fail) only [↓RBp, ↓RA, ↓reduceIte, Nat.reduceAdd, Nat.reduceMul, Nat.reduceEqDiff, RB, RX, RA2, e1, e2, e3, hr])))
    exact hK _ (by repeat (first | (with_reducible first | refine Sh.eB ?_ (by first | omega | (simp only [RZ] <;> omega)) _ | assumption | exact Sh.eR _ | refine Sh.eA ?_ _ | refine Sh.eD ?_ | refine Sh.eT ?_ (by assumption)) | exact Sh.eR _))
  | true =>
    have hf := hf hrb
    rw [hrb] at hr hK
    rw [Bool.true_and] at hK
    (repeat' (first | (with_reducible refine brS_mk (fun _ => ?_) (fun _ => ?_)) | (with_reducible refine And.intro ?_ ?_) | (simp (disch := first | omega | simp only [RO] | (simp only [RZ] <;> omega) | (with_reducible (repeat (first | assumption | exact Ext.refl _ | refine Ext.alloc ?_ _ | refine Ext.drew ?_ | refine Ext.trans ?_ (by assumption)))) | fail) only [↓RBp, ↓RA, ↓reduceIte, Nat.reduceAdd, Nat.reduceMul, Nat.reduceEqDiff, RB, RX, RA2, e1, e2, e3, hr, hf])))
    exact hK _ (by repeat (first | (with_reducible first | refine Sh.eB ?_ (by first | omega | (simp only [RZ] <;> omega)) _ | assumption | exact Sh.eR _ | refine Sh.eA ?_ _ | refine Sh.eD ?_ | refine Sh.eT ?_ (by assumption)) | exact Sh.eR _))
end
end Go.Proofs.YtifpinhjpbgnoaaGreatDoor
namespace Go.Proofs.YtifpinhjpbgnoaaGreatDoor
open Go Go.Sh
set_option maxRecDepth 100000
set_option maxHeartbeats 4000000
set_option linter.unusedSimpArgs false
set_option linter.unusedVariables false
section
variable {w w' : World} {Y : Lay} {D : DS} {l m : Nat} {v : Value}
theorem k_words22 (h : Dv w Y D) (g : Good D) (ho : D.off = false) (hl : l + 32 ≤ D.n) (K : K1) (hK : ∀ b o cap w', SlO w' 30 1 (wsV b o cap) 256 (wdL (wd D l) 256) → Ext w w' → w.heap.size ≤ b → K (wsV b o cap) w') :
    callS Tryz.prog 13 #[.pointer (some ⟨Y.tb 0, 0, none⟩), .int .i64 (l : Int)] w K := by
  have hn := g.n
  have ld : ∀ (i : Nat) (w1 : World) (K : K1), Ext w w1 → i < 256 → callS Tryz.prog 46 #[.pointer (some ⟨Y.tb 0, 0, none⟩), .int .u64 ((l * 64 + i * 8 : Nat) : Int)] w1 K = K (.int .u64 (wd D l i : Int)) w1 := fun i w1 K e hi => by
    rw [c_Load (h.ext e) g 0 (by omega) ho (l * 64 + i * 8) (by omega) (by omega) K, show (l * 64 + i * 8) / 8 = l * 8 + i by omega]; unfold wd; rfl
  refine f13_call _ _ _ _ ?_
  unfold f13_t
  apply f13_l1_rule (I := fun x z w' => ∃ k : Nat, z = .int .i64 (k : Int) ∧ k ≤ 256 ∧ SlO w' 30 1 x k (wdL (wd D l) k) ∧ Frm Nob w w' ∧ NewV w.heap.size x) (μ := fun _ z _ => 256 - (Go.RowKit.intOf z).toNat)
  · exact ⟨0, rfl, by omega, SlO.nil _ _ _, Frm.refl _ _, fun b hb => by cases hb⟩
  · intros; rename_i x5 x7 w1 hI E1 hE
    obtain ⟨k, rfl, hk, hs, hf, hnw⟩ := hI
    have e1 : Ext w w1 := hf.to_ext (fun _ _ h => h)
    by_cases hk2 : k < 256
    · have e8 : (64 * l + 8 * k) = l * 64 + k * 8 := by omega
      have ldk := fun (w1 : World) (K : K1) (e : Ext w w1) => ld k w1 K e hk2
      obtain ⟨pa, pc, rfl, hpc⟩ := hs.isS'
      generalize hx : wd D l k = x at *
      unfold f13_l1_t
      simp (disch := first | omega | simp only [RO] | (simp only [RZ] <;> omega) | (with_reducible (repeat (first | assumption | exact Ext.refl _ | refine Ext.alloc ?_ _ | refine Ext.drew ?_ | refine Ext.trans ?_ (by assumption)))) | fail) only [↓RBp, ↓RA, ↓reduceIte, Nat.reduceAdd, Nat.reduceMul, Nat.reduceEqDiff, RB, RX, RA2, e8, ldk, Int.toNat_natCast]
      refine app_new elU64 (w0 := w) (hs.ext (by repeat (first | (with_reducible first | refine Sh.eB ?_ (by first | omega | (simp only [RZ] <;> omega)) _ | assumption | exact Sh.eR _ | refine Sh.eA ?_ _ | refine Sh.eD ?_ | refine Sh.eT ?_ (by assumption)) | exact Sh.eR _))) (hf.ext (by repeat (first | (with_reducible first | refine Sh.eB ?_ (by first | omega | (simp only [RZ] <;> omega)) _ | assumption | exact Sh.eR _ | refine Sh.eA ?_ _ | refine Sh.eD ?_ | refine Sh.eT ?_ (by assumption)) | exact Sh.eR _))) hnw (m := 1) (news := [u64 x]) rfl ?_ rfl (by omega) (by omega) (by omega) (fun v' w4 hsp hf4 n4 hfr4 hb4 => ?_)
      · intro j u hj
        obtain ⟨rfl, rfl⟩ := one_get hj
        simp (disch := first | omega | simp only [RO] | (simp only [RZ] <;> omega) | fail) only [↓RBp, ↓RA, ↓reduceIte, Nat.reduceAdd, Nat.reduceMul, Nat.reduceEqDiff, RB, RX, RA2]
      simp (disch := first | omega | simp only [RO] | (simp only [RZ] <;> omega) | fail) only [↓RBp, ↓RA, ↓reduceIte, Nat.reduceAdd, Nat.reduceMul, Nat.reduceEqDiff, RB, RX, RA2]
      apply hE
      · exact ⟨k + 1, by simp, by omega, by rw [wdL_snoc, hx]; exact hsp, hf4, n4⟩
      · simp [Go.RowKit.intOf]; omega
    · have : k = 256 := by omega
      subst this
      obtain ⟨b, ob, cap, rfl, _⟩ := hs.isS (by omega)
      unfold f13_l1_t
      simp (disch := first | omega | simp only [RO] | (simp only [RZ] <;> omega) | fail) only [↓RBp, ↓RA, ↓reduceIte, Nat.reduceAdd, Nat.reduceMul, Nat.reduceEqDiff, RB, RX, RA2, f13_k1_eq, f13_k1_t]
      exact hK _ _ _ _ hs e1 (hnw b rfl)
end
end Go.Proofs.YtifpinhjpbgnoaaGreatDoor
namespace Go.Proofs.YtifpinhjpbgnoaaGreatDoor
open Go Go.Sh
set_option maxRecDepth 100000
set_option linter.unusedVariables false
def f49_t (x0 : Value) (K : K1) (w : World) : Prop :=
 ev Tryz.prog (Instr.box 42 x0) w fun t1 w_1 =>
 ev Tryz.prog (Instr.alloc 36 true (.tuple #[])) w_1 fun t2 w_2 =>
 ev Tryz.prog (Instr.fieldAt 42 t1 0) w_2 fun t6 w_3 =>
 ldS Tryz.prog 39 t6 w_3 fun t7 w_4 =>
 ev Tryz.prog (Instr.indexAt 39 t7 (.int .i64 0)) w_4 fun t8 w_5 =>
 ldS Tryz.prog 30 t8 w_5 fun t9 w_6 =>
 callS Tryz.prog 12 (pA #[t9]) w_6 fun t10 w_7 =>
 ev Tryz.prog (Instr.extract t10 0) w_7 fun t11 w_8 =>
 ev Tryz.prog (Instr.extract t10 1) w_8 fun t12 w_9 =>
 ev Tryz.prog (Instr.alloc 36 true (.tuple #[])) w_9 fun t3 w_10 =>
 stS Tryz.prog 36 t3 t11 w_10 fun w_11 =>
 ldS Tryz.prog 36 t3 w_11 fun t13 w_12 =>
 stS Tryz.prog 36 t2 t13 w_12 fun w_13 =>
 ldR Tryz.prog 36 t2 w_13 fun r =>
 K r w_13
theorem f49_call (x0 : Value) (K : K1) (w : World) (h : f49_t x0 K w) : callS Tryz.prog 49 #[x0] w K :=
  call_of_txt (args := [x0]) mixed Tryz.func49 .o (by kernel_rfl) (cast (by kernel_rfl) h)
end Go.Proofs.YtifpinhjpbgnoaaGreatDoor
namespace Go.Proofs.YtifpinhjpbgnoaaGreatDoor
open Go Go.Sh
set_option maxRecDepth 100000
set_option maxHeartbeats 4000000
set_option linter.unusedSimpArgs false
set_option linter.unusedVariables false
def mdL (sl : Nat → Value) (hd : Nat → Bool) : Nat → List Value
  | 0 => []
  | n + 1 => mdL sl hd n ++ [sl n, .bool (hd n)]
theorem mdL_len (sl : Nat → Value) (hd : Nat → Bool) : ∀ n, (mdL sl hd n).length = n * 2
  | 0 => rfl
  | n + 1 => by simp [mdL, mdL_len sl hd n]; omega
theorem mdL_get (sl : Nat → Value) (hd : Nat → Bool) : ∀ n k, k < n → (mdL sl hd n)[k * 2]? = some (sl k) ∧ (mdL sl hd n)[k * 2 + 1]? = some (.bool (hd k))
  | 0, k, h => absurd h (Nat.not_lt_zero _)
  | n + 1, k, h => by
    have hl := mdL_len sl hd n
    unfold mdL
    by_cases e : k = n
    · subst e
      refine ⟨?_, ?_⟩ <;> rw [List.getElem?_append_right (by omega)] <;> simp [hl]
    · have := mdL_get sl hd n k (by omega)
      refine ⟨?_, ?_⟩ <;> rw [List.getElem?_append_left (by omega)]
      · exact this.1
      · exact this.2
theorem mdL_congr {s s' : Nat → Value} {h h' : Nat → Bool} : ∀ {n}, (∀ k, k < n → s k = s' k ∧ h k = h' k) → mdL s h n = mdL s' h' n
  | 0, _ => rfl
  | n + 1, e => by unfold mdL; rw [mdL_congr (fun k hk => e k (by omega)), (e n (by omega)).1, (e n (by omega)).2]
def WsL (w : World) (P : Nat → Prop) (W : Nat → Nat) (v : Value) : Prop := ∃ b o cap, v = wsV b o cap ∧ SlO w 30 1 v 256 (wdL W 256) ∧ ¬ P b
structure MdS (w : World) (P : Nat → Prop) (v : Value) (sl : Nat → Value) (n : Nat) (W : Nat → Nat → Nat) (hd : Nat → Bool) : Prop where
  m : SlO w 42 2 v n (mdL sl hd n)
  out : ∀ x, v.ownBlock = some x → ¬ P x
  ws : ∀ k, k < n → WsL w P (W k) (sl k)
  ne : ∀ k, k < n → ∀ x, v.ownBlock = some x → (sl k).ownBlock ≠ some x
section
variable {w w' : World} {Y Y' : Lay} {P P' : Nat → Prop} {v : Value} {sl : Nat → Value} {n k b : Nat} {W V : Nat → Nat → Nat} {U : Nat → Nat} {hd he : Nat → Bool}
theorem WsL.ext (h : WsL w P U v) (e : Ext w w') : WsL w' P U v := by
  obtain ⟨b, o, cap, hv, hs, hp⟩ := h
  exact ⟨b, o, cap, hv, hs.ext e, hp⟩
theorem WsL.frm (h : WsL w P U v) (f : Frm P w w') (hP : ∀ x, P' x → P x ∨ w.heap.size ≤ x) : WsL w' P' U v := by
  obtain ⟨b, o, cap, rfl, hs, hp⟩ := h
  refine ⟨b, o, cap, rfl, hs.frm f (fun x hx => by injection hx with hx; subst hx; exact hp), fun h2 => ?_⟩
  rcases hP b h2 with h3 | h3
  · exact hp h3
  · have h9 : b < w.heap.size := hs.lt rfl; omega
theorem MdS.ext (h : MdS w P v sl n W hd) (e : Ext w w') : MdS w' P v sl n W hd := ⟨h.m.ext e, h.out, fun k hk => (h.ws k hk).ext e, h.ne⟩
theorem MdS.frm (h : MdS w P v sl n W hd) (f : Frm P w w') (hP : ∀ x, P' x → P x ∨ w.heap.size ≤ x) : MdS w' P' v sl n W hd := by
  refine ⟨h.m.frm f h.out, fun x hx hp => ?_, fun k hk => (h.ws k hk).frm f hP, h.ne⟩
  rcases hP x hp with h3 | h3
  · exact h.out x hx h3
  · have := h.m.lt hx; omega
theorem MdS.congr (h : MdS w P v sl n W hd) (hW : ∀ k, k < n → ∀ i, i < 256 → W k i = V k i) (hh : ∀ k, k < n → hd k = he k) : MdS w P v sl n V he := by
  refine ⟨?_, h.out, fun k hk => ?_, h.ne⟩
  · have := h.m
    rwa [mdL_congr (fun k hk => ⟨rfl, hh k hk⟩)] at this
  · obtain ⟨b, o, cap, hv, hs, hp⟩ := h.ws k hk
    rw [wdL_congr (hW k hk)] at hs
    exact ⟨b, o, cap, hv, hs, hp⟩
theorem MdS.nil (w : World) (P : Nat → Prop) (sl : Nat → Value) (W : Nat → Nat → Nat) (hd : Nat → Bool) : MdS w P (.slice none 0 0) sl 0 W hd := ⟨SlO.nil _ _ _, fun x hx => (by cases hx), fun k hk => absurd hk (Nat.not_lt_zero _), fun k hk => absurd hk (Nat.not_lt_zero _)⟩
theorem MdS.get (h : MdS w P v sl n W hd) (hk : k < n) : ∃ b o cap g q cp, v = .slice (some ⟨g, q, none⟩) n cp ∧ w.cell? ⟨g, q + k * 2, none⟩ = some (wsV b o cap) ∧ w.cell? ⟨g, q + k * 2 + 1, none⟩ = some (.bool (hd k)) ∧ Wm w b o (W k) ∧ sl k = wsV b o cap := by
  obtain ⟨b, o, cap, hv, hs, hp⟩ := h.ws k hk
  obtain ⟨g, q, cp, rfl, _⟩ := h.m.isS (by omega)
  have hg := mdL_get sl hd n k hk
  have c0 := h.m.cell rfl hg.1
  have c1 := h.m.cell rfl hg.2
  rw [← Nat.add_assoc] at c1
  rw [hv] at c0 hs
  exact ⟨b, o, cap, g, q, cp, rfl, c0, c1, Wm.of_sl hs, hv⟩
theorem WsL.new {m : Nat} {b o cap : Nat} (hs : SlO w 30 1 (wsV b o cap) 256 (wdL U 256)) (hb : m ≤ b) (hP : ∀ x, P x → x < m) : WsL w P U (wsV b o cap) := ⟨b, o, cap, rfl, hs, fun h => by have := hP b h; omega⟩
end
theorem elMd : ElT Tryz.prog 29 29 42 2 32 (.agg #[.slice none 0 0, .bool false]) := el_29_29
section
variable {w w' : World} {P : Nat → Prop} {v : Value} {sl : Nat → Value} {n k b o cap : Nat} {W : Nat → Nat → Nat} {U : Nat → Nat} {hd : Nat → Bool}
theorem k_push (h : MdS w P v sl n W hd) (hP : ∀ x, P x → x < w.heap.size) (hs : WsL w P U (wsV b o cap)) (hne : v.ownBlock ≠ some b) (mm : Bool) (hn : n < 1000) {xb : Nat} {cs : Array Bool} (hc0 : w.cell? ⟨xb, 0, none⟩ = some (wsV b o cap)) (hc1 : w.cell? ⟨xb, 1, none⟩ = some (.bool mm)) (K : K1)
    (hK : ∀ v' w', Frm (fun x => v.ownBlock = some x) w w' → (∀ x, v'.ownBlock = some x → v.ownBlock = some x ∨ w.heap.size ≤ x) → MdS w' P v' (upF sl n (wsV b o cap)) (n + 1) (upF W n U) (upF hd n mm) → K v' w') :
    bltS Tryz.prog .append #[29, 29] 29 cs #[v, .slice (some ⟨xb, 0, none⟩) 1 1] w K := by
  refine blt_append elMd h.m (m := 1) (news := [wsV b o cap, .bool mm]) rfl ?_ rfl (by omega) (by omega) (by omega) (fun v' w' hs' hf hb _ => ?_)
  · intro j u hj
    rcases j with _ | _ | j
    · simp at hj; rw [← hj]; exact hc0
    · simp at hj; rw [← hj]; exact hc1
    · simp at hj
  · obtain ⟨b', o', cap', hv', hsl, hp⟩ := hs
    injection hv' with e1 _ e3
    injection e1 with e1
    injection e1 with e4 e5 _
    subst e4; subst e5; subst e3
    have ltb : b < w.heap.size := hsl.lt rfl
    refine hK v' w' hf hb ⟨?_, fun x hx hp2 => ?_, fun k hk => ?_, fun k hk x hx => ?_⟩
    · have e : mdL (upF sl n (wsV b o cap)) (upF hd n mm) (n + 1) = mdL sl hd n ++ [wsV b o cap, .bool mm] := by
        show mdL (upF sl n (wsV b o cap)) (upF hd n mm) n ++ [upF sl n (wsV b o cap) n, .bool (upF hd n mm n)] = _
        rw [upF_eq, upF_eq, mdL_congr (fun k hk => ⟨upF_ne sl _ (by omega), upF_ne hd _ (by omega)⟩)]
      rw [e]; exact hs'
    · rcases hb x hx with h1 | h1
      · exact h.out x h1 hp2
      · have := hP x hp2; omega
    · by_cases e : k = n
      · subst e
        rw [upF_eq, upF_eq]
        exact ⟨b, o, cap, rfl, hsl.frm hf (fun x hx h2 => by
          have h9 : b = x := Option.some.inj hx
          subst h9; exact hne h2), hp⟩
      · rw [upF_ne _ _ e, upF_ne _ _ e]
        obtain ⟨b2, o2, cap2, h2, hs2, hp2⟩ := h.ws k (by omega)
        exact ⟨b2, o2, cap2, h2, hs2.frm hf (fun x hx h3 => h.ne k (by omega) x h3 hx), hp2⟩
    · by_cases e : k = n
      · subst e
        rw [upF_eq]
        intro h2
        have h9 : b = x := Option.some.inj h2
        subst h9
        rcases hb b hx with h1 | h1
        · exact hne h1
        · omega
      · rw [upF_ne _ _ e]
        intro h2
        rcases hb x hx with h1 | h1
        · exact h.ne k (by omega) x h1 h2
        · obtain ⟨b2, o2, cap2, h3, hs2, _⟩ := h.ws k (by omega)
          have := hs2.lt h2; omega
end
end Go.Proofs.YtifpinhjpbgnoaaGreatDoor
namespace Go.Proofs.YtifpinhjpbgnoaaGreatDoor
open Go Go.Sh
set_option maxRecDepth 100000
set_option maxHeartbeats 4000000
set_option linter.unusedSimpArgs false
set_option linter.unusedVariables false
abbrev mcO (b o cap : Nat) (m : Bool) : Obj := .cells #[wsV b o cap, .bool m] 42
section
variable {w w' : World} {P : Nat → Prop} {D : DS} {l b o cap l0 n k : Nat} {U : Nat → Nat} {f : Nat → Int × Int × Bool} {c : Int}
theorem k_Head (hW : Wm w b o U) (h0 : U 0 < 18446744073709551616) (m : Bool) (K : K1) (hK : ∀ w', Ext w w' → K (.agg #[.int .i64 (hC (U 0)), .int .i64 (hO (U 0)), .int .u16 (gX (U 0) : Int)]) w') :
    callS Tryz.prog 49 #[.agg #[wsV b o cap, .bool m]] w K := by
  have q0 : w.cell? ⟨b, o, none⟩ = some (u64 (U 0)) := by have := hW.cell (i := 0) (by omega); rwa [Nat.add_zero] at this
  have hb := lt_of_cell q0
  have hlk := fun (w : World) (K : K1) hK => k_rLook (w := w) (U 0) h0 K hK
  generalize U 0 = x at *
  generalize hC x = cc at *
  generalize hO x = oo at *
  generalize gX x = gg at *
  refine f49_call _ _ _ ?_
  unfold f49_t
  simp (disch := first | omega | simp only [RO] | (simp only [RZ] <;> omega) | fail) only [↓RBp, ↓RA, ↓reduceIte, Nat.reduceAdd, Nat.reduceMul, Nat.reduceEqDiff, RB, RX, RA2, q0, Int.reduceToNat, Nat.add_zero]
  refine hlk _ _ (fun w1 e1 => ?_)
  have hC := Cells.new (w.alloc (mcO b o cap m)) [Value.int .i64 0, .int .i64 0, .int .u16 ((0 : Nat) : Int)] 36
  rw [size_alloc] at hC
  have hC0 := hC.ext e1
  have lt1 := hC0.lt
  have z0 := hC0.cell (i := 0) (by simp)
  have z1 := hC0.cell (i := 1) (by simp)
  have z2 := hC0.cell (i := 2) (by simp)
  have hfz := hC0.frz
  have hD := cells3C hC0 (Value.int .i64 cc) (.int .i64 oo) (.int .u16 (gg : Int))
  have d0 := hD.cell (i := 0) (by simp)
  have d1 := hD.cell (i := 1) (by simp)
  have d2 := hD.cell (i := 2) (by simp)
  simp (disch := first | omega | simp only [RO] | (simp only [RZ] <;> omega) | fail) only [↓RBp, ↓RA, ↓reduceIte, Nat.reduceAdd, Nat.reduceMul, Nat.reduceEqDiff, RB, RX, RA2, z0, z1, z2, hfz, d0, d1, d2]
  exact hK _ (by repeat (first | (with_reducible first | refine Sh.eB ?_ (by first | omega | (simp only [RZ] <;> omega)) _ | assumption | exact Sh.eR _ | refine Sh.eA ?_ _ | refine Sh.eD ?_ | refine Sh.eT ?_ (by assumption)) | exact Sh.eR _))
end
end Go.Proofs.YtifpinhjpbgnoaaGreatDoor
namespace Go.Proofs.YtifpinhjpbgnoaaGreatDoor
open Go Go.Sh
set_option maxRecDepth 100000
set_option maxHeartbeats 4000000
set_option linter.unusedSimpArgs false
set_option linter.unusedVariables false
section
variable {w0 w w' : World} {Y : Lay} {D : DS} {P : Nat → Prop} {S b o cp n k : Nat} {f : Nat → Int × Int × Bool} {v v' : Value} {sl : Nat → Value} {W : Nat → Nat → Nat} {hd : Nat → Bool}
theorem k_is (L : List Int) (h : SlO w 3 1 v L.length (i64L L)) (h' : SlO w 3 1 v' L.length (i64L L)) (hl : L.length < 1000000) (K : K1) (hK : ∀ w', Ext w w' → K (.bool true) w') :
    callS Tryz.prog 50 #[v, v'] w K := by
  obtain ⟨pa, pc, rfl, hpc⟩ := h.isS'
  obtain ⟨qa, qc, rfl, hqc⟩ := h'.isS'
  refine f50_call _ _ _ _ ?_
  unfold f50_t
  simp (disch := first | omega | simp only [RO] | (simp only [RZ] <;> omega) | fail) only [↓RBp, ↓RA, ↓reduceIte, Nat.reduceAdd, Nat.reduceMul, Nat.reduceEqDiff, RB, RX, RA2]
  apply f50_l1_rule (I := fun z w' => ∃ i : Nat, z = .int .i64 (i : Int) ∧ i ≤ L.length ∧ Ext w w') (μ := fun z _ => L.length - (Go.RowKit.intOf z).toNat)
  · exact ⟨0, rfl, by omega, (by repeat (first | (with_reducible first | refine Sh.eB ?_ (by first | omega | (simp only [RZ] <;> omega)) _ | assumption | exact Sh.eR _ | refine Sh.eA ?_ _ | refine Sh.eD ?_ | refine Sh.eT ?_ (by assumption)) | exact Sh.eR _))⟩
  · intros; rename_i w1 hI E1 hE
    obtain ⟨i, rfl, hi, e1⟩ := hI
    by_cases hin : i < L.length
    · have hg : (i64L L)[i]? = some (.int .i64 L[i]) := by simp [i64L, hin]
      obtain ⟨a1, b1, c1, hv1, _⟩ := h.isS (by omega)
      obtain ⟨a2, b2, c2, hv2, _⟩ := h'.isS (by omega)
      injection hv1 with hv1 _ _; subst hv1
      injection hv2 with hv2 _ _; subst hv2
      have q1 := (h.ext e1).cell rfl hg
      have q2 := (h'.ext e1).cell rfl hg
      generalize L[i] = x at q1 q2
      unfold f50_l1_t
      simp (disch := first | omega | simp only [RO] | (simp only [RZ] <;> omega) | fail) only [↓RBp, ↓RA, ↓reduceIte, Nat.reduceAdd, Nat.reduceMul, Nat.reduceEqDiff, RB, RX, RA2, q1, q2]
      apply hE
      · exact ⟨i + 1, by simp, by omega, (by repeat (first | (with_reducible first | refine Sh.eB ?_ (by first | omega | (simp only [RZ] <;> omega)) _ | assumption | exact Sh.eR _ | refine Sh.eA ?_ _ | refine Sh.eD ?_ | refine Sh.eT ?_ (by assumption)) | exact Sh.eR _))⟩
      · simp [Go.RowKit.intOf]; omega
    · have : i = L.length := by omega
      subst this
      unfold f50_l1_t
      simp (disch := first | omega | simp only [RO] | (simp only [RZ] <;> omega) | fail) only [↓RBp, ↓RA, ↓reduceIte, Nat.reduceAdd, Nat.reduceMul, Nat.reduceEqDiff, RB, RX, RA2, f50_k1_eq, f50_k1_t]
      exact hK _ e1
structure AgM (w : World) (P : Nat → Prop) (v : Value) (sl : Nat → Value) (n : Nat) (W : Nat → Nat → Nat) (hd : Nat → Bool) (f : Nat → Int × Int × Bool) : Prop where
  m : MdS w P v sl n W hd
  h : ∀ k, k < n → W k 0 < 18446744073709551616 ∧ hC (W k 0) = (f k).1 ∧ hO (W k 0) = (f k).2.1
theorem AgM.ext (h : AgM w P v sl n W hd f) (e : Ext w w') : AgM w' P v sl n W hd f := ⟨h.m.ext e, h.h⟩
theorem AgM.head (h : AgM w P v sl n W hd f) (hk : k < n) : ∃ b o cap g q cp, v = .slice (some ⟨g, q, none⟩) n cp ∧ g < w.heap.size ∧ w.cell? ⟨g, q + k * 2, none⟩ = some (wsV b o cap) ∧ w.cell? ⟨g, q + k * 2 + 1, none⟩ = some (.bool (hd k)) ∧ ∀ (w1 : World) (K : K1), Ext w w1 → (∀ w', Ext w1 w' → K (.agg #[.int .i64 (f k).1, .int .i64 (f k).2.1, .int .u16 (gX (W k 0) : Int)]) w') → callS Tryz.prog 49 #[.agg #[wsV b o cap, .bool (hd k)]] w1 K := by
  obtain ⟨b, o, cap, g, q, cp, hv, c0, c1, hw, _⟩ := h.m.get hk
  refine ⟨b, o, cap, g, q, cp, hv, lt_of_cell c0, c0, c1, fun w1 K e hK => ?_⟩
  have hh := h.h k hk
  refine k_Head (hw.ext e) hh.1 (hd k) K ?_
  rw [hh.2.1, hh.2.2]
  exact hK
end
end Go.Proofs.YtifpinhjpbgnoaaGreatDoor
namespace Go.Proofs.YtifpinhjpbgnoaaGreatDoor
open Go Go.Sh
set_option maxRecDepth 100000
set_option maxHeartbeats 4000000
set_option linter.unusedSimpArgs false
set_option linter.unusedVariables false
section
variable {w0 w w' : World} {Y : Lay} {D : DS} {P : Nat → Prop} {S b o cp n k : Nat} {f : Nat → Int × Int × Bool} {v v' : Value} {sl : Nat → Value} {W : Nat → Nat → Nat} {hd : Nat → Bool}
theorem AgM.val (h : AgM w P v sl n W hd f) (n0 : 0 < n) : ∃ g q cp, v = .slice (some ⟨g, q, none⟩) n cp := by
  obtain ⟨b, o, cap, g, q, cp, hv, _⟩ := h.head (k := 0) n0
  exact ⟨g, q, cp, hv⟩
theorem ag_l4 (h : ArS w0 w Y D S b o cp 3 n f) (h5 : n ≤ 5) (hm : AgM w P v sl n W hd f) (t c : Nat) (x5 x6 x44 x47 : Value) (K : K1) (E1 E2 : VP1)
    (hE : ∀ w', Ext w w' → f15_k5 K E1 E2 (stV S) v x5 x6 (.int .i64 (t : Int)) x44 x47 w') :
    f15_l4 K E1 E2 (stV S) v x5 x6 (.int .i64 (t : Int)) (.int .i64 (c : Int)) (.slice none 0 0) x44 x47 (.int .i64 (n : Int)) (.int .i64 0) w := by
  apply f15_l4_rule (I := fun x z w' => ∃ i : Nat, z = .int .i64 (i : Int) ∧ i ≤ n ∧ SlO w' 3 1 x (lnL (fun k => decide ((f k).2.1 = (t : Int)) && decide ((f k).1 = (c : Int))) 3 i).length (i64L (lnL (fun k => decide ((f k).2.1 = (t : Int)) && decide ((f k).1 = (c : Int))) 3 i)) ∧ Frm Nob w w' ∧ NewV w.heap.size x) (μ := fun _ z _ => n - (Go.RowKit.intOf z).toNat)
  · exact ⟨0, rfl, by omega, SlO.nil _ _ _, (by repeat (first | exact Frm.refl _ _ | with_reducible refine Frm.set ?_ _ (fun _ => rfl) | with_reducible refine Frm.alloc ?_ _ | with_reducible refine Frm.drew ?_)), fun b hb => by cases hb⟩
  · intros; rename_i x11 z w1 hI E3 hE3
    obtain ⟨i, rfl, hi, hs, hf, hnw⟩ := hI
    have e1 : Ext w w1 := hf.to_ext (fun _ _ h => h)
    have h1 := h.ext e1
    have hln := lnL_len (fun k => decide ((f k).2.1 = (t : Int)) && decide ((f k).1 = (c : Int))) 3 i
    by_cases hin : i < n
    · have e3 : (3 : Int) + 32 * (i : Int) = ((3 + 32 * i : Nat) : Int) := by omega
      obtain ⟨b1, o1, cap1, g, q, gcp, rfl, ltg, c0, c1, hh⟩ := (hm.ext e1).head hin
      obtain ⟨pa, pc, rfl, hpc⟩ := hs.isS'
      have hss : lnL (fun k => decide ((f k).2.1 = (t : Int)) && decide ((f k).1 = (c : Int))) 3 (i + 1) = lnL (fun k => decide ((f k).2.1 = (t : Int)) && decide ((f k).1 = (c : Int))) 3 i ++ if (decide ((f i).2.1 = (t : Int)) && decide ((f i).1 = (c : Int))) = true then [((3 + 32 * i : Nat) : Int)] else [] := rfl
      generalize lnL (fun k => decide ((f k).2.1 = (t : Int)) && decide ((f k).1 = (c : Int))) 3 i = l at *
      generalize gX (W i 0) = gg at *
      generalize (f i).1 = ci at *
      generalize (f i).2.1 = oi at *
      unfold f15_l4_t
      (repeat' (first | (with_reducible refine brS_mk (fun _ => ?_) (fun _ => ?_)) | (with_reducible refine And.intro ?_ ?_) | (simp (disch := first | omega | simp only [RO] | (simp only [RZ] <;> omega) | fail) only [↓RBp, ↓RA, ↓reduceIte, Nat.reduceAdd, Nat.reduceMul, Nat.reduceEqDiff, RB, RX, RA2, c0, c1])))
      refine hh _ _ (by repeat (first | (with_reducible first | refine Sh.eB ?_ (by first | omega | (simp only [RZ] <;> omega)) _ | assumption | exact Sh.eR _ | refine Sh.eA ?_ _ | refine Sh.eD ?_ | refine Sh.eT ?_ (by assumption)) | exact Sh.eR _)) (fun w2 e2 => ?_)
      have e12 : Ext w1 w2 := Ext.trans (by repeat (first | (with_reducible first | refine Sh.eB ?_ (by first | omega | (simp only [RZ] <;> omega)) _ | assumption | exact Sh.eR _ | refine Sh.eA ?_ _ | refine Sh.eD ?_ | refine Sh.eT ?_ (by assumption)) | exact Sh.eR _)) e2
      by_cases ho : oi = (t : Int)
      · by_cases hc : ci = (c : Int)
        · subst ho; subst hc
          (repeat' (first | (with_reducible refine brS_mk (fun _ => ?_) (fun _ => ?_)) | (with_reducible refine And.intro ?_ ?_) | (simp (disch := first | omega | simp only [RO] | (simp only [RZ] <;> omega) | fail) only [↓RBp, ↓RA, ↓reduceIte, Nat.reduceAdd, Nat.reduceMul, Nat.reduceEqDiff, RB, RX, RA2, e3])))
          refine app_new elInt (w0 := w) (hs.ext (by repeat (first | (with_reducible first | refine Sh.eB ?_ (by first | omega | (simp only [RZ] <;> omega)) _ | assumption | exact Sh.eR _ | refine Sh.eA ?_ _ | refine Sh.eD ?_ | refine Sh.eT ?_ (by assumption)) | exact Sh.eR _))) (hf.ext (by repeat (first | (with_reducible first | refine Sh.eB ?_ (by first | omega | (simp only [RZ] <;> omega)) _ | assumption | exact Sh.eR _ | refine Sh.eA ?_ _ | refine Sh.eD ?_ | refine Sh.eT ?_ (by assumption)) | exact Sh.eR _))) hnw (m := 1) (news := [.int .i64 ((3 + 32 * i : Nat) : Int)]) rfl ?_ rfl (by omega) (by omega) (by omega) (fun v' w4 hsp hf4 n4 hfr4 hb4 => ?_)
          · intro j u hj
            obtain ⟨rfl, rfl⟩ := one_get hj
            simp (disch := first | omega | simp only [RO] | (simp only [RZ] <;> omega) | fail) only [↓RBp, ↓RA, ↓reduceIte, Nat.reduceAdd, Nat.reduceMul, Nat.reduceEqDiff, RB, RX, RA2]
          simp (disch := first | omega | simp only [RO] | (simp only [RZ] <;> omega) | fail) only [↓RBp, ↓RA, ↓reduceIte, Nat.reduceAdd, Nat.reduceMul, Nat.reduceEqDiff, RB, RX, RA2, f15_k7_eq, f15_k7_t]
          apply hE3
          · refine ⟨i + 1, by simp, by omega, ?_, hf4, n4⟩
            rw [hss]
            simp only [decide_true, Bool.and_true, if_true, List.length_append]
            simpa [i64L] using hsp
          · simp [Go.RowKit.intOf]; omega
        · (repeat' (first | (with_reducible refine brS_mk (fun _ => ?_) (fun _ => ?_)) | (with_reducible refine And.intro ?_ ?_) | (simp (disch := first | omega | simp only [RO] | (simp only [RZ] <;> omega) | fail) only [↓RBp, ↓RA, ↓reduceIte, Nat.reduceAdd, Nat.reduceMul, Nat.reduceEqDiff, RB, RX, RA2, ho, hc, e3, f15_k7_eq, f15_k7_t])))
          apply hE3
          · refine ⟨i + 1, by simp, by omega, ?_, hf.ext (by repeat (first | (with_reducible first | refine Sh.eB ?_ (by first | omega | (simp only [RZ] <;> omega)) _ | assumption | exact Sh.eR _ | refine Sh.eA ?_ _ | refine Sh.eD ?_ | refine Sh.eT ?_ (by assumption)) | exact Sh.eR _)), hnw⟩
            rw [hss, decide_eq_false hc, Bool.and_false, if_neg (by decide), List.append_nil]
            exact hs.ext (by repeat (first | (with_reducible first | refine Sh.eB ?_ (by first | omega | (simp only [RZ] <;> omega)) _ | assumption | exact Sh.eR _ | refine Sh.eA ?_ _ | refine Sh.eD ?_ | refine Sh.eT ?_ (by assumption)) | exact Sh.eR _))
          · simp [Go.RowKit.intOf]; omega
      · (repeat' (first | (with_reducible refine brS_mk (fun _ => ?_) (fun _ => ?_)) | (with_reducible refine And.intro ?_ ?_) | (simp (disch := first | omega | simp only [RO] | (simp only [RZ] <;> omega) | fail) only [↓RBp, ↓RA, ↓reduceIte, Nat.reduceAdd, Nat.reduceMul, Nat.reduceEqDiff, RB, RX, RA2, ho, e3, f15_k7_eq, f15_k7_t])))
        apply hE3
        · refine ⟨i + 1, by simp, by omega, ?_, hf.ext (by repeat (first | (with_reducible first | refine Sh.eB ?_ (by first | omega | (simp only [RZ] <;> omega)) _ | assumption | exact Sh.eR _ | refine Sh.eA ?_ _ | refine Sh.eD ?_ | refine Sh.eT ?_ (by assumption)) | exact Sh.eR _)), hnw⟩
          rw [hss, decide_eq_false ho, Bool.false_and, if_neg (by decide), List.append_nil]
          exact hs.ext (by repeat (first | (with_reducible first | refine Sh.eB ?_ (by first | omega | (simp only [RZ] <;> omega)) _ | assumption | exact Sh.eR _ | refine Sh.eA ?_ _ | refine Sh.eD ?_ | refine Sh.eT ?_ (by assumption)) | exact Sh.eR _))
        · simp [Go.RowKit.intOf]; omega
    · have : i = n := by omega
      subst this
      unfold f15_l4_t
      simp (disch := first | omega | simp only [RO] | (simp only [RZ] <;> omega) | fail) only [↓RBp, ↓RA, ↓reduceIte, Nat.reduceAdd, Nat.reduceMul, Nat.reduceEqDiff, RB, RX, RA2, f15_k6_eq, f15_k6_t]
      refine k_Chunks h1 _ _ (by omega) (by omega) _ (fun v2 w2 e2 n2 hs2 => ?_)
      simp (disch := first | omega | simp only [RO] | (simp only [RZ] <;> omega) | fail) only [↓RBp, ↓RA, ↓reduceIte, Nat.reduceAdd, Nat.reduceMul, Nat.reduceEqDiff, RB, RX, RA2]
      refine k_is _ hs2 (hs.ext e2) (by omega) _ (fun w3 e3 => ?_)
      simp (disch := first | omega | simp only [RO] | (simp only [RZ] <;> omega) | fail) only [↓RBp, ↓RA, ↓reduceIte, Nat.reduceAdd, Nat.reduceMul, Nat.reduceEqDiff, RB, RX, RA2]
      exact hE _ (e1.trans (e2.trans e3))
theorem k_agrees (h : ArS w0 w Y D S b o cp 3 n f) (h5 : n ≤ 5) (hm : AgM w P v sl n W hd f) (K : K1) (hK : ∀ w', Ext w w' → K (.bool true) w') :
    callS Tryz.prog 15 #[stV S, v] w K := by
  have n0 := h.n0
  obtain ⟨vg, vq, vcp, hv⟩ := hm.val n0
  refine f15_call _ _ _ _ ?_
  unfold f15_t
  rw [hv]
  simp (disch := first | omega | simp only [RO] | (simp only [RZ] <;> omega) | fail) only [↓RBp, ↓RA, ↓reduceIte, Nat.reduceAdd, Nat.reduceMul, Nat.reduceEqDiff, RB, RX, RA2]
  rw [← hv]
  apply f15_l1_rule (I := fun x y z w' => ∃ i : Nat, z = .int .i64 (i : Int) ∧ i ≤ n ∧ y = .int .i64 ((frC f i : Nat) : Int) ∧ SlO w' 3 1 x (lnL (fun _ => true) 3 i).length (i64L (lnL (fun _ => true) 3 i)) ∧ Frm Nob w w' ∧ NewV w.heap.size x) (μ := fun _ _ z _ => n - (Go.RowKit.intOf z).toNat)
  · exact ⟨0, rfl, by omega, rfl, SlO.nil _ _ _, (by repeat (first | exact Frm.refl _ _ | with_reducible refine Frm.set ?_ _ (fun _ => rfl) | with_reducible refine Frm.alloc ?_ _ | with_reducible refine Frm.drew ?_)), fun b hb => by cases hb⟩
  · intros; rename_i x5 x6 z w1 hI E1 hE
    obtain ⟨i, rfl, hi, rfl, hs, hf, hnw⟩ := hI
    have e1 : Ext w w1 := hf.to_ext (fun _ _ h => h)
    have h1 := h.ext e1
    have hln := lnL_len (fun _ => true) 3 i
    by_cases hin : i < n
    · have e3 : (3 : Int) + 32 * (i : Int) = ((3 + 32 * i : Nat) : Int) := by omega
      obtain ⟨b1, o1, cap1, g, q, gcp, hv2, ltg, c0, c1, hh⟩ := (hm.ext e1).head hin
      obtain ⟨pa, pc, rfl, hpc⟩ := hs.isS'
      have hss : lnL (fun _ => true) 3 (i + 1) = lnL (fun _ => true) 3 i ++ [((3 + 32 * i : Nat) : Int)] := rfl
      have hfc : frC f (i + 1) = frC f i + if (f i).1 < 0 then 1 else 0 := rfl
      have hfl := frC_le f i
      have how := fun (w2 : World) (e2 : Ext w w2) (K : K1) hK => k_OwnerAt (h.ext e2) hin K hK
      generalize lnL (fun _ => true) 3 i = l at *
      generalize gX (W i 0) = gg at *
      generalize (f i).1 = ci at *
      generalize (f i).2.1 = oi at *
      generalize frC f i = fc at *
      unfold f15_l1_t
      rw [hv2]
      (repeat' (first | (with_reducible refine brS_mk (fun _ => ?_) (fun _ => ?_)) | (with_reducible refine And.intro ?_ ?_) | (simp (disch := first | omega | simp only [RO] | (simp only [RZ] <;> omega) | fail) only [↓RBp, ↓RA, ↓reduceIte, Nat.reduceAdd, Nat.reduceMul, Nat.reduceEqDiff, RB, RX, RA2, c0, c1])))
      refine hh _ _ (by repeat (first | (with_reducible first | refine Sh.eB ?_ (by first | omega | (simp only [RZ] <;> omega)) _ | assumption | exact Sh.eR _ | refine Sh.eA ?_ _ | refine Sh.eD ?_ | refine Sh.eT ?_ (by assumption)) | exact Sh.eR _)) (fun w2 e2 => ?_)
      have e12 : Ext w1 w2 := Ext.trans (by repeat (first | (with_reducible first | refine Sh.eB ?_ (by first | omega | (simp only [RZ] <;> omega)) _ | assumption | exact Sh.eR _ | refine Sh.eA ?_ _ | refine Sh.eD ?_ | refine Sh.eT ?_ (by assumption)) | exact Sh.eR _)) e2
      have hs12 := e12.size
      (repeat' (first | (with_reducible refine brS_mk (fun _ => ?_) (fun _ => ?_)) | (with_reducible refine And.intro ?_ ?_) | (simp (disch := first | omega | simp only [RO] | (simp only [RZ] <;> omega) | fail) only [↓RBp, ↓RA, ↓reduceIte, Nat.reduceAdd, Nat.reduceMul, Nat.reduceEqDiff, RB, RX, RA2, e3])))
      have hC0 := Cells.new w2 [Value.int .i64 ci, .int .i64 oi, .int .u16 (gg : Int)] 36
      have ltv := fun bb (hb : (Value.slice pa l.length pc).ownBlock = some bb) => hs.lt hb
      refine app_new elInt (w0 := w) (hs.ext (by repeat (first | (with_reducible first | refine Sh.eB ?_ (by first | omega | (simp only [RZ] <;> omega)) _ | assumption | exact Sh.eR _ | refine Sh.eA ?_ _ | refine Sh.eD ?_ | refine Sh.eT ?_ (by assumption)) | exact Sh.eR _))) (hf.ext (by repeat (first | (with_reducible first | refine Sh.eB ?_ (by first | omega | (simp only [RZ] <;> omega)) _ | assumption | exact Sh.eR _ | refine Sh.eA ?_ _ | refine Sh.eD ?_ | refine Sh.eT ?_ (by assumption)) | exact Sh.eR _))) hnw (m := 1) (news := [.int .i64 ((3 + 32 * i : Nat) : Int)]) rfl ?_ rfl (by omega) (by omega) (by omega) (fun v' w4 hsp hf4 n4 hfr4 hb4 => ?_)
      · intro j u hj
        obtain ⟨rfl, rfl⟩ := one_get hj
        simp (disch := first | omega | simp only [RO] | (simp only [RZ] <;> omega) | fail) only [↓RBp, ↓RA, ↓reduceIte, Nat.reduceAdd, Nat.reduceMul, Nat.reduceEqDiff, RB, RX, RA2]
      have hC4 := (hC0.ext (Ext.alloc_self _ (.cells #[.int .i64 ((3 + 32 * i : Nat) : Int)] 3))).frm hfr4 (fun hb => by have := ltv _ hb; omega)
      have e4 : Ext w w4 := hf4.to_ext (fun _ _ h => h)
      have d0 : w4.cell? ⟨w2.heap.size, 0, none⟩ = some (.int .i64 ci) := hC4.cell (i := 0) (by simp)
      have lt4 := hC4.lt
      have fin : ∀ (w5 : World), Ext w4 w5 → f15_k3 K E1 (stV S) (.slice (some ⟨g, q, none⟩) n gcp) v' (.int .i64 ((frC f (i + 1) : Nat) : Int)) (.int .i64 (i : Int)) (.pointer (some ⟨w2.heap.size, 0, none⟩)) (.int .i64 (n : Int)) (.int .i64 (i : Int)) w5 := by
        intro w5 e5
        have hC5 := hC4.ext e5
        have d1 : w5.cell? ⟨w2.heap.size, 1, none⟩ = some (.int .i64 oi) := hC5.cell (i := 1) (by simp)
        have lt5 := hC5.lt
        rw [f15_k3_eq]
        unfold f15_k3_t
        simp (disch := first | omega | simp only [RO] | (simp only [RZ] <;> omega) | fail) only [↓RBp, ↓RA, ↓reduceIte, Nat.reduceAdd, Nat.reduceMul, Nat.reduceEqDiff, RB, RX, RA2, d1, e3]
        refine how _ (e4.trans (e5.trans (by repeat (first | (with_reducible first | refine Sh.eB ?_ (by first | omega | (simp only [RZ] <;> omega)) _ | assumption | exact Sh.eR _ | refine Sh.eA ?_ _ | refine Sh.eD ?_ | refine Sh.eT ?_ (by assumption)) | exact Sh.eR _)))) _ (fun w6 e6 => ?_)
        have hC6 := hC5.ext (Ext.trans (by repeat (first | (with_reducible first | refine Sh.eB ?_ (by first | omega | (simp only [RZ] <;> omega)) _ | assumption | exact Sh.eR _ | refine Sh.eA ?_ _ | refine Sh.eD ?_ | refine Sh.eT ?_ (by assumption)) | exact Sh.eR _)) e6)
        have d1 : w6.cell? ⟨w2.heap.size, 1, none⟩ = some (.int .i64 oi) := hC6.cell (i := 1) (by simp)
        have lt6 := hC6.lt
        (repeat' (first | (with_reducible refine brS_mk (fun _ => ?_) (fun _ => ?_)) | (with_reducible refine And.intro ?_ ?_) | (simp (disch := first | omega | simp only [RO] | (simp only [RZ] <;> omega) | fail) only [↓RBp, ↓RA, ↓reduceIte, Nat.reduceAdd, Nat.reduceMul, Nat.reduceEqDiff, RB, RX, RA2, d1, e3])))
        apply hE
        · refine ⟨i + 1, by simp, by omega, rfl, ?_, hf4.ext (e5.trans (Ext.trans (by repeat (first | (with_reducible first | refine Sh.eB ?_ (by first | omega | (simp only [RZ] <;> omega)) _ | assumption | exact Sh.eR _ | refine Sh.eA ?_ _ | refine Sh.eD ?_ | refine Sh.eT ?_ (by assumption)) | exact Sh.eR _)) e6)), n4⟩
          rw [hss, List.length_append]
          have := hsp.ext (e5.trans (Ext.trans (by repeat (first | (with_reducible first | refine Sh.eB ?_ (by first | omega | (simp only [RZ] <;> omega)) _ | assumption | exact Sh.eR _ | refine Sh.eA ?_ _ | refine Sh.eD ?_ | refine Sh.eT ?_ (by assumption)) | exact Sh.eR _)) e6))
          simpa [i64L] using this
        · simp [Go.RowKit.intOf]; omega
      by_cases hc : ci < 0
      · rw [if_pos hc] at hfc
        rw [hfc] at fin
        simp (disch := first | omega | simp only [RO] | (simp only [RZ] <;> omega) | fail) only [↓RBp, ↓RA, ↓reduceIte, Nat.reduceAdd, Nat.reduceMul, Nat.reduceEqDiff, RB, RX, RA2, d0, hc]
        exact fin _ (by repeat (first | (with_reducible first | refine Sh.eB ?_ (by first | omega | (simp only [RZ] <;> omega)) _ | assumption | exact Sh.eR _ | refine Sh.eA ?_ _ | refine Sh.eD ?_ | refine Sh.eT ?_ (by assumption)) | exact Sh.eR _))
      · rw [if_neg hc] at hfc
        rw [hfc] at fin
        simp (disch := first | omega | simp only [RO] | (simp only [RZ] <;> omega) | fail) only [↓RBp, ↓RA, ↓reduceIte, Nat.reduceAdd, Nat.reduceMul, Nat.reduceEqDiff, RB, RX, RA2, d0, hc]
        exact fin _ (by repeat (first | (with_reducible first | refine Sh.eB ?_ (by first | omega | (simp only [RZ] <;> omega)) _ | assumption | exact Sh.eR _ | refine Sh.eA ?_ _ | refine Sh.eD ?_ | refine Sh.eT ?_ (by assumption)) | exact Sh.eR _))
    · have : i = n := by omega
      subst this
      unfold f15_l1_t
      simp (disch := first | omega | simp only [RO] | (simp only [RZ] <;> omega) | fail) only [↓RBp, ↓RA, ↓reduceIte, Nat.reduceAdd, Nat.reduceMul, Nat.reduceEqDiff, RB, RX, RA2, f15_k1_eq, f15_k1_t]
      apply f15_l2_rule (I := fun z w' => ∃ t : Nat, z = .int .i64 (t : Int) ∧ t ≤ 8 ∧ Ext w1 w') (μ := fun z _ => 8 - (Go.RowKit.intOf z).toNat)
      · exact ⟨0, rfl, by omega, Ext.refl _⟩
      · intros; rename_i w2 hI2 E2 hE2
        obtain ⟨t, rfl, ht, e2⟩ := hI2
        by_cases ht8 : t < 8
        · unfold f15_l2_t
          simp (disch := first | omega | simp only [RO] | (simp only [RZ] <;> omega) | fail) only [↓RBp, ↓RA, ↓reduceIte, Nat.reduceAdd, Nat.reduceMul, Nat.reduceEqDiff, RB, RX, RA2]
          apply f15_l3_rule (I := fun z w' => ∃ c : Nat, z = .int .i64 (c : Int) ∧ c ≤ 5 ∧ Ext w1 w') (μ := fun z _ => 5 - (Go.RowKit.intOf z).toNat)
          · exact ⟨0, rfl, by omega, (by repeat (first | (with_reducible first | refine Sh.eB ?_ (by first | omega | (simp only [RZ] <;> omega)) _ | assumption | exact Sh.eR _ | refine Sh.eA ?_ _ | refine Sh.eD ?_ | refine Sh.eT ?_ (by assumption)) | exact Sh.eR _))⟩
          · intros; rename_i w3 hI3 E3 hE3
            obtain ⟨c, rfl, hc, e3⟩ := hI3
            by_cases hc5 : c < 5
            · unfold f15_l3_t
              rw [hv]
              simp (disch := first | omega | simp only [RO] | (simp only [RZ] <;> omega) | fail) only [↓RBp, ↓RA, ↓reduceIte, Nat.reduceAdd, Nat.reduceMul, Nat.reduceEqDiff, RB, RX, RA2]
              rw [← hv]
              refine ag_l4 ((h1.ext e3).ext (by repeat (first | (with_reducible first | refine Sh.eB ?_ (by first | omega | (simp only [RZ] <;> omega)) _ | assumption | exact Sh.eR _ | refine Sh.eA ?_ _ | refine Sh.eD ?_ | refine Sh.eT ?_ (by assumption)) | exact Sh.eR _))) h5 ((hm.ext (e1.trans e3)).ext (by repeat (first | (with_reducible first | refine Sh.eB ?_ (by first | omega | (simp only [RZ] <;> omega)) _ | assumption | exact Sh.eR _ | refine Sh.eA ?_ _ | refine Sh.eD ?_ | refine Sh.eT ?_ (by assumption)) | exact Sh.eR _))) t c _ _ _ _ _ _ _ (fun w4 e4 => ?_)
              rw [f15_k5_eq]
              unfold f15_k5_t
              simp (disch := first | omega | simp only [RO] | (simp only [RZ] <;> omega) | fail) only [↓RBp, ↓RA, ↓reduceIte, Nat.reduceAdd, Nat.reduceMul, Nat.reduceEqDiff, RB, RX, RA2]
              apply hE3
              · exact ⟨c + 1, by simp, by omega, e3.trans (Ext.trans (by repeat (first | (with_reducible first | refine Sh.eB ?_ (by first | omega | (simp only [RZ] <;> omega)) _ | assumption | exact Sh.eR _ | refine Sh.eA ?_ _ | refine Sh.eD ?_ | refine Sh.eT ?_ (by assumption)) | exact Sh.eR _)) e4)⟩
              · simp [Go.RowKit.intOf]; omega
            · have : c = 5 := by omega
              subst this
              unfold f15_l3_t
              simp (disch := first | omega | simp only [RO] | (simp only [RZ] <;> omega) | fail) only [↓RBp, ↓RA, ↓reduceIte, Nat.reduceAdd, Nat.reduceMul, Nat.reduceEqDiff, RB, RX, RA2, f15_k4_eq, f15_k4_t]
              apply hE2
              · exact ⟨t + 1, by simp, by omega, e3⟩
              · simp [Go.RowKit.intOf]; omega
        · have : t = 8 := by omega
          subst this
          have h2 := h1.ext e2
          unfold f15_l2_t
          simp (disch := first | omega | simp only [RO] | (simp only [RZ] <;> omega) | fail) only [↓RBp, ↓RA, ↓reduceIte, Nat.reduceAdd, Nat.reduceMul, Nat.reduceEqDiff, RB, RX, RA2, f15_k2_eq, f15_k2_t]
          refine k_FreeChunks h2 _ (fun w3 e3 => ?_)
          simp (disch := first | omega | simp only [RO] | (simp only [RZ] <;> omega) | fail) only [↓RBp, ↓RA, ↓reduceIte, Nat.reduceAdd, Nat.reduceMul, Nat.reduceEqDiff, RB, RX, RA2]
          refine k_Lines (h2.ext e3) _ (fun v4 w4 e4 n4 hs4 => ?_)
          simp (disch := first | omega | simp only [RO] | (simp only [RZ] <;> omega) | fail) only [↓RBp, ↓RA, ↓reduceIte, Nat.reduceAdd, Nat.reduceMul, Nat.reduceEqDiff, RB, RX, RA2]
          refine k_is _ hs4 (hs.ext (e2.trans (e3.trans e4))) (by omega) _ (fun w5 e5 => ?_)
          try simp (disch := first | omega | simp only [RO] | (simp only [RZ] <;> omega) | fail) only [↓RBp, ↓RA, ↓reduceIte, Nat.reduceAdd, Nat.reduceMul, Nat.reduceEqDiff, RB, RX, RA2]
          exact hK _ (e1.trans (e2.trans (e3.trans (e4.trans e5))))
end
end Go.Proofs.YtifpinhjpbgnoaaGreatDoor
namespace Go.Proofs.YtifpinhjpbgnoaaGreatDoor
open Go Go.Sh
set_option maxRecDepth 100000
set_option linter.unusedVariables false
noncomputable def f3_u : Code × Dec := ((Tryz.f3.body).getD .skip, (.s .o (.s .o (.s .o (.s .o (.s .o (.s .o (.x 833 (.s .o (.b (.l [8, 9, 40] 549755813955 2417851639228158837800704 (.s .o (.s .o (.s (.b (.s .o (.s .o (.x 1649267445571 .o .o)))) .o)))))) .o))))))))
abbrev f3_e (K : K1) : KF := endK Tryz.prog Tryz.f3.results.toList K
def f3_k1_o (K : K1) : KF := fun fr w => ∀ σ, cP (pr (pr (pr (pr (pr (pr (pr f3_u))))))) (f3_e K) (f3_e K) nX (mixF 833 σ 0 fr) w
def f3_k1 (K : K1) (x0 x6 x8 x9 : Value) (w : World) : Prop := f3_k1_o K (fz 109 0 [(0, x0), (6, x6), (8, x8), (9, x9)]) w
def f3_l1 (K : K1) (x0 x1 x6 x8 x9 x39 x40 : Value) (w : World) : Prop := loopT [8, 9, 40] 549755813955 (fun E => cP (pl (pl (pr (pl (pr (pr (pr (pr (pr (pr f3_u)))))))))) E (f3_e K) (exB 0 (f3_k1_o K) nX)) (fz 109 0 [(0, x0), (1, x1), (6, x6), (8, x8), (9, x9), (39, x39), (40, x40)]) w
def f3_k2_o (K : K1) (E1 : VP3) : KF := fun fr w => ∀ σ, cP (pr (pr (pr (pl (pl (pr (pr (pl (pl (pr (pl (pr (pr (pr (pr (pr (pr f3_u))))))))))))))))) (cP (pr (pr (pr (pl (pl (pr (pl (pr (pr (pr (pr (pr (pr f3_u))))))))))))) (fun fr w => E1 (sv fr 8) (sv fr 9) (sv fr 40) w) (f3_e K) (exB 0 (f3_k1_o K) nX)) (f3_e K) (exB 1 (cP (pr (pr (pr (pl (pl (pr (pl (pr (pr (pr (pr (pr (pr f3_u))))))))))))) (fun fr w => E1 (sv fr 8) (sv fr 9) (sv fr 40) w) (f3_e K) (exB 0 (f3_k1_o K) nX)) (exB 0 (f3_k1_o K) nX)) (mixF 1649267445571 σ 0 fr) w
def f3_k2 (K : K1) (E1 : VP3) (x0 x1 x6 x8 x9 x10 x11 x39 x40 : Value) (w : World) : Prop := f3_k2_o K E1 (fz 109 0 [(0, x0), (1, x1), (6, x6), (8, x8), (9, x9), (10, x10), (11, x11), (39, x39), (40, x40)]) w
def f3_k1_t (x0 x6 x8 x9 : Value) (K : K1) (w : World) : Prop :=
 ev Tryz.prog (Instr.makeInterface 25 x6) w fun t83 w_1 =>
 bltS Tryz.prog .len #[22] 3 #[false] #[x0] w_1 fun t85 w_2 =>
 ev Tryz.prog (binM .mul 3 (.const (.int .i64 32)) (.tmp 85) (.int .i64 32) t85) w_2 fun t86 w_3 =>
 callS Tryz.prog 14 (pA #[t83, (.int .i64 3), t86]) w_3 fun t87 w_4 =>
 ev Tryz.prog (Instr.extract t87 0) w_4 fun t88 w_5 =>
 ev Tryz.prog (Instr.extract t87 1) w_5 fun t89 w_6 =>
 ev Tryz.prog (Op.unary .not x9) w_6 fun t91 w_7 =>
 cndS t91 (
 ev Tryz.prog (binM .eql 43 (.tmp 92) (.const (.int .i64 11)) t89 (.int .i64 11)) w_7 fun t93 w_8 =>
 gd t93 true (fun k => k t88 w_8) w_8 fun t95 w_9 =>
 gd t93 true (fun k => ev Tryz.prog (binM .eql 26 (.tmp 95) (.const (.pointer none)) t95 (.pointer none)) w_9 k) w_9 fun t96 w_10 =>
 pickS t93 t96 (.bool false) w_10 fun t97 w_11 =>
 K t97 w_11) (
 ev Tryz.prog (binM .eql 43 (.tmp 98) (.const (.int .i64 0)) t89 (.int .i64 0)) w_7 fun t99 w_12 =>
 gd t99 true (fun k => k t88 w_12) w_12 fun t101 w_13 =>
 gd t99 true (fun k => ev Tryz.prog (binM .neq 26 (.tmp 101) (.const (.pointer none)) t101 (.pointer none)) w_13 k) w_13 fun t102 w_14 =>
 pickS t99 t102 (.bool false) w_14 fun t103 w_15 =>
 gd t103 true (fun k => k t88 w_15) w_15 fun t105 w_16 =>
 gd t103 true (fun k => k x8 w_16) w_16 fun t106 w_17 =>
 gd t103 true (fun k => callS Tryz.prog 15 (pA #[t105, t106]) w_17 k) w_17 fun t107 w_18 =>
 pickS t103 t107 (.bool false) w_18 fun t108 w_19 =>
 K t108 w_19)
theorem f3_k1_eq (K : K1) (x0 x6 x8 x9 : Value) (w : World) : f3_k1 K x0 x6 x8 x9 w = f3_k1_t x0 x6 x8 x9 K w := cutE fun σ => by kernel_rfl
def f3_l1_t (x0 x1 x6 x8 x9 x39 x40 : Value) (K : K1) (E1 : VP3) (w : World) : Prop :=
 ev Tryz.prog (binM .lss 3 (.tmp 40) (.tmp 39) x40 x39) w fun t41 w_1 =>
 cndS t41 (
 ev Tryz.prog (Instr.indexAt 22 x0 x40) w_1 fun t45 w_2 =>
 ldS Tryz.prog 32 t45 w_2 fun t46 w_3 =>
 callS Tryz.prog 10 (pA #[t46]) w_3 fun t47 w_4 =>
 ev Tryz.prog (convert 5 3 x1) w_4 fun t49 w_5 =>
 ev Tryz.prog (binM .eql 3 (.tmp 49) (.tmp 50) t49 x40) w_5 fun t51 w_6 =>
 cndS t51 (
 ev Tryz.prog (binM .add 30 (.tmp 52) (.const (.int .u64 ((1 : Nat) : Int))) t47 (.int .u64 ((1 : Nat) : Int))) w_6 fun t53 w_7 =>
 f3_k2 K E1 x0 x1 x6 x8 x9 x40 t53 x39 x40 w_7) (
 f3_k2 K E1 x0 x1 x6 x8 x9 x40 t47 x39 x40 w_6)) (
 f3_k1 K x0 x6 x8 x9 w_1)
theorem f3_l1_rule (x0 x1 x6 x8 x9 x39 x40 : Value) (K : K1) (w : World) (I : VP3) (μ : Value → Value → Value → World → Nat) (h0 : I x8 x9 x40 w)
    (hr : ∀ (x8 x9 x40 : Value) (w : World), I x8 x9 x40 w → ∀ E1 : VP3, (∀ (y8 y9 y40 : Value) (w' : World), I y8 y9 y40 w' → μ y8 y9 y40 w' < μ x8 x9 x40 w → E1 y8 y9 y40 w') → f3_l1_t x0 x1 x6 x8 x9 x39 x40 K E1 w) : f3_l1 K x0 x1 x6 x8 x9 x39 x40 w :=
  ⟨I, μ, h0, fun σ w hI E hE => cast (by kernel_rfl) (hr (σ 8) (σ 9) (σ 40) w hI E hE)⟩
def f3_k2_t (x0 x1 x6 x8 x9 x10 x11 x39 x40 : Value) (K : K1) (E1 : VP3) (w : World) : Prop :=
 ev Tryz.prog (binM .mul 3 (.const (.int .i64 32)) (.tmp 55) (.int .i64 32) x10) w fun t56 w_1 =>
 ev Tryz.prog (binM .add 3 (.const (.int .i64 3)) (.tmp 56) (.int .i64 3) t56) w_1 fun t57 w_2 =>
 ev Tryz.prog (convert 3 30 t57) w_2 fun t58 w_3 =>
 ev Tryz.prog (binM .mul 30 (.const (.int .u64 ((64 : Nat) : Int))) (.tmp 58) (.int .u64 ((64 : Nat) : Int)) t58) w_3 fun t59 w_4 =>
 callS Tryz.prog 11 (pA #[x6, t59, x11]) w_4 fun t61 w_5 =>
 callS Tryz.prog 12 (pA #[x11]) w_5 fun t64 w_6 =>
 ev Tryz.prog (Instr.extract t64 0) w_6 fun t65 w_7 =>
 ev Tryz.prog (Instr.extract t64 1) w_7 fun t66 w_8 =>
 ev Tryz.prog (Instr.alloc 36 true (.tuple #[])) w_8 fun t12 w_9 =>
 stS Tryz.prog 36 t12 t65 w_9 fun w_10 =>
 gd x9 true (fun k => k t66 w_10) w_10 fun t69 w_11 =>
 pickS x9 t69 (.bool false) w_11 fun t70 w_12 =>
 ev Tryz.prog (binM .mul 3 (.const (.int .i64 32)) (.tmp 73) (.int .i64 32) x10) w_12 fun t74 w_13 =>
 ev Tryz.prog (binM .add 3 (.const (.int .i64 3)) (.tmp 74) (.int .i64 3) t74) w_13 fun t75 w_14 =>
 callS Tryz.prog 13 (pA #[x6, t75]) w_14 fun t76 w_15 =>
 ev Tryz.prog (Instr.build 42 #[(0, t76)]) w_15 fun t77 w_16 =>
 ev Tryz.prog (Instr.buildSlice 29 1 #[(0, t77)]) w_16 fun t78 w_17 =>
 bltS Tryz.prog .append #[29, 29] 29 #[false, false] (pA #[x8, t78]) w_17 fun t79 w_18 =>
 ev Tryz.prog (binM .add 3 (.tmp 40) (.const (.int .i64 1)) x40 (.int .i64 1)) w_18 fun t80 w_19 =>
 E1 t79 t70 t80 w_19
theorem f3_k2_eq (K : K1) (E1 : VP3) (x0 x1 x6 x8 x9 x10 x11 x39 x40 : Value) (w : World) : f3_k2 K E1 x0 x1 x6 x8 x9 x10 x11 x39 x40 w = f3_k2_t x0 x1 x6 x8 x9 x10 x11 x39 x40 K E1 w := cutE fun σ => by kernel_rfl
def f3_t (x0 x1 : Value) (K : K1) (w : World) : Prop :=
 callS Tryz.prog 8 (pA #[]) w fun t16 w_1 =>
 ev Tryz.prog (Op.unary .not t16) w_1 fun t17 w_2 =>
 gd t17 false (fun k => k x0 w_2) w_2 fun t19 w_3 =>
 gd t17 false (fun k => bltS Tryz.prog .len #[22] 3 #[false] #[t19] w_3 k) w_3 fun t20 w_4 =>
 gd t17 false (fun k => ev Tryz.prog (binM .lss 3 (.tmp 20) (.const (.int .i64 1)) t20 (.int .i64 1)) w_4 k) w_4 fun t21 w_5 =>
 pickS t17 (.bool true) t21 w_5 fun t22 w_6 =>
 gd t22 false (fun k => k x0 w_6) w_6 fun t24 w_7 =>
 gd t22 false (fun k => bltS Tryz.prog .len #[22] 3 #[false] #[t24] w_7 k) w_7 fun t25 w_8 =>
 gd t22 false (fun k => ev Tryz.prog (binM .gtr 3 (.tmp 25) (.const (.int .i64 5)) t25 (.int .i64 5)) w_8 k) w_8 fun t26 w_9 =>
 pickS t22 (.bool true) t26 w_9 fun t27 w_10 =>
 cndS t27 (
 callS Tryz.prog 8 (pA #[]) w_10 fun t28 w_11 =>
 K t28 w_11) (
 bltS Tryz.prog .len #[22] 3 #[false] #[x0] w_10 fun t31 w_12 =>
 callS Tryz.prog 9 (pA #[t31]) w_12 fun t32 w_13 =>
 ev Tryz.prog (Instr.extract t32 0) w_13 fun t33 w_14 =>
 ev Tryz.prog (Instr.extract t32 1) w_14 fun t34 w_15 =>
 ev Tryz.prog (Instr.extract t32 2) w_15 fun t35 w_16 =>
 ev Tryz.prog (binM .eql 24 (.tmp 36) (.const (.pointer none)) t33 (.pointer none)) w_16 fun t37 w_17 =>
 cndS t37 (
 K (.bool false) w_17) (
 bltS Tryz.prog .len #[22] 3 #[false] #[x0] w_17 fun t39 w_18 =>
 f3_l1 K x0 x1 t34 (.slice none 0 0) (.bool true) t39 (.int .i64 0) w_18))
theorem f3_call (x0 x1 : Value) (K : K1) (w : World) (h : f3_t x0 x1 K w) : callS Tryz.prog 3 #[x0, x1] w K :=
  call_of_txt (args := [x0, x1]) mixed Tryz.func3 f3_u.2 (by kernel_rfl) (cast (by kernel_rfl) h)
end Go.Proofs.YtifpinhjpbgnoaaGreatDoor
namespace Go.Proofs.YtifpinhjpbgnoaaGreatDoor
open Go Go.Sh
set_option maxRecDepth 100000
set_option maxHeartbeats 4000000
set_option linter.unusedSimpArgs false
set_option linter.unusedVariables false
def xwN (L : List Nat) (bad k : Nat) : Nat := if bad = k then (sealN (L.getD k 0) + 1) % 18446744073709551616 else sealN (L.getD k 0)
def opD (L : List Nat) (bad n : Nat) : Nat → DS
  | 0 => bgD n
  | k + 1 => (opD L bad n k).store 0 (64 * (3 + 32 * k)) (xwN L bad k)
def okA (L : List Nat) (bad : Nat) : Nat → Bool
  | 0 => true
  | k + 1 => okA L bad k && hdOk (xwN L bad k)
theorem okA_all {L : List Nat} {bad : Nat} : ∀ n, okA L bad n = true ↔ ∀ k, k < n → hdOk (xwN L bad k) = true
  | 0 => ⟨fun _ k hk => absurd hk (Nat.not_lt_zero _), fun _ => rfl⟩
  | n + 1 => by
    unfold okA
    rw [Bool.and_eq_true, okA_all n]
    constructor
    · intro ⟨h1, h2⟩ k hk
      by_cases e : k = n
      · rw [e]; exact h2
      · exact h1 k (by omega)
    · intro h
      exact ⟨fun k hk => h k (by omega), h n (by omega)⟩
abbrev u32L (l : List Nat) : List Value := l.map fun (i : Nat) => Value.int .u32 (i : Int)
theorem xwN_lt {L : List Nat} (h : ∀ x ∈ L, x < 4294967296) {bad k : Nat} (hk : k < L.length) : xwN L bad k < 18446744073709551616 := by
  unfold xwN
  split
  · omega
  · refine sealN_lt _ (h _ ?_)
    rw [List.getD_eq_getElem?_getD, List.getElem?_eq_getElem hk]
    exact List.getElem_mem hk
theorem opD_ok {L : List Nat} (h : ∀ x ∈ L, x < 4294967296) {bad n : Nat} (h0 : 0 < n) (h5 : n ≤ 5) (hn : L.length = n) : ∀ k, k ≤ n → On (opD L bad n k) ∧ Good (opD L bad n k) ∧ (opD L bad n k).n = 32 * n + 5 ∧ (opD L bad n k).exe ≤ 15 + k ∧ ∀ j, j < n → ∀ i, i < 256 → wd (opD L bad n k) (3 + 32 * j) i = if i = 0 ∧ j < k then xwN L bad j else wd (bgD n) (3 + 32 * j) i
  | 0, _ => by
    obtain ⟨hb, hbn, hbx, hbw⟩ := bg_ok h0 h5
    exact ⟨hb.on, hb.gd, hbn, hbx, fun j hj i hi => by rw [if_neg (by omega)]; rfl⟩
  | k + 1, hk => by
    obtain ⟨h1, h2, h3, h4, h6⟩ := opD_ok h (bad := bad) h0 h5 hn k (by omega)
    have hx := xwN_lt h (bad := bad) (k := k) (by omega)
    have hv : vOff (opD L bad n k) (64 * (3 + 32 * k)) = true := by unfold vOff; rw [decide_eq_true (by omega), decide_eq_true (by omega)]; rfl
    have hc := h1.storeCur (64 * (3 + 32 * k)) (xwN L bad k) hv
    refine ⟨h1.storeOn _ _ hv, strs_good h2 (ws := [(64 * (3 + 32 * k), xwN L bad k)]) (fun x hx2 => by simp only [List.mem_singleton] at hx2; subst hx2; exact ⟨by simp only; omega, hx⟩), (store_n _ 0 _ _).trans h3, ?_, fun j hj i hi => ?_⟩
    · have := strs_exe (opD L bad n k) [(64 * (3 + 32 * k), xwN L bad k)]
      have e : (opD L bad n k).strs [(64 * (3 + 32 * k), xwN L bad k)] = opD L bad n (k + 1) := rfl
      rw [e] at this
      simp only [List.length_singleton] at this; omega
    · have h6 := h6 j hj i hi
      unfold opD wd
      rw [hc]
      simp only
      by_cases e : i = 0 ∧ j = k
      · rw [if_pos (by omega), if_pos (by omega), e.2]
      · rw [if_neg (by omega)]
        unfold wd at h6
        rw [h6]
        by_cases e2 : i = 0 ∧ j < k
        · rw [if_pos e2, if_pos (by omega)]
        · rw [if_neg e2, if_neg (by omega)]
section
variable {w w0 : World} {L : List Nat} {bad n : Nat}
theorem lo_k2 {K : K1} {Y : Lay} {k : Nat} {x8 : Value} {sl : Nat → Value} {W : Nat → Nat → Nat} {hd : Nat → Bool} {E1 : VP3} (h32 : ∀ x ∈ L, x < 4294967296) (h0 : 0 < n) (h5 : n ≤ 5) (hn : L.length = n) (h : Lv w0 w Y (opD L bad n k)) (gl : Glob w0) (hk : k < n) (hm : MdS w Y.F x8 sl k W hd) (nv : NewV w0.heap.size x8) (ok : Bool) (x0 : Value) (T : Nat) (hT : Y.tb 0 = T)
    (hE : ∀ w' Y' x8' sl' W', Lv w0 w' Y' (opD L bad n (k + 1)) → Y'.tb 0 = T → MdS w' Y'.F x8' sl' (k + 1) W' hd → NewV w0.heap.size x8' → (∀ j, j < k → W' j = W j) → W' k = wd (opD L bad n (k + 1)) (3 + 32 * k) → E1 x8' (.bool (ok && hdOk (xwN L bad k))) (.int .i64 ((k + 1 : Nat) : Int)) w') (hhd : hd k = false) :
    f3_k2 K E1 x0 (.int .u8 (bad : Int)) (.pointer (some ⟨T, 0, none⟩)) x8 (.bool ok) (.int .i64 (k : Int)) (.int .u64 ((xwN L bad k : Nat) : Int)) (.int .i64 (n : Int)) (.int .i64 (k : Int)) w := by
  subst hT
  obtain ⟨o1, o2, o3, o4, o5⟩ := opD_ok h32 (bad := bad) h0 h5 hn k (by omega)
  obtain ⟨p1, p2, p3, p4, p5⟩ := opD_ok h32 (bad := bad) h0 h5 hn (k + 1) (by omega)
  have hx := xwN_lt h32 (bad := bad) (k := k) (by omega)
  have e3 : (3 : Int) + 32 * (k : Int) = ((3 + 32 * k : Nat) : Int) := by omega
  have e4 : 64 * (3 + 32 * k) < 18446744073709551616 := by omega
  have hst := fun (w1 : World) (e : Ext w w1) (K : K1) hK => k_Store (h.dv.ext e) o2 0 (by omega) (64 * (3 + 32 * k)) (xwN L bad k) (by omega) K hK
  have hlk := fun (w1 : World) (K : K1) hK => k_rLook (w := w1) (xwN L bad k) hx K hK
  rw [f3_k2_eq]
  unfold f3_k2_t
  have ek : (k : Int) + 1 = ((k + 1 : Nat) : Int) := by omega
  have e5 : opD L bad n (k + 1) = (opD L bad n k).store 0 (64 * (3 + 32 * k)) (xwN L bad k) := rfl
  rw [e5] at hE p2 p1 p3
  generalize (opD L bad n k).store 0 (64 * (3 + 32 * k)) (xwN L bad k) = D1 at *
  generalize hdOk (xwN L bad k) = okb at *
  generalize hC (xwN L bad k) = cc at *
  generalize hO (xwN L bad k) = oo at *
  generalize gX (xwN L bad k) = gg at *
  generalize xwN L bad k = xx at *
  simp (disch := first | omega | simp only [RO] | (simp only [RZ] <;> omega) | fail) only [↓RBp, ↓RA, ↓reduceIte, Nat.reduceAdd, Nat.reduceMul, Nat.reduceEqDiff, RB, RX, RA2, e3, Int.toNat_natCast]
  refine hst _ (by repeat (first | (with_reducible first | refine Sh.eB ?_ (by first | omega | (simp only [RZ] <;> omega)) _ | assumption | exact Sh.eR _ | refine Sh.eA ?_ _ | refine Sh.eD ?_ | refine Sh.eT ?_ (by assumption)) | exact Sh.eR _)) _ (fun w1 Y1 st => ?_)
  have h1 := h.step st p2
  have m1 : MdS w1 Y1.F x8 sl k W hd := hm.frm st.frm (fun x hx => st.fr x hx)
  simp (disch := first | omega | simp only [RO] | (simp only [RZ] <;> omega) | fail) only [↓RBp, ↓RA, ↓reduceIte, Nat.reduceAdd, Nat.reduceMul, Nat.reduceEqDiff, RB, RX, RA2]
  refine hlk _ _ (fun w2 e2 => ?_)
  have tb : Y1.tb 0 = Y.tb 0 := by rw [st.tb]
  rw [← tb]
  have fin : ∀ (w3 : World) (b o cap : Nat), Ext w2 w3 → w2.heap.size ≤ b → SlO w3 30 1 (wsV b o cap) 256 (wdL (wd D1 (3 + 32 * k)) 256) → ∀ (xb : Nat) (cs : Array Bool), w3.cell? ⟨xb, 0, none⟩ = some (wsV b o cap) → w3.cell? ⟨xb, 1, none⟩ = some (.bool false) → ∀ K' : K1, (∀ v' w', E1 v' (.bool (ok && okb)) (.int .i64 ((k + 1 : Nat) : Int)) w' → K' v' w') → bltS Tryz.prog .append #[29, 29] 29 cs #[x8, .slice (some ⟨xb, 0, none⟩) 1 1] w3 K' := by
    intro w3 b o cap e23 hb hs xb cs c0 c1 K' hK'
    have h3 := (h1.ext e2).ext e23
    have m3 := (m1.ext e2).ext e23
    have lb : w1.heap.size ≤ b := Nat.le_trans e2.size hb
    refine k_push m3 (fun x hx => h3.dv.lt hx) (WsL.new hs lb (fun x hx => h1.dv.lt hx)) (fun hx => ?_) false (by omega) c0 c1 _ (fun v' w4 f4 b4 m4 => ?_)
    · have := m1.m.lt hx; omega
    have nv4 : NewV w0.heap.size v' := fun x hx => by
      rcases b4 x hx with h9 | h9
      · exact nv x h9
      · exact Nat.le_trans h3.ex.size h9
    have mm := m4.congr (V := upF W k (wd D1 (3 + 32 * k))) (he := hd) (fun _ _ _ _ => rfl) (fun j hj => by
      by_cases e : j = k
      · rw [e, upF_eq, hhd]
      · rw [upF_ne _ _ e])
    refine hK' _ _ (hE w4 Y1 v' _ _ ⟨h3.dv.frm f4 (fun x hx hg => m3.out x hg hx), h3.gd, Ext.frm h3.ex f4 (fun x hx => nv x hx), h3.nw⟩ tb mm nv4 (fun j hj => upF_ne _ _ (by omega)) (upF_eq _ _ _))
  cases ok with
  | true =>
    simp (disch := first | omega | simp only [RO] | (simp only [RZ] <;> omega) | fail) only [↓RBp, ↓RA, ↓reduceIte, Nat.reduceAdd, Nat.reduceMul, Nat.reduceEqDiff, RB, RX, RA2, e3]
    refine k_words22 ((h1.ext e2).dv.ext (by repeat (first | (with_reducible first | refine Sh.eB ?_ (by first | omega | (simp only [RZ] <;> omega)) _ | assumption | exact Sh.eR _ | refine Sh.eA ?_ _ | refine Sh.eD ?_ | refine Sh.eT ?_ (by assumption)) | exact Sh.eR _))) h1.gd p1.off (by omega) _ (fun b o cap w3 hs e3' hb => ?_)
    have hC := Cells.new w3 [wsV b o cap, .bool false] 42
    simp only [RZ] at hb
    have e23 : Ext w2 w3 := Ext.trans (by repeat (first | (with_reducible first | refine Sh.eB ?_ (by first | omega | (simp only [RZ] <;> omega)) _ | assumption | exact Sh.eR _ | refine Sh.eA ?_ _ | refine Sh.eD ?_ | refine Sh.eT ?_ (by assumption)) | exact Sh.eR _)) e3'
    simp (disch := first | omega | simp only [RO] | (simp only [RZ] <;> omega) | fail) only [↓RBp, ↓RA, ↓reduceIte, Nat.reduceAdd, Nat.reduceMul, Nat.reduceEqDiff, RB, RX, RA2]
    refine fin _ b o cap (e23.trans (Ext.alloc_self _ _)) (by omega) (hs.ext (Ext.alloc_self _ _)) _ _ (hC.cell (i := 0) (by simp)) (hC.cell (i := 1) (by simp)) _ (fun v' w' hh => ?_)
    simp (disch := first | omega | simp only [RO] | (simp only [RZ] <;> omega) | fail) only [↓RBp, ↓RA, ↓reduceIte, Nat.reduceAdd, Nat.reduceMul, Nat.reduceEqDiff, RB, RX, RA2, ek]
    rw [Bool.true_and] at hh
    exact hh
  | false =>
    simp (disch := first | omega | simp only [RO] | (simp only [RZ] <;> omega) | fail) only [↓RBp, ↓RA, ↓reduceIte, Nat.reduceAdd, Nat.reduceMul, Nat.reduceEqDiff, RB, RX, RA2, e3]
    refine k_words22 ((h1.ext e2).dv.ext (by repeat (first | (with_reducible first | refine Sh.eB ?_ (by first | omega | (simp only [RZ] <;> omega)) _ | assumption | exact Sh.eR _ | refine Sh.eA ?_ _ | refine Sh.eD ?_ | refine Sh.eT ?_ (by assumption)) | exact Sh.eR _))) h1.gd p1.off (by omega) _ (fun b o cap w3 hs e3' hb => ?_)
    have hC := Cells.new w3 [wsV b o cap, .bool false] 42
    simp only [RZ] at hb
    have e23 : Ext w2 w3 := Ext.trans (by repeat (first | (with_reducible first | refine Sh.eB ?_ (by first | omega | (simp only [RZ] <;> omega)) _ | assumption | exact Sh.eR _ | refine Sh.eA ?_ _ | refine Sh.eD ?_ | refine Sh.eT ?_ (by assumption)) | exact Sh.eR _)) e3'
    simp (disch := first | omega | simp only [RO] | (simp only [RZ] <;> omega) | fail) only [↓RBp, ↓RA, ↓reduceIte, Nat.reduceAdd, Nat.reduceMul, Nat.reduceEqDiff, RB, RX, RA2]
    refine fin _ b o cap (e23.trans (Ext.alloc_self _ _)) (by omega) (hs.ext (Ext.alloc_self _ _)) _ _ (hC.cell (i := 0) (by simp)) (hC.cell (i := 1) (by simp)) _ (fun v' w' hh => ?_)
    simp (disch := first | omega | simp only [RO] | (simp only [RZ] <;> omega) | fail) only [↓RBp, ↓RA, ↓reduceIte, Nat.reduceAdd, Nat.reduceMul, Nat.reduceEqDiff, RB, RX, RA2, ek]
    rw [Bool.false_and] at hh
    exact hh
theorem law_opens (hG : Glob w) {m : Nat} {v : Value} (hv : RdS m w v (u32L L)) (hm : m ≤ w.heap.size) (h32 : ∀ x ∈ L, x < 4294967296) (hln : L.length ≤ maxLen) (hbad : bad < 256) (K : K1) (hK : ∀ w', Ext w w' → K (.bool true) w') :
    callS Tryz.prog 3 #[v, .int .u8 (bad : Int)] w K := by
  obtain ⟨va, vc, rfl, _⟩ := id hv
  rw [show (u32L L).length = L.length by simp] at hv ⊢
  have hlm : L.length < 9223372036854775808 := by unfold maxLen at hln; omega
  refine f3_call _ _ _ _ ?_
  unfold f3_t
  refine k_awake22 hG _ (fun w1 e1 => ?_)
  by_cases h1 : L.length < 1
  · simp (disch := first | omega | simp only [RO] | (simp only [RZ] <;> omega) | fail) only [↓RBp, ↓RA, ↓reduceIte, Nat.reduceAdd, Nat.reduceMul, Nat.reduceEqDiff, RB, RX, RA2, h1]
    refine k_awake22 (hG.ext e1) _ (fun w2 e2 => ?_)
    exact hK _ (e1.trans e2)
  · by_cases h5 : 5 < L.length
    · simp (disch := first | omega | simp only [RO] | (simp only [RZ] <;> omega) | fail) only [↓RBp, ↓RA, ↓reduceIte, Nat.reduceAdd, Nat.reduceMul, Nat.reduceEqDiff, RB, RX, RA2, h1, h5]
      refine k_awake22 (hG.ext e1) _ (fun w2 e2 => ?_)
      exact hK _ (e1.trans e2)
    · obtain ⟨n, hn⟩ : ∃ n, L.length = n := ⟨_, rfl⟩
      rw [hn] at h1 h5 hv ⊢
      have hok := fun k hk => opD_ok h32 (bad := bad) (n := n) (by omega) (by omega) hn k hk
      simp (disch := first | omega | simp only [RO] | (simp only [RZ] <;> omega) | fail) only [↓RBp, ↓RA, ↓reduceIte, Nat.reduceAdd, Nat.reduceMul, Nat.reduceEqDiff, RB, RX, RA2, h1, h5]
      refine k_begin22 (n := n) (hG.ext e1) (by omega) (by omega) _ (fun w2 Y S b o cp hS => ?_)
      have L2 : Lv w1 w2 Y (bgD n) := hS.L
      simp (disch := first | omega | simp only [RO] | (simp only [RZ] <;> omega) | fail) only [↓RBp, ↓RA, ↓reduceIte, Nat.reduceAdd, Nat.reduceMul, Nat.reduceEqDiff, RB, RX, RA2]
      apply f3_l1_rule (I := fun x y z w' => ∃ (k : Nat) (Y' : Lay) (sl : Nat → Value) (W : Nat → Nat → Nat), z = .int .i64 (k : Int) ∧ k ≤ n ∧ Lv w1 w' Y' (opD L bad n k) ∧ Y'.tb 0 = Y.tb 0 ∧ MdS w' Y'.F x sl k W (fun _ => false) ∧ NewV w1.heap.size x ∧ y = .bool (okA L bad k) ∧ ∀ j, j < k → ∀ i, i < 256 → W j i = wd (opD L bad n k) (3 + 32 * j) i) (μ := fun _ _ z _ => n - (Go.RowKit.intOf z).toNat)
      · exact ⟨0, Y, fun _ => .slice none 0 0, fun _ _ => 0, rfl, by omega, L2, rfl, MdS.nil _ _ _ _ _, fun x hx => (by cases hx), rfl, fun j hj => absurd hj (Nat.not_lt_zero _)⟩
      · intros; rename_i x y z w3 hI E1 hE
        obtain ⟨k, Y3, sl, W, rfl, hk, L3, tb3, m3, nv3, rfl, hW⟩ := hI
        by_cases hkn : k < n
        · have hg : (u32L L)[k]? = some (.int .u32 ((L.getD k 0 : Nat) : Int)) := by
            rw [List.getElem?_map, List.getElem?_eq_getElem (by omega), List.getD_eq_getElem?_getD, List.getElem?_eq_getElem (by omega)]; rfl
          have hx32 : L.getD k 0 < 4294967296 := by
            rw [List.getD_eq_getElem?_getD, List.getElem?_eq_getElem (by omega)]
            exact h32 _ (List.getElem_mem (by omega))
          obtain ⟨gb, go, gc, hgv, hgc⟩ := (hv.ext (e1.trans L3.ex)).get hg
          have hln2 : (u32L L).length = n := by simp [hn]
          rw [hln2] at hgv
          have hse := fun w K => c_rSeal (L.getD k 0) w K hx32
          have fin : f3_k2 K E1 (.slice va n vc) (.int .u8 (bad : Int)) (.pointer (some ⟨Y.tb 0, 0, none⟩)) x (.bool (okA L bad k)) (.int .i64 (k : Int)) (.int .u64 ((xwN L bad k : Nat) : Int)) (.int .i64 (n : Int)) (.int .i64 (k : Int)) w3 := by
            refine lo_k2 h32 (by omega) (by omega) hn L3 (hG.ext e1) hkn m3 nv3 (okA L bad k) _ _ tb3 (fun w' Y' x8' sl' W' L' tb' m' nv' hWj hWk => ?_) rfl
            apply hE
            · refine ⟨k + 1, Y', sl', W', rfl, by omega, L', tb', m', nv', rfl, fun j hj i hi => ?_⟩
              by_cases e : j = k
              · rw [e, hWk]
              · rw [hWj j (by omega), hW j (by omega) i hi, (hok k hk).2.2.2.2 j (by omega) i hi, (hok (k + 1) (by omega)).2.2.2.2 j (by omega) i hi]
                by_cases e2 : i = 0
                · rw [if_pos (by omega), if_pos (by omega)]
                · rw [if_neg (by omega), if_neg (by omega)]
            · simp [Go.RowKit.intOf]; omega
          have hxw : xwN L bad k = if bad = k then (sealN (L.getD k 0) + 1) % 18446744073709551616 else sealN (L.getD k 0) := rfl
          injection hgv with hva _ _
          subst hva
          generalize L.getD k 0 = xl at *
          generalize sealN xl = sx at *
          have hadd : ∀ (x y : Operand) (w : World) (k : K1), ev Tryz.prog (binM .add 30 x y (.int .u64 (sx : Int)) (.int .u64 ((1 : Nat) : Int))) w k = k (.int .u64 (((sx + 1) % 18446744073709551616 : Nat) : Int)) w := fun x y w k => ev_of_run (add_mod (k := .u64) rfl _ x y sx 1 w) k
          by_cases hb : bad = k
          · rw [if_pos hb] at hxw
            rw [hxw] at fin
            unfold f3_l1_t
            have hb' : (bad : Int) = (k : Int) := by omega
            simp (disch := first | omega | simp only [RO] | (simp only [RZ] <;> omega) | fail) only [↓RBp, ↓RA, ↓reduceIte, Nat.reduceAdd, Nat.reduceMul, Nat.reduceEqDiff, RB, RX, RA2, hgc, hse, hadd, if_pos hb', decide_eq_true hb']
            exact fin
          · rw [if_neg hb] at hxw
            rw [hxw] at fin
            unfold f3_l1_t
            have hb' : ¬ (bad : Int) = (k : Int) := by omega
            simp (disch := first | omega | simp only [RO] | (simp only [RZ] <;> omega) | fail) only [↓RBp, ↓RA, ↓reduceIte, Nat.reduceAdd, Nat.reduceMul, Nat.reduceEqDiff, RB, RX, RA2, hgc, hse, hb']
            exact fin
        · have hkn : k = n := by omega
          subst hkn
          have e32 : (32 : Int) * (k : Int) = ((32 * k : Nat) : Int) := by omega
          obtain ⟨o1, o2, o3, o4, o5⟩ := hok k (by omega)
          have hq : 32 * k / 32 = k := by omega
          have hwx : ∀ j, j < k → wd (opD L bad k k) (3 + 32 * j) 0 = xwN L bad j := fun j hj => by rw [o5 j hj 0 (by omega), if_pos (by omega)]
          have hall : okA L bad k = true ↔ ∀ j, j < k → hdOk (wd (opD L bad k k) (3 + 32 * j) 0) = true := by
            rw [okA_all]
            constructor
            · intro h j hj; rw [hwx j hj]; exact h j hj
            · intro h j hj; rw [← hwx j hj]; exact h j hj
          have hop := fun (w4 : World) (e : Ext w3 w4) (K : K1) h1 h2 => k_AOpen (l0 := 3) (q := 32 * k) (n := k) (L3.ext e) (hG.ext e1) o1.off o1.err (by omega) (by omega) hq K h1 h2
          unfold thV at hop
          rw [tb3] at hop
          generalize okA L bad k = ok at *
          unfold f3_l1_t
          simp (disch := first | omega | simp only [RO] | (simp only [RZ] <;> omega) | fail) only [↓RBp, ↓RA, ↓reduceIte, Nat.reduceAdd, Nat.reduceMul, Nat.reduceEqDiff, RB, RX, RA2, f3_k1_eq, f3_k1_t, e32]
          refine hop _ (by repeat (first | (with_reducible first | refine Sh.eB ?_ (by first | omega | (simp only [RZ] <;> omega)) _ | assumption | exact Sh.eR _ | refine Sh.eA ?_ _ | refine Sh.eD ?_ | refine Sh.eT ?_ (by assumption)) | exact Sh.eR _)) _ (fun hbad w4 e4 => ?_) (fun hgood S4 b4 o4' cp4 w4 e4 hS4 hb4 h4 => ?_)
          · cases ok with
            | true => exact absurd (hall.1 rfl) hbad
            | false =>
              simp (disch := first | omega | simp only [RO] | (simp only [RZ] <;> omega) | fail) only [↓RBp, ↓RA, ↓reduceIte, Nat.reduceAdd, Nat.reduceMul, Nat.reduceEqDiff, RB, RX, RA2]
              exact hK _ (e1.trans (L3.ex.trans (Ext.trans (by repeat (first | (with_reducible first | refine Sh.eB ?_ (by first | omega | (simp only [RZ] <;> omega)) _ | assumption | exact Sh.eR _ | refine Sh.eA ?_ _ | refine Sh.eD ?_ | refine Sh.eT ?_ (by assumption)) | exact Sh.eR _)) e4)))
          · have : ok = true := hall.2 hgood
            subst this
            have hag : AgM w4 Y3.F x sl k W (fun _ => false) (opF (opD L bad k k) 3) := ⟨m3.ext (Ext.trans (by repeat (first | (with_reducible first | refine Sh.eB ?_ (by first | omega | (simp only [RZ] <;> omega)) _ | assumption | exact Sh.eR _ | refine Sh.eA ?_ _ | refine Sh.eD ?_ | refine Sh.eT ?_ (by assumption)) | exact Sh.eR _)) e4), fun j hj => ?_⟩
            · simp (disch := first | omega | simp only [RO] | (simp only [RZ] <;> omega) | fail) only [↓RBp, ↓RA, ↓reduceIte, Nat.reduceAdd, Nat.reduceMul, Nat.reduceEqDiff, RB, RX, RA2]
              refine k_agrees h4 (by omega) hag _ (fun w5 e5 => ?_)
              simp (disch := first | omega | simp only [RO] | (simp only [RZ] <;> omega) | fail) only [↓RBp, ↓RA, ↓reduceIte, Nat.reduceAdd, Nat.reduceMul, Nat.reduceEqDiff, RB, RX, RA2]
              exact hK _ (e1.trans (h4.L.ex.trans e5))
            · rw [hW j hj 0 (by omega)]
              exact ⟨by unfold wd; exact o2.cur _ (by omega), rfl, rfl⟩
end
end Go.Proofs.YtifpinhjpbgnoaaGreatDoor
