/-
  Part of the proof in YtaeopkhdokaaoaaGreatDoorBaRowH.
-/
import Derived.Test.YtaeopkhdokaaoaaGreatDoorBa5
import Derived.Test.YtaeopkhdokaaoaaGreatDoorBa1
namespace Go.Proofs.YtaeopkhdokaaoaaGreatDoor
open Go Go.Sh
set_option maxRecDepth 100000
set_option maxHeartbeats 4000000
set_option linter.unusedSimpArgs false
set_option linter.unusedVariables false
def ActsR (m : Nat) (w : World) (v : Value) (al : List (List Int × List Nat × List Int)) : Prop := ∃ a cap, v = .slice a al.length cap ∧ ∀ j x, al[j]? = some x → ∃ b o s1 s2 s3, a = some ⟨b, o, none⟩ ∧ b < m ∧ w.cell? ⟨b, o + j * 3, none⟩ = some s1 ∧ w.cell? ⟨b, o + j * 3 + 1, none⟩ = some s2 ∧ w.cell? ⟨b, o + j * 3 + 2, none⟩ = some s3 ∧ RdS m w s1 (i64L x.1) ∧ RdS m w s2 (u8L x.2.1) ∧ RdS m w s3 (i64L x.2.2)
def actOk (x : List Int × List Nat × List Int) : Prop := x.1.length ≤ maxLen ∧ x.2.1.length ≤ maxLen ∧ x.2.2.length ≤ maxLen ∧ ∀ k ∈ x.2.1, k < 256
section
variable {w w' : World} {Y : Lay} {D : DS} {l m : Nat} {v : Value} {al : List (List Int × List Nat × List Int)}
theorem ActsR.ext (h : ActsR m w v al) (e : Ext w w') : ActsR m w' v al := by
  obtain ⟨a, cap, hv, h⟩ := h
  refine ⟨a, cap, hv, fun j x hx => ?_⟩
  obtain ⟨b, o, s1, s2, s3, ha, hb, c1, c2, c3, r1, r2, r3⟩ := h j x hx
  exact ⟨b, o, s1, s2, s3, ha, hb, e.cell_some c1, e.cell_some c2, e.cell_some c3, r1.ext e, r2.ext e, r3.ext e⟩
theorem elU64 : ElT Tryz.prog 72 72 33 1 8 (.int .u64 0) := el_72_72
def wdL (W : Nat → Nat) (n : Nat) : List Value := (List.range n).map fun j => u64 (W j)
theorem wdL_snoc (W : Nat → Nat) (n : Nat) : wdL W (n + 1) = wdL W n ++ [u64 (W n)] := by simp [wdL, List.range_succ]
theorem wdL_get {W : Nat → Nat} {n j : Nat} (h : j < n) : (wdL W n)[j]? = some (u64 (W j)) := by simp [wdL, h]
theorem Wm.of_sl {W : Nat → Nat} {b o n cap : Nat} (h : SlO w 33 1 (.slice (some ⟨b, o, none⟩) n cap) 256 (wdL W 256)) : Wm w b o W := ⟨fun hi => h.cell rfl (wdL_get hi), fun i => h.frz rfl i⟩
theorem k_words (h : Dv w Y D) (g : Good D) (ho : D.off = false) (hl : l + 32 ≤ D.n) (K : K1) (hK : ∀ b o cap w', SlO w' 33 1 (wsV b o cap) 256 (wdL (wd D l) 256) → Ext w w' → w.heap.size ≤ b → K (wsV b o cap) w') :
    callS Tryz.prog 40 #[.pointer (some ⟨Y.tb 0, 0, none⟩), .int .i64 (l : Int)] w K := by
  have hn := g.n
  have ld : ∀ (i : Nat) (w1 : World) (K : K1), Ext w w1 → i < 256 → callS Tryz.prog 52 #[.pointer (some ⟨Y.tb 0, 0, none⟩), .int .u64 ((l * 64 + i * 8 : Nat) : Int)] w1 K = K (.int .u64 (wd D l i : Int)) w1 := fun i w1 K e hi => by
    rw [c_Load (h.ext e) g 0 (by omega) ho (l * 64 + i * 8) (by omega) (by omega) K, show (l * 64 + i * 8) / 8 = l * 8 + i by omega]; unfold wd; rfl
  refine f40_call _ _ _ _ ?_
  unfold f40_t
  apply f40_l1_rule (I := fun x z w' => ∃ k : Nat, z = .int .i64 (k : Int) ∧ k ≤ 256 ∧ SlO w' 33 1 x k (wdL (wd D l) k) ∧ Frm Nob w w' ∧ NewV w.heap.size x) (μ := fun _ z _ => 256 - (Go.RowKit.intOf z).toNat)
  · exact ⟨0, rfl, by omega, SlO.nil _ _ _, Frm.refl _ _, fun b hb => by cases hb⟩
  · intros; rename_i x5 x7 w1 hI E1 hE
    obtain ⟨k, rfl, hk, hs, hf, hnw⟩ := hI
    have e1 : Ext w w1 := hf.to_ext (fun _ _ h => h)
    by_cases hk2 : k < 256
    · have e8 : (64 * l + 8 * k) = l * 64 + k * 8 := by omega
      have ldk := fun (w1 : World) (K : K1) (e : Ext w w1) => ld k w1 K e hk2
      obtain ⟨pa, pc, rfl, hpc⟩ := hs.isS'
      generalize hx : wd D l k = x at *
      unfold f40_l1_t
      simp (disch := first | omega | simp only [RO] | (simp only [RZ] <;> omega) | (with_reducible (repeat (first | assumption | exact Ext.refl _ | refine Ext.alloc ?_ _ | refine Ext.drew ?_ | refine Ext.trans ?_ (by assumption)))) | fail) only [↓RBp, ↓RA, ↓reduceIte, Nat.reduceAdd, Nat.reduceMul, Nat.reduceEqDiff, RB, RX, RA2, e8, ldk, Int.toNat_natCast]
      refine app_new elU64 (w0 := w) (hs.ext (by repeat (first | (with_reducible first | refine Sh.eB ?_ (by first | omega | (simp only [RZ] <;> omega)) _ | assumption | exact Sh.eR _ | refine Sh.eA ?_ _ | refine Sh.eD ?_ | refine Sh.eT ?_ (by assumption)) | exact Sh.eR _))) (hf.ext (by repeat (first | (with_reducible first | refine Sh.eB ?_ (by first | omega | (simp only [RZ] <;> omega)) _ | assumption | exact Sh.eR _ | refine Sh.eA ?_ _ | refine Sh.eD ?_ | refine Sh.eT ?_ (by assumption)) | exact Sh.eR _))) hnw (m := 1) (news := [u64 x]) rfl ?_ rfl (by omega) (by omega) (by omega) (fun v' w4 hsp hf4 n4 hfr4 hb4 => ?_)
      · intro j u hj
        obtain ⟨rfl, rfl⟩ := one_get hj
        simp (disch := first | omega | simp only [RO] | (simp only [RZ] <;> omega) | fail) only [↓RBp, ↓RA, ↓reduceIte, Nat.reduceAdd, Nat.reduceMul, Nat.reduceEqDiff, RB, RX, RA2]
      simp (disch := first | omega | simp only [RO] | (simp only [RZ] <;> omega) | fail) only [↓RBp, ↓RA, ↓reduceIte, Nat.reduceAdd, Nat.reduceMul, Nat.reduceEqDiff, RB, RX, RA2]
      apply hE
      · exact ⟨k + 1, by simp, by omega, by rw [wdL_snoc, hx]; exact hsp, hf4, n4⟩
      · simp [Go.RowKit.intOf]; omega
    · have : k = 256 := by omega
      subst this
      obtain ⟨b, ob, cap, rfl, _⟩ := hs.isS (by omega)
      unfold f40_l1_t
      simp (disch := first | omega | simp only [RO] | (simp only [RZ] <;> omega) | fail) only [↓RBp, ↓RA, ↓reduceIte, Nat.reduceAdd, Nat.reduceMul, Nat.reduceEqDiff, RB, RX, RA2, f40_k1_eq, f40_k1_t]
      exact hK _ _ _ _ hs e1 (hnw b rfl)
theorem k_same (W : Nat → Nat) (b o cap b' o' cap' : Nat) (h : Wm w b o W) (h' : Wm w b' o' W) (hW : ∀ j, j < 256 → W j < 18446744073709551616) (K : K1) (hK : ∀ w', Ext w w' → K (.bool true) w') :
    callS Tryz.prog 39 #[wsV b o cap, wsV b' o' cap'] w K := by
  refine f39_call _ _ _ _ ?_
  unfold f39_t
  simp (disch := first | omega | simp only [RO] | (simp only [RZ] <;> omega) | fail) only [↓RBp, ↓RA, ↓reduceIte, Nat.reduceAdd, Nat.reduceMul, Nat.reduceEqDiff, RB, RX, RA2]
  apply f39_l1_rule (I := fun z w' => ∃ k : Nat, z = .int .i64 (k : Int) ∧ k ≤ 256 ∧ Ext w w') (μ := fun z _ => 256 - (Go.RowKit.intOf z).toNat)
  · exact ⟨0, rfl, by omega, Ext.refl _⟩
  · intros; rename_i x13 w1 hI E1 hE
    obtain ⟨k, rfl, hk, e1⟩ := hI
    by_cases hk2 : k < 256
    · have c1 := e1.cell_some (h.cell hk2)
      have c2 := e1.cell_some (h'.cell hk2)
      have hx := hW k hk2
      generalize W k = x at c1 c2 hx
      unfold f39_l1_t
      simp (disch := first | omega | simp only [RO] | (simp only [RZ] <;> omega) | fail) only [↓RBp, ↓RA, ↓reduceIte, Nat.reduceAdd, Nat.reduceMul, Nat.reduceEqDiff, RB, RX, RA2, c1, c2]
      apply hE
      · exact ⟨k + 1, by simp, by omega, (by repeat (first | (with_reducible first | refine Sh.eB ?_ (by first | omega | (simp only [RZ] <;> omega)) _ | assumption | exact Sh.eR _ | refine Sh.eA ?_ _ | refine Sh.eD ?_ | refine Sh.eT ?_ (by assumption)) | exact Sh.eR _))⟩
      · simp [Go.RowKit.intOf]; omega
    · unfold f39_l1_t
      simp (disch := first | omega | simp only [RO] | (simp only [RZ] <;> omega) | fail) only [↓RBp, ↓RA, ↓reduceIte, Nat.reduceAdd, Nat.reduceMul, Nat.reduceEqDiff, RB, RX, RA2, f39_k1_eq, f39_k1_t]
      exact hK _ e1
abbrev acO (s1 s2 s3 : Value) : Obj := .cells #[s1, s2, s3] 77
theorem c_great (a1 a2 a3 : Option Addr) (n1 n2 n3 k1 k2 k3 : Nat) (h1 : n1 < 9223372036854775808) (h2 : n2 < 9223372036854775808) (h3 : n3 < 9223372036854775808) (w : World) (K : K1) :
    callS Tryz.prog 36 #[.agg #[.slice a1 n1 k1, .slice a2 n2 k2, .slice a3 n3 k3]] w K = K (.bool (decide (70 < n1) || (decide (70 < n2) || decide (70 < n3)))) (w.alloc (acO (.slice a1 n1 k1) (.slice a2 n2 k2) (.slice a3 n3 k3))) := by
  refine callS_det (by kernel_rfl) (f36_call _ _ _ ?_) K
  unfold f36_t
  by_cases g1 : 70 < n1
  · have e : (decide (70 < n1) || (decide (70 < n2) || decide (70 < n3))) = true := by simp [g1]
    rw [e]
    simp (disch := first | omega | simp only [RO] | (simp only [RZ] <;> omega) | fail) only [↓RBp, ↓RA, ↓reduceIte, Nat.reduceAdd, Nat.reduceMul, Nat.reduceEqDiff, RB, RX, RA2]
  · by_cases g2 : 70 < n2
    · have e : (decide (70 < n1) || (decide (70 < n2) || decide (70 < n3))) = true := by simp [g2]
      rw [e]
      simp (disch := first | omega | simp only [RO] | (simp only [RZ] <;> omega) | fail) only [↓RBp, ↓RA, ↓reduceIte, Nat.reduceAdd, Nat.reduceMul, Nat.reduceEqDiff, RB, RX, RA2]
    · by_cases g3 : 70 < n3
      · have e : (decide (70 < n1) || (decide (70 < n2) || decide (70 < n3))) = true := by simp [g3]
        rw [e]
        simp (disch := first | omega | simp only [RO] | (simp only [RZ] <;> omega) | fail) only [↓RBp, ↓RA, ↓reduceIte, Nat.reduceAdd, Nat.reduceMul, Nat.reduceEqDiff, RB, RX, RA2]
      · have e : (decide (70 < n1) || (decide (70 < n2) || decide (70 < n3))) = false := by simp [g1, g2, g3]
        rw [e]
        simp (disch := first | omega | simp only [RO] | (simp only [RZ] <;> omega) | fail) only [↓RBp, ↓RA, ↓reduceIte, Nat.reduceAdd, Nat.reduceMul, Nat.reduceEqDiff, RB, RX, RA2]
end
end Go.Proofs.YtaeopkhdokaaoaaGreatDoor
namespace Go.Proofs.YtaeopkhdokaaoaaGreatDoor
open Go Go.Sh
set_option maxRecDepth 100000
set_option maxHeartbeats 4000000
set_option linter.unusedSimpArgs false
set_option linter.unusedVariables false
abbrev ptL (ps : List Nat) : List Value := ps.map u64
theorem elPtr : ElT Tryz.prog 117 117 103 1 8 (.int .u64 0) := ⟨by kernel_rfl, by kernel_rfl, by kernel_rfl, by kernel_rfl, by decide⟩
section
variable {w0 w w' : World} {Y Y' : Lay} {D D' : DS} {B l k : Nat} {c o : Int} {g : Nat}
def FreeAt (D : DS) (l : Nat) (c o : Int) (k gi : Nat) : Prop := Snd D l c o ∧ bS (wd D l (offN c k)) = 176 ∧ bG (wd D l (offN c k)) = gi
def TakenAt (D : DS) (l : Nat) (c o : Int) (k gi kd : Nat) : Prop := Snd D l c o ∧ bS (wd D l (offN c k)) = 177 ∧ bG (wd D l (offN c k)) = gi ∧ bK (wd D l (offN c k)) = kd
theorem act1 {c : Int} {k : Nat} (hk : (k : Int) < perS c) (kd : Nat) (h0 : kd ≠ 0) (h1 : kd ≤ 127) : ActA c [(k : Int)] [kd] [] ∧ ActA c [] [] [(k : Int)] := by
  have e : onc (perS c) [(k : Int)] 0 = some (0 ||| 2 ^ k) := by
    simp only [onc, Int.toNat_natCast]
    rw [if_pos ⟨⟨by omega, hk⟩, bit0 k⟩]
  refine ⟨⟨rfl, fun x hx => ?_, ?_⟩, ⟨rfl, fun x hx => (by cases hx), ?_⟩⟩
  · simp only [List.mem_singleton] at hx; subst hx; exact ⟨h0, h1⟩
  · rw [e]; rfl
  · simp only [onc, Option.bind_some, Int.toNat_natCast]
    rw [if_pos ⟨⟨by omega, hk⟩, bit0 k⟩]; rfl
theorem take_act (hf : FreeAt D l c o k g) (hp : perS c ≤ 64) (hk : (k : Int) < perS c) (kd : Nat) : ∃ ws, actN D l c [(k : Int)] [kd] [] = some ws ∧ ws.length = 2 := by
  obtain ⟨hs, h1, h2⟩ := hf
  have hb := hs.bit k (by omega)
  rw [decide_eq_true hk, h1] at hb
  have ht : tkOk D l c k = true := by
    unfold tkOk
    rw [hs.sl k hk, hb, hs.gd k hk, h1]; rfl
  exact ⟨_, actN_eq (by simp) (by rw [chT_cons, Int.toNat_natCast, if_pos ht, chT_nil]) (chDr_nil ..), rfl⟩
theorem drop_act {kd : Nat} (hf : TakenAt D l c o k g kd) (hp : perS c ≤ 64) (hk : (k : Int) < perS c) : ∃ ws, actN D l c [] [] [(k : Int)] = some ws ∧ ws.length = 2 := by
  obtain ⟨hs, h1, h2, h3⟩ := hf
  have hb := hs.bit k (by omega)
  rw [decide_eq_true hk, h1] at hb
  have ht : dpOk D l c k = true := by
    unfold dpOk
    rw [hs.sl k hk, hb, h1]; rfl
  exact ⟨_, actN_eq (by simp) (chT_nil ..) (by rw [chDr_cons, Int.toNat_natCast, if_pos ht, chDr_nil]), rfl⟩
theorem took {ws : List (Nat × Nat)} {kd : Nat} (hk : (k : Int) < perS c) (hkd : kd < 256) (hf : FreeAt D l c o k g) (h : ActS D D' l c o [(k : Int)] [kd] [] ws) : TakenAt D' l c o k g kd := by
  obtain ⟨hs, h1, h2⟩ := hf
  have hx := h.e.blk k hk
  have ha : actX D l c [(k : Int)] [kd] [] k = (tkW D l c k kd).2 := by unfold actX; simp [kOf]
  rw [ha] at hx
  obtain ⟨_, a, b, d⟩ := tkW_parts (D := D) (l := l) (c := c) k kd hkd
  exact ⟨h.snd, by rw [hx, d], by rw [hx, a, h2], by rw [hx, b]⟩
theorem dropped {ws : List (Nat × Nat)} {kd : Nat} (hk : (k : Int) < perS c) (hf : TakenAt D l c o k g kd) (h : ActS D D' l c o [] [] [(k : Int)] ws) : Snd D' l c o ∧ bS (wd D' l (offN c k)) = freS g ∧ bG (wd D' l (offN c k)) = freG g := by
  obtain ⟨hs, h1, h2, h3⟩ := hf
  have hx := h.e.blk k hk
  have ha : actX D l c [] [] [(k : Int)] k = (dpW D l c k).2 := by unfold actX; simp [kOf, hasI]
  rw [ha] at hx
  obtain ⟨_, a, b, d⟩ := dpW_parts (D := D) (l := l) (c := c) k
  exact ⟨h.snd, by rw [hx, d, h2], by rw [hx, a, h2]⟩
theorem taken_live {kd : Nat} (hp : perS c ≤ 64) (hk : (k : Int) < perS c) (h : TakenAt D l c o k g kd) : liveB D l c k g := by
  obtain ⟨hs, h1, h2, h3⟩ := h
  have hb := hs.bit k (by omega)
  rw [decide_eq_true hk, h1] at hb
  exact ⟨hs.sl k hk, hb, h1, h2⟩
theorem took_other {ws : List (Nat × Nat)} {kd i : Nat} (hi : (i : Int) < perS c) (hik : i ≠ k) (h : ActS D D' l c o [(k : Int)] [kd] [] ws) : wd D' l (offN c i) = wd D l (offN c i) := by
  rw [h.e.blk i hi]
  unfold actX
  have : ¬ k = i := fun e => hik e.symm
  simp [kOf, hasI, this]
theorem dropped_other {ws : List (Nat × Nat)} {i : Nat} (hi : (i : Int) < perS c) (hik : i ≠ k) (h : ActS D D' l c o [] [] [(k : Int)] ws) : wd D' l (offN c i) = wd D l (offN c i) := by
  rw [h.e.blk i hi]
  unfold actX
  have : ¬ k = i := fun e => hik e.symm
  simp [kOf, hasI, this]
end
end Go.Proofs.YtaeopkhdokaaoaaGreatDoor
namespace Go.Proofs.YtaeopkhdokaaoaaGreatDoor
open Go Go.Sh
set_option maxRecDepth 100000
set_option maxHeartbeats 4000000
set_option linter.unusedSimpArgs false
set_option linter.unusedVariables false
section
variable {w0 w w' : World} {Y Y' : Lay} {D D' : DS} {B l k : Nat} {c o : Int} {g : Nat} {K : K1} {E1 : VP1}
theorem Wm.ext {b ob : Nat} {W : Nat → Nat} (h : Wm w b ob W) (e : Ext w w') : Wm w' b ob W := ⟨fun hi => e.cell_some (h.cell hi), fun i => by
  have hc := h.cell (i := 0) (by omega)
  have hlt := lt_of_cell hc
  have := h.frz i
  unfold World.frozen? at this ⊢
  simp only at this ⊢
  rw [e.blk b hlt]; exact this⟩
theorem Loc.base {wI : World} (h : Loc w0 w Y D B l c o g) (e : Ext wI w0) (hG : Glob wI) : Loc wI w Y D B l c o g := ⟨⟨h.L.dv, h.L.gd, e.trans h.L.ex, fun x hx => Nat.le_trans e.size (h.L.nw x hx)⟩, h.bx, h.nb, h.on, h.lt, hG, h.c0, h.c5⟩
theorem Snd.parts (h : Snd D l c o) {k : Nat} (hk : (k : Int) < perS c) : okP (wd D l (offN c k)) = true ∧ bG (wd D l (offN c k)) = gX (wd D l (offN c k)) ∧ bK (wd D l (offN c k)) = kX (wd D l (offN c k)) ∧ bS (wd D l (offN c k)) = sX (wd D l (offN c k)) := by
  have h1 := h.sl k hk
  have h2 := h.gd k hk
  have e1 : bG (wd D l (offN c k)) = gX (wd D l (offN c k)) := by unfold bG; rw [if_pos h1]
  have e2 : bK (wd D l (offN c k)) = kX (wd D l (offN c k)) := by unfold bK; rw [if_pos h1]
  have e3 : bS (wd D l (offN c k)) = sX (wd D l (offN c k)) := by unfold bS; rw [if_pos h1]
  refine ⟨?_, e1, e2, e3⟩
  rw [e1, e2, e3] at h2
  unfold okP; rw [h1, h2]; rfl
theorem Snd.isR (h : Snd D l c o) (hp : perS c ≤ 64) {k : Nat} (hk : (k : Int) < perS c) : isR (wd D l) c (k : Int) 177 = decide (bS (wd D l (offN c k)) = 177) := by
  obtain ⟨p1, p2, p3, p4⟩ := h.parts hk
  have hb := h.bit k (by omega)
  unfold Go.Proofs.YtaeopkhdokaaoaaGreatDoor.isR
  rw [decide_eq_true (show 0 ≤ (k : Int) ∧ (k : Int) < perS c from ⟨by omega, hk⟩), Int.toNat_natCast, p1, ← p4, hb, decide_eq_true hk]
  by_cases hs : bS (wd D l (offN c k)) = 177
  · simp [hs]
  · simp [hs]
abbrev fmC (w : World) (A a b c g : Nat) : Prop := w.cell? ⟨A, 0, none⟩ = some (.int .u8 (a : Int)) ∧ w.cell? ⟨A, 1, none⟩ = some (.int .u8 (b : Int)) ∧ w.cell? ⟨A, 2, none⟩ = some (.int .u8 (c : Int)) ∧ w.cell? ⟨A, 3, none⟩ = some (.int .u16 (g : Int))
def fF (a b c g : Nat) (j : Nat) : Value := [Value.int .u8 (a : Int), .int .u8 (b : Int), .int .u8 (c : Int), .int .u16 (g : Int)].getD j undef
theorem fF_C {A a b c g : Nat} (h : Cells w A 67 4 (fF a b c g)) : fmC w A a b c g := ⟨h.cell (i := 0) (by omega), h.cell (i := 1) (by omega), h.cell (i := 2) (by omega), h.cell (i := 3) (by omega)⟩
end
end Go.Proofs.YtaeopkhdokaaoaaGreatDoor
namespace Go.Proofs.YtaeopkhdokaaoaaGreatDoor
open Go Go.Sh
set_option maxRecDepth 100000
set_option linter.unusedVariables false
noncomputable def f10_u : Code × Dec := ((Tryz.f10.body).getD .skip, (.s .o (.s .o (.s .o (.s .o (.s .o (.x 1688 (.s .o (.b (.l [10, 53] 6755399441056408 5192296858534827619523297076048960 (.s .o (.s .o (.x 15762598695798424 (.b (.s .o (.s .o (.s .o (.s .o (.s .o (.s .o (.b (.l [76] 15762598695806616 2596148429191855950539333842698304 (.s .o (.s .o (.x 75557879488513019225752 (.b (.s .o (.x 75557879488513019618968 .o (.s .o (.s .o (.b (.l [99] 475369050643465514074282927768 1297440389333592792431875731750912 .o))))))) .o)))))))))))) .o)))))) (.s .o (.s .o (.s .o (.s .o (.s .o (.s .o (.s .o (.s .o (.s .o (.s .o (.s .o (.s .o (.x 1152 (.s .o (.b (.l [198] 200867255532373784442745261542645325315275374222849104414336 53919892932566768524586461288548738261983638214530396516510555177024 (.s .o (.s .o (.x 602601766597121353328235784627935975945826122668547313239680 (.b (.s .o (.s .o (.s .o (.s .o (.b (.l [213] 9873629945693833374283143331128730965872361019924147727404893824 26946782630692070146329775333559171869597282535615503842197895118848 .o))))))) .o)))))) (.x 0 (.s .o (.b (.l [227] 161759680002903838768002090522117784041822866535243434886621661495424 1766631385205047124464940164622222358782094799720238633541757402475397184 .o))) .o)))))))))))))))))))))
abbrev f10_e (K : K1) : KF := endK Tryz.prog Tryz.f10.results.toList K
def f10_k1_o (K : K1) : KF := fun fr w => ∀ σ, cP (pr (pr (pr (pr (pr (pr f10_u)))))) (f10_e K) (f10_e K) nX (mixF 1688 σ 0 fr) w
def f10_k1 (K : K1) (x3 x4 x7 x9 x10 : Value) (w : World) : Prop := f10_k1_o K (fz 240 0 [(3, x3), (4, x4), (7, x7), (9, x9), (10, x10)]) w
def f10_l1 (K : K1) (x3 x4 x7 x9 x10 x51 x52 x53 : Value) (w : World) : Prop := loopT [10, 53] 6755399441056408 (fun E => cP (pl (pl (pr (pl (pr (pr (pr (pr (pr f10_u))))))))) E (f10_e K) (exB 0 (f10_k1_o K) nX)) (fz 240 0 [(3, x3), (4, x4), (7, x7), (9, x9), (10, x10), (51, x51), (52, x52), (53, x53)]) w
def f10_k2_o (K : K1) : KF := fun fr w => ∀ σ, cP (pr (pr (pr (pr (pr (pr (pr (pr (pr (pr (pr (pr (pr (pr (pr (pr (pr (pr (pr f10_u))))))))))))))))))) (f10_e K) (f10_e K) nX (mixF 1152 σ 0 fr) w
def f10_k2 (K : K1) (x7 x10 : Value) (w : World) : Prop := f10_k2_o K (fz 240 0 [(7, x7), (10, x10)]) w
def f10_l2 (K : K1) (x7 x9 x10 x197 x198 : Value) (w : World) : Prop := loopT [198] 200867255532373784442745261542645325315275374222849104414336 (fun E => cP (pl (pl (pr (pl (pr (pr (pr (pr (pr (pr (pr (pr (pr (pr (pr (pr (pr (pr (pr (pr (pr (pr f10_u)))))))))))))))))))))) E (f10_e K) (exB 6 (f10_k2_o K) nX)) (fz 240 0 [(7, x7), (9, x9), (10, x10), (197, x197), (198, x198)]) w
def f10_k3_o (K : K1) (E1 : VP2) : KF := fun fr w => ∀ σ, cP (pr (pr (pr (pl (pl (pr (pl (pr (pr (pr (pr (pr f10_u)))))))))))) (fun fr w => E1 (sv fr 10) (sv fr 53) w) (f10_e K) (exB 0 (f10_k1_o K) nX) (mixF 15762598695798424 σ 0 fr) w
def f10_k3 (K : K1) (E1 : VP2) (x3 x4 x7 x9 x10 x51 x52 x53 : Value) (w : World) : Prop := f10_k3_o K E1 (fz 240 0 [(3, x3), (4, x4), (7, x7), (9, x9), (10, x10), (51, x51), (52, x52), (53, x53)]) w
def f10_l3 (K : K1) (E1 : VP2) (x3 x4 x7 x9 x10 x13 x51 x52 x53 x76 : Value) (w : World) : Prop := loopT [76] 15762598695806616 (fun E => cP (pl (pl (pr (pr (pr (pr (pr (pr (pl (pl (pr (pr (pl (pl (pr (pl (pr (pr (pr (pr (pr f10_u))))))))))))))))))))) E (f10_e K) (exB 2 (f10_k3_o K E1) (exB 1 (f10_k3_o K E1) (exB 0 (f10_k1_o K) nX)))) (fz 240 0 [(3, x3), (4, x4), (7, x7), (9, x9), (10, x10), (13, x13), (51, x51), (52, x52), (53, x53), (76, x76)]) w
def f10_k4_o (K : K1) : KF := fun fr w => ∀ σ, cP (pr (pr (pr (pr (pr (pr (pr (pr (pr (pr (pr (pr (pr (pr (pr (pr (pr (pr (pr (pr f10_u)))))))))))))))))))) (f10_e K) (f10_e K) nX (mixF 0 σ 0 fr) w
def f10_k4 (K : K1) (w : World) : Prop := f10_k4_o K (fz 240 0 []) w
def f10_l4 (K : K1) (x7 x225 x226 x227 : Value) (w : World) : Prop := loopT [227] 161759680002903838768002090522117784041822866535243434886621661495424 (fun E => cP (pl (pl (pr (pl (pr (pr (pr (pr (pr (pr (pr (pr (pr (pr (pr (pr (pr (pr (pr (pr (pr (pr (pr f10_u))))))))))))))))))))))) E (f10_e K) (exB 10 (f10_k4_o K) nX)) (fz 240 0 [(7, x7), (225, x225), (226, x226), (227, x227)]) w
def f10_k5_o (K : K1) (E1 : VP1) : KF := fun fr w => ∀ σ, cP (pr (pr (pr (pl (pl (pr (pl (pr (pr (pr (pr (pr (pr (pr (pr (pr (pr (pr (pr (pr (pr (pr (pr (pr (pr f10_u))))))))))))))))))))))))) (fun fr w => E1 (sv fr 198) w) (f10_e K) (exB 6 (f10_k2_o K) nX) (mixF 602601766597121353328235784627935975945826122668547313239680 σ 0 fr) w
def f10_k5 (K : K1) (E1 : VP1) (x7 x9 x10 x197 x198 : Value) (w : World) : Prop := f10_k5_o K E1 (fz 240 0 [(7, x7), (9, x9), (10, x10), (197, x197), (198, x198)]) w
def f10_l5 (K : K1) (E1 : VP1) (x7 x9 x10 x197 x198 x211 x212 x213 : Value) (w : World) : Prop := loopT [213] 9873629945693833374283143331128730965872361019924147727404893824 (fun E => cP (pl (pl (pr (pr (pr (pr (pl (pl (pr (pr (pl (pl (pr (pl (pr (pr (pr (pr (pr (pr (pr (pr (pr (pr (pr (pr (pr (pr (pr (pr (pr (pr f10_u)))))))))))))))))))))))))))))))) E (f10_e K) (exB 8 (f10_k5_o K E1) (exB 7 (f10_k5_o K E1) (exB 6 (f10_k2_o K) nX)))) (fz 240 0 [(7, x7), (9, x9), (10, x10), (197, x197), (198, x198), (211, x211), (212, x212), (213, x213)]) w
def f10_k6_o (K : K1) (E1 : VP2) (E2 : VP1) : KF := fun fr w => ∀ σ, cP (pr (pr (pr (pl (pl (pr (pr (pr (pr (pr (pr (pl (pl (pr (pr (pl (pl (pr (pl (pr (pr (pr (pr (pr f10_u)))))))))))))))))))))))) (fun fr w => E2 (sv fr 76) w) (f10_e K) (exB 2 (f10_k3_o K E1) (exB 1 (f10_k3_o K E1) (exB 0 (f10_k1_o K) nX))) (mixF 75557879488513019225752 σ 0 fr) w
def f10_k6 (K : K1) (E1 : VP2) (E2 : VP1) (x3 x4 x7 x9 x10 x13 x51 x52 x53 x76 : Value) (w : World) : Prop := f10_k6_o K E1 E2 (fz 240 0 [(3, x3), (4, x4), (7, x7), (9, x9), (10, x10), (13, x13), (51, x51), (52, x52), (53, x53), (76, x76)]) w
def f10_k7_o (K : K1) (E1 : VP2) (E2 : VP1) : KF := fun fr w => ∀ σ, cP (pr (pr (pl (pl (pr (pr (pl (pl (pr (pr (pr (pr (pr (pr (pl (pl (pr (pr (pl (pl (pr (pl (pr (pr (pr (pr (pr f10_u))))))))))))))))))))))))))) (f10_k6_o K E1 E2) (f10_e K) (exB 3 (f10_k6_o K E1 E2) (exB 2 (f10_k3_o K E1) (exB 1 (f10_k3_o K E1) (exB 0 (f10_k1_o K) nX)))) (mixF 75557879488513019618968 σ 0 fr) w
def f10_k7 (K : K1) (E1 : VP2) (E2 : VP1) (x3 x4 x7 x9 x10 x13 x17 x18 x51 x52 x53 x76 : Value) (w : World) : Prop := f10_k7_o K E1 E2 (fz 240 0 [(3, x3), (4, x4), (7, x7), (9, x9), (10, x10), (13, x13), (17, x17), (18, x18), (51, x51), (52, x52), (53, x53), (76, x76)]) w
def f10_l6 (K : K1) (E1 : VP2) (E2 : VP1) (x3 x4 x7 x9 x10 x13 x51 x52 x53 x76 x97 x98 x99 : Value) (w : World) : Prop := loopT [99] 475369050643465514074282927768 (fun E => cP (pl (pl (pr (pr (pr (pr (pl (pl (pr (pr (pl (pl (pr (pr (pr (pr (pr (pr (pl (pl (pr (pr (pl (pl (pr (pl (pr (pr (pr (pr (pr f10_u))))))))))))))))))))))))))))))) E (f10_e K) (exB 4 (f10_k6_o K E1 E2) (exB 3 (f10_k6_o K E1 E2) (exB 2 (f10_k3_o K E1) (exB 1 (f10_k3_o K E1) (exB 0 (f10_k1_o K) nX)))))) (fz 240 0 [(3, x3), (4, x4), (7, x7), (9, x9), (10, x10), (13, x13), (51, x51), (52, x52), (53, x53), (76, x76), (97, x97), (98, x98), (99, x99)]) w
def f10_k1_t (x3 x4 x7 x9 x10 : Value) (K : K1) (w : World) : Prop :=
 ldS Tryz.prog 58 x7 w fun t113 w_1 =>
 callS Tryz.prog 43 (pA #[t113]) w_1 fun t114 w_2 =>
 ev Tryz.prog (Instr.extract t114 0) w_2 fun t115 w_3 =>
 ev Tryz.prog (Instr.extract t114 1) w_3 fun t116 w_4 =>
 ev Tryz.prog (Op.unary .not t116) w_4 fun t118 w_5 =>
 cndS t118 (
 ldS Tryz.prog 67 x3 w_5 fun t119 w_6 =>
 callS Tryz.prog 34 (pA #[t119]) w_6 fun t120 w_7 =>
 ev Tryz.prog (Instr.field 24 t120 2) w_7 fun t121 w_8 =>
 ev Tryz.prog (binM .geq 22 (.tmp 121) (.const (.int .u16 ((65505 : Nat) : Int))) t121 (.int .u16 ((65505 : Nat) : Int))) w_8 fun t122 w_9 =>
 K t122 w_9) (
 ldS Tryz.prog 67 x3 w_5 fun t124 w_10 =>
 callS Tryz.prog 41 (pA #[t124]) w_10 fun t125 w_11 =>
 callS Tryz.prog 13 (pA #[t125, t115]) w_11 fun t127 w_12 =>
 ev Tryz.prog (Instr.extract t127 0) w_12 fun t128 w_13 =>
 ev Tryz.prog (Instr.extract t127 1) w_13 fun t129 w_14 =>
 ev Tryz.prog (binM .neq 28 (.tmp 130) (.const (.int .i64 0)) t129 (.int .i64 0)) w_14 fun t131 w_15 =>
 gd t131 false (fun k => k t128 w_15) w_15 fun t133 w_16 =>
 gd t131 false (fun k => k x9 w_16) w_16 fun t134 w_17 =>
 gd t131 false (fun k => ev Tryz.prog (Instr.makeInterface 48 t134) w_17 k) w_17 fun t135 w_18 =>
 gd t131 false (fun k => callS Tryz.prog 62 (pA #[t133, t135]) w_18 k) w_18 fun t136 w_19 =>
 gd t131 false (fun k => ev Tryz.prog (binM .neq 28 (.tmp 136) (.const (.int .i64 0)) t136 (.int .i64 0)) w_19 k) w_19 fun t137 w_20 =>
 pickS t131 (.bool true) t137 w_20 fun t138 w_21 =>
 cndS t138 (
 K (.bool false) w_21) (
 ev Tryz.prog (Instr.makeInterface 48 x9) w_21 fun t141 w_22 =>
 ldS Tryz.prog 67 x3 w_22 fun t142 w_23 =>
 callS Tryz.prog 41 (pA #[t142]) w_23 fun t143 w_24 =>
 callS Tryz.prog 26 (pA #[t141, t143]) w_24 fun t144 w_25 =>
 ev Tryz.prog (Instr.extract t144 0) w_25 fun t145 w_26 =>
 ev Tryz.prog (Instr.extract t144 1) w_26 fun t146 w_27 =>
 ev Tryz.prog (Instr.alloc 24 true (.tuple #[])) w_27 fun t25 w_28 =>
 stS Tryz.prog 24 t25 t145 w_28 fun w_29 =>
 ev Tryz.prog (binM .neq 28 (.tmp 147) (.const (.int .i64 0)) t146 (.int .i64 0)) w_29 fun t148 w_30 =>
 gd t148 false (fun k => ldS Tryz.prog 24 t25 w_30 k) w_30 fun t150 w_31 =>
 gd t148 false (fun k => k t115 w_31) w_31 fun t151 w_32 =>
 gd t148 false (fun k => ev Tryz.prog (Instr.build 24 #[(0, (.int .i64 (-1))), (1, (.int .i64 (-1))), (2, t151)]) w_32 k) w_32 fun t152 w_33 =>
 gd t148 false (fun k => ev Tryz.prog (binM .neq 24 (.tmp 150) (.tmp 152) t150 t152) w_33 k) w_33 fun t153 w_34 =>
 pickS t148 (.bool true) t153 w_34 fun t154 w_35 =>
 cndS t154 (
 K (.bool false) w_35) (
 ldS Tryz.prog 67 x4 w_35 fun t155 w_36 =>
 callS Tryz.prog 34 (pA #[t155]) w_36 fun t156 w_37 =>
 stS Tryz.prog 24 t25 t156 w_37 fun w_38 =>
 ev Tryz.prog (Instr.fieldAt 24 t25 2) w_38 fun t158 w_39 =>
 stS Tryz.prog 22 t158 t115 w_39 fun w_40 =>
 ldR Tryz.prog 67 x3 w_40.drew fun t160 =>
 ldR Tryz.prog 24 t25 w_40.drew fun t162 =>
 callS Tryz.prog 41 (pA #[t160]) w_40.drew fun t161 w_41 =>
 (ldG Tryz.prog 24 t25 w_41 t162) ∧
 callS Tryz.prog 14 (pA #[t161, t162]) w_41 fun t163 w_42 =>
 rd Tryz.prog (Instr.extract t163 0) w_42 fun t164 =>
 rd Tryz.prog (Instr.extract t163 1) w_42 fun t165 =>
 ev Tryz.prog (binM .neq 28 (.tmp 166) (.const (.int .i64 0)) t165 (.int .i64 0)) w_42 fun t167 w_43 =>
 gd t167 false (fun k => k t164 w_43) w_43 fun t169 w_44 =>
 gd t167 false (fun k => k x9 w_44) w_44 fun t170 w_45 =>
 gd t167 false (fun k => ev Tryz.prog (Instr.makeInterface 48 t170) w_45 k) w_45 fun t171 w_46 =>
 gd t167 false (fun k => callS Tryz.prog 62 (pA #[t169, t171]) w_46 k) w_46 fun t172 w_47 =>
 gd t167 false (fun k => ev Tryz.prog (binM .neq 28 (.tmp 172) (.const (.int .i64 0)) t172 (.int .i64 0)) w_47 k) w_47 fun t173 w_48 =>
 pickS t167 (.bool true) t173 w_48 fun t174 w_49 =>
 cndS t174 (
 K (.bool false) w_49) (
 ev Tryz.prog (Instr.makeInterface 48 x9) w_49 fun t177 w_50 =>
 ldS Tryz.prog 67 x3 w_50 fun t178 w_51 =>
 callS Tryz.prog 41 (pA #[t178]) w_51 fun t179 w_52 =>
 callS Tryz.prog 27 (pA #[t177, t179]) w_52 fun t180 w_53 =>
 ev Tryz.prog (Instr.extract t180 0) w_53 fun t181 w_54 =>
 ev Tryz.prog (Instr.extract t180 1) w_54 fun t182 w_55 =>
 stS Tryz.prog 58 x7 t181 w_55 fun w_56 =>
 ev Tryz.prog (binM .neq 28 (.tmp 183) (.const (.int .i64 0)) t182 (.int .i64 0)) w_56 fun t184 w_57 =>
 gd t184 false (fun k => ldS Tryz.prog 58 x7 w_57 k) w_57 fun t186 w_58 =>
 gd t184 false (fun k => callS Tryz.prog 45 (pA #[t186]) w_58 k) w_58 fun t187 w_59 =>
 gd t184 false (fun k => ev Tryz.prog (binM .neq 3 (.tmp 187) (.const (.int .i64 0)) t187 (.int .i64 0)) w_59 k) w_59 fun t188 w_60 =>
 pickS t184 (.bool true) t188 w_60 fun t189 w_61 =>
 gd t189 false (fun k => ldS Tryz.prog 58 x7 w_61 k) w_61 fun t191 w_62 =>
 gd t189 false (fun k => callS Tryz.prog 51 (pA #[t191]) w_62 k) w_62 fun t192 w_63 =>
 gd t189 false (fun k => ev Tryz.prog (binM .neq 28 (.tmp 192) (.const (.int .i64 0)) t192 (.int .i64 0)) w_63 k) w_63 fun t193 w_64 =>
 pickS t189 (.bool true) t193 w_64 fun t194 w_65 =>
 cndS t194 (
 K (.bool false) w_65) (
 ev Tryz.prog (Instr.fieldAt 24 t25 0) w_65 fun t195 w_66 =>
 ldS Tryz.prog 3 t195 w_66 fun t196 w_67 =>
 callS Tryz.prog 19 (pA #[t196]) w_67 fun t197 w_68 =>
 f10_l2 K x7 x9 x10 t197 (.int .i64 0) w_68)))))
theorem f10_k1_eq (K : K1) (x3 x4 x7 x9 x10 : Value) (w : World) : f10_k1 K x3 x4 x7 x9 x10 w = f10_k1_t x3 x4 x7 x9 x10 K w := cutE fun σ => by kernel_rfl
def f10_l1_t (x3 x4 x7 x9 x10 x51 x52 x53 : Value) (K : K1) (E1 : VP2) (w : World) : Prop :=
 ev Tryz.prog (binM .lss 3 (.tmp 53) (.tmp 52) x53 x52) w fun t54 w_1 =>
 cndS t54 (
 ev Tryz.prog (Instr.indexAt 75 x51 x53) w_1 fun t55 w_2 =>
 ldS Tryz.prog 5 t55 w_2 fun t56 w_3 =>
 ev Tryz.prog (convert 5 3 t56) w_3 fun t58 w_4 =>
 ldS Tryz.prog 67 x3 w_4 fun t59 w_5 =>
 callS Tryz.prog 34 (pA #[t59]) w_5 fun t60 w_6 =>
 ev Tryz.prog (Instr.field 24 t60 0) w_6 fun t61 w_7 =>
 callS Tryz.prog 19 (pA #[t61]) w_7 fun t62 w_8 =>
 ev Tryz.prog (binM .rem 3 (.tmp 58) (.tmp 62) t58 t62) w_8 fun t63 w_9 =>
 ldS Tryz.prog 58 x7 w_9 fun t65 w_10 =>
 callS Tryz.prog 55 (pA #[t65, t63, (.int .u8 ((64 : Nat) : Int))]) w_10 fun t67 w_11 =>
 ev Tryz.prog (Instr.extract t67 0) w_11 fun t68 w_12 =>
 ev Tryz.prog (Instr.extract t67 1) w_12 fun t69 w_13 =>
 ev Tryz.prog (binM .neq 28 (.tmp 70) (.const (.int .i64 0)) t69 (.int .i64 0)) w_13 fun t71 w_14 =>
 cndS t71 (
 f10_k3 K E1 x3 x4 x7 x9 x10 x51 x52 x53 w_14) (
 ev Tryz.prog (Instr.buildSlice 117 1 #[(0, t68)]) w_14 fun t74 w_15 =>
 bltS Tryz.prog .append #[117, 117] 117 #[false, false] (pA #[x10, t74]) w_15 fun t75 w_16 =>
 f10_l3 K E1 x3 x4 x7 x9 t75 t63 x51 x52 x53 (.int .i64 0) w_16)) (
 f10_k1 K x3 x4 x7 x9 x10 w_1)
theorem f10_l1_rule (x3 x4 x7 x9 x10 x51 x52 x53 : Value) (K : K1) (w : World) (I : VP2) (μ : Value → Value → World → Nat) (h0 : I x10 x53 w)
    (hr : ∀ (x10 x53 : Value) (w : World), I x10 x53 w → ∀ E1 : VP2, (∀ (y10 y53 : Value) (w' : World), I y10 y53 w' → μ y10 y53 w' < μ x10 x53 w → E1 y10 y53 w') → f10_l1_t x3 x4 x7 x9 x10 x51 x52 x53 K E1 w) : f10_l1 K x3 x4 x7 x9 x10 x51 x52 x53 w :=
  ⟨I, μ, h0, fun σ w hI E hE => cast (by kernel_rfl) (hr (σ 10) (σ 53) w hI E hE)⟩
def f10_k2_t (x7 x10 : Value) (K : K1) (w : World) : Prop :=
 bltS Tryz.prog .len #[117] 3 #[false] #[x10] w fun t226 w_1 =>
 f10_l4 K x7 x10 t226 (.int .i64 0) w_1
theorem f10_k2_eq (K : K1) (x7 x10 : Value) (w : World) : f10_k2 K x7 x10 w = f10_k2_t x7 x10 K w := cutE fun σ => by kernel_rfl
def f10_l2_t (x7 x9 x10 x197 x198 : Value) (K : K1) (E1 : VP1) (w : World) : Prop :=
 ev Tryz.prog (binM .lss 3 (.tmp 198) (.tmp 197) x198 x197) w fun t199 w_1 =>
 cndS t199 (
 ldS Tryz.prog 58 x7 w_1 fun t202 w_2 =>
 ev Tryz.prog (Instr.buildSlice 74 1 #[(0, x198)]) w_2 fun t204 w_3 =>
 ev Tryz.prog (Instr.buildSlice 75 1 #[(0, (.int .u8 ((64 : Nat) : Int)))]) w_3 fun t205 w_4 =>
 callS Tryz.prog 37 (pA #[t202, t204, t205, (.slice none 0 0)]) w_4 fun t206 w_5 =>
 ev Tryz.prog (Instr.extract t206 0) w_5 fun t207 w_6 =>
 ev Tryz.prog (Instr.extract t206 1) w_6 fun t208 w_7 =>
 ev Tryz.prog (binM .neq 28 (.tmp 209) (.const (.int .i64 0)) t208 (.int .i64 0)) w_7 fun t210 w_8 =>
 cndS t210 (
 K (.bool false) w_8) (
 bltS Tryz.prog .len #[38] 3 #[false] #[t207] w_8 fun t212 w_9 =>
 f10_l5 K E1 x7 x9 x10 x197 x198 t207 t212 (.int .i64 0) w_9)) (
 f10_k2 K x7 x10 w_1)
theorem f10_l2_rule (x7 x9 x10 x197 x198 : Value) (K : K1) (w : World) (I : VP1) (μ : Value → World → Nat) (h0 : I x198 w)
    (hr : ∀ (x198 : Value) (w : World), I x198 w → ∀ E1 : VP1, (∀ (y198 : Value) (w' : World), I y198 w' → μ y198 w' < μ x198 w → E1 y198 w') → f10_l2_t x7 x9 x10 x197 x198 K E1 w) : f10_l2 K x7 x9 x10 x197 x198 w :=
  ⟨I, μ, h0, fun σ w hI E hE => cast (by kernel_rfl) (hr (σ 198) w hI E hE)⟩
def f10_k3_t (x3 x4 x7 x9 x10 x51 x52 x53 : Value) (K : K1) (E1 : VP2) (w : World) : Prop :=
 ev Tryz.prog (binM .add 3 (.tmp 53) (.const (.int .i64 1)) x53 (.int .i64 1)) w fun t111 w_1 =>
 E1 x10 t111 w_1
theorem f10_k3_eq (K : K1) (E1 : VP2) (x3 x4 x7 x9 x10 x51 x52 x53 : Value) (w : World) : f10_k3 K E1 x3 x4 x7 x9 x10 x51 x52 x53 w = f10_k3_t x3 x4 x7 x9 x10 x51 x52 x53 K E1 w := cutE fun σ => by kernel_rfl
def f10_l3_t (x3 x4 x7 x9 x10 x13 x51 x52 x53 x76 : Value) (K : K1) (E1 : VP2) (E2 : VP1) (w : World) : Prop :=
 ev Tryz.prog (binM .lss 3 (.tmp 76) (.const (.int .i64 2)) x76 (.int .i64 2)) w fun t77 w_1 =>
 cndS t77 (
 ldR Tryz.prog 58 x7 w_1.drew fun t80 =>
 (ev Tryz.prog (Instr.buildSlice 74 1 #[(0, x13)]) w_1.drew fun t82 w_2 =>
 (ldG Tryz.prog 58 x7 w_2 t80) ∧
 rd Tryz.prog (Instr.sliceAt 74 t82 (some x76) none none) w_2 fun t84 =>
 (ev Tryz.prog (Instr.buildSlice 75 1 #[(0, (.int .u8 ((64 : Nat) : Int)))]) w_2 fun t85 w_3 =>
 (ldG Tryz.prog 58 x7 w_3 t80) ∧
 (ag Tryz.prog (Instr.sliceAt 74 t82 (some x76) none none) w_3 t84) ∧
 rd Tryz.prog (Instr.sliceAt 75 t85 (some x76) none none) w_3 fun t87 =>
 ev Tryz.prog (Instr.buildSlice 74 1 #[(0, x13)]) w_3 fun t89 w_4 =>
 (ldG Tryz.prog 58 x7 w_4 t80) ∧
 (ag Tryz.prog (Instr.sliceAt 74 t82 (some x76) none none) w_4 t84) ∧
 (ag Tryz.prog (Instr.sliceAt 75 t85 (some x76) none none) w_4 t87) ∧
 rd Tryz.prog (Instr.sliceAt 74 t89 none (some x76) none) w_4 fun t91 =>
 callS Tryz.prog 37 (pA #[t80, t84, t87, t91]) w_4 fun t92 w_5 =>
 rd Tryz.prog (Instr.extract t92 0) w_5 fun t93 =>
 rd Tryz.prog (Instr.extract t92 1) w_5 fun t94 =>
 f10_k7 K E1 E2 x3 x4 x7 x9 x10 x13 t93 t94 x51 x52 x53 x76 w_5) ∧
 (ev Tryz.prog (Instr.buildSlice 74 1 #[(0, x13)]) w_2 fun t89_1 w_6 =>
 (ldG Tryz.prog 58 x7 w_6 t80) ∧
 (ag Tryz.prog (Instr.sliceAt 74 t82 (some x76) none none) w_6 t84) ∧
 rd Tryz.prog (Instr.sliceAt 74 t89_1 none (some x76) none) w_6 fun t91_1 =>
 ev Tryz.prog (Instr.buildSlice 75 1 #[(0, (.int .u8 ((64 : Nat) : Int)))]) w_6 fun t85_1 w_7 =>
 (ldG Tryz.prog 58 x7 w_7 t80) ∧
 (ag Tryz.prog (Instr.sliceAt 74 t82 (some x76) none none) w_7 t84) ∧
 (ag Tryz.prog (Instr.sliceAt 74 t89_1 none (some x76) none) w_7 t91_1) ∧
 rd Tryz.prog (Instr.sliceAt 75 t85_1 (some x76) none none) w_7 fun t87_1 =>
 callS Tryz.prog 37 (pA #[t80, t84, t87_1, t91_1]) w_7 fun t92_1 w_8 =>
 rd Tryz.prog (Instr.extract t92_1 0) w_8 fun t93_1 =>
 rd Tryz.prog (Instr.extract t92_1 1) w_8 fun t94_1 =>
 f10_k7 K E1 E2 x3 x4 x7 x9 x10 x13 t93_1 t94_1 x51 x52 x53 x76 w_8)) ∧
 ((ev Tryz.prog (Instr.buildSlice 75 1 #[(0, (.int .u8 ((64 : Nat) : Int)))]) w_1.drew fun t85_2 w_9 =>
 (ldG Tryz.prog 58 x7 w_9 t80) ∧
 rd Tryz.prog (Instr.sliceAt 75 t85_2 (some x76) none none) w_9 fun t87_2 =>
 (ev Tryz.prog (Instr.buildSlice 74 1 #[(0, x13)]) w_9 fun t82_1 w_10 =>
 (ldG Tryz.prog 58 x7 w_10 t80) ∧
 (ag Tryz.prog (Instr.sliceAt 75 t85_2 (some x76) none none) w_10 t87_2) ∧
 rd Tryz.prog (Instr.sliceAt 74 t82_1 (some x76) none none) w_10 fun t84_1 =>
 ev Tryz.prog (Instr.buildSlice 74 1 #[(0, x13)]) w_10 fun t89_2 w_11 =>
 (ldG Tryz.prog 58 x7 w_11 t80) ∧
 (ag Tryz.prog (Instr.sliceAt 74 t82_1 (some x76) none none) w_11 t84_1) ∧
 (ag Tryz.prog (Instr.sliceAt 75 t85_2 (some x76) none none) w_11 t87_2) ∧
 rd Tryz.prog (Instr.sliceAt 74 t89_2 none (some x76) none) w_11 fun t91_2 =>
 callS Tryz.prog 37 (pA #[t80, t84_1, t87_2, t91_2]) w_11 fun t92_2 w_12 =>
 rd Tryz.prog (Instr.extract t92_2 0) w_12 fun t93_2 =>
 rd Tryz.prog (Instr.extract t92_2 1) w_12 fun t94_2 =>
 f10_k7 K E1 E2 x3 x4 x7 x9 x10 x13 t93_2 t94_2 x51 x52 x53 x76 w_12) ∧
 (ev Tryz.prog (Instr.buildSlice 74 1 #[(0, x13)]) w_9 fun t89_3 w_13 =>
 (ldG Tryz.prog 58 x7 w_13 t80) ∧
 (ag Tryz.prog (Instr.sliceAt 75 t85_2 (some x76) none none) w_13 t87_2) ∧
 rd Tryz.prog (Instr.sliceAt 74 t89_3 none (some x76) none) w_13 fun t91_3 =>
 ev Tryz.prog (Instr.buildSlice 74 1 #[(0, x13)]) w_13 fun t82_2 w_14 =>
 (ldG Tryz.prog 58 x7 w_14 t80) ∧
 (ag Tryz.prog (Instr.sliceAt 75 t85_2 (some x76) none none) w_14 t87_2) ∧
 (ag Tryz.prog (Instr.sliceAt 74 t89_3 none (some x76) none) w_14 t91_3) ∧
 rd Tryz.prog (Instr.sliceAt 74 t82_2 (some x76) none none) w_14 fun t84_2 =>
 callS Tryz.prog 37 (pA #[t80, t84_2, t87_2, t91_3]) w_14 fun t92_3 w_15 =>
 rd Tryz.prog (Instr.extract t92_3 0) w_15 fun t93_3 =>
 rd Tryz.prog (Instr.extract t92_3 1) w_15 fun t94_3 =>
 f10_k7 K E1 E2 x3 x4 x7 x9 x10 x13 t93_3 t94_3 x51 x52 x53 x76 w_15)) ∧
 (ev Tryz.prog (Instr.buildSlice 74 1 #[(0, x13)]) w_1.drew fun t89_4 w_16 =>
 (ldG Tryz.prog 58 x7 w_16 t80) ∧
 rd Tryz.prog (Instr.sliceAt 74 t89_4 none (some x76) none) w_16 fun t91_4 =>
 (ev Tryz.prog (Instr.buildSlice 74 1 #[(0, x13)]) w_16 fun t82_3 w_17 =>
 (ldG Tryz.prog 58 x7 w_17 t80) ∧
 (ag Tryz.prog (Instr.sliceAt 74 t89_4 none (some x76) none) w_17 t91_4) ∧
 rd Tryz.prog (Instr.sliceAt 74 t82_3 (some x76) none none) w_17 fun t84_3 =>
 ev Tryz.prog (Instr.buildSlice 75 1 #[(0, (.int .u8 ((64 : Nat) : Int)))]) w_17 fun t85_3 w_18 =>
 (ldG Tryz.prog 58 x7 w_18 t80) ∧
 (ag Tryz.prog (Instr.sliceAt 74 t82_3 (some x76) none none) w_18 t84_3) ∧
 (ag Tryz.prog (Instr.sliceAt 74 t89_4 none (some x76) none) w_18 t91_4) ∧
 rd Tryz.prog (Instr.sliceAt 75 t85_3 (some x76) none none) w_18 fun t87_3 =>
 callS Tryz.prog 37 (pA #[t80, t84_3, t87_3, t91_4]) w_18 fun t92_4 w_19 =>
 rd Tryz.prog (Instr.extract t92_4 0) w_19 fun t93_4 =>
 rd Tryz.prog (Instr.extract t92_4 1) w_19 fun t94_4 =>
 f10_k7 K E1 E2 x3 x4 x7 x9 x10 x13 t93_4 t94_4 x51 x52 x53 x76 w_19) ∧
 (ev Tryz.prog (Instr.buildSlice 75 1 #[(0, (.int .u8 ((64 : Nat) : Int)))]) w_16 fun t85_4 w_20 =>
 (ldG Tryz.prog 58 x7 w_20 t80) ∧
 (ag Tryz.prog (Instr.sliceAt 74 t89_4 none (some x76) none) w_20 t91_4) ∧
 rd Tryz.prog (Instr.sliceAt 75 t85_4 (some x76) none none) w_20 fun t87_4 =>
 ev Tryz.prog (Instr.buildSlice 74 1 #[(0, x13)]) w_20 fun t82_4 w_21 =>
 (ldG Tryz.prog 58 x7 w_21 t80) ∧
 (ag Tryz.prog (Instr.sliceAt 75 t85_4 (some x76) none none) w_21 t87_4) ∧
 (ag Tryz.prog (Instr.sliceAt 74 t89_4 none (some x76) none) w_21 t91_4) ∧
 rd Tryz.prog (Instr.sliceAt 74 t82_4 (some x76) none none) w_21 fun t84_4 =>
 callS Tryz.prog 37 (pA #[t80, t84_4, t87_4, t91_4]) w_21 fun t92_5 w_22 =>
 rd Tryz.prog (Instr.extract t92_5 0) w_22 fun t93_5 =>
 rd Tryz.prog (Instr.extract t92_5 1) w_22 fun t94_5 =>
 f10_k7 K E1 E2 x3 x4 x7 x9 x10 x13 t93_5 t94_5 x51 x52 x53 x76 w_22)))) (
 f10_k3 K E1 x3 x4 x7 x9 x10 x51 x52 x53 w_1)
theorem f10_l3_rule (x3 x4 x7 x9 x10 x13 x51 x52 x53 x76 : Value) (K : K1) (E1 : VP2) (w : World) (I : VP1) (μ : Value → World → Nat) (h0 : I x76 w)
    (hr : ∀ (x76 : Value) (w : World), I x76 w → ∀ E2 : VP1, (∀ (y76 : Value) (w' : World), I y76 w' → μ y76 w' < μ x76 w → E2 y76 w') → f10_l3_t x3 x4 x7 x9 x10 x13 x51 x52 x53 x76 K E1 E2 w) : f10_l3 K E1 x3 x4 x7 x9 x10 x13 x51 x52 x53 x76 w :=
  ⟨I, μ, h0, fun σ w hI E hE => cast (by kernel_rfl) (hr (σ 76) w hI E hE)⟩
def f10_k4_t (K : K1) (w : World) : Prop :=
 K (.bool true) w
theorem f10_k4_eq (K : K1) (w : World) : f10_k4 K w = f10_k4_t K w := cutE fun σ => by kernel_rfl
def f10_l4_t (x7 x225 x226 x227 : Value) (K : K1) (E1 : VP1) (w : World) : Prop :=
 ev Tryz.prog (binM .lss 3 (.tmp 227) (.tmp 226) x227 x226) w fun t228 w_1 =>
 cndS t228 (
 ev Tryz.prog (Instr.indexAt 117 x225 x227) w_1 fun t229 w_2 =>
 ldS Tryz.prog 103 t229 w_2 fun t230 w_3 =>
 ldS Tryz.prog 58 x7 w_3 fun t232 w_4 =>
 callS Tryz.prog 58 (pA #[t232, t230]) w_4 fun t234 w_5 =>
 ev Tryz.prog (Instr.extract t234 0) w_5 fun t235 w_6 =>
 ev Tryz.prog (Instr.extract t234 1) w_6 fun t236 w_7 =>
 ev Tryz.prog (binM .eql 28 (.tmp 237) (.const (.int .i64 0)) t236 (.int .i64 0)) w_7 fun t238 w_8 =>
 cndS t238 (
 K (.bool false) w_8) (
 ev Tryz.prog (binM .add 3 (.tmp 227) (.const (.int .i64 1)) x227 (.int .i64 1)) w_8 fun t239 w_9 =>
 E1 t239 w_9)) (
 f10_k4 K w_1)
theorem f10_l4_rule (x7 x225 x226 x227 : Value) (K : K1) (w : World) (I : VP1) (μ : Value → World → Nat) (h0 : I x227 w)
    (hr : ∀ (x227 : Value) (w : World), I x227 w → ∀ E1 : VP1, (∀ (y227 : Value) (w' : World), I y227 w' → μ y227 w' < μ x227 w → E1 y227 w') → f10_l4_t x7 x225 x226 x227 K E1 w) : f10_l4 K x7 x225 x226 x227 w :=
  ⟨I, μ, h0, fun σ w hI E hE => cast (by kernel_rfl) (hr (σ 227) w hI E hE)⟩
def f10_k5_t (x7 x9 x10 x197 x198 : Value) (K : K1) (E1 : VP1) (w : World) : Prop :=
 ev Tryz.prog (binM .add 3 (.tmp 198) (.const (.int .i64 1)) x198 (.int .i64 1)) w fun t224 w_1 =>
 E1 t224 w_1
theorem f10_k5_eq (K : K1) (E1 : VP1) (x7 x9 x10 x197 x198 : Value) (w : World) : f10_k5 K E1 x7 x9 x10 x197 x198 w = f10_k5_t x7 x9 x10 x197 x198 K E1 w := cutE fun σ => by kernel_rfl
def f10_l5_t (x7 x9 x10 x197 x198 x211 x212 x213 : Value) (K : K1) (E1 : VP1) (E2 : VP1) (w : World) : Prop :=
 ev Tryz.prog (binM .lss 3 (.tmp 213) (.tmp 212) x213 x212) w fun t214 w_1 =>
 cndS t214 (
 ev Tryz.prog (Instr.indexAt 38 x211 x213) w_1 fun t215 w_2 =>
 ldS Tryz.prog 37 t215 w_2 fun t216 w_3 =>
 ev Tryz.prog (Instr.alloc 37 true (.tuple #[])) w_3 fun t30 w_4 =>
 stS Tryz.prog 37 t30 t216 w_4 fun w_5 =>
 ev Tryz.prog (Instr.fieldAt 37 t30 0) w_5 fun t218 w_6 =>
 ldS Tryz.prog 33 t218 w_6 fun t219 w_7 =>
 ev Tryz.prog (Instr.fieldAt 37 t30 1) w_7 fun t220 w_8 =>
 ldS Tryz.prog 33 t220 w_8 fun t221 w_9 =>
 callS Tryz.prog 25 (pA #[x9, t219, t221]) w_9 fun t222 w_10 =>
 ev Tryz.prog (binM .add 3 (.tmp 213) (.const (.int .i64 1)) x213 (.int .i64 1)) w_10 fun t223 w_11 =>
 E2 t223 w_11) (
 f10_k5 K E1 x7 x9 x10 x197 x198 w_1)
theorem f10_l5_rule (x7 x9 x10 x197 x198 x211 x212 x213 : Value) (K : K1) (E1 : VP1) (w : World) (I : VP1) (μ : Value → World → Nat) (h0 : I x213 w)
    (hr : ∀ (x213 : Value) (w : World), I x213 w → ∀ E2 : VP1, (∀ (y213 : Value) (w' : World), I y213 w' → μ y213 w' < μ x213 w → E2 y213 w') → f10_l5_t x7 x9 x10 x197 x198 x211 x212 x213 K E1 E2 w) : f10_l5 K E1 x7 x9 x10 x197 x198 x211 x212 x213 w :=
  ⟨I, μ, h0, fun σ w hI E hE => cast (by kernel_rfl) (hr (σ 213) w hI E hE)⟩
def f10_k6_t (x3 x4 x7 x9 x10 x13 x51 x52 x53 x76 : Value) (K : K1) (E1 : VP2) (E2 : VP1) (w : World) : Prop :=
 ev Tryz.prog (binM .add 3 (.tmp 76) (.const (.int .i64 1)) x76 (.int .i64 1)) w fun t110 w_1 =>
 E2 t110 w_1
theorem f10_k6_eq (K : K1) (E1 : VP2) (E2 : VP1) (x3 x4 x7 x9 x10 x13 x51 x52 x53 x76 : Value) (w : World) : f10_k6 K E1 E2 x3 x4 x7 x9 x10 x13 x51 x52 x53 x76 w = f10_k6_t x3 x4 x7 x9 x10 x13 x51 x52 x53 x76 K E1 E2 w := cutE fun σ => by kernel_rfl
def f10_k7_t (x3 x4 x7 x9 x10 x13 x17 x18 x51 x52 x53 x76 : Value) (K : K1) (E1 : VP2) (E2 : VP1) (w : World) : Prop :=
 ev Tryz.prog (binM .neq 28 (.tmp 95) (.const (.int .i64 0)) x18 (.int .i64 0)) w fun t96 w_1 =>
 cndS t96 (
 K (.bool false) w_1) (
 bltS Tryz.prog .len #[38] 3 #[false] #[x17] w_1 fun t98 w_2 =>
 f10_l6 K E1 E2 x3 x4 x7 x9 x10 x13 x51 x52 x53 x76 x17 t98 (.int .i64 0) w_2)
theorem f10_k7_eq (K : K1) (E1 : VP2) (E2 : VP1) (x3 x4 x7 x9 x10 x13 x17 x18 x51 x52 x53 x76 : Value) (w : World) : f10_k7 K E1 E2 x3 x4 x7 x9 x10 x13 x17 x18 x51 x52 x53 x76 w = f10_k7_t x3 x4 x7 x9 x10 x13 x17 x18 x51 x52 x53 x76 K E1 E2 w := cutE fun σ => by kernel_rfl
def f10_l6_t (x3 x4 x7 x9 x10 x13 x51 x52 x53 x76 x97 x98 x99 : Value) (K : K1) (E1 : VP2) (E2 : VP1) (E3 : VP1) (w : World) : Prop :=
 ev Tryz.prog (binM .lss 3 (.tmp 99) (.tmp 98) x99 x98) w fun t100 w_1 =>
 cndS t100 (
 ev Tryz.prog (Instr.indexAt 38 x97 x99) w_1 fun t101 w_2 =>
 ldS Tryz.prog 37 t101 w_2 fun t102 w_3 =>
 ev Tryz.prog (Instr.alloc 37 true (.tuple #[])) w_3 fun t20 w_4 =>
 stS Tryz.prog 37 t20 t102 w_4 fun w_5 =>
 ev Tryz.prog (Instr.fieldAt 37 t20 0) w_5 fun t104 w_6 =>
 ldS Tryz.prog 33 t104 w_6 fun t105 w_7 =>
 ev Tryz.prog (Instr.fieldAt 37 t20 1) w_7 fun t106 w_8 =>
 ldS Tryz.prog 33 t106 w_8 fun t107 w_9 =>
 callS Tryz.prog 25 (pA #[x9, t105, t107]) w_9 fun t108 w_10 =>
 ev Tryz.prog (binM .add 3 (.tmp 99) (.const (.int .i64 1)) x99 (.int .i64 1)) w_10 fun t109 w_11 =>
 E3 t109 w_11) (
 f10_k6 K E1 E2 x3 x4 x7 x9 x10 x13 x51 x52 x53 x76 w_1)
theorem f10_l6_rule (x3 x4 x7 x9 x10 x13 x51 x52 x53 x76 x97 x98 x99 : Value) (K : K1) (E1 : VP2) (E2 : VP1) (w : World) (I : VP1) (μ : Value → World → Nat) (h0 : I x99 w)
    (hr : ∀ (x99 : Value) (w : World), I x99 w → ∀ E3 : VP1, (∀ (y99 : Value) (w' : World), I y99 w' → μ y99 w' < μ x99 w → E3 y99 w') → f10_l6_t x3 x4 x7 x9 x10 x13 x51 x52 x53 x76 x97 x98 x99 K E1 E2 E3 w) : f10_l6 K E1 E2 x3 x4 x7 x9 x10 x13 x51 x52 x53 x76 x97 x98 x99 w :=
  ⟨I, μ, h0, fun σ w hI E hE => cast (by kernel_rfl) (hr (σ 99) w hI E hE)⟩
def f10_t (x0 x1 x2 : Value) (K : K1) (w : World) : Prop :=
 ev Tryz.prog (Instr.box 67 x0) w fun t3 w_1 =>
 ev Tryz.prog (Instr.box 67 x1) w_1 fun t4 w_2 =>
 callS Tryz.prog 12 (pA #[]) w_2 fun t35 w_3 =>
 ev Tryz.prog (Op.unary .not t35) w_3 fun t36 w_4 =>
 gd t36 false (fun k => k x2 w_4) w_4 fun t38 w_5 =>
 gd t36 false (fun k => bltS Tryz.prog .len #[75] 3 #[false] #[t38] w_5 k) w_5 fun t39 w_6 =>
 gd t36 false (fun k => ev Tryz.prog (binM .gtr 3 (.tmp 39) (.const (.int .i64 30)) t39 (.int .i64 30)) w_6 k) w_6 fun t40 w_7 =>
 pickS t36 (.bool true) t40 w_7 fun t41 w_8 =>
 cndS t41 (
 callS Tryz.prog 12 (pA #[]) w_8 fun t42 w_9 =>
 K t42 w_9) (
 ldS Tryz.prog 67 t3 w_8 fun t44 w_10 =>
 callS Tryz.prog 33 (pA #[t44]) w_10 fun t45 w_11 =>
 ev Tryz.prog (Instr.extract t45 0) w_11 fun t46 w_12 =>
 ev Tryz.prog (Instr.extract t45 1) w_12 fun t47 w_13 =>
 ev Tryz.prog (Instr.extract t45 2) w_13 fun t48 w_14 =>
 ev Tryz.prog (Instr.alloc 58 true (.tuple #[])) w_14 fun t7 w_15 =>
 stS Tryz.prog 58 t7 t46 w_15 fun w_16 =>
 ev Tryz.prog (binM .eql 48 (.tmp 49) (.const (.pointer none)) t48 (.pointer none)) w_16 fun t50 w_17 =>
 cndS t50 (
 K (.bool false) w_17) (
 bltS Tryz.prog .len #[75] 3 #[false] #[x2] w_17 fun t52 w_18 =>
 f10_l1 K t3 t4 t7 t48 (.slice none 0 0) x2 t52 (.int .i64 0) w_18))
theorem f10_call (x0 x1 x2 : Value) (K : K1) (w : World) (h : f10_t x0 x1 x2 K w) : callS Tryz.prog 10 #[x0, x1, x2] w K :=
  call_of_txt (args := [x0, x1, x2]) mixed Tryz.func10 f10_u.2 (by kernel_rfl) (cast (by kernel_rfl) h)
end Go.Proofs.YtaeopkhdokaaoaaGreatDoor
namespace Go.Proofs.YtaeopkhdokaaoaaGreatDoor
open Go Go.Sh
set_option maxRecDepth 100000
set_option maxHeartbeats 4000000
set_option linter.unusedSimpArgs false
set_option linter.unusedVariables false
section
variable {w0 w w' : World} {Y Y' : Lay} {D D' : DS} {B l k T : Nat} {c o : Int} {g : Nat} {K : K1} {E1 : VP2} {E2 E3 : VP1} {x3 x4 x7 x10 x13 x51 x52 x53 x76 : Value}
theorem ag_l6 (h : Loc w0 w Y D B l c o g) {ws : List (Nat × Nat)} (hok : ∀ x ∈ ws, x.1 < 18446744073709551616 ∧ x.2 < 18446744073709551616) (hx : D.exe < 1000000000) (hwl : ws.length < 1000) (u : Value) (hu : SlO w 37 2 u ws.length (wrL ws)) (ou : Out w0 Y B u) (hT : Y.tb 0 = T)
    (H : ∀ w' Y', Stp w Y w' Y' (D.strs ws) → f10_k6 K E1 E2 x3 x4 x7 (.pointer (some ⟨T, 0, none⟩)) x10 x13 x51 x52 x53 x76 w') :
    f10_l6 K E1 E2 x3 x4 x7 (.pointer (some ⟨T, 0, none⟩)) x10 x13 x51 x52 x53 x76 u (.int .i64 (ws.length : Int)) (.int .i64 0) w := by
  subst hT
  have gt : ∀ j, Good (D.strs (ws.take j)) := fun j => strs_good h.L.gd (fun x hx => hok x (mem_take hx))
  have xt : ∀ j, (D.strs (ws.take j)).exe ≤ D.exe + ws.length := fun j => by
    have := strs_exe D (ws.take j); rw [List.length_take] at this
    have := Nat.min_le_right j ws.length; omega
  apply f10_l6_rule (I := fun z w' => ∃ (j : Nat) (Y' : Lay), z = .int .i64 (j : Int) ∧ j ≤ ws.length ∧ Stp w Y w' Y' (D.strs (ws.take j))) (μ := fun z _ => ws.length - (Go.RowKit.intOf z).toNat)
  · exact ⟨0, Y, rfl, by omega, (Stp.refl h.L.dv).to (strs_zero _ _).symm⟩
  · intros; rename_i w1 hI E3 hE
    obtain ⟨j, Y1, rfl, hj, st⟩ := hI
    have tb : Y1.tb 0 = Y.tb 0 := by rw [st.tb]
    by_cases hjl : j < ws.length
    · have hxm := hok ws[j] (List.getElem_mem hjl)
      have htk := strs_take (D := D) (wr_get hjl)
      have xj := xt j
      obtain ⟨_, s1⟩ := ou.step hu st
      obtain ⟨b, ob, cap, rfl, hc1, hc2⟩ := wr_cells s1 hjl
      generalize ws[j] = x at hc1 hc2 hxm htk
      obtain ⟨xo, xv⟩ := x
      simp only at hc1 hc2 hxm htk
      unfold f10_l6_t
      simp (disch := first | omega | simp only [RO] | (simp only [RZ] <;> omega) | fail) only [↓RBp, ↓RA, ↓reduceIte, Nat.reduceAdd, Nat.reduceMul, Nat.reduceEqDiff, RB, RX, RA2, hc1, hc2]
      have stg := st.grow (Ext.alloc_self w1 (.cells #[.int .u64 (xo : Int), .int .u64 (xv : Int)] 37))
      rw [← tb]
      refine k_Store stg.dv (gt j) 0 (by omega) xo xv (by omega) _ (fun w2 Y2 st2 => ?_)
      simp (disch := first | omega | simp only [RO] | (simp only [RZ] <;> omega) | fail) only [↓RBp, ↓RA, ↓reduceIte, Nat.reduceAdd, Nat.reduceMul, Nat.reduceEqDiff, RB, RX, RA2]
      apply hE
      · exact ⟨j + 1, Y2, by simp, by omega, by rw [htk]; exact stg.trans st2⟩
      · simp [Go.RowKit.intOf]; omega
    · have : j = ws.length := by omega
      subst this
      rw [List.take_length] at st
      unfold f10_l6_t
      simp (disch := first | omega | simp only [RO] | (simp only [RZ] <;> omega) | fail) only [↓RBp, ↓RA, ↓reduceIte, Nat.reduceAdd, Nat.reduceMul, Nat.reduceEqDiff, RB, RX, RA2]
      exact H _ _ st
theorem ag_act (h : Loc w0 w Y D B l c o g) (hs : Snd D l c o) (hT : Y.tb 0 = T) {L M : List Int} {ks : List Nat} {ws : List (Nat × Nat)} (ha : ActA c L ks M) (hw : actN D l c L ks M = some ws) (hx : D.exe < 1000000000) (hwl : ws.length < 1000) (lL : L.length < 1000) (lM : M.length < 1000) (lk : ks.length < 1000) (u1 u2 u3 : Value) {m : Nat} (h1 : RdS m w u1 (i64L L)) (h2 : RdS m w u2 (u8L ks)) (h3 : RdS m w u3 (i64L M)) {ps : List Nat} {v : Value} (hv : SlO w 103 1 v ps.length (ptL ps)) (ov : Out w0 Y B v)
    (H : ∀ w' Y', Loc w0 w' Y' (D.strs ws) B l c o g → Y'.tb 0 = T → SlO w' 103 1 v ps.length (ptL ps) → Out w0 Y' B v → f10_k6 K E1 E2 x3 x4 (.pointer (some ⟨B, 0, none⟩)) (.pointer (some ⟨T, 0, none⟩)) v x13 x51 x52 x53 x76 w') :
    callS Tryz.prog 37 #[chV Y l c o g, u1, u2, u3] w (fun t w5 => rd Tryz.prog (Instr.extract t 0) w5 fun t93 => rd Tryz.prog (Instr.extract t 1) w5 fun t94 => f10_k7 K E1 E2 x3 x4 (.pointer (some ⟨B, 0, none⟩)) (.pointer (some ⟨T, 0, none⟩)) v x13 t93 t94 x51 x52 x53 x76 w5) := by
  have hA := h.acts hs ha hw
  refine k_Actions h.cx h.on.err o g L M ks u1 u2 u3 h1 h2 h3 (by omega) (by omega) (by omega) (fun k hk => by have := (ha.kin k hk).2; omega) _ (fun hn => absurd ha hn) (fun _ hn => by rw [hw] at hn; cases hn) (fun _ ws' hws v' w2 e2 hnv hsl => ?_)
  rw [hw] at hws; injection hws with hws; subst hws
  obtain ⟨pa, pc, rfl, hpc⟩ := hsl.isS'
  have hn := h.L.gd.n
  simp (disch := first | omega | simp only [RO] | (simp only [RZ] <;> omega) | fail) only [↓RBp, ↓RA, ↓reduceIte, Nat.reduceAdd, Nat.reduceMul, Nat.reduceEqDiff, RB, RX, RA2, f10_k7_eq, f10_k7_t]
  refine ag_l6 (h.ext e2) (fun x hx => by have := hA.e.ok x hx; omega) hx hwl _ hsl (Out.new h hnv) hT (fun w3 Y3 st => ?_)
  obtain ⟨o3, s3⟩ := ov.step (hv.ext e2) st
  exact H w3 Y3 ((h.ext e2).step st hA.gd hA.e.on hA.n) (by rw [st.tb]; exact hT) s3 o3
def UsedAt (D D' : DS) (l : Nat) (c o : Int) (k gi : Nat) : Prop := Snd D' l c o ∧ bS (wd D' l (offN c k)) = freS gi ∧ bG (wd D' l (offN c k)) = freG gi ∧ ∀ i : Nat, (i : Int) < perS c → i ≠ k → wd D' l (offN c i) = wd D l (offN c i)
theorem ag_l3 (h : Loc w0 w Y D B l c o g) (hT : Y.tb 0 = T) (hp : perS c ≤ 64) (hk : (k : Int) < perS c) (gi : Nat) (hgi : gi < 65536) (hf : FreeAt D l c o k gi) (hx : D.exe < 10000) {ps : List Nat} {v : Value} (hv : SlO w 103 1 v ps.length (ptL ps)) (ov : Out w0 Y B v)
    (H : ∀ w' Y' D', Loc w0 w' Y' D' B l c o g → Y'.tb 0 = T → UsedAt D D' l c o k gi → D'.exe ≤ D.exe + 4 → SlO w' 103 1 v ps.length (ptL ps) → Out w0 Y' B v → f10_k3 K E1 x3 x4 (.pointer (some ⟨B, 0, none⟩)) (.pointer (some ⟨T, 0, none⟩)) v x51 x52 x53 w') :
    f10_l3 K E1 x3 x4 (.pointer (some ⟨B, 0, none⟩)) (.pointer (some ⟨T, 0, none⟩)) v (.int .i64 (k : Int)) x51 x52 x53 (.int .i64 0) w := by
  have ha := act1 hk 64 (by omega) (by omega)
  apply f10_l3_rule (I := fun z w' => ∃ (n : Nat) (Y' : Lay) (D' : DS), z = .int .i64 (n : Int) ∧ n ≤ 2 ∧ Loc w0 w' Y' D' B l c o g ∧ Y'.tb 0 = T ∧ SlO w' 103 1 v ps.length (ptL ps) ∧ Out w0 Y' B v ∧ D'.exe ≤ D.exe + 2 * n ∧ (∀ i : Nat, (i : Int) < perS c → i ≠ k → wd D' l (offN c i) = wd D l (offN c i)) ∧ (n = 0 → FreeAt D' l c o k gi) ∧ (n = 1 → TakenAt D' l c o k gi 64) ∧ (n = 2 → Snd D' l c o ∧ bS (wd D' l (offN c k)) = freS gi ∧ bG (wd D' l (offN c k)) = freG gi)) (μ := fun z _ => 2 - (Go.RowKit.intOf z).toNat)
  · exact ⟨0, Y, D, rfl, by omega, h, hT, hv, ov, by omega, fun _ _ _ => rfl, fun _ => hf, fun h => by omega, fun h => by omega⟩
  · intros; rename_i w1 hI E2 hE
    obtain ⟨n, Y1, D1, rfl, hn, h1, hT1, hv1, ov1, hx1, hot, i0, i1, i2⟩ := hI
    have hB1 := h1.ltB
    have hcs : n = 0 ∨ n = 1 ∨ n = 2 := by omega
    rcases hcs with rfl | rfl | rfl
    · have hF := i0 rfl
      obtain ⟨ws, hw, hwl⟩ := take_act hF hp hk 64
      have hA := h1.acts hF.1 ha.1 hw
      have hTk := took hk (by omega) hF hA
      have fin : ∀ w2 Y2, Loc w0 w2 Y2 (D1.strs ws) B l c o g → Y2.tb 0 = T → SlO w2 103 1 v ps.length (ptL ps) → Out w0 Y2 B v → f10_k6 K E1 E2 x3 x4 (.pointer (some ⟨B, 0, none⟩)) (.pointer (some ⟨T, 0, none⟩)) v (.int .i64 (k : Int)) x51 x52 x53 (.int .i64 ((0 : Nat) : Int)) w2 := by
        intro w2 Y2 h2 hT2 hv2 ov2
        rw [f10_k6_eq]
        unfold f10_k6_t
        simp (disch := first | omega | simp only [RO] | (simp only [RZ] <;> omega) | fail) only [↓RBp, ↓RA, ↓reduceIte, Nat.reduceAdd, Nat.reduceMul, Nat.reduceEqDiff, RB, RX, RA2]
        apply hE
        · exact ⟨1, Y2, _, rfl, by omega, h2, hT2, hv2, ov2, by have := hA.exe; omega, fun i hi hik => by rw [took_other hi hik hA]; exact hot i hi hik, fun h => by omega, fun _ => hTk, fun h => by omega⟩
        · simp [Go.RowKit.intOf]
      have g1 := fun (b : Nat) (w : World) (z : Value) => ag_of_run (run_lo el_74_74 b 0 1 1 .i64 0 w (by omega)) z
      have g2 := fun (b : Nat) (w : World) (z : Value) => ag_of_run (run_lo el_75_75 b 0 1 1 .i64 0 w (by omega)) z
      have g3 := fun (b : Nat) (w : World) (z : Value) => ag_of_run (run_hi el_74_74 b 0 1 1 .i64 0 w (by omega)) z
      have ob1 := h1.cells; have c0 := ob1.1; have c1 := ob1.2.1; have c2 := ob1.2.2.1; have c3 := ob1.2.2.2.1; have c4 := ob1.2.2.2.2
      unfold f10_l3_t
      (repeat' (first | (with_reducible refine brS_mk (fun _ => ?_) (fun _ => ?_)) | (with_reducible refine And.intro ?_ ?_) | (simp (disch := first | omega | simp only [RO] | (simp only [RZ] <;> omega) | (with_reducible (repeat (first | assumption | exact Ext.refl _ | refine Ext.alloc ?_ _ | refine Ext.drew ?_ | refine Ext.trans ?_ (by assumption)))) | fail) only [↓RBp, ↓RA, ↓reduceIte, Nat.reduceAdd, Nat.reduceMul, Nat.reduceEqDiff, RB, RX, RA2, c0, c1, c2, c3, c4, g1, g2, g3])))
      all_goals refine ag_act (h1.ext (by repeat (first | (with_reducible first | refine Sh.eB ?_ (by first | omega | (simp only [RZ] <;> omega)) _ | assumption | exact Sh.eR _ | refine Sh.eA ?_ _ | refine Sh.eD ?_ | refine Sh.eT ?_ (by assumption)) | exact Sh.eR _))) hF.1 hT1 ha.1 hw (by omega) (by omega) (by simp) (by simp) (by simp) _ _ _ (m := w1.heap.size + 10) ⟨some ⟨_, 0, none⟩, 1, rfl, .inr ⟨_, _, rfl, by omega, ?_⟩⟩ ⟨some ⟨_, 0, none⟩, 1, rfl, .inr ⟨_, _, rfl, by omega, ?_⟩⟩ ⟨_, _, rfl, .inl rfl⟩ (hv1.ext (by repeat (first | (with_reducible first | refine Sh.eB ?_ (by first | omega | (simp only [RZ] <;> omega)) _ | assumption | exact Sh.eR _ | refine Sh.eA ?_ _ | refine Sh.eD ?_ | refine Sh.eT ?_ (by assumption)) | exact Sh.eR _))) ov1 fin
      all_goals
        intro j u hj
        obtain ⟨rfl, rfl⟩ := one_get hj
        simp (disch := first | omega | simp only [RO] | (simp only [RZ] <;> omega) | fail) only [↓RBp, ↓RA, ↓reduceIte, Nat.reduceAdd, Nat.reduceMul, Nat.reduceEqDiff, RB, RX, RA2]
    · have hF := i1 rfl
      obtain ⟨ws, hw, hwl⟩ := drop_act hF hp hk
      have hA := h1.acts hF.1 ha.2 hw
      have hDr := dropped hk hF hA
      have fin : ∀ w2 Y2, Loc w0 w2 Y2 (D1.strs ws) B l c o g → Y2.tb 0 = T → SlO w2 103 1 v ps.length (ptL ps) → Out w0 Y2 B v → f10_k6 K E1 E2 x3 x4 (.pointer (some ⟨B, 0, none⟩)) (.pointer (some ⟨T, 0, none⟩)) v (.int .i64 (k : Int)) x51 x52 x53 (.int .i64 ((1 : Nat) : Int)) w2 := by
        intro w2 Y2 h2 hT2 hv2 ov2
        rw [f10_k6_eq]
        unfold f10_k6_t
        simp (disch := first | omega | simp only [RO] | (simp only [RZ] <;> omega) | fail) only [↓RBp, ↓RA, ↓reduceIte, Nat.reduceAdd, Nat.reduceMul, Nat.reduceEqDiff, RB, RX, RA2]
        apply hE
        · exact ⟨2, Y2, _, rfl, by omega, h2, hT2, hv2, ov2, by have := hA.exe; omega, fun i hi hik => by rw [dropped_other hi hik hA]; exact hot i hi hik, fun h => by omega, fun h => by omega, fun _ => hDr⟩
        · simp [Go.RowKit.intOf]
      have g1 := fun (b : Nat) (w : World) (z : Value) => ag_of_run (run_lo el_74_74 b 0 1 1 .i64 1 w (by omega)) z
      have g2 := fun (b : Nat) (w : World) (z : Value) => ag_of_run (run_lo el_75_75 b 0 1 1 .i64 1 w (by omega)) z
      have g3 := fun (b : Nat) (w : World) (z : Value) => ag_of_run (run_hi el_74_74 b 0 1 1 .i64 1 w (by omega)) z
      have ob2 := h1.cells; have c0 := ob2.1; have c1 := ob2.2.1; have c2 := ob2.2.2.1; have c3 := ob2.2.2.2.1; have c4 := ob2.2.2.2.2
      unfold f10_l3_t
      (repeat' (first | (with_reducible refine brS_mk (fun _ => ?_) (fun _ => ?_)) | (with_reducible refine And.intro ?_ ?_) | (simp (disch := first | omega | simp only [RO] | (simp only [RZ] <;> omega) | (with_reducible (repeat (first | assumption | exact Ext.refl _ | refine Ext.alloc ?_ _ | refine Ext.drew ?_ | refine Ext.trans ?_ (by assumption)))) | fail) only [↓RBp, ↓RA, ↓reduceIte, Nat.reduceAdd, Nat.reduceMul, Nat.reduceEqDiff, RB, RX, RA2, c0, c1, c2, c3, c4, g1, g2, g3])))
      all_goals refine ag_act (h1.ext (by repeat (first | (with_reducible first | refine Sh.eB ?_ (by first | omega | (simp only [RZ] <;> omega)) _ | assumption | exact Sh.eR _ | refine Sh.eA ?_ _ | refine Sh.eD ?_ | refine Sh.eT ?_ (by assumption)) | exact Sh.eR _))) hF.1 hT1 ha.2 hw (by omega) (by omega) (by simp) (by simp) (by simp) _ _ _ (m := w1.heap.size + 10) ⟨_, _, rfl, .inl rfl⟩ ⟨_, _, rfl, .inl rfl⟩ ⟨some ⟨_, 0, none⟩, 1, rfl, .inr ⟨_, _, rfl, by omega, ?_⟩⟩ (hv1.ext (by repeat (first | (with_reducible first | refine Sh.eB ?_ (by first | omega | (simp only [RZ] <;> omega)) _ | assumption | exact Sh.eR _ | refine Sh.eA ?_ _ | refine Sh.eD ?_ | refine Sh.eT ?_ (by assumption)) | exact Sh.eR _))) ov1 fin
      all_goals
        intro j u hj
        obtain ⟨rfl, rfl⟩ := one_get hj
        simp (disch := first | omega | simp only [RO] | (simp only [RZ] <;> omega) | fail) only [↓RBp, ↓RA, ↓reduceIte, Nat.reduceAdd, Nat.reduceMul, Nat.reduceEqDiff, RB, RX, RA2]
    · unfold f10_l3_t
      simp (disch := first | omega | simp only [RO] | (simp only [RZ] <;> omega) | fail) only [↓RBp, ↓RA, ↓reduceIte, Nat.reduceAdd, Nat.reduceMul, Nat.reduceEqDiff, RB, RX, RA2]
      exact H _ _ _ h1 hT1 ⟨(i2 rfl).1, (i2 rfl).2.1, (i2 rfl).2.2, hot⟩ (by omega) hv1 ov1
end
end Go.Proofs.YtaeopkhdokaaoaaGreatDoor
namespace Go.Proofs.YtaeopkhdokaaoaaGreatDoor
open Go Go.Sh
set_option linter.unusedSimpArgs false
set_option linter.unusedVariables false
section
variable {D : DS} {l g : Nat} {c o : Int}
theorem fmt_snd (c0 : 0 ≤ c) (c5 : c < 5) (o0 : 0 ≤ o) (o8 : o < 8) (hg0 : g ≠ 0) (hg : g < 65536) (h0 : wd D l 0 = sealN (hdX c o g)) (hlow : ∀ j, j ≠ 0 → j < 8 → wd D l j = 0) (at_ : ∀ i : Nat, (i : Int) < perS c → wd D l (offN c i) = sealN (blkX g 0 176)) : Snd D l c o := by
  have hh := hd_ok c0 c5 o0 o8 hg0 hg
  refine ⟨by rw [h0]; exact hh.1, by rw [h0]; exact hh.2.1, by rw [h0]; exact hh.2.2.1, fun j h2 h8 => hlow j (by omega) h8, fun i hi => ?_, fun i hi => ?_, fun i hi => ?_⟩
  · rw [at_ i hi]; exact isS_blk hg (by omega) (by omega)
  · rw [at_ i hi, bG_blk hg (by omega) (by omega), bK_blk hg (by omega) (by omega), bS_blk hg (by omega) (by omega)]; simp [goodB, hg0]
  · rw [hlow 1 (by omega) (by omega), bit0]
    by_cases h : (i : Int) < perS c
    · rw [at_ i h, bS_blk hg (by omega) (by omega)]; simp
    · simp [h]
theorem clr_gen (on : On D) (gd : Good D) (hl : l + 32 ≤ D.n) (hg : g < 65536) : On (D.run 0 (clrI l g)) ∧ Good (D.run 0 (clrI l g)) ∧ (D.run 0 (clrI l g)).n = D.n ∧ (∀ i ∈ clrI l g, okI i) ∧ wd (D.run 0 (clrI l g)) l 0 = sealN (hdX (-1) (-1) g) := by
  have hs := sealN_lt (hdX (-1) (-1) g) (hdX_lt (by omega) (by omega) (by omega) (by omega) hg)
  have hn := gd.n
  have h1 := On.stores on [(l * 64, sealN (hdX (-1) (-1) g))] (fun x hx => by simp only [List.mem_singleton] at hx; subst hx; simp only; omega)
  have ok : ∀ i ∈ clrI l g, okI i := okI_stores (fun x hx => by simp only [List.mem_singleton] at hx; subst hx; exact ⟨by simp only; omega, hs⟩)
  refine ⟨h1.1, Good.run 0 (by omega) _ _ gd ok, run_n 0 _ D, ok, ?_⟩
  have e : (D.run 0 (clrI l g)).cur = applyH [(l * 64, sealN (hdX (-1) (-1) g))] D.cur := h1.2
  unfold wd
  rw [e]
  refine applyH_val (fun y hy _ => ?_) (.inl ⟨(l * 64, sealN (hdX (-1) (-1) g)), by simp, by simp only; omega⟩)
  simp only [List.mem_singleton] at hy; subst hy; rfl
theorem plan_gen (on : On D) (gd : Good D) (hl : l + 32 ≤ D.n) (c0 : 0 ≤ c) (c5 : c < 5) (o0 : 0 ≤ o) (o8 : o < 8) (hg0 : g ≠ 0) (hg : g < 65536) : On (D.run 0 (planI l c o g)) ∧ Good (D.run 0 (planI l c o g)) ∧ (D.run 0 (planI l c o g)).n = D.n ∧ (∀ i ∈ planI l c o g, okI i) ∧ Snd (D.run 0 (planI l c o g)) l c o ∧ wd (D.run 0 (planI l c o g)) l 0 = sealN (hdX c o g) ∧ ∀ i : Nat, (i : Int) < perS c → wd (D.run 0 (planI l c o g)) l (offN c i) = sealN (blkX g 0 176) := by
  have hp := perS_in c0 c5
  have hn := gd.n
  have hb := sealN_lt (blkX g 0 176) (blkX_lt hg (by omega) (by omega))
  have hd := sealN_lt (hdX c o g) (hdX_lt (by omega) c5 (by omega) o8 hg)
  have pw : ∀ x ∈ planW l c g, (x.1 % 8 = 0 ∧ x.1 < D.n * 64) ∧ x.1 < 18446744073709551616 ∧ x.2 < 18446744073709551616 := by
    intro x hx
    rcases List.mem_append.1 hx with hx | hx
    · obtain ⟨j, hj, rfl⟩ := List.mem_map.1 hx
      have hb2 := offS_bd c0 c5 (show 0 ≤ (j : Int) by omega) (by rw [List.mem_range] at hj; omega)
      have hw := wordsS_in c0 c5
      simp only; omega
    · obtain ⟨j, hj, rfl⟩ := List.mem_map.1 hx
      rw [List.mem_range] at hj
      simp only; omega
  have hw1 : ∀ x ∈ [(l * 64, sealN (hdX c o g))], (x.1 % 8 = 0 ∧ x.1 < D.n * 64) ∧ x.1 < 18446744073709551616 ∧ x.2 < 18446744073709551616 := fun x hx => by
    simp only [List.mem_singleton] at hx; subst hx; simp only; omega
  have ok : ∀ i ∈ planI l c o g, okI i := by
    intro i hi
    rcases List.mem_append.1 hi with hi | hi
    · exact okI_stores (fun x hx => (pw x hx).2) i hi
    · exact okI_stores (fun x hx => (hw1 x hx).2) i hi
  have h1 := On.stores on (planW l c g) (fun x hx => (pw x hx).1)
  have n1 : (D.run 0 (storesI (planW l c g))).n = D.n := run_n 0 _ D
  have h2 := On.stores h1.1 [(l * 64, sealN (hdX c o g))] (fun x hx => by rw [n1]; exact (hw1 x hx).1)
  have er : D.run 0 (planI l c o g) = (D.run 0 (storesI (planW l c g))).run 0 (storesI [(l * 64, sealN (hdX c o g))]) := by unfold planI; rw [run_append]
  have gd3 := Good.run 0 (by omega) _ _ gd ok
  have n3 : (D.run 0 (planI l c o g)).n = D.n := run_n 0 _ D
  have ec : (D.run 0 (planI l c o g)).cur = applyH [(l * 64, sealN (hdX c o g))] (applyH (planW l c g) D.cur) := by rw [er, h2.2, h1.2]
  have on3 : On (D.run 0 (planI l c o g)) := by rw [er]; exact h2.1
  generalize D.run 0 (planI l c o g) = E at *
  have w0 : wd E l 0 = sealN (hdX c o g) := by
    unfold wd
    rw [ec]
    refine applyH_val (fun y hy _ => ?_) (.inl ⟨(l * 64, sealN (hdX c o g)), by simp, by simp only; omega⟩)
    simp only [List.mem_singleton] at hy; subst hy; rfl
  have ho : ∀ (j : Nat) (f : Nat → Nat), j ≠ 0 → applyH [(l * 64, sealN (hdX c o g))] f (l * 8 + j) = f (l * 8 + j) := fun j f hj => applyH_other _ _ _ (fun y hy => by simp only [List.mem_singleton] at hy; subst hy; simp only; omega)
  have hA : ∀ j, ∀ y ∈ planW l c g, y.1 / 8 = l * 8 + j → (8 ≤ j ∧ y.2 = sealN (blkX g 0 176)) ∨ (j < 8 ∧ y.2 = 0) := by
    intro j y hy hyj
    rcases List.mem_append.1 hy with hy | hy
    · obtain ⟨i, hi, rfl⟩ := List.mem_map.1 hy
      rw [List.mem_range] at hi
      have hb2 := offS_bd c0 c5 (show 0 ≤ (i : Int) by omega) (by omega)
      left
      simp only at hyj
      exact ⟨by omega, rfl⟩
    · obtain ⟨i, hi, rfl⟩ := List.mem_map.1 hy
      rw [List.mem_range] at hi
      right
      simp only at hyj
      exact ⟨by omega, rfl⟩
  have wlow : ∀ j, j ≠ 0 → j < 8 → wd E l j = 0 := by
    intro j h0 h8
    unfold wd
    rw [ec, ho j _ h0]
    refine applyH_val (fun y hy hyj => ?_) (.inl ⟨(l * 64 + (j - 1 + 1) * 8, 0), List.mem_append_right _ (List.mem_map.2 ⟨j - 1, List.mem_range.2 (by omega), rfl⟩), by simp only; omega⟩)
    rcases hA j y hy hyj with h | h
    · omega
    · exact h.2
  have wat : ∀ i : Nat, (i : Int) < perS c → wd E l (offN c i) = sealN (blkX g 0 176) := by
    intro i hi
    have bd := offN_bd c0 c5 hi
    unfold wd
    rw [ec, ho _ _ (by omega)]
    refine applyH_val (fun y hy hyj => ?_) (.inl ⟨_, List.mem_append_left _ (List.mem_map.2 ⟨i, List.mem_range.2 (by omega), rfl⟩), ?_⟩)
    · rcases hA _ y hy hyj with h | h
      · exact h.2
      · omega
    · simp only; omega
  exact ⟨on3, gd3, n3, ok, fmt_snd c0 c5 o0 o8 hg0 hg w0 wlow wat, w0, wat⟩
theorem prog_len (l : Nat) (hl : l ≤ 8) (c0 : 0 ≤ c) (c5 : c < 5) (o : Int) (g : Nat) : (planI l c o g).length ≤ 200 ∧ (clrI l g).length ≤ 10 := (opened_exe hl c0 c5 o g).2.2
end
end Go.Proofs.YtaeopkhdokaaoaaGreatDoor
namespace Go.Proofs.YtaeopkhdokaaoaaGreatDoor
open Go Go.Sh
set_option maxRecDepth 100000
set_option maxHeartbeats 4000000
set_option linter.unusedSimpArgs false
set_option linter.unusedVariables false
def AIv (D : DS) (l : Nat) (c o : Int) (G : Nat) : Prop := Snd D l c o ∧ ∀ i : Nat, (i : Int) < perS c → (bS (wd D l (offN c i)) = 176 ∨ bS (wd D l (offN c i)) = 178) ∧ bG (wd D l (offN c i)) ≤ G
def PIv (D : DS) (l : Nat) (c : Int) (ps : List Nat) : Prop := ∀ q ∈ ps, q < 18446744073709551616 ∧ ∃ i : Nat, (i : Int) < perS c ∧ (bS (wd D l (offN c i)) = 176 → pG q < bG (wd D l (offN c i)))
section
variable {D D' : DS} {l k G gi : Nat} {c o : Int} {ps : List Nat}
theorem used_A (h : AIv D l c o G) (hk : (k : Int) < perS c) (hf : FreeAt D l c o k gi) (hu : UsedAt D D' l c o k gi) : AIv D' l c o (G + 1) := by
  obtain ⟨u1, u2, u3, u4⟩ := hu
  refine ⟨u1, fun i hi => ?_⟩
  by_cases e : i = k
  · subst e
    have h2 := (h.2 i hi).2
    rw [hf.2.2] at h2
    rw [u2, u3]
    unfold freS freG
    by_cases h65 : gi = 65535
    · rw [if_pos h65, if_pos h65]; omega
    · rw [if_neg h65, if_neg h65]; omega
  · rw [u4 i hi e]
    have := h.2 i hi
    exact ⟨this.1, by omega⟩
theorem used_P (h : PIv D l c ps) (hk : (k : Int) < perS c) (hf : FreeAt D l c o k gi) (hu : UsedAt D D' l c o k gi) {p : Nat} (hp : p < 18446744073709551616) (hg : pG p = gi) : PIv D' l c (ps ++ [p]) := by
  obtain ⟨u1, u2, u3, u4⟩ := hu
  have key : ∀ q, pG q ≤ gi → bS (wd D' l (offN c k)) = 176 → pG q < bG (wd D' l (offN c k)) := by
    intro q hq h6
    rw [u2] at h6
    rw [u3]
    unfold freS at h6
    unfold freG
    by_cases h65 : gi = 65535
    · rw [if_pos h65] at h6; omega
    · rw [if_neg h65]; omega
  intro q hq
  rcases List.mem_append.1 hq with hq | hq
  · obtain ⟨h1, i, hi, h2⟩ := h q hq
    refine ⟨h1, i, hi, ?_⟩
    by_cases e : i = k
    · subst e
      have := h2 hf.2.1
      rw [hf.2.2] at this
      exact key q (by omega)
    · rw [u4 i hi e]; exact h2
  · simp only [List.mem_singleton] at hq
    subst hq
    exact ⟨hp, k, hk, key q (by omega)⟩
end
section
variable {w0 w w' : World} {Y Y' : Lay} {D D' : DS} {B l k T : Nat} {c o : Int} {g : Nat} {K : K1} {x4 : Value}
theorem ag_l1 (h : Loc w0 w Y D B l c o g) (hT : Y.tb 0 = T) {g0 : Nat} (hA : AIv D l c o g0) {A fa fb fc fg : Nat} (hfb : fb < 256) (hfc : fc < 256) (hfg : fg < 65536) (hcc : ((fb % 5 : Nat) : Int) = c) (hfm : fmC w0 A fa fb fc fg) {m : Nat} {xu : Value} {us : List Nat} (hus : RdS m w0 xu (u8L us)) (hu8 : ∀ x ∈ us, x < 256) (hln : us.length ≤ 30) (hx : D.exe ≤ 400)
    (H : ∀ w' Y' D' v' ps, Loc w0 w' Y' D' B l c o g → Y'.tb 0 = T → AIv D' l c o (g0 + us.length) → PIv D' l c ps → D'.exe ≤ 1000 → SlO w' 103 1 v' ps.length (ptL ps) → Out w0 Y' B v' → ps.length ≤ 30 → f10_k1 K (.pointer (some ⟨A, 0, none⟩)) x4 (.pointer (some ⟨B, 0, none⟩)) (.pointer (some ⟨T, 0, none⟩)) v' w') :
    f10_l1 K (.pointer (some ⟨A, 0, none⟩)) x4 (.pointer (some ⟨B, 0, none⟩)) (.pointer (some ⟨T, 0, none⟩)) (.slice none 0 0) xu (.int .i64 (us.length : Int)) (.int .i64 0) w := by
  have hL := h.L.gd.n
  have hlt := h.lt
  have hpp := perS_in h.c0 h.c5
  have hhe := fun w1 K => c_fheader fa fb fc fg hfb hfc hfg w1 K
  rw [hcc] at hhe
  obtain ⟨n, hnp⟩ : ∃ n : Nat, perS c = (n : Int) := ⟨(perS c).toNat, by omega⟩
  have hrp := c_rPer c
  rw [hnp] at hrp
  obtain ⟨ua, uc, rfl, _⟩ := id hus
  rw [show (u8L us).length = us.length by simp] at hus ⊢
  apply f10_l1_rule (I := fun x z w' => ∃ (r : Nat) (Y' : Lay) (D' : DS) (ps : List Nat), z = .int .i64 (r : Int) ∧ r ≤ us.length ∧ Loc w0 w' Y' D' B l c o g ∧ Y'.tb 0 = T ∧ AIv D' l c o (g0 + r) ∧ PIv D' l c ps ∧ D'.exe ≤ 400 + 4 * r ∧ SlO w' 103 1 x ps.length (ptL ps) ∧ Out w0 Y' B x ∧ ps.length ≤ r) (μ := fun _ z _ => us.length - (Go.RowKit.intOf z).toNat)
  · exact ⟨0, Y, D, [], rfl, by omega, h, hT, hA, fun q hq => (by cases hq), by omega, SlO.nil _ _ _, Out.nil _ _ _, by simp⟩
  · intros; rename_i x z w1 hI E1 hE
    obtain ⟨r, Y1, D1, ps, rfl, hr, h1, hT1, hA1, hP1, hx1, hv1, ov1, hpl⟩ := hI
    by_cases hrl : r < us.length
    · have hu := (hus.ext h1.L.ex).get (u8L_get hrl)
      obtain ⟨sb, so, sc, ev1, huc⟩ := hu
      injection ev1 with ev1 _ _
      subst ev1
      have hub := hu8 us[r] (List.getElem_mem hrl)
      generalize us[r] = u at huc hub
      have e1 : ((u : Int) % (n : Int)) = ((u % n : Nat) : Int) := by omega
      have hk : ((u % n : Nat) : Int) < perS c := by rw [hnp]; have := Nat.mod_lt u (show 0 < n by omega); omega
      generalize u % n = k at *
      have hS := hA1.1
      have hsb := hS.sndB h.c0 h.c5 k hk
      have hpo := pOff_bd (l := l) (c := c) (i := k) (by omega) h.c0 h.c5 hk
      have a0 := h1.L.ex.cell_some hfm.1; have a1 := h1.L.ex.cell_some hfm.2.1; have a2 := h1.L.ex.cell_some hfm.2.2.1; have a3 := h1.L.ex.cell_some hfm.2.2.2
      have ltA := lt_of_cell a0
      have ltu := lt_of_cell huc
      have hB1 := h1.ltB
      have ob1 := h1.cells; have c0 := ob1.1; have c1 := ob1.2.1; have c2 := ob1.2.2.1; have c3 := ob1.2.2.2.1; have c4 := ob1.2.2.2.2
      rcases (hA1.2 k hk).1 with hs6 | hs8
      · have hF : FreeAt D1 l c o k (bG (wd D1 l (offN c k))) := ⟨hS, hs6, rfl⟩
        have hg16 := bG_lt (wd D1 l (offN c k))
        have hPt : ∀ (w1 : World) (K : K1), Loc w0 w1 Y1 D1 B l c o g → (∀ w', Ext w1 w' → K (pE (ptrN (pOff l c k) (bG (wd D1 l (offN c k))) 64) 0) w') → callS Tryz.prog 55 #[chV Y1 l c o g, .int .i64 (k : Int), .int .u8 ((64 : Nat) : Int)] w1 K := fun w1 K x hk2 => by
          refine k_Pointer x.cx x.on.err o g k 64 (by omega) K (fun h => absurd ⟨by omega, hk⟩ h) (fun j hj hp1 hn1 => ?_) (fun j hj hp1 hn1 hs => ?_) (fun j hj hp1 hn1 hs => ?_) (fun j hj hp1 hn1 hs hk => ?_) (fun j hj hp1 hn1 hs hk0 hk1 => ?_)
          all_goals obtain rfl : k = j := by omega
          · exact absurd hsb hn1
          · omega
          · omega
          · omega
          · exact hk2
        have hptr := ptr_bd (pOff l c k) (bG (wd D1 l (offN c k))) 64 hpo.2.1 hg16 (by omega) hpo.2.2 hpo.1
        have hptG := pG_ptr (pOff l c k) (bG (wd D1 l (offN c k))) 64 hpo.2.1 hg16
        generalize ptrN (pOff l c k) (bG (wd D1 l (offN c k))) 64 = P at *
        have tail : ∀ w2 v2, Loc w0 w2 Y1 D1 B l c o g → SlO w2 103 1 v2 (ps ++ [P]).length (ptL (ps ++ [P])) → Out w0 Y1 B v2 → f10_l3 K E1 (.pointer (some ⟨A, 0, none⟩)) x4 (.pointer (some ⟨B, 0, none⟩)) (.pointer (some ⟨T, 0, none⟩)) v2 (.int .i64 (k : Int)) (.slice (some ⟨sb, so, none⟩) us.length uc) (.int .i64 (us.length : Int)) (.int .i64 (r : Int)) (.int .i64 0) w2 := by
          intro w2 v2 h2 hv2 ov2
          refine ag_l3 h2 hT1 (by omega) hk _ hg16 hF (by omega) hv2 ov2 (fun w3 Y3 D3 h3 hT3 hU hx3 hv3 ov3 => ?_)
          rw [f10_k3_eq]
          unfold f10_k3_t
          simp (disch := first | omega | simp only [RO] | (simp only [RZ] <;> omega) | fail) only [↓RBp, ↓RA, ↓reduceIte, Nat.reduceAdd, Nat.reduceMul, Nat.reduceEqDiff, RB, RX, RA2]
          apply hE
          · exact ⟨r + 1, Y3, D3, ps ++ [P], by simp, by omega, h3, hT3, used_A hA1 hk hF hU, used_P hP1 hk hF hU (by omega) hptG, by omega, hv3, ov3, by simp; omega⟩
          · simp [Go.RowKit.intOf]; omega
        unfold f10_l1_t
        simp (disch := first | omega | simp only [RO] | (simp only [RZ] <;> omega) | fail) only [↓RBp, ↓RA, ↓reduceIte, Nat.reduceAdd, Nat.reduceMul, Nat.reduceEqDiff, RB, RX, RA2, huc, a0, a1, a2, a3, hhe, hrp, e1, c0, c1, c2, c3, c4]
        refine hPt _ _ (h1.ext (by repeat (first | (with_reducible first | refine Sh.eB ?_ (by first | omega | (simp only [RZ] <;> omega)) _ | assumption | exact Sh.eR _ | refine Sh.eA ?_ _ | refine Sh.eD ?_ | refine Sh.eT ?_ (by assumption)) | exact Sh.eR _))) (fun w2 e2 => ?_)
        have e12 : Ext w1 w2 := Ext.trans (by repeat (first | (with_reducible first | refine Sh.eB ?_ (by first | omega | (simp only [RZ] <;> omega)) _ | assumption | exact Sh.eR _ | refine Sh.eA ?_ _ | refine Sh.eD ?_ | refine Sh.eT ?_ (by assumption)) | exact Sh.eR _)) e2
        have h2 := h1.ext e12
        have nt2 : ∀ x, w2.heap.size ≤ x → ¬ Y1.F x := fun x hx hf => by have := h2.L.dv.lt hf; omega
        have hB2 := h2.ltB
        obtain ⟨pa, pc, rfl, hpc⟩ := hv1.isS'
        simp (disch := first | omega | simp only [RO] | (simp only [RZ] <;> omega) | fail) only [↓RBp, ↓RA, ↓reduceIte, Nat.reduceAdd, Nat.reduceMul, Nat.reduceEqDiff, RB, RX, RA2]
        refine app_new elPtr (w0 := w0) ((hv1.ext e12).ext (by repeat (first | (with_reducible first | refine Sh.eB ?_ (by first | omega | (simp only [RZ] <;> omega)) _ | assumption | exact Sh.eR _ | refine Sh.eA ?_ _ | refine Sh.eD ?_ | refine Sh.eT ?_ (by assumption)) | exact Sh.eR _))) (Frm.of_ext (h2.L.ex.trans (by repeat (first | (with_reducible first | refine Sh.eB ?_ (by first | omega | (simp only [RZ] <;> omega)) _ | assumption | exact Sh.eR _ | refine Sh.eA ?_ _ | refine Sh.eD ?_ | refine Sh.eT ?_ (by assumption)) | exact Sh.eR _)))) (fun b hb => (ov1 b hb).1) (m := 1) (news := [u64 P]) rfl ?_ rfl (by omega) (by omega) (by omega) (fun v' w4 hsp hf4 n4 hfr4 hb4 => ?_)
        · intro j u hj
          obtain ⟨rfl, rfl⟩ := one_get hj
          simp (disch := first | omega | simp only [RO] | (simp only [RZ] <;> omega) | fail) only [↓RBp, ↓RA, ↓reduceIte, Nat.reduceAdd, Nat.reduceMul, Nat.reduceEqDiff, RB, RX, RA2]
        have h4 := (h2.ext (Ext.alloc_self w2 (.cells #[u64 P] 103))).frm hfr4 (fun b hb => ov1 b hb)
        rw [e1]
        refine tail w4 v' h4 (by rw [List.length_append, ptL, List.map_append]; exact hsp) (fun b hb => ?_)
        rcases hb4 b hb with e | e
        · exact ov1 b e
        · rw [size_alloc] at e
          exact ⟨n4 b hb, nt2 b (by omega), by omega⟩
      · have hPt : ∀ (w1 : World) (K : K1), Loc w0 w1 Y1 D1 B l c o g → (∀ w', Ext w1 w' → K (pE 0 12) w') → callS Tryz.prog 55 #[chV Y1 l c o g, .int .i64 (k : Int), .int .u8 ((64 : Nat) : Int)] w1 K := fun w1 K x hk2 => by
          refine k_Pointer x.cx x.on.err o g k 64 (by omega) K (fun h => absurd ⟨by omega, hk⟩ h) (fun j hj hp1 hn1 => ?_) (fun j hj hp1 hn1 hs => ?_) (fun j hj hp1 hn1 hs => ?_) (fun j hj hp1 hn1 hs hk => ?_) (fun j hj hp1 hn1 hs hk0 hk1 => ?_)
          all_goals obtain rfl : k = j := by omega
          · exact absurd hsb hn1
          · exact hk2
          · omega
          · omega
          · omega
        unfold f10_l1_t
        simp (disch := first | omega | simp only [RO] | (simp only [RZ] <;> omega) | fail) only [↓RBp, ↓RA, ↓reduceIte, Nat.reduceAdd, Nat.reduceMul, Nat.reduceEqDiff, RB, RX, RA2, huc, a0, a1, a2, a3, hhe, hrp, e1, c0, c1, c2, c3, c4]
        refine hPt _ _ (h1.ext (by repeat (first | (with_reducible first | refine Sh.eB ?_ (by first | omega | (simp only [RZ] <;> omega)) _ | assumption | exact Sh.eR _ | refine Sh.eA ?_ _ | refine Sh.eD ?_ | refine Sh.eT ?_ (by assumption)) | exact Sh.eR _))) (fun w2 e2 => ?_)
        have e12 : Ext w1 w2 := Ext.trans (by repeat (first | (with_reducible first | refine Sh.eB ?_ (by first | omega | (simp only [RZ] <;> omega)) _ | assumption | exact Sh.eR _ | refine Sh.eA ?_ _ | refine Sh.eD ?_ | refine Sh.eT ?_ (by assumption)) | exact Sh.eR _)) e2
        simp (disch := first | omega | simp only [RO] | (simp only [RZ] <;> omega) | fail) only [↓RBp, ↓RA, ↓reduceIte, Nat.reduceAdd, Nat.reduceMul, Nat.reduceEqDiff, RB, RX, RA2, f10_k3_eq, f10_k3_t]
        apply hE
        · exact ⟨r + 1, Y1, D1, ps, by simp, by omega, h1.ext e12, hT1, ⟨hA1.1, fun i hi => ⟨(hA1.2 i hi).1, by have := (hA1.2 i hi).2; omega⟩⟩, hP1, by omega, hv1.ext e12, ov1, by omega⟩
        · simp [Go.RowKit.intOf]; omega
    · have : r = us.length := by omega
      subst this
      unfold f10_l1_t
      simp (disch := first | omega | simp only [RO] | (simp only [RZ] <;> omega) | fail) only [↓RBp, ↓RA, ↓reduceIte, Nat.reduceAdd, Nat.reduceMul, Nat.reduceEqDiff, RB, RX, RA2]
      exact H _ _ _ _ ps h1 hT1 hA1 hP1 (by omega) hv1 ov1 (by omega)
end
end Go.Proofs.YtaeopkhdokaaoaaGreatDoor
namespace Go.Proofs.YtaeopkhdokaaoaaGreatDoor
open Go Go.Sh
set_option maxRecDepth 100000
set_option maxHeartbeats 8000000
set_option linter.unusedSimpArgs false
set_option linter.unusedVariables false
section
variable {w w' : World} {Y Y' : Lay} {D D' : DS} {c o : Int} {g : Nat}
theorem eqHd (x y : Operand) (a b : Int) (c : Nat) (w : World) : (binM .eql 24 x y (.agg #[.int .i64 a, .int .i64 b, .int .u16 (c : Int)]) (.agg #[.int .i64 a, .int .i64 b, .int .u16 (c : Int)])).run Tryz.prog w = .ok (.bool true) w := by
  have h := run_st_eql (P := Tryz.prog) (t := 24) (n := 3) (by kernel_rfl) x y [.int .i64 a, .int .i64 b, .int .u16 (c : Int)] [.int .i64 a, .int .i64 b, .int .u16 (c : Int)] rfl (by simp [kin]) w
  have e : eqL [Value.int .i64 a, .int .i64 b, .int .u16 (c : Int)] [.int .i64 a, .int .i64 b, .int .u16 (c : Int)] = true := by simp [eqL]
  rw [e] at h
  exact h
theorem eqRh (x y : Operand) (a b : Int) (c : Nat) (w : World) : (binM .eql 35 x y (.agg #[.int .i64 a, .int .i64 b, .int .u16 (c : Int)]) (.agg #[.int .i64 a, .int .i64 b, .int .u16 (c : Int)])).run Tryz.prog w = .ok (.bool true) w := by
  have h := run_st_eql (P := Tryz.prog) (t := 35) (n := 3) (by kernel_rfl) x y [.int .i64 a, .int .i64 b, .int .u16 (c : Int)] [.int .i64 a, .int .i64 b, .int .u16 (c : Int)] rfl (by simp [kin]) w
  have e : eqL [Value.int .i64 a, .int .i64 b, .int .u16 (c : Int)] [.int .i64 a, .int .i64 b, .int .u16 (c : Int)] = true := by simp [eqL]
  rw [e] at h
  exact h
theorem evHd (x y : Operand) (a b : Int) (c : Nat) (w : World) (k : K1) : ev Tryz.prog (binM .eql 24 x y (.agg #[.int .i64 a, .int .i64 b, .int .u16 (c : Int)]) (.agg #[.int .i64 a, .int .i64 b, .int .u16 (c : Int)])) w k = k (.bool true) w := ev_of_run (eqHd x y a b c w) k
theorem evRh (x y : Operand) (a b : Int) (c : Nat) (w : World) (k : K1) : ev Tryz.prog (binM .eql 35 x y (.agg #[.int .i64 a, .int .i64 b, .int .u16 (c : Int)]) (.agg #[.int .i64 a, .int .i64 b, .int .u16 (c : Int)])) w k = k (.bool true) w := ev_of_run (eqRh x y a b c w) k
theorem rdRh (x y : Operand) (a b : Int) (c : Nat) (w : World) (k : Value → Prop) : rd Tryz.prog (binM .eql 35 x y (.agg #[.int .i64 a, .int .i64 b, .int .u16 (c : Int)]) (.agg #[.int .i64 a, .int .i64 b, .int .u16 (c : Int)])) w k = k (.bool true) := rd_of_run (eqRh x y a b c w) k
theorem rl_eq (x : Nat) (hx : x < 18446744073709551616) : hdOk x = (rightB (hC x) (hO x) (gX x) && decide (x = sealN (hdX (hC x) (hO x) (gX x)))) := by
  have hg : gX x < 65536 := by unfold gX; omega
  have hc : -1 ≤ hC x ∧ hC x ≤ 14 := by unfold hC; omega
  have ho : -1 ≤ hO x ∧ hO x ≤ 14 := by unfold hO; omega
  cases hb : (rightB (hC x) (hO x) (gX x) && decide (x = sealN (hdX (hC x) (hO x) (gX x)))) with
  | true =>
    simp only [Bool.and_eq_true, decide_eq_true_eq] at hb
    obtain ⟨hr, hs⟩ := hb
    simp only [rightB, Bool.and_eq_true, Bool.not_eq_true', decide_eq_false_iff_not, Bool.or_eq_true, decide_eq_true_eq] at hr
    obtain ⟨hg0, hr⟩ := hr
    rw [hs]
    rcases hr with ⟨h1, h2⟩ | h
    · rw [h1, h2]; exact (hd_free hg0 hg).1
    · simp only [fmtB, Bool.and_eq_true, decide_eq_true_eq] at h
      exact (hd_ok h.1.1.1 h.1.1.2 h.1.2 h.2 hg0 hg).1
  | false =>
    cases hh : hdOk x with
    | false => rfl
    | true =>
      exfalso
      simp only [hdOk, Bool.and_eq_true, Bool.not_eq_true', decide_eq_false_iff_not, Bool.or_eq_true, decide_eq_true_eq] at hh
      obtain ⟨⟨⟨h1, h2⟩, h3⟩, h4⟩ := hh
      have hS : sealN (x % 4294967296) = x := by simpa [isS] using h1
      have hy : x % 4294967296 = hdX (hC x) (hO x) (gX x) := by
        unfold hdX
        rcases h4 with ⟨a, b⟩ | h
        · rw [if_neg (by omega)]
          unfold hC at a; unfold hO at b; unfold sX at h2; unfold gX
          omega
        · simp only [fmtB, Bool.and_eq_true, decide_eq_true_eq] at h
          rw [if_pos h.1.1.1]
          unfold sX at h2
          unfold hC hO gX
          omega
      rw [hy] at hS
      have hr : rightB (hC x) (hO x) (gX x) = true := by
        rcases h4 with ⟨a, b⟩ | h
        · have a' : hC x = -1 := by omega
          have b' : hO x = -1 := by omega
          simp [rightB, h3, a', b']
        · simp [rightB, h3, h]
      rw [hr, ← hS] at hb
      simp only [Bool.true_and, decide_eq_false_iff_not] at hb
      apply hb
      rw [hS]; exact hS.symm
theorem k_rLook (x : Nat) (hx : x < 18446744073709551616) (K : K1) (hK : ∀ w', Ext w w' → K (.tuple #[.agg #[.int .i64 (hC x), .int .i64 (hO x), .int .u16 (gX x : Int)], .bool (hdOk x)]) w') : callS Tryz.prog 29 #[.int .u64 (x : Int)] w K := by
  have e1 : ((x / 2 ^ 16 % 16 : Nat) : Int) - 1 = hC x := rfl
  have e2 : ((x / 2 ^ 20 % 16 : Nat) : Int) - 1 = hO x := rfl
  have e3 : x % 65536 = gX x := rfl
  have hg : gX x < 65536 := by unfold gX; omega
  rw [rl_eq x hx] at hK
  have hr : ∀ (w2 : World) (K : K1), callS Tryz.prog 18 #[.agg #[.int .i64 (hC x), .int .i64 (hO x), .int .u16 (gX x : Int)]] w2 K = K (.bool (rightB (hC x) (hO x) (gX x))) (w2.alloc (rhO (hC x) (hO x) (gX x))) := fun w2 K => c_rRight _ _ _ w2 K
  have hf : rightB (hC x) (hO x) (gX x) = true → ∀ (w2 : World) (K : K1), callS Tryz.prog 16 #[.agg #[.int .i64 (hC x), .int .i64 (hO x), .int .u16 (gX x : Int)]] w2 K = K (.int .u64 ((sealN (hdX (hC x) (hO x) (gX x)) : Nat) : Int)) (w2.alloc (rhO (hC x) (hO x) (gX x))) := fun h w2 K => by
    refine c_rFirst _ _ _ w2 K hg ?_
    simp only [rightB, fmtB, Bool.and_eq_true, Bool.not_eq_true', decide_eq_false_iff_not, Bool.or_eq_true, decide_eq_true_eq] at h
    rcases h.2 with h | h
    · exact .inl h
    · exact .inr ⟨h.1.1.1, h.1.1.2, h.1.2, h.2⟩
  have b1 : -1 ≤ hC x ∧ hC x ≤ 14 := by unfold hC; omega
  have b2 : -1 ≤ hO x ∧ hO x ≤ 14 := by unfold hO; omega
  refine f29_call _ _ _ ?_
  unfold f29_t
  generalize hC x = cc at *
  generalize hO x = oo at *
  generalize gX x = gg at *
  cases hrb : rightB cc oo gg with
  | false =>
    rw [hrb] at hr hK
    rw [Bool.false_and] at hK
    (repeat' (first | (with_reducible refine brS_mk (fun _ => ?_) (fun _ => ?_)) | (with_reducible refine And.intro ?_ ?_) | (simp (disch := first | omega | simp only [RO] | (simp only [RZ] <;> omega) | (with_reducible (repeat (first | assumption | exact Ext.refl _ | refine Ext.alloc ?_ _ | refine Ext.drew ?_ | refine Ext.trans ?_ (by assumption)))) | fail) only [↓RBp, ↓RA, ↓reduceIte, Nat.reduceAdd, Nat.reduceMul, Nat.reduceEqDiff, RB, RX, RA2, e1, e2, e3, hr])))
    exact hK _ (by repeat (first | (with_reducible first | refine Sh.eB ?_ (by first | omega | (simp only [RZ] <;> omega)) _ | assumption | exact Sh.eR _ | refine Sh.eA ?_ _ | refine Sh.eD ?_ | refine Sh.eT ?_ (by assumption)) | exact Sh.eR _))
  | true =>
    have hf := hf hrb
    rw [hrb] at hr hK
    rw [Bool.true_and] at hK
    (repeat' (first | (with_reducible refine brS_mk (fun _ => ?_) (fun _ => ?_)) | (with_reducible refine And.intro ?_ ?_) | (simp (disch := first | omega | simp only [RO] | (simp only [RZ] <;> omega) | (with_reducible (repeat (first | assumption | exact Ext.refl _ | refine Ext.alloc ?_ _ | refine Ext.drew ?_ | refine Ext.trans ?_ (by assumption)))) | fail) only [↓RBp, ↓RA, ↓reduceIte, Nat.reduceAdd, Nat.reduceMul, Nat.reduceEqDiff, RB, RX, RA2, e1, e2, e3, hr, hf])))
    exact hK _ (by repeat (first | (with_reducible first | refine Sh.eB ?_ (by first | omega | (simp only [RZ] <;> omega)) _ | assumption | exact Sh.eR _ | refine Sh.eA ?_ _ | refine Sh.eD ?_ | refine Sh.eT ?_ (by assumption)) | exact Sh.eR _))
end
end Go.Proofs.YtaeopkhdokaaoaaGreatDoor
namespace Go.Proofs.YtaeopkhdokaaoaaGreatDoor
open Go Go.Sh
set_option maxRecDepth 100000
set_option maxHeartbeats 4000000
set_option linter.unusedSimpArgs false
set_option linter.unusedVariables false
section
variable {D : DS} {l G : Nat} {c o : Int}
theorem alF_of : ∀ {n : Nat}, (∀ i, i < n → okF D l c i = true) → alF D l c n = true := by
  intro n
  induction n with
  | zero => intro _; rfl
  | succ n ih => intro h; simp only [alF, ih (fun i hi => h i (by omega)), h n (by omega)]; rfl
theorem alF_ok {n : Nat} (h : alF D l c n = true) (i : Nat) (hi : i < n) : okF D l c i = true := by
  cases hh : okF D l c i with
  | true => rfl
  | false => rw [alF_no hi hh] at h; cases h
theorem mxG_le : ∀ (n i : Nat), i < n → bG (wd D l (offN c i)) ≤ mxG D l c n := by
  intro n
  induction n with
  | zero => intro i hi; omega
  | succ n ih =>
    intro i hi
    simp only [mxG]
    by_cases e : i = n
    · subst e; split <;> omega
    · have := ih i (by omega)
      split <;> omega
theorem mxG_lt : ∀ (n : Nat), mxG D l c n < 65536 := by
  intro n
  induction n with
  | zero => simp [mxG]
  | succ n ih =>
    simp only [mxG]
    have := bG_lt (wd D l (offN c n))
    split <;> omega
theorem okF_parts {i : Nat} (h : okF D l c i = true) : bS (wd D l (offN c i)) = 176 ∧ bG (wd D l (offN c i)) ≠ 0 := by
  unfold okF at h
  simp only [Bool.and_eq_true, decide_eq_true_eq, Bool.not_eq_true', decide_eq_false_iff_not] at h
  exact ⟨h.2.2.1, h.2.2.2⟩
theorem okF_of (hs : Snd D l c o) {i : Nat} (hi : (i : Int) < perS c) (hp : perS c ≤ 64) (h6 : bS (wd D l (offN c i)) = 176) : okF D l c i = true := by
  have hb := hs.bit i (by omega)
  have hg := good_g (hs.gd i hi)
  rw [decide_eq_true hi, h6] at hb
  unfold okF
  rw [hs.sl i hi, hb, h6]
  simp [hg]
theorem next_no (hA : AIv D l c o G) (c0 : 0 ≤ c) (c5 : c < 5) (h : alF D l c (perS c).toNat = false) : 65535 ≤ G := by
  have hp := perS_in c0 c5
  have : ¬ ∀ i, i < (perS c).toNat → okF D l c i = true := fun hh => by rw [alF_of hh] at h; cases h
  refine Classical.byContradiction (fun hG => this (fun i hi => ?_))
  have h1 := hA.2 i (by omega)
  rcases h1.1 with h6 | h8
  · exact okF_of hA.1 (by omega) (by omega) h6
  · have hg := hA.1.gd i (by omega)
    rw [h8] at hg
    have : bG (wd D l (offN c i)) = 65535 := by
      unfold goodB at hg
      simp at hg; exact hg.1
    omega
theorem cnt_zero {n : Nat} (h : ∀ i, i < n → bS (wd D l (offN c i)) = 176) : cntN D l c n = 0 := by
  induction n with
  | zero => rfl
  | succ n ih =>
    simp only [cntN, ih (fun i hi => h i (by omega))]
    have : mkB D l c (n : Int) 177 = false := by
      unfold mkB
      rw [Int.toNat_natCast, h n (by omega)]; simp
    rw [this]; simp
end
theorem evHdN (x y : Operand) (a b : Int) (c : Nat) (w : World) (k : K1) : ev Tryz.prog (binM .neq 24 x y (.agg #[.int .i64 a, .int .i64 b, .int .u16 (c : Int)]) (.agg #[.int .i64 a, .int .i64 b, .int .u16 (c : Int)])) w k = k (.bool false) w := by
  refine ev_of_run ?_ k
  have h := run_st_neq (P := Tryz.prog) (t := 24) (n := 3) (by kernel_rfl) x y [.int .i64 a, .int .i64 b, .int .u16 (c : Int)] [.int .i64 a, .int .i64 b, .int .u16 (c : Int)] rfl (by simp [kin]) w
  have e : eqL [Value.int .i64 a, .int .i64 b, .int .u16 (c : Int)] [.int .i64 a, .int .i64 b, .int .u16 (c : Int)] = true := by simp [eqL]
  rw [e] at h
  exact h
section
variable {w0 w w' : World} {Y Y' : Lay} {D D' : DS} {B l k T : Nat} {c o c2 o2 : Int} {g : Nat} {K : K1} {x4 : Value}
theorem Lk_Run (h : Loc w0 w Y D B l c o g) (hT : Y.tb 0 = T) {p : List Ins} {v : Value} (hS : SlO w 133 3 v p.length (inL p)) (ov : ∀ b, v.ownBlock = some b → ¬ Y.F b) (hp : ∀ i ∈ p, okI i) (hx : D.exe + p.length < 1099511627775) (hD : D' = D.run 0 p) (he : D'.err 0 = 0) (K : K1) (hK : ∀ w' Y', Stp w Y w' Y' D' → Y'.tb 0 = T → K (.int .i64 0) w') :
    callS Tryz.prog 62 #[v, .iface 48 (.pointer (some ⟨T, 0, none⟩))] w K := by
  subst hT; subst hD
  refine k_Run h.L.dv h.L.gd 0 (by omega) p v hS ov hp hx K (fun w' Y' st => ?_)
  rw [he]
  exact hK w' Y' st (by rw [st.tb])
theorem Lk_Look (h : Dv w Y D) (gd : Good D) (hG : Glob w) (on : On D) (hl : l + 32 ≤ D.n) (hT : Y.tb 0 = T) {gen : Nat} (hg0 : gen ≠ 0) (hg : gen < 65536) (hw : wd D l 0 = sealN (hdX (-1) (-1) gen)) (K : K1) (hK : ∀ w', Ext w w' → K (.tuple #[.agg #[.int .i64 (-1), .int .i64 (-1), .int .u16 (gen : Int)], .int .i64 0]) w') :
    callS Tryz.prog 26 #[.iface 48 (.pointer (some ⟨T, 0, none⟩)), .int .i64 (l : Int)] w K := by
  subst hT
  have hf := hd_free hg0 hg
  rw [← hw] at hf
  refine k_Look h gd hG on.off on.err l hl hf.1 K (fun w' e => ?_)
  rw [hf.2.1, hf.2.2.1, hf.2.2.2]
  exact hK w' e
theorem Lk_Open (h : Dv w Y D) (gd : Good D) (hG : Glob w) (on : On D) (hl : l + 32 ≤ D.n) (hT : Y.tb 0 = T) (c0 : 0 ≤ c) (c5 : c < 5) (o0 : 0 ≤ o) (o8 : o < 8) {gen : Nat} (hg0 : gen ≠ 0) (hg : gen < 65536) (hw : wd D l 0 = sealN (hdX c o gen)) (K : K1) (hK : ∀ w', Ext w w' → K (.tuple #[.agg #[.iface 48 (.pointer (some ⟨T, 0, none⟩)), .int .i64 (l : Int), .int .i64 c, .int .i64 o, .int .u16 (gen : Int)], .int .i64 0]) w') :
    callS Tryz.prog 27 #[.iface 48 (.pointer (some ⟨T, 0, none⟩)), .int .i64 (l : Int)] w K := by
  subst hT
  have hf := hd_ok c0 c5 o0 o8 hg0 hg
  rw [← hw] at hf
  refine k_OpenAt h gd hG on.off on.err l hl hf.1 K (fun w' e => ?_)
  rw [hf.2.1, hf.2.2.1, hf.2.2.2, if_neg (by omega)]
  exact hK w' e
theorem Loc.reopen (h : Loc w0 w Y D B l c o g) (hB0 : w0.heap.size ≤ B) (hT : Y.tb 0 = T) (c20 : 0 ≤ c2) (c25 : c2 < 5) (gen : Nat) : Loc w0 (((((w.setCell ⟨B, 0, none⟩ (.iface 48 (.pointer (some ⟨T, 0, none⟩)))).setCell ⟨B, 1, none⟩ (.int .i64 (l : Int))).setCell ⟨B, 2, none⟩ (.int .i64 c2)).setCell ⟨B, 3, none⟩ (.int .i64 o2)).setCell ⟨B, 4, none⟩ (.int .u16 (gen : Int))) Y D B l c2 o2 gen := by
  subst hT
  have f : Frm (fun b => b = B) w (((((w.setCell ⟨B, 0, none⟩ (.iface 48 (.pointer (some ⟨Y.tb 0, 0, none⟩)))).setCell ⟨B, 1, none⟩ (.int .i64 (l : Int))).setCell ⟨B, 2, none⟩ (.int .i64 c2)).setCell ⟨B, 3, none⟩ (.int .i64 o2)).setCell ⟨B, 4, none⟩ (.int .u16 (gen : Int))) := (by repeat (first | exact Frm.refl _ _ | with_reducible refine Frm.set ?_ _ (fun _ => rfl) | with_reducible refine Frm.alloc ?_ _ | with_reducible refine Frm.drew ?_))
  have b1 := ((((h.bx.set (.iface 48 (.pointer (some ⟨Y.tb 0, 0, none⟩))) (i := 0) (by omega)).set (.int .i64 (l : Int)) (i := 1) (by omega)).set (.int .i64 c2) (i := 2) (by omega)).set (.int .i64 o2) (i := 3) (by omega)).set (.int .u16 (gen : Int)) (i := 4) (by omega)
  refine ⟨⟨h.L.dv.frm f (fun b hb e => by subst e; exact h.nb hb), h.L.gd, Ext.frm h.L.ex f (fun x hx => by subst hx; exact hB0), h.L.nw⟩, b1.congr (fun i hi => ?_), h.nb, h.on, h.lt, h.gl, c20, c25⟩
  match i, hi with
  | 0, _ => rfl
  | 1, _ => rfl
  | 2, _ => rfl
  | 3, _ => rfl
  | 4, _ => rfl
theorem Lk_Count (h : Loc w0 w Y D B l c o g) (hT : Y.tb 0 = T) (hz : cntN D l c (perS c).toNat = 0) (K : K1) (hK : ∀ w', Ext w w' → K (.int .i64 0) w') : callS Tryz.prog 45 #[.agg #[.iface 48 (.pointer (some ⟨T, 0, none⟩)), .int .i64 (l : Int), .int .i64 c, .int .i64 o, .int .u16 (g : Int)]] w K := by
  subst hT
  refine k_Count h.cx o g K (fun w' e => ?_)
  rw [hz]; exact hK w' e
theorem Lk_Check (h : Loc w0 w Y D B l c o g) (hs : Snd D l c o) (hT : Y.tb 0 = T) (K : K1) (hK : ∀ w', Ext w w' → K (.int .i64 0) w') : callS Tryz.prog 51 #[.agg #[.iface 48 (.pointer (some ⟨T, 0, none⟩)), .int .i64 (l : Int), .int .i64 c, .int .i64 o, .int .u16 (g : Int)]] w K := by
  subst hT
  refine k_Check h.cx h.on.err o g K (fun w' e => ?_)
  rw [if_pos (hs.con h.L.gd h.lt h.c0 h.c5)]; exact hK w' e
theorem ag_l4 (h : Loc w0 w Y D B l c o g) {gen : Nat} (hgen : ∀ i : Nat, (i : Int) < perS c → bG (wd D l (offN c i)) = gen) {ps : List Nat} (hps : ∀ q ∈ ps, q < 18446744073709551616 ∧ pG q < gen) {v : Value} (hv : SlO w 103 1 v ps.length (ptL ps)) (hpl : ps.length ≤ 30) (hK : ∀ w', Ext w0 w' → K (.bool true) w') :
    f10_l4 K (.pointer (some ⟨B, 0, none⟩)) v (.int .i64 (ps.length : Int)) (.int .i64 0) w := by
  apply f10_l4_rule (I := fun z w' => ∃ j : Nat, z = .int .i64 (j : Int) ∧ j ≤ ps.length ∧ Ext w w') (μ := fun z _ => ps.length - (Go.RowKit.intOf z).toNat)
  · exact ⟨0, rfl, by omega, Ext.refl _⟩
  · intros; rename_i w1 hI E3 hE
    obtain ⟨j, rfl, hj, e1⟩ := hI
    by_cases hjl : j < ps.length
    · obtain ⟨b, ob, cap, rfl, _⟩ := hv.isS (by omega)
      have hc := (hv.ext e1).cell rfl (i := j) (u := u64 ps[j]) (by simp [hjl])
      obtain ⟨q1, q2⟩ := hps ps[j] (List.getElem_mem hjl)
      generalize ps[j] = q at hc q1 q2
      have h1 := h.ext e1
      have ob1 := h1.cells; have c0 := ob1.1; have c1 := ob1.2.1; have c2 := ob1.2.2.1; have c3 := ob1.2.2.2.1; have c4 := ob1.2.2.2.2
      have fin : ∀ w2, Ext w1 w2 → E3 (.int .i64 ((j + 1 : Nat) : Int)) w2 := fun w2 e2 => by
        apply hE
        · exact ⟨j + 1, rfl, by omega, e1.trans e2⟩
        · simp [Go.RowKit.intOf]; omega
      unfold f10_l4_t
      simp (disch := first | omega | simp only [RO] | (simp only [RZ] <;> omega) | fail) only [↓RBp, ↓RA, ↓reduceIte, Nat.reduceAdd, Nat.reduceMul, Nat.reduceEqDiff, RB, RX, RA2, hc, c0, c1, c2, c3, c4]
      refine k_Block h1.cx h1.on.err o g q q1 _ (fun _ w2 e2 => ?_) (fun _ hr w2 e2 => ?_) (fun _ _ k' _ ek hn w2 e2 => ?_) (fun _ _ k' _ ek hn _ w2 e2 => ?_) (fun _ _ k' hk' ek hn => ?_)
      · simp (disch := first | omega | simp only [RO] | (simp only [RZ] <;> omega) | fail) only [↓RBp, ↓RA, ↓reduceIte, Nat.reduceAdd, Nat.reduceMul, Nat.reduceEqDiff, RB, RX, RA2]
        exact fin _ e2
      · simp (disch := first | omega | simp only [RO] | (simp only [RZ] <;> omega) | fail) only [↓RBp, ↓RA, ↓reduceIte, Nat.reduceAdd, Nat.reduceMul, Nat.reduceEqDiff, RB, RX, RA2]
        exact fin _ e2
      · simp (disch := first | omega | simp only [RO] | (simp only [RZ] <;> omega) | fail) only [↓RBp, ↓RA, ↓reduceIte, Nat.reduceAdd, Nat.reduceMul, Nat.reduceEqDiff, RB, RX, RA2]
        exact fin _ e2
      · simp (disch := first | omega | simp only [RO] | (simp only [RZ] <;> omega) | fail) only [↓RBp, ↓RA, ↓reduceIte, Nat.reduceAdd, Nat.reduceMul, Nat.reduceEqDiff, RB, RX, RA2]
        exact fin _ e2
      · have := hn.2.2.2
        rw [hgen k' hk'] at this; omega
    · unfold f10_l4_t
      simp (disch := first | omega | simp only [RO] | (simp only [RZ] <;> omega) | fail) only [↓RBp, ↓RA, ↓reduceIte, Nat.reduceAdd, Nat.reduceMul, Nat.reduceEqDiff, RB, RX, RA2, f10_k4_eq, f10_k4_t]
      exact hK _ (h.L.ex.trans e1)
theorem ag_l5 (h : Loc w0 w Y D B l c o g) {ws : List (Nat × Nat)} (hok : ∀ x ∈ ws, x.1 < 18446744073709551616 ∧ x.2 < 18446744073709551616) (hx : D.exe < 1000000000) (hwl : ws.length < 1000) (u : Value) (hu : SlO w 37 2 u ws.length (wrL ws)) (ou : Out w0 Y B u) (hT : Y.tb 0 = T) {E1 : VP1} (x7 x10 x197 x198 : Value)
    (H : ∀ w' Y', Stp w Y w' Y' (D.strs ws) → f10_k5 K E1 x7 (.pointer (some ⟨T, 0, none⟩)) x10 x197 x198 w') :
    f10_l5 K E1 x7 (.pointer (some ⟨T, 0, none⟩)) x10 x197 x198 u (.int .i64 (ws.length : Int)) (.int .i64 0) w := by
  subst hT
  have gt : ∀ j, Good (D.strs (ws.take j)) := fun j => strs_good h.L.gd (fun x hx => hok x (mem_take hx))
  have xt : ∀ j, (D.strs (ws.take j)).exe ≤ D.exe + ws.length := fun j => by
    have := strs_exe D (ws.take j); rw [List.length_take] at this
    have := Nat.min_le_right j ws.length; omega
  apply f10_l5_rule (I := fun z w' => ∃ (j : Nat) (Y' : Lay), z = .int .i64 (j : Int) ∧ j ≤ ws.length ∧ Stp w Y w' Y' (D.strs (ws.take j))) (μ := fun z _ => ws.length - (Go.RowKit.intOf z).toNat)
  · exact ⟨0, Y, rfl, by omega, (Stp.refl h.L.dv).to (strs_zero _ _).symm⟩
  · intros; rename_i w1 hI E3 hE
    obtain ⟨j, Y1, rfl, hj, st⟩ := hI
    have tb : Y1.tb 0 = Y.tb 0 := by rw [st.tb]
    by_cases hjl : j < ws.length
    · have hxm := hok ws[j] (List.getElem_mem hjl)
      have htk := strs_take (D := D) (wr_get hjl)
      have xj := xt j
      obtain ⟨_, s1⟩ := ou.step hu st
      obtain ⟨b, ob, cap, rfl, hc1, hc2⟩ := wr_cells s1 hjl
      generalize ws[j] = x at hc1 hc2 hxm htk
      obtain ⟨xo, xv⟩ := x
      simp only at hc1 hc2 hxm htk
      unfold f10_l5_t
      simp (disch := first | omega | simp only [RO] | (simp only [RZ] <;> omega) | fail) only [↓RBp, ↓RA, ↓reduceIte, Nat.reduceAdd, Nat.reduceMul, Nat.reduceEqDiff, RB, RX, RA2, hc1, hc2]
      have stg := st.grow (Ext.alloc_self w1 (.cells #[.int .u64 (xo : Int), .int .u64 (xv : Int)] 37))
      rw [← tb]
      refine k_Store stg.dv (gt j) 0 (by omega) xo xv (by omega) _ (fun w2 Y2 st2 => ?_)
      simp (disch := first | omega | simp only [RO] | (simp only [RZ] <;> omega) | fail) only [↓RBp, ↓RA, ↓reduceIte, Nat.reduceAdd, Nat.reduceMul, Nat.reduceEqDiff, RB, RX, RA2]
      apply hE
      · exact ⟨j + 1, Y2, by simp, by omega, by rw [htk]; exact stg.trans st2⟩
      · simp [Go.RowKit.intOf]; omega
    · have : j = ws.length := by omega
      subst this
      rw [List.take_length] at st
      unfold f10_l5_t
      simp (disch := first | omega | simp only [RO] | (simp only [RZ] <;> omega) | fail) only [↓RBp, ↓RA, ↓reduceIte, Nat.reduceAdd, Nat.reduceMul, Nat.reduceEqDiff, RB, RX, RA2]
      exact H _ _ st
theorem ag_l2 (h : Loc w0 w Y D B l c o g) (hT : Y.tb 0 = T) (hs : Snd D l c o) {gen : Nat} (hall : ∀ i : Nat, (i : Int) < perS c → bS (wd D l (offN c i)) = 176 ∧ bG (wd D l (offN c i)) = gen) {ps : List Nat} (hps : ∀ q ∈ ps, q < 18446744073709551616 ∧ pG q < gen) {v : Value} (hv : SlO w 103 1 v ps.length (ptL ps)) (ov : Out w0 Y B v) (hpl : ps.length ≤ 30) (hx : D.exe ≤ 5000) {n : Nat} (hn : perS c = (n : Int)) (hK : ∀ w', Ext w0 w' → K (.bool true) w') :
    f10_l2 K (.pointer (some ⟨B, 0, none⟩)) (.pointer (some ⟨T, 0, none⟩)) v (.int .i64 (n : Int)) (.int .i64 0) w := by
  have hpp := perS_in h.c0 h.c5
  apply f10_l2_rule (I := fun z w' => ∃ (k : Nat) (Y' : Lay) (D' : DS), z = .int .i64 (k : Int) ∧ k ≤ n ∧ Loc w0 w' Y' D' B l c o g ∧ Y'.tb 0 = T ∧ Snd D' l c o ∧ (∀ i : Nat, (i : Int) < perS c → (k ≤ i → bS (wd D' l (offN c i)) = 176) ∧ bG (wd D' l (offN c i)) = gen) ∧ D'.exe ≤ 5000 + 2 * k ∧ SlO w' 103 1 v ps.length (ptL ps) ∧ Out w0 Y' B v) (μ := fun z _ => n - (Go.RowKit.intOf z).toNat)
  · exact ⟨0, Y, D, rfl, by omega, h, hT, hs, fun i hi => ⟨fun _ => (hall i hi).1, (hall i hi).2⟩, by omega, hv, ov⟩
  · intros; rename_i w1 hI E1 hE
    obtain ⟨k, Y1, D1, rfl, hk, h1, hT1, hs1, hal1, hx1, hv1, ov1⟩ := hI
    by_cases hkn : k < n
    · have hkp : (k : Int) < perS c := by omega
      have ha := act1 hkp 64 (by omega) (by omega)
      have hF : FreeAt D1 l c o k gen := ⟨hs1, (hal1 k hkp).1 (by omega), (hal1 k hkp).2⟩
      obtain ⟨ws, hw, hwl⟩ := take_act hF (by omega) hkp 64
      have hA := h1.acts hs1 ha.1 hw
      have hTk := took hkp (by omega) hF hA
      have hB1 := h1.ltB
      have hn1 := h1.L.gd.n
      subst hT1
      have ob2 := h1.cells; have c0 := ob2.1; have c1 := ob2.2.1; have c2 := ob2.2.2.1; have c3 := ob2.2.2.2.1; have c4 := ob2.2.2.2.2
      unfold f10_l2_t
      simp (disch := first | omega | simp only [RO] | (simp only [RZ] <;> omega) | fail) only [↓RBp, ↓RA, ↓reduceIte, Nat.reduceAdd, Nat.reduceMul, Nat.reduceEqDiff, RB, RX, RA2, c0, c1, c2, c3, c4]
      refine k_Actions (h1.ext (by repeat (first | (with_reducible first | refine Sh.eB ?_ (by first | omega | (simp only [RZ] <;> omega)) _ | assumption | exact Sh.eR _ | refine Sh.eA ?_ _ | refine Sh.eD ?_ | refine Sh.eT ?_ (by assumption)) | exact Sh.eR _))).cx h1.on.err o g [(k : Int)] [] [64] _ _ _ (m := w1.heap.size + 10) ⟨some ⟨_, 0, none⟩, 1, rfl, .inr ⟨_, _, rfl, by omega, ?_⟩⟩ ⟨some ⟨_, 0, none⟩, 1, rfl, .inr ⟨_, _, rfl, by omega, ?_⟩⟩ (RdS.nil _ _) (by simp) (by simp) (by simp) (fun k hk => by simp only [List.mem_singleton] at hk; omega) _ (fun hn => absurd ha.1 hn) (fun _ hn => by rw [hw] at hn; cases hn) (fun _ ws' hws v' w2 e2 hnv hsl => ?_)
      · intro j u hj
        obtain ⟨rfl, rfl⟩ := one_get hj
        simp (disch := first | omega | simp only [RO] | (simp only [RZ] <;> omega) | fail) only [↓RBp, ↓RA, ↓reduceIte, Nat.reduceAdd, Nat.reduceMul, Nat.reduceEqDiff, RB, RX, RA2]
      · intro j u hj
        obtain ⟨rfl, rfl⟩ := one_get hj
        simp (disch := first | omega | simp only [RO] | (simp only [RZ] <;> omega) | fail) only [↓RBp, ↓RA, ↓reduceIte, Nat.reduceAdd, Nat.reduceMul, Nat.reduceEqDiff, RB, RX, RA2]
      rw [hw] at hws; injection hws with hws; subst hws
      have e12 : Ext w1 w2 := Ext.trans (by repeat (first | (with_reducible first | refine Sh.eB ?_ (by first | omega | (simp only [RZ] <;> omega)) _ | assumption | exact Sh.eR _ | refine Sh.eA ?_ _ | refine Sh.eD ?_ | refine Sh.eT ?_ (by assumption)) | exact Sh.eR _)) e2
      obtain ⟨pa, pc, rfl, hpc⟩ := hsl.isS'
      simp (disch := first | omega | simp only [RO] | (simp only [RZ] <;> omega) | fail) only [↓RBp, ↓RA, ↓reduceIte, Nat.reduceAdd, Nat.reduceMul, Nat.reduceEqDiff, RB, RX, RA2]
      refine ag_l5 (h1.ext e12) (fun x hx => by have := hA.e.ok x hx; omega) (by omega) (by omega) _ hsl (Out.new h1 (fun b hb => Nat.le_trans (by simp only [RZ]; omega) (hnv b hb))) rfl _ _ _ _ (fun w3 Y3 st => ?_)
      obtain ⟨o3, s3⟩ := ov1.step (hv1.ext e12) st
      have h3 := (h1.ext e12).step st hA.gd hA.e.on hA.n
      rw [f10_k5_eq]
      unfold f10_k5_t
      simp (disch := first | omega | simp only [RO] | (simp only [RZ] <;> omega) | fail) only [↓RBp, ↓RA, ↓reduceIte, Nat.reduceAdd, Nat.reduceMul, Nat.reduceEqDiff, RB, RX, RA2]
      apply hE
      · refine ⟨k + 1, Y3, _, by simp, by omega, h3, by rw [st.tb], hA.snd, fun i hi => ?_, by have := hA.exe; omega, s3, o3⟩
        by_cases e : i = k
        · subst e; exact ⟨fun h => by omega, hTk.2.2.1⟩
        · rw [took_other hi e hA]
          exact ⟨fun h => (hal1 i hi).1 (by omega), (hal1 i hi).2⟩
      · simp [Go.RowKit.intOf]; omega
    · have hkn : k = n := by omega
      subst hkn
      obtain ⟨pa, pc, rfl, hpc⟩ := hv1.isS'
      unfold f10_l2_t
      simp (disch := first | omega | simp only [RO] | (simp only [RZ] <;> omega) | fail) only [↓RBp, ↓RA, ↓reduceIte, Nat.reduceAdd, Nat.reduceMul, Nat.reduceEqDiff, RB, RX, RA2, f10_k2_eq, f10_k2_t]
      exact ag_l4 h1 (fun i hi => (hal1 i hi).2) hps hv1 hpl hK
theorem ag_k1 (h : Loc w0 w Y D B l c o g) (hB0 : w0.heap.size ≤ B) (hT : Y.tb 0 = T) {U : Nat} (hU : U ≤ 30) (hA : AIv D l c o (g + U)) {ps : List Nat} (hP : PIv D l c ps) {A A2 fa fb fc fg ha hb hc hg : Nat} (hfa : fa < 256) (hfb : fb < 256) (hfc : fc < 256) (hfg : fg < 65536) (hl : fa % 9 = l) (hgg : genN fg = g) (hfm : fmC w0 A fa fb fc fg) (hhb : hb < 256) (hhc : hc < 256) (hhg : hg < 65536) (hc2 : ((hb % 5 : Nat) : Int) = c2) (ho2 : ((hc % 8 : Nat) : Int) = o2) (hfm2 : fmC w0 A2 ha hb hc hg) {v : Value} (hv : SlO w 103 1 v ps.length (ptL ps)) (ov : Out w0 Y B v) (hpl : ps.length ≤ 30) (hx : D.exe ≤ 1000) (hK : ∀ w', Ext w0 w' → K (.bool true) w') :
    f10_k1 K (.pointer (some ⟨A, 0, none⟩)) (.pointer (some ⟨A2, 0, none⟩)) (.pointer (some ⟨B, 0, none⟩)) (.pointer (some ⟨T, 0, none⟩)) v w := by
  have hL := h.L.gd.n
  have hlt := h.lt
  have hpp := perS_in h.c0 h.c5
  have c20 : 0 ≤ c2 := by omega
  have c25 : c2 < 5 := by omega
  have o20 : 0 ≤ o2 := by omega
  have o28 : o2 < 8 := by omega
  have hli := fun w1 K => c_fline fa fb fc fg hfa w1 K
  rw [hl] at hli
  have hhe := fun w1 K => c_fheader fa fb fc fg hfb hfc hfg w1 K
  have hhe2 := fun w1 K => c_fheader ha hb hc hg hhb hhc hhg w1 K
  rw [hc2, ho2] at hhe2
  rw [hgg] at hhe
  have hl9 : l < 9 := by omega
  have ob3 := h.cells; have c0 := ob3.1; have c1 := ob3.2.1; have c2' := ob3.2.2.1; have c3 := ob3.2.2.2.1; have c4 := ob3.2.2.2.2
  have nxt := next_no hA h.c0 h.c5
  have fcell := fun (w1 : World) (e : Ext w0 w1) => (⟨e.cell_some hfm.1, e.cell_some hfm.2.1, e.cell_some hfm.2.2.1, e.cell_some hfm.2.2.2⟩ : fmC w1 A fa fb fc fg)
  have fcell2 := fun (w1 : World) (e : Ext w0 w1) => (⟨e.cell_some hfm2.1, e.cell_some hfm2.2.1, e.cell_some hfm2.2.2.1, e.cell_some hfm2.2.2.2⟩ : fmC w1 A2 ha hb hc hg)
  have hGl := fun (w1 : World) (e : Ext w0 w1) => h.gl.ext e
  obtain ⟨n, hn⟩ : ∃ n : Nat, perS c = (n : Int) := ⟨(perS c).toNat, by omega⟩
  rcases Bool.eq_false_or_eq_true (alF D l c (perS c).toNat) with hal | hal
  rotate_left
  · have h65 := nxt hal
    have hge : (65505 : Int) ≤ (g : Int) := by omega
    have hNx : ∀ (K : K1), (∀ w', Ext w w' → K (.tuple #[.int .u16 ((0 : Nat) : Int), .bool false]) w') → callS Tryz.prog 43 #[chV Y l c o g] w K := fun K hk => k_Next h.cx o g K (fun w' e => by rw [hal, if_neg (by simp)]; exact hk w' e)
    rw [f10_k1_eq]
    unfold f10_k1_t
    simp (disch := first | omega | simp only [RO] | (simp only [RZ] <;> omega) | fail) only [↓RBp, ↓RA, ↓reduceIte, Nat.reduceAdd, Nat.reduceMul, Nat.reduceEqDiff, RB, RX, RA2, c0, c1, c2', c3, c4]
    refine hNx _ (fun w1 e1 => ?_)
    have ef := h.L.ex.trans e1
    have ob4 := fcell w1 ef; have f0 := ob4.1; have f1 := ob4.2.1; have f2 := ob4.2.2.1; have f3 := ob4.2.2.2
    have ltA := lt_of_cell f0
    simp (disch := first | omega | simp only [RO] | (simp only [RZ] <;> omega) | fail) only [↓RBp, ↓RA, ↓reduceIte, Nat.reduceAdd, Nat.reduceMul, Nat.reduceEqDiff, RB, RX, RA2, f0, f1, f2, f3, hhe]
    exact hK _ (ef.trans (by repeat (first | (with_reducible first | refine Sh.eB ?_ (by first | omega | (simp only [RZ] <;> omega)) _ | assumption | exact Sh.eR _ | refine Sh.eA ?_ _ | refine Sh.eD ?_ | refine Sh.eT ?_ (by assumption)) | exact Sh.eR _)))
  · have hmx := mxG_le (D := D) (l := l) (c := c) (perS c).toNat
    have hml := mxG_lt (D := D) (l := l) (c := c) (perS c).toNat
    have hm0 : mxG D l c (perS c).toNat ≠ 0 := by
      have h1 := (okF_parts (alF_ok hal 0 (by omega))).2
      have h2 := hmx 0 (by omega)
      omega
    have hps : ∀ q ∈ ps, q < 18446744073709551616 ∧ pG q < mxG D l c (perS c).toNat := fun q hq => by
      obtain ⟨h1, i, hi, h2⟩ := hP q hq
      have h3 := h2 (okF_parts (alF_ok hal i (by omega))).1
      have h4 := hmx i (by omega)
      exact ⟨h1, by omega⟩
    have hNx : ∀ (K : K1), (∀ w', Ext w w' → K (.tuple #[.int .u16 ((mxG D l c (perS c).toNat : Nat) : Int), .bool true]) w') → callS Tryz.prog 43 #[chV Y l c o g] w K := fun K hk => k_Next h.cx o g K (fun w' e => by rw [hal, if_pos rfl]; exact hk w' e)
    generalize mxG D l c (perS c).toNat = gen at *
    have hclr := clr_gen h.on h.L.gd hlt hml
    have hln := prog_len l (by omega) c20 c25 o2 gen
    have hex2 := run_exe 0 (clrI l gen) D
    obtain ⟨D2, hD2⟩ : ∃ D2, D2 = D.run 0 (clrI l gen) := ⟨_, rfl⟩
    rw [← hD2] at hclr hex2
    obtain ⟨on2, gd2, nn2, ok2, w02⟩ := hclr
    have hlt2 : l + 32 ≤ D2.n := by omega
    have hpl3 := plan_gen on2 gd2 hlt2 c20 c25 o20 o28 hm0 hml
    have hex3 := run_exe 0 (planI l c2 o2 gen) D2
    obtain ⟨D3, hD3⟩ : ∃ D3, D3 = D2.run 0 (planI l c2 o2 gen) := ⟨_, rfl⟩
    rw [← hD3] at hpl3 hex3
    obtain ⟨on3, gd3, nn3, ok3, snd3, w03, wat3⟩ := hpl3
    have hpp2 := perS_in c20 c25
    obtain ⟨n2, hn2⟩ : ∃ n : Nat, perS c2 = (n : Int) := ⟨(perS c2).toNat, by omega⟩
    have hrp2 := c_rPer c2
    rw [hn2] at hrp2
    have hal3 : ∀ i : Nat, (i : Int) < perS c2 → bS (wd D3 l (offN c2 i)) = 176 ∧ bG (wd D3 l (offN c2 i)) = gen := fun i hi => by
      rw [wat3 i hi]
      exact ⟨bS_blk hml (by omega) (by omega), bG_blk hml (by omega) (by omega)⟩
    have hcz : cntN D3 l c2 (perS c2).toNat = 0 := cnt_zero (fun i hi => (hal3 i (by omega)).1)
    rw [f10_k1_eq]
    unfold f10_k1_t
    simp (disch := first | omega | simp only [RO] | (simp only [RZ] <;> omega) | fail) only [↓RBp, ↓RA, ↓reduceIte, Nat.reduceAdd, Nat.reduceMul, Nat.reduceEqDiff, RB, RX, RA2, c0, c1, c2', c3, c4]
    refine hNx _ (fun w1 e1 => ?_)
    have h1 := h.ext e1
    have e01 := h1.L.ex
    have ob5 := fcell w1 e01; have f0 := ob5.1; have f1 := ob5.2.1; have f2 := ob5.2.2.1; have f3 := ob5.2.2.2
    have ltA := lt_of_cell f0
    simp (disch := first | omega | simp only [RO] | (simp only [RZ] <;> omega) | fail) only [↓RBp, ↓RA, ↓reduceIte, Nat.reduceAdd, Nat.reduceMul, Nat.reduceEqDiff, RB, RX, RA2, f0, f1, f2, f3, hli]
    refine k_Clear (hGl _ (e01.trans (by repeat (first | (with_reducible first | refine Sh.eB ?_ (by first | omega | (simp only [RZ] <;> omega)) _ | assumption | exact Sh.eR _ | refine Sh.eA ?_ _ | refine Sh.eD ?_ | refine Sh.eT ?_ (by assumption)) | exact Sh.eR _)))) l gen (by omega) hm0 hml _ (fun v2 w2 s2 e2 n2 => ?_)
    have e12 : Ext w1 w2 := Ext.trans (by repeat (first | (with_reducible first | refine Sh.eB ?_ (by first | omega | (simp only [RZ] <;> omega)) _ | assumption | exact Sh.eR _ | refine Sh.eA ?_ _ | refine Sh.eD ?_ | refine Sh.eT ?_ (by assumption)) | exact Sh.eR _)) e2
    have o2' := Out.new h1 (show NewV w1.heap.size v2 from fun b hb => Nat.le_trans (by simp only [RZ]; omega) (n2 b hb))
    simp (disch := first | omega | simp only [RO] | (simp only [RZ] <;> omega) | fail) only [↓RBp, ↓RA, ↓reduceIte, Nat.reduceAdd, Nat.reduceMul, Nat.reduceEqDiff, RB, RX, RA2]
    refine Lk_Run (h1.ext e12) hT s2 (fun b hb => (o2' b hb).2.1) ok2 (by omega) hD2 on2.err _ (fun w3 Y3 st3 hT3 => ?_)
    have h3 := (h1.ext e12).step st3 gd2 on2 nn2
    have sv3 := ov.step ((hv.ext e1).ext e12) st3
    have e03 := h3.L.ex
    have ob6 := fcell w3 e03; have f0 := ob6.1; have f1 := ob6.2.1; have f2 := ob6.2.2.1; have f3 := ob6.2.2.2
    have ltA3 := lt_of_cell f0
    simp (disch := first | omega | simp only [RO] | (simp only [RZ] <;> omega) | fail) only [↓RBp, ↓RA, ↓reduceIte, Nat.reduceAdd, Nat.reduceMul, Nat.reduceEqDiff, RB, RX, RA2, f0, f1, f2, f3, hli]
    refine Lk_Look (h3.L.dv.ext (by repeat (first | (with_reducible first | refine Sh.eB ?_ (by first | omega | (simp only [RZ] <;> omega)) _ | assumption | exact Sh.eR _ | refine Sh.eA ?_ _ | refine Sh.eD ?_ | refine Sh.eT ?_ (by assumption)) | exact Sh.eR _))) gd2 (hGl _ (e03.trans (by repeat (first | (with_reducible first | refine Sh.eB ?_ (by first | omega | (simp only [RZ] <;> omega)) _ | assumption | exact Sh.eR _ | refine Sh.eA ?_ _ | refine Sh.eD ?_ | refine Sh.eT ?_ (by assumption)) | exact Sh.eR _)))) on2 hlt2 hT3 hm0 hml w02 _ (fun w4 e4 => ?_)
    have e34 : Ext w3 w4 := Ext.trans (by repeat (first | (with_reducible first | refine Sh.eB ?_ (by first | omega | (simp only [RZ] <;> omega)) _ | assumption | exact Sh.eR _ | refine Sh.eA ?_ _ | refine Sh.eD ?_ | refine Sh.eT ?_ (by assumption)) | exact Sh.eR _)) e4
    have h4 := h3.ext e34
    have e04 := h4.L.ex
    have ob7 := fcell2 w4 e04; have q0 := ob7.1; have q1 := ob7.2.1; have q2 := ob7.2.2.1; have q3 := ob7.2.2.2
    have ltA4 := lt_of_cell q0
    have ob8 := fcell w4 e04; have f0 := ob8.1; have f1 := ob8.2.1; have f2 := ob8.2.2.1; have f3 := ob8.2.2.2
    have ltA5 := lt_of_cell f0
    (repeat' (first | (with_reducible refine brS_mk (fun _ => ?_) (fun _ => ?_)) | (with_reducible refine And.intro ?_ ?_) | (simp (disch := first | omega | simp only [RO] | (simp only [RZ] <;> omega) | (with_reducible (repeat (first | assumption | exact Ext.refl _ | refine Ext.alloc ?_ _ | refine Ext.drew ?_ | refine Ext.trans ?_ (by assumption)))) | fail) only [↓RBp, ↓RA, ↓reduceIte, Nat.reduceAdd, Nat.reduceMul, Nat.reduceEqDiff, RB, RX, RA2, evHdN, q0, q1, q2, q3, hhe2, f0, f1, f2, f3, hli])))
    refine k_Plan (hGl _ (e04.trans (by repeat (first | (with_reducible first | refine Sh.eB ?_ (by first | omega | (simp only [RZ] <;> omega)) _ | assumption | exact Sh.eR _ | refine Sh.eA ?_ _ | refine Sh.eD ?_ | refine Sh.eT ?_ (by assumption)) | exact Sh.eR _)))) l c2 o2 gen (by omega) c20 c25 o20 o28 hm0 hml _ (fun v5 w5 s5 e5 n5 => ?_)
    have e45 : Ext w4 w5 := Ext.trans (by repeat (first | (with_reducible first | refine Sh.eB ?_ (by first | omega | (simp only [RZ] <;> omega)) _ | assumption | exact Sh.eR _ | refine Sh.eA ?_ _ | refine Sh.eD ?_ | refine Sh.eT ?_ (by assumption)) | exact Sh.eR _)) e5
    have hH : Cells w5 w4.heap.size 24 3 (fun j => [Value.int .i64 c2, .int .i64 o2, .int .u16 (gen : Int)].getD j undef) := (Cells.new w4 [Value.int .i64 c2, .int .i64 o2, .int .u16 (gen : Int)] 24).ext (Ext.trans (by repeat (first | (with_reducible first | refine Sh.eB ?_ (by first | omega | (simp only [RZ] <;> omega)) _ | assumption | exact Sh.eR _ | refine Sh.eA ?_ _ | refine Sh.eD ?_ | refine Sh.eT ?_ (by assumption)) | exact Sh.eR _)) e5)
    have o5' := Out.new h4 (show NewV w4.heap.size v5 from fun b hb => Nat.le_trans (by simp only [RZ]; omega) (n5 b hb))
    simp (disch := first | omega | simp only [RO] | (simp only [RZ] <;> omega) | fail) only [↓RBp, ↓RA, ↓reduceIte, Nat.reduceAdd, Nat.reduceMul, Nat.reduceEqDiff, RB, RX, RA2]
    refine Lk_Run (h4.ext e45) hT3 s5 (fun b hb => (o5' b hb).2.1) ok3 (by omega) hD3 on3.err _ (fun w6 Y6 st6 hT6 => ?_)
    have h6 := (h4.ext e45).step st6 gd3 on3 nn3
    have sv6 := sv3.1.step ((sv3.2.ext e34).ext e45) st6
    have hH6 := hH.frm st6.frm (fun hf => by have := h4.L.dv.lt hf; omega)
    have e06 := h6.L.ex
    have ob9 := fcell w6 e06; have f0 := ob9.1; have f1 := ob9.2.1; have f2 := ob9.2.2.1; have f3 := ob9.2.2.2
    have ltA6 := lt_of_cell f0
    simp (disch := first | omega | simp only [RO] | (simp only [RZ] <;> omega) | fail) only [↓RBp, ↓RA, ↓reduceIte, Nat.reduceAdd, Nat.reduceMul, Nat.reduceEqDiff, RB, RX, RA2, f0, f1, f2, f3, hli]
    refine Lk_Open (h6.L.dv.ext (by repeat (first | (with_reducible first | refine Sh.eB ?_ (by first | omega | (simp only [RZ] <;> omega)) _ | assumption | exact Sh.eR _ | refine Sh.eA ?_ _ | refine Sh.eD ?_ | refine Sh.eT ?_ (by assumption)) | exact Sh.eR _))) gd3 (hGl _ (e06.trans (by repeat (first | (with_reducible first | refine Sh.eB ?_ (by first | omega | (simp only [RZ] <;> omega)) _ | assumption | exact Sh.eR _ | refine Sh.eA ?_ _ | refine Sh.eD ?_ | refine Sh.eT ?_ (by assumption)) | exact Sh.eR _)))) on3 (by omega) hT6 c20 c25 o20 o28 hm0 hml w03 _ (fun w7 e7 => ?_)
    have e67 : Ext w6 w7 := Ext.trans (by repeat (first | (with_reducible first | refine Sh.eB ?_ (by first | omega | (simp only [RZ] <;> omega)) _ | assumption | exact Sh.eR _ | refine Sh.eA ?_ _ | refine Sh.eD ?_ | refine Sh.eT ?_ (by assumption)) | exact Sh.eR _)) e7
    have h7 := h6.ext e67
    have hb7 := h7.bx
    have hz7 := hb7.frz
    have ob10 := h7.cells; have c0 := ob10.1; have c1 := ob10.2.1; have c2' := ob10.2.2.1; have c3 := ob10.2.2.2.1; have c4 := ob10.2.2.2.2
    have ob11 := cells5 hb7 (.iface 48 (.pointer (some ⟨T, 0, none⟩))) (.int .i64 (l : Int)) (.int .i64 c2) (.int .i64 o2) (.int .u16 (gen : Int)); have d0 := ob11.1; have d1 := ob11.2.1; have d2 := ob11.2.2.1; have d3 := ob11.2.2.2.1; have d4 := ob11.2.2.2.2
    simp (disch := first | omega | simp only [RO] | (simp only [RZ] <;> omega) | fail) only [↓RBp, ↓RA, ↓reduceIte, Nat.reduceAdd, Nat.reduceMul, Nat.reduceEqDiff, RB, RX, RA2, c0, c1, c2', c3, c4, hz7, d0, d1, d2, d3, d4]
    have neH : w4.heap.size ≠ B := by have := h4.ltB; omega
    have h8 := Loc.reopen (c2 := c2) (o2 := o2) h7 hB0 hT6 c20 c25 gen
    have hB7 := h7.ltB
    have hH8 := ((((((hH6.ext e67).set_ne (a := ⟨B, 0, none⟩) (.iface 48 (.pointer (some ⟨T, 0, none⟩))) neH).set_ne (a := ⟨B, 1, none⟩) (.int .i64 (l : Int)) neH).set_ne (a := ⟨B, 2, none⟩) (.int .i64 c2) neH).set_ne (a := ⟨B, 3, none⟩) (.int .i64 o2) neH).set_ne (a := ⟨B, 4, none⟩) (.int .u16 (gen : Int)) neH)
    have hne : ∀ b, v.ownBlock = some b → b ≠ B := fun b hb => (sv6.1 b hb).2.2
    have sv8 := (sv6.2.ext e67).of_heap (w' := (((((w7.setCell ⟨B, 0, none⟩ (.iface 48 (.pointer (some ⟨T, 0, none⟩)))).setCell ⟨B, 1, none⟩ (.int .i64 (l : Int))).setCell ⟨B, 2, none⟩ (.int .i64 c2)).setCell ⟨B, 3, none⟩ (.int .i64 o2)).setCell ⟨B, 4, none⟩ (.int .u16 (gen : Int)))) (fun b hb => by
      rw [heap_set_ne _ (hne b hb), heap_set_ne _ (hne b hb), heap_set_ne _ (hne b hb), heap_set_ne _ (hne b hb), heap_set_ne _ (hne b hb)])
    refine Lk_Count h8 hT6 hcz _ (fun w9 e9 => ?_)
    have h9 := h8.ext e9
    have hc9 := h9.cells
    rw [hT6] at hc9
    have ob12 := hc9; have c0 := ob12.1; have c1 := ob12.2.1; have c2' := ob12.2.2.1; have c3 := ob12.2.2.2.1; have c4 := ob12.2.2.2.2
    have ltB9 := h9.ltB
    simp (disch := first | omega | simp only [RO] | (simp only [RZ] <;> omega) | fail) only [↓RBp, ↓RA, ↓reduceIte, Nat.reduceAdd, Nat.reduceMul, Nat.reduceEqDiff, RB, RX, RA2, c0, c1, c2', c3, c4]
    refine Lk_Check h9 snd3 hT6 _ (fun w10 e10 => ?_)
    have hd0 : w10.cell? ⟨w4.heap.size, 0, none⟩ = some (.int .i64 c2) := ((hH8.ext e9).ext e10).cell (i := 0) (by omega)
    have ltH := lt_of_cell hd0
    simp (disch := first | omega | simp only [RO] | (simp only [RZ] <;> omega) | fail) only [↓RBp, ↓RA, ↓reduceIte, Nat.reduceAdd, Nat.reduceMul, Nat.reduceEqDiff, RB, RX, RA2, hd0, hrp2]
    exact ag_l2 (h9.ext e10) hT6 snd3 hal3 hps ((sv8.ext e9).ext e10) sv6.1 hpl (by omega) hn2 hK
end
end Go.Proofs.YtaeopkhdokaaoaaGreatDoor
namespace Go.Proofs.YtaeopkhdokaaoaaGreatDoor
open Go Go.Sh
set_option maxRecDepth 100000
set_option maxHeartbeats 4000000
set_option linter.unusedSimpArgs false
set_option linter.unusedVariables false
section
variable {w w' : World}
theorem law_again (hG : Glob w) (a b c g : Nat) (ha : a < 256) (hb : b < 256) (hc : c < 256) (hg : g < 65536) (p q r s : Nat) (hp : p < 256) (hq : q < 256) (hr : r < 256) (hs : s < 65536) {xu : Value} {us : List Nat} (hus : RdS w.heap.size w xu (u8L us)) (hu8 : ∀ x ∈ us, x < 256) (hln : us.length ≤ maxLen) (K : K1) (hK : ∀ w', Ext w w' → K (.bool true) w') :
    callS Tryz.prog 10 #[fmV a b c g, fmV p q r s, xu] w K := by
  have l8 : a % 9 ≤ 8 := by omega
  have c0 : (0 : Int) ≤ ((b % 5 : Nat) : Int) := by omega
  have c5 : ((b % 5 : Nat) : Int) < 5 := by omega
  have o0 : (0 : Int) ≤ ((c % 8 : Nat) : Int) := by omega
  have o8 : ((c % 8 : Nat) : Int) < 8 := by omega
  have hgn : genN g ≠ 0 ∧ genN g < 65536 := by unfold genN; split <;> omega
  have hfo := fun (w : World) (hG : Glob w) (K : K1) hK => k_fopen hG a b c g ha hb hc hg K hK
  obtain ⟨va, vc, rfl, _⟩ := id hus
  rw [show (u8L us).length = us.length by simp] at hus ⊢
  have hlm : us.length < 9223372036854775808 := by unfold maxLen at hln; omega
  generalize hgg : genN g = gg at *
  generalize hll : a % 9 = ll at *
  generalize hcc : ((b % 5 : Nat) : Int) = cc at *
  generalize hoo : ((c % 8 : Nat) : Int) = oo at *
  have hone := opened_on l8 c0 c5 o0 o8 hgn.2
  have hexe := (opened_exe l8 c0 c5 oo gg).1
  have hsnd := opened_snd l8 c0 c5 o0 o8 hgn.1 hgn.2
  have hn := opened_n ll cc oo gg
  have hA : AIv (DS.opened ll cc oo gg) ll cc oo gg := ⟨hsnd, fun i hi => by
    rw [fmt_at l8 c0 c5 o0 o8 hgn.2 i hi]
    exact ⟨.inl (bS_blk hgn.2 (by omega) (by omega)), by rw [bG_blk hgn.2 (by omega) (by omega)]; omega⟩⟩
  generalize DS.opened ll cc oo gg = D at *
  refine f10_call _ _ _ _ _ ?_
  unfold f10_t
  simp (disch := first | omega | simp only [RO] | (simp only [RZ] <;> omega) | fail) only [↓RBp, ↓RA, ↓reduceIte, Nat.reduceAdd, Nat.reduceMul, Nat.reduceEqDiff, RB, RX, RA2]
  refine k_awake (hG.ext (by repeat (first | (with_reducible first | refine Sh.eB ?_ (by first | omega | (simp only [RZ] <;> omega)) _ | assumption | exact Sh.eR _ | refine Sh.eA ?_ _ | refine Sh.eD ?_ | refine Sh.eT ?_ (by assumption)) | exact Sh.eR _))) _ (fun w1 he1 => ?_)
  have eQ : Ext ((w.alloc (fmO a b c g)).alloc (fmO p q r s)) w1 := he1
  have eA : Ext (w.alloc (fmO a b c g)) w1 := (Ext.alloc_self _ _).trans eQ
  have e01 : Ext w w1 := (Ext.alloc_self _ _).trans eA
  by_cases h6 : 30 < us.length
  · simp (disch := first | omega | simp only [RO] | (simp only [RZ] <;> omega) | fail) only [↓RBp, ↓RA, ↓reduceIte, Nat.reduceAdd, Nat.reduceMul, Nat.reduceEqDiff, RB, RX, RA2]
    refine k_awake (hG.ext e01) _ (fun w2 he2 => ?_)
    exact hK _ (e01.trans he2)
  · have ob1 := fmCells eA; have q0 := ob1.1; have q1 := ob1.2.1; have q2 := ob1.2.2.1; have q3 := ob1.2.2.2
    have hq2 := fmCells eQ
    rw [size_alloc] at hq2
    have lt1 : w.heap.size < w1.heap.size := lt_of_cell q0
    simp (disch := first | omega | simp only [RO] | (simp only [RZ] <;> omega) | fail) only [↓RBp, ↓RA, ↓reduceIte, Nat.reduceAdd, Nat.reduceMul, Nat.reduceEqDiff, RB, RX, RA2, q0, q1, q2, q3]
    refine hfo _ (hG.ext e01) _ (fun w2 Y L2 => ?_)
    have s12 := L2.ex.size
    have nt : ∀ x, w2.heap.size ≤ x → ¬ Y.F x := fun x hx hf => by have := L2.dv.lt hf; omega
    have hloc : Loc w1 (w2.alloc (chO Y ll cc oo gg)) Y D w2.heap.size ll cc oo gg := ⟨L2.ext (Ext.alloc_self _ _), Cells.new w2 [Value.iface 48 (.pointer (some ⟨Y.tb 0, 0, none⟩)), .int .i64 (ll : Int), .int .i64 cc, .int .i64 oo, .int .u16 (gg : Int)] 58, nt _ (by omega), hone.1, by omega, hG.ext e01, c0, c5⟩
    simp (disch := first | omega | simp only [RO] | (simp only [RZ] <;> omega) | fail) only [↓RBp, ↓RA, ↓reduceIte, Nat.reduceAdd, Nat.reduceMul, Nat.reduceEqDiff, RB, RX, RA2]
    refine ag_l1 (hloc.ext (by repeat (first | (with_reducible first | refine Sh.eB ?_ (by first | omega | (simp only [RZ] <;> omega)) _ | assumption | exact Sh.eR _ | refine Sh.eA ?_ _ | refine Sh.eD ?_ | refine Sh.eT ?_ (by assumption)) | exact Sh.eR _))) rfl hA hb hc hg hcc ⟨q0, q1, q2, q3⟩ (hus.ext e01) hu8 (by omega) hexe (fun w3 Y3 D3 v3 ps h3 hT3 hA3 hP3 hx3 hv3 ov3 hpl3 => ?_)
    exact ag_k1 h3 (by omega) hT3 (by omega) hA3 hP3 ha hb hc hg hll hgg ⟨q0, q1, q2, q3⟩ hq hr hs rfl rfl hq2 hv3 ov3 hpl3 hx3 (fun w' e => hK w' (e01.trans e))
end
end Go.Proofs.YtaeopkhdokaaoaaGreatDoor
